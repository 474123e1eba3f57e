/- Texts of this claim, one behind the other: Rh, Rg, Rs, WSpanSets, RowSpanSets. -/
import Derived.Test.YtjddafaaplhnfaaDoorPSpanSetsx44
import Derived.Test.YtjddafaaplhnfaaDoorSpanSetsSm
import Derived.Test.YtjddafaaplhnfaaDoorPSpanSetsx53
import Derived.Test.YtjddafaaplhnfaaDoorPm
import Derived.Lib.ItoaLen
import Derived.Laws.Strings
import Derived.Test.YtjddafaaplhnfaaDoorPSpanSetsx48
import Derived.Test.YtjddafaaplhnfaaDoorPSpanSetsx49
import Derived.Test.YtjddafaaplhnfaaDoorPSpanSetsx51
import Derived.Test.YtjddafaaplhnfaaDoorPSpanSetsx54
import Derived.Test.YtjddafaaplhnfaaDoorPSpanSetsx41
import Derived.Test.YtjddafaaplhnfaaDoorRows
import Derived.Test.YtjddafaaplhnfaaDoorTie
import Derived.Test.YtjddafaaplhnfaaDoorCards
import Derived.WalkKit
import Derived.ShutString
import Derived.ChangeSame
import Derived.ChangeVars
import Derived.JoinedOf
import Derived.LaidLaws
import Derived.LaidHandle
import Derived.Stop.Joined
import Derived.Stop.LaidErr
import Derived.SevenTiedAt
import Derived.Lay
import Derived.WideKeyPair
import Derived.Lib.SmallJoins
import Derived.ChangeMaps5
set_option linter.unusedVariables false
set_option linter.unusedSimpArgs false
namespace Go.Proofs.YtjddafaaplhnfaaDoor.PSpanSets
open Go Go.RowKit Go.Proofs.YtjddafaaplhnfaaDoorW.PrintWords Go.Proofs.YtjddafaaplhnfaaDoorW.PrintLast Go.Proofs.YtjddafaaplhnfaaDoorW.PrintMore

theorem rTop : helmsmanref01_Top.f = some 1152921504606846976 := rfl
theorem rOf_f (k : Nat) (l h : Int) : helmsmanref02_Of.f (k + 1) l h = some (Sp.of l h) := by
  unfold helmsmanref02_Of.f Sp.of
  rw [rTop]
  simp only [Option.bind_some]
  rw [w64 (by omega)]
  have j0 : ∀ x, -1152921504606846976 ≤ x → helmsmanref02_Of.j0 (k + 1) x h = some (if x ≤ min h 1152921504606846976 then (x, min h 1152921504606846976) else (1, 0)) := by
    intro x hx
    simp only [helmsmanref02_Of.j0]
    have rTop : helmsmanref01_Top.f = some 1152921504606846976 := rfl
    rw [rTop]
    simp only [Option.bind_some]
    by_cases c1 : h > 1152921504606846976
    · rw [if_pos c1, show min h 1152921504606846976 = 1152921504606846976 by omega]
      by_cases c2 : x > 1152921504606846976
      · rw [if_pos c2, if_neg (by omega)]
      · rw [if_neg c2, if_pos (by omega)]
    · rw [if_neg c1, show min h 1152921504606846976 = h by omega]
      by_cases c2 : x > h
      · rw [if_pos c2, if_neg (by omega)]
      · rw [if_neg c2, if_pos (by omega)]
  by_cases c : l < -1152921504606846976
  · rw [if_pos c, j0 _ (by omega), show max l (-1152921504606846976) = -1152921504606846976 by omega]
  · rw [if_neg c, j0 _ (by omega), show max l (-1152921504606846976) = l by omega]

theorem rHull_go (l : List Int) (hl : l.length ≤ 1000000) : ∀ (d i k : Nat) (lo hi : Int), l.length - i = d → i ≤ l.length → d + 1 < k → lo ≤ hi →
    helmsmanref02_Hull.l0 k l lo hi i = some (Sp.of ((l.drop i).foldl min lo) ((l.drop i).foldl max hi)) := by
  intro d
  induction d with
  | zero =>
    intro i k lo hi hd hi2 hk hle
    obtain ⟨k, rfl⟩ : ∃ m, k = m + 2 := ⟨k - 2, by omega⟩
    have : l.drop i = [] := by rw [List.drop_eq_nil_iff]; omega
    rw [this]
    simp only [helmsmanref02_Hull.l0]
    rw [if_neg (by omega), rOf_f]; rfl
  | succ d ih =>
    intro i k lo hi hd hi2 hk hle
    obtain ⟨k, rfl⟩ : ∃ m, k = m + 1 := ⟨k - 1, by omega⟩
    have hlt : i < l.length := by omega
    have hr : rd l (i : Int) = l[i] := by unfold rd; simp [List.getD, hlt]
    have hw : wrap64 ((i : Int) + 1) = ((i + 1 : Nat) : Int) := by rw [w64 (by omega)]; omega
    rw [List.drop_eq_getElem_cons hlt]
    simp only [helmsmanref02_Hull.l0, List.foldl_cons]
    rw [if_pos (by omega), if_pos (by omega), hr, hw]
    by_cases c1 : l[i] < lo
    · rw [if_pos c1, if_neg (by omega), ih (i + 1) k _ _ (by omega) (by omega) (by omega) (by omega), show min lo l[i] = l[i] by omega, show max hi l[i] = hi by omega]
    · rw [if_neg c1]
      by_cases c2 : l[i] > hi
      · rw [if_pos c2, ih (i + 1) k _ _ (by omega) (by omega) (by omega) (by omega), show min lo l[i] = lo by omega, show max hi l[i] = l[i] by omega]
      · rw [if_neg c2, ih (i + 1) k _ _ (by omega) (by omega) (by omega) (by omega), show min lo l[i] = lo by omega, show max hi l[i] = hi by omega]
theorem rHull_f (l : List Int) (hl : l.length ≤ 1000000) (k : Nat) (hk : l.length + 1 < k) : helmsmanref02_Hull.f k l = some (Sp.hull l) := by
  unfold helmsmanref02_Hull.f Sp.hull
  cases l with
  | nil => rfl
  | cons x r =>
    rw [if_neg (by simp; omega), if_pos (by simp), if_neg (by simp)]
    have h0 : rd (x :: r) 0 = x := rfl
    rw [h0]
    have := rHull_go (x :: r) hl (x :: r).length 0 k x x rfl (by omega) (by omega) (by omega)
    rw [List.drop_zero] at this
    have e : ((0 : Nat) : Int) = 0 := rfl
    rw [e] at this
    rw [this]
    simp only [List.foldl_cons, Sp.minL, Sp.maxL]
    rw [show min x x = x by omega, show max x x = x by omega]
end Go.Proofs.YtjddafaaplhnfaaDoor.PSpanSets

set_option linter.unusedVariables false
set_option linter.unusedSimpArgs false
namespace Go.Proofs.YtjddafaaplhnfaaDoor.PSpanSets
open Go Go.RowKit Go.Proofs.YtjddafaaplhnfaaDoorW.PrintWords Go.Proofs.YtjddafaaplhnfaaDoorW.PrintLast Go.Proofs.YtjddafaaplhnfaaDoorW.PrintMore

theorem one_digit : ∀ p : Fin 10, ((⟨#[48, 49, 50, 51, 52, 53, 54, 55, 56, 57]⟩ : ByteArray).extract p.val (p.val + 1)).data.toList = [UInt8.ofNat (48 + p.val)] := by decide +kernel
theorem bytes_of {s : ByteArray} {l : List UInt8} (h : s.data.toList = l) : s = ⟨l.toArray⟩ := by rw [← h]
theorem dec_len (u : Nat) : ∀ d, u < 10 ^ (d + 1) → (Lib.decDigits u).length ≤ d + 1 := by
  induction u using Nat.strongRecOn with
  | _ u ih =>
    intro d hd
    rw [Lib.decDigits]
    split
    · simp
    · cases d with
      | zero => omega
      | succ d =>
        rw [List.length_append]
        have := ih (u / 10) (by omega) d (by rw [Nat.pow_succ] at hd; omega)
        simp; omega
theorem rdigits_f (d : Nat) : ∀ (k u : Nat), u < 10 ^ (d + 1) → u ≤ 9223372036854775807 → d + 2 ≤ k → d ≤ 30 → helmsmanref01_digits.f k (u : Int) = some ⟨(Lib.decDigits u).toArray⟩ := by
  have base : ∀ (k u : Nat), u < 10 → 1 ≤ k → helmsmanref01_digits.f k (u : Int) = some ⟨(Lib.decDigits u).toArray⟩ := by
    intro k u h hk
    obtain ⟨k, rfl⟩ : ∃ m, k = m + 1 := ⟨k - 1, by omega⟩
    simp only [helmsmanref01_digits.f]
    rw [w64 (by omega), if_pos (by omega), if_pos (by omega), if_pos (by omega), if_pos (by omega), Lib.decDigits, dif_pos h]
    congr 1
    apply bytes_of
    have := one_digit ⟨u, h⟩
    rw [← this]
    have e1 : (u : Int).toNat = u := by omega
    have e2 : ((u : Int) + 1).toNat = u + 1 := by omega
    rw [e1, e2]
  induction d with
  | zero =>
    intro k u h1 h2 hk _
    exact base k u (by simpa using h1) (by omega)
  | succ d ih =>
    intro k u h1 h2 hk h30
    obtain ⟨k, rfl⟩ : ∃ m, k = m + 1 := ⟨k - 1, by omega⟩
    by_cases h : u < 10
    · exact base (k + 1) u h (by omega)
    · simp only [helmsmanref01_digits.f]
      have e1 : (u : Int).tdiv 10 = ((u / 10 : Nat) : Int) := rfl
      have e2 : (u : Int).tmod 10 = ((u % 10 : Nat) : Int) := rfl
      rw [Nat.pow_succ] at h1
      rw [if_neg (by omega), e1, e2, w64 (by omega), ih k (u / 10) (by omega) (by omega) (by omega) (by omega), base k (u % 10) (by omega) (by omega)]
      simp only [Option.bind_some]
      have hl := dec_len (u / 10) d (by omega)
      have hs : (⟨(Lib.decDigits (u / 10)).toArray⟩ : ByteArray).size ≤ d + 1 := by simpa [ByteArray.size] using hl
      have hs2 : (⟨(Lib.decDigits (u % 10)).toArray⟩ : ByteArray).size = 1 := by
        rw [Lib.decDigits, dif_pos (by omega)]; rfl
      rw [if_pos (by omega)]
      congr 1
      apply bytes_of
      rw [Lib.decDigits.eq_def u, dif_neg h, Lib.decDigits.eq_def (u % 10), dif_pos (show u % 10 < 10 by omega)]
      simp
theorem rDigits_f (n : Int) (h : -4611686018427387904 ≤ n ∧ n ≤ 4611686018427387904) : helmsmanref01_Digits.f 30 n = some ⟨(Lib.itoa n).toArray⟩ := by
  unfold helmsmanref01_Digits.f Lib.itoa
  by_cases h0 : n < 0
  · rw [if_pos h0, if_pos h0, w64 (by omega), show -n = ((n.natAbs : Nat) : Int) by omega, rdigits_f 18 30 n.natAbs (by omega) (by omega) (by omega) (by omega)]
    simp only [Option.bind_some]
    have hl := dec_len n.natAbs 18 (by omega)
    have hs : (⟨(Lib.decDigits n.natAbs).toArray⟩ : ByteArray).size ≤ 19 := by simpa [ByteArray.size] using hl
    rw [if_pos (by omega)]
    congr 1
  · rw [if_neg h0, if_neg h0]
    have hd := rdigits_f 18 30 n.toNat (by omega) (by omega) (by omega) (by omega)
    rw [show ((n.toNat : Nat) : Int) = n by omega] at hd
    rw [hd]; rfl
end Go.Proofs.YtjddafaaplhnfaaDoor.PSpanSets

set_option linter.unusedVariables false
set_option linter.unusedSimpArgs false
namespace Go.Proofs.YtjddafaaplhnfaaDoor.PSpanSets
open Go Go.RowKit Go.Proofs.YtjddafaaplhnfaaDoorW.PrintWords Go.Proofs.YtjddafaaplhnfaaDoorW.PrintLast Go.Proofs.YtjddafaaplhnfaaDoorW.PrintMore

theorem rIn_f (a : Int) : helmsmanref01_In.f a = some (Bd.inn a) := by
  unfold helmsmanref01_In.f Bd.inn
  rw [rTop]
  simp only [Option.bind_some]
  rw [w64 (by omega)]
  by_cases h : a ≥ -1152921504606846976
  · rw [if_pos h, decide_eq_true (show -1152921504606846976 ≤ a from h), Bool.true_and]
  · rw [if_neg h, decide_eq_false (show ¬ -1152921504606846976 ≤ a from h), Bool.false_and]
theorem rRight_f (k : Nat) (a b : Int) : helmsmanref02_Right.f (k + 1) a b = some (Sp.right a b) := by
  unfold helmsmanref02_Right.f
  have j0 : ∀ x, helmsmanref02_Right.j0 (k + 1) x a b = some (if x = true then true else Sp.ok a b) := by
    intro x
    simp only [helmsmanref02_Right.j0]
    cases x
    · rw [if_neg (by simp), if_neg (by simp), rIn_f, rIn_f]
      simp only [Option.bind_some]
      have e : Sp.ok a b = true ↔ Bd.inn a = true ∧ Bd.inn b = true ∧ a ≤ b := by rw [Sp.ok_iff, Bd.inn_iff, Bd.inn_iff]; omega
      cases ha : Bd.inn a
      · rw [if_neg (by simp)]; cases h : Sp.ok a b
        · rfl
        · rw [h, ha] at e; simp at e
      · rw [if_pos rfl]
        cases hb : Bd.inn b
        · rw [if_neg (by simp)]; cases h : Sp.ok a b
          · rfl
          · rw [h, hb] at e; simp at e
        · rw [if_pos rfl]
          congr 1
          rw [Bool.eq_iff_iff, e]; simp [ha, hb]
    · rfl
  unfold Sp.right
  by_cases c : a = 1
  · rw [if_pos c, j0]
    congr 1
    subst c
    cases Sp.ok 1 b <;> cases (b == 0) <;> rfl
  · rw [if_neg c, j0, if_neg (by simp), beq_false_of_ne c]
    simp
theorem rNone_f (k : Nat) (a b : Int) : helmsmanref02_None.f (k + 1) a b = some (!Sp.ok a b) := by
  unfold helmsmanref02_None.f
  rw [rRight_f]
  simp only [Option.bind_some, Sp.right]
  cases h : Sp.ok a b
  · by_cases c : (a == 1 && b == 0) = true
    · rw [c]
      simp only [Bool.and_eq_true, beq_iff_eq] at c
      simp [c.1, c.2]
    · rw [Bool.not_eq_true] at c
      rw [c]
      rfl
  · have := Sp.ok_iff.1 h
    simp
    omega
theorem rHas_f (k : Nat) (a b n : Int) : helmsmanref02_Has.f (k + 1) a b n = some (Sp.has a b n) := by
  unfold helmsmanref02_Has.f Sp.has
  rw [rNone_f]
  simp only [Option.bind_some]
  cases h : Sp.ok a b
  · rfl
  · rw [if_neg (by simp)]
    by_cases c : a ≤ n
    · rw [if_pos c]; simp [c]
    · rw [if_neg c]; simp [c]
theorem rLeq_f (k : Nat) (a0 a1 b0 b1 : Int) : helmsmanref02_Leq.f (k + 1) a0 a1 b0 b1 = some (Sp.leq a0 a1 b0 b1) := by
  unfold helmsmanref02_Leq.f Sp.leq
  rw [rNone_f, rHas_f, rHas_f]
  simp only [Option.bind_some]
  cases h : Sp.ok a0 a1
  · rfl
  · have h' := Sp.ok_iff.1 h
    have e0 := Sp.has_iff (l := b0) (h := b1) (n := a0)
    have e1 := Sp.has_iff (l := b0) (h := b1) (n := a1)
    rw [if_neg (by simp)]
    have key : ((Sp.has b0 b1 a0 && Sp.has b0 b1 a1) = true) ↔ ((Sp.ok b0 b1 && (decide (b0 ≤ a0) && decide (a1 ≤ b1))) = true) := by
      rw [Bool.and_eq_true, e0, e1]
      simp only [Bool.and_eq_true, decide_eq_true_eq]
      constructor
      · rintro ⟨⟨h1, h2, h3⟩, _, h4, h5⟩
        exact ⟨h1, h2, h5⟩
      · rintro ⟨h1, h2, h3⟩
        exact ⟨⟨h1, h2, by omega⟩, h1, by omega, h3⟩
    have key' := Bool.eq_iff_iff.2 key
    simp only [Bool.not_true, Bool.false_or]
    rw [← key']
    cases Sp.has b0 b1 a0 <;> simp
theorem rJoin_f (k : Nat) (hk : 20 ≤ k) (a0 a1 b0 b1 : Int) : helmsmanref02_Join.f k a0 a1 b0 b1 = some (Sp.join a0 a1 b0 b1) := by
  obtain ⟨k, rfl⟩ : ∃ m, k = m + 2 := ⟨k - 2, by omega⟩
  unfold helmsmanref02_Join.f Sp.join Sp.clean
  rw [rNone_f]
  simp only [Option.bind_some, helmsmanref02_Join.j0, rNone_f]
  have hu : ∀ l : List Int, l.length ≤ 4 → helmsmanref02_Hull.f (k + 1) l = some (Sp.hull l) := fun l hl => rHull_f l (by omega) (k + 1) (by omega)
  have h2 : ∀ x y, Sp.ok x y = true → Sp.hull [x, y] = (x, y) := by
    intro x y h
    have h' := Sp.ok_iff.1 h
    show Sp.of (min x y) (max x y) = _
    rw [show min x y = x by omega, show max x y = y by omega, Sp.of_id h]
  cases h1 : Sp.ok a0 a1 <;> cases h3 : Sp.ok b0 b1
  · simp [hu]; exact ⟨rfl, rfl⟩
  · simp [hu, h2 b0 b1 h3]
  · simp [hu, h2 a0 a1 h1]
  · have e1 := Sp.ok_iff.1 h1
    have e2 := Sp.ok_iff.1 h3
    have : Sp.hull [a0, a1, b0, b1] = (min a0 b0, max a1 b1) := by
      show Sp.of (min (min (min a0 a1) b0) b1) (max (max (max a0 a1) b0) b1) = _
      rw [show min (min (min a0 a1) b0) b1 = min a0 b0 by omega, show max (max (max a0 a1) b0) b1 = max a1 b1 by omega]
      exact Sp.of_id (Sp.ok_iff.2 (by omega))
    simp [hu, this]
theorem rMeet_f (k : Nat) (hk : 20 ≤ k) (a0 a1 b0 b1 : Int) : helmsmanref02_Meet.f k a0 a1 b0 b1 = some (Sp.meet a0 a1 b0 b1) := by
  obtain ⟨k, rfl⟩ : ∃ m, k = m + 2 := ⟨k - 2, by omega⟩
  unfold helmsmanref02_Meet.f Sp.meet
  rw [rNone_f, rNone_f]
  simp only [Option.bind_some, helmsmanref02_Meet.j0, rOf_f]
  cases h1 : Sp.ok a0 a1
  · simp
  · cases h3 : Sp.ok b0 b1
    · simp
    · simp only [Bool.not_true, Bool.false_eq_true, if_false, and_self, if_true]
      by_cases c1 : b0 > a0 <;> by_cases c2 : b1 < a1
      · rw [if_pos c1, if_pos c2, show max a0 b0 = b0 by omega, show min a1 b1 = b1 by omega]
      · rw [if_pos c1, if_neg c2, show max a0 b0 = b0 by omega, show min a1 b1 = a1 by omega]
      · rw [if_neg c1, if_pos c2, show max a0 b0 = a0 by omega, show min a1 b1 = b1 by omega]
      · rw [if_neg c1, if_neg c2, show max a0 b0 = a0 by omega, show min a1 b1 = a1 by omega]
theorem rText_f (a0 a1 : Int) : helmsmanref02_Text.f 30 a0 a1 = some ⟨(Sp.text a0 a1).toArray⟩ := by
  unfold helmsmanref02_Text.f Sp.text
  rw [rNone_f]
  simp only [Option.bind_some]
  cases h : Sp.ok a0 a1
  · rfl
  · have h' := Sp.ok_iff.1 h
    rw [if_neg (by simp), if_pos rfl, rDigits_f _ (by omega), rDigits_f _ (by omega)]
    simp only [Option.bind_some]
    have l0 := Sp.itoa_len a0 (by omega)
    have l1 := Sp.itoa_len a1 (by omega)
    have z0 : (⟨(Lib.itoa a0).toArray⟩ : ByteArray).size ≤ 100 := by simpa [ByteArray.size] using l0
    have z1 : (⟨(Lib.itoa a1).toArray⟩ : ByteArray).size ≤ 100 := by simpa [ByteArray.size] using l1
    have z2 : ((⟨(Lib.itoa a0).toArray⟩ : ByteArray) ++ (⟨#[46, 46]⟩ : ByteArray)).size ≤ 102 := by rw [ByteArray.size_append]; have : (⟨#[46, 46]⟩ : ByteArray).size = 2 := rfl; omega
    rw [if_pos (by omega), if_pos (by omega)]
    congr 1
theorem Join_f (a0 a1 b0 b1 : Int) : span_Join.f a0 a1 b0 b1 = some (Sp.join a0 a1 b0 b1) := by
  unfold span_Join.f Sp.join
  rw [none_f, none_f, clean_f]
  simp only [Option.bind_some]
  cases h1 : Sp.ok a0 a1 <;> cases h2 : Sp.ok b0 b1 <;> simp [mx_eq, mn_eq]
end Go.Proofs.YtjddafaaplhnfaaDoor.PSpanSets

set_option linter.unusedVariables false
set_option linter.unusedSimpArgs false
namespace Go.Proofs.YtjddafaaplhnfaaDoor.PSpanSets
open Go Go.RowKit Go.Deep Go.Proofs.YtjddafaaplhnfaaDoorW.PrintWords Go.Proofs.YtjddafaaplhnfaaDoorW.PrintLast Go.Proofs.YtjddafaaplhnfaaDoorW.PrintMore
variable {w : World}
def spEq2 (x0 x1 y0 y1 : Int) : Bool := x0 == y0 && x1 == y1
theorem eq_sp2 (w : World) (x0 x1 y0 y1 : Int) :
    (Op.equalIn 10000 23 (.agg #[.int .i64 x0, .int .i64 x1]) (.agg #[.int .i64 y0, .int .i64 y1])).run Tryd.prog w = .ok (spEq2 x0 x1 y0 y1) w := by
  rw [run_equalIn_struct w 9999 23 _ _ (by kernel_rfl) (by kernel_rfl)]
  simp only [Program.fieldsOf, Tryd.underlying23, spEq2]
  go_simp
  by_cases h0 : x0 = y0 <;> by_cases h1 : x1 = y1 <;> simp [h0, h1]
attribute [local go_sem high] eq_sp2
theorem join_to (a0 a1 b0 b1 v1 v2 : Int) (h : Sp.join a0 a1 b0 b1 = (v1, v2)) (w : World) :
    Calls Tryd.prog 26 #[.agg #[.int .i64 a0, .int .i64 a1], .agg #[.int .i64 b0, .int .i64 b1]] w fun e w' => e = .returned (.agg #[.int .i64 v1, .int .i64 v2]) ∧ Below w.heap.size w w' :=
  (span_Join.calls a0 a1 b0 b1 v1 v2 w (by rw [Join_f, h])).mono fun e w' h => ⟨h.1, by first | exact h.2 | exact h.2.below⟩
theorem rjoin_to (a0 a1 b0 b1 v1 v2 : Int) (h : Sp.join a0 a1 b0 b1 = (v1, v2)) (w : World) :
    Calls Tryd.prog 27 #[.agg #[.int .i64 a0, .int .i64 a1], .agg #[.int .i64 b0, .int .i64 b1]] w fun e w' => e = .returned (.agg #[.int .i64 v1, .int .i64 v2]) ∧ Below w.heap.size w w' :=
  (helmsmanref02_Join.calls 30 a0 a1 b0 b1 v1 v2 w (by rw [rJoin_f _ (by omega), h])).mono fun e w' h => ⟨h.1, by first | exact h.2 | exact h.2.below⟩
theorem rmeet_to (a0 a1 b0 b1 v1 v2 : Int) (h : Sp.meet a0 a1 b0 b1 = (v1, v2)) (w : World) :
    Calls Tryd.prog 28 #[.agg #[.int .i64 a0, .int .i64 a1], .agg #[.int .i64 b0, .int .i64 b1]] w fun e w' => e = .returned (.agg #[.int .i64 v1, .int .i64 v2]) ∧ Below w.heap.size w w' :=
  (helmsmanref02_Meet.calls 30 a0 a1 b0 b1 v1 v2 w (by rw [rMeet_f _ (by omega), h])).mono fun e w' h => ⟨h.1, by first | exact h.2 | exact h.2.below⟩
theorem rleq_to (a0 a1 b0 b1 : Int) (v : Bool) (h : Sp.leq a0 a1 b0 b1 = v) (w : World) :
    Calls Tryd.prog 29 #[.agg #[.int .i64 a0, .int .i64 a1], .agg #[.int .i64 b0, .int .i64 b1]] w fun e w' => e = .returned (.bool v) ∧ Below w.heap.size w w' :=
  (helmsmanref02_Leq.calls 30 a0 a1 b0 b1 v w (by rw [rLeq_f, h])).mono fun e w' h => ⟨h.1, by first | exact h.2 | exact h.2.below⟩
theorem rright_to (a0 a1 : Int) (v : Bool) (h : Sp.right a0 a1 = v) (w : World) :
    Calls Tryd.prog 30 #[.agg #[.int .i64 a0, .int .i64 a1]] w fun e w' => e = .returned (.bool v) ∧ Below w.heap.size w w' :=
  (helmsmanref02_Right.calls 30 a0 a1 v w (by rw [rRight_f, h])).mono fun e w' h => ⟨h.1, by first | exact h.2 | exact h.2.below⟩
theorem rhas_to (a0 a1 n : Int) (v : Bool) (h : Sp.has a0 a1 n = v) (w : World) :
    Calls Tryd.prog 31 #[.agg #[.int .i64 a0, .int .i64 a1], .int .i64 n] w fun e w' => e = .returned (.bool v) ∧ Below w.heap.size w w' :=
  (helmsmanref02_Has.calls 30 a0 a1 n v w (by rw [rHas_f, h])).mono fun e w' h => ⟨h.1, by first | exact h.2 | exact h.2.below⟩
theorem rtext_to (a0 a1 : Int) (s : List UInt8) (h : Sp.text a0 a1 = s) (w : World) :
    Calls Tryd.prog 33 #[.agg #[.int .i64 a0, .int .i64 a1]] w fun e w' => e = .returned (.string ⟨s.toArray⟩) ∧ Below w.heap.size w w' :=
  (helmsmanref02_Text.calls 30 a0 a1 _ w (by rw [rText_f, h])).mono fun e w' h => ⟨h.1, by first | exact h.2 | exact h.2.below⟩
theorem rof_to (a0 a1 v1 v2 : Int) (h : Sp.of a0 a1 = (v1, v2)) (w : World) :
    Calls Tryd.prog 35 #[.int .i64 a0, .int .i64 a1] w fun e w' => e = .returned (.agg #[.int .i64 v1, .int .i64 v2]) ∧ Below w.heap.size w w' :=
  (helmsmanref02_Of.calls 30 a0 a1 v1 v2 w (by rw [rOf_f, h])).mono fun e w' h => ⟨h.1, by first | exact h.2 | exact h.2.below⟩
theorem size2 (W : World) (o7 : Obj) : (W.alloc o7).heap.size = W.heap.size + 1 := by simp
theorem two_boxes (W : World) (o7 o8 : Obj) : ((W.alloc o7).alloc o8).heap[W.heap.size]? = some o7 ∧ ((W.alloc o7).alloc o8).heap[W.heap.size + 1]? = some o8 := by
  refine ⟨blk_alloc (blk_new _ _) _, ?_⟩
  have := blk_new (W.alloc o7) o8
  rw [size2] at this
  exact this
set_option maxRecDepth 100000 in
set_option maxHeartbeats 16000000 in
theorem SpanSets_walk (a0 a1 b0 b1 n : Int) (hT : Tabs w) :
    Calls Tryd.prog 7 #[.agg #[.int .i64 a0, .int .i64 a1], .agg #[.int .i64 b0, .int .i64 b1], .int .i64 n] w fun e w' => e = .returned (.bool true) ∧ Below w.heap.size w w' := by
  have HT := Lib.hid hT
  clear hT
  obtain ⟨⟨j0, j1⟩, hj⟩ : ∃ p, Sp.join a0 a1 b0 b1 = p := ⟨_, rfl⟩
  have Hj := Lib.hid hj
  have sj : spEq2 j0 j1 j0 j1 = true := by simp [spEq2]
  clear hj
  obtain ⟨⟨m0, m1⟩, hm⟩ : ∃ p, Sp.meet a0 a1 b0 b1 = p := ⟨_, rfl⟩
  have Hm := Lib.hid hm
  have sm : spEq2 m0 m1 m0 m1 = true := by simp [spEq2]
  clear hm
  obtain ⟨⟨o0, o1⟩, ho⟩ : ∃ p, Sp.of a0 b1 = p := ⟨_, rfl⟩
  have Ho := Lib.hid ho
  have so : spEq2 o0 o1 o0 o1 = true := by simp [spEq2]
  clear ho
  obtain ⟨lq, hlq⟩ : ∃ p, Sp.leq a0 a1 b0 b1 = p := ⟨_, rfl⟩
  have Hlq := Lib.hid hlq
  clear hlq
  obtain ⟨rg, hrg⟩ : ∃ p, Sp.right a0 a1 = p := ⟨_, rfl⟩
  have Hrg := Lib.hid hrg
  clear hrg
  obtain ⟨hs, hhs⟩ : ∃ p, Sp.has a0 a1 n = p := ⟨_, rfl⟩
  have Hhs := Lib.hid hhs
  clear hhs
  obtain ⟨tx, htx⟩ : ∃ p, Sp.text a0 a1 = p := ⟨_, rfl⟩
  have Htx := Lib.hid htx
  clear htx
  have seqq : (lq == lq) = true ∧ (rg == rg) = true ∧ (hs == hs) = true := ⟨by simp, by simp, by simp⟩
  obtain ⟨ql, qr, qh⟩ := seqq
  go_enter Tryd.func7, Tryd.ntmps7
  go_upto_region 1 with fail
  go_cut [7, 8] (fun v7 v8 wc => ∃ g7 g8 : Nat, v7 = .pointer (some ⟨g7, 0, none⟩) ∧ v8 = .pointer (some ⟨g8, 0, none⟩) ∧ Hid (Below w.heap.size w wc) ∧ Hid (wc.heap[w.heap.size]? = some (.cells #[.int .i64 a0, .int .i64 a1] 23 (0, 0))) ∧ Hid (wc.heap[w.heap.size + 1]? = some (.cells #[.int .i64 b0, .int .i64 b1] 23 (0, 0))) ∧ Hid (wc.heap[g7]? = some (.cells #[.int .i64 a0, .int .i64 a1] 24 (0, 0))) ∧ Hid (wc.heap[g8]? = some (.cells #[.int .i64 b0, .int .i64 b1] 24 (0, 0))))
  case first =>
    obtain ⟨ka, kb, HB⟩ := box2 w (.cells #[.int .i64 a0, .int .i64 a1] 23) (.cells #[.int .i64 b0, .int .i64 b1] 23) (Below.refl _ _)
    obtain ⟨qa0, qa1, -, -⟩ := cells2 ka
    obtain ⟨qb0, qb1, -, -⟩ := cells2 kb
    have KA := Lib.hid ka
    have KB := Lib.hid kb
    have HB' := Lib.hid HB
    clear ka kb HB
    go_wp2_with fail
    go_region
    all_goals (go_wp2_with fail; go_meet)
    all_goals first
      | exact ⟨_, _, rfl, rfl, (Below.push (Below.push HB'.out (by omega) (.cells #[.int .i64 a0, .int .i64 a1] 24)) (by have := size2 ((w.alloc (.cells #[.int .i64 a0, .int .i64 a1] 23)).alloc (.cells #[.int .i64 b0, .int .i64 b1] 23)) (.cells #[.int .i64 a0, .int .i64 a1] 24); omega) (.cells #[.int .i64 b0, .int .i64 b1] 24)).drew, blk_alloc (blk_alloc KA.out _) _, blk_alloc (blk_alloc KB.out _) _, (by have := (two_boxes ((w.alloc (.cells #[.int .i64 a0, .int .i64 a1] 23)).alloc (.cells #[.int .i64 b0, .int .i64 b1] 23)) (.cells #[.int .i64 a0, .int .i64 a1] 24) (.cells #[.int .i64 b0, .int .i64 b1] 24)).1; rw [size2, size2] at this; exact this), (by have := (two_boxes ((w.alloc (.cells #[.int .i64 a0, .int .i64 a1] 23)).alloc (.cells #[.int .i64 b0, .int .i64 b1] 23)) (.cells #[.int .i64 a0, .int .i64 a1] 24) (.cells #[.int .i64 b0, .int .i64 b1] 24)).2; rw [size2, size2] at this; exact this)⟩
      | exact ⟨_, _, rfl, rfl, (Below.push (Below.push HB'.out (by omega) (.cells #[.int .i64 b0, .int .i64 b1] 24)) (by have := size2 ((w.alloc (.cells #[.int .i64 a0, .int .i64 a1] 23)).alloc (.cells #[.int .i64 b0, .int .i64 b1] 23)) (.cells #[.int .i64 b0, .int .i64 b1] 24); omega) (.cells #[.int .i64 a0, .int .i64 a1] 24)).drew, blk_alloc (blk_alloc KA.out _) _, blk_alloc (blk_alloc KB.out _) _, (by have := (two_boxes ((w.alloc (.cells #[.int .i64 a0, .int .i64 a1] 23)).alloc (.cells #[.int .i64 b0, .int .i64 b1] 23)) (.cells #[.int .i64 b0, .int .i64 b1] 24) (.cells #[.int .i64 a0, .int .i64 a1] 24)).2; rw [size2, size2] at this; exact this), (by have := (two_boxes ((w.alloc (.cells #[.int .i64 a0, .int .i64 a1] 23)).alloc (.cells #[.int .i64 b0, .int .i64 b1] 23)) (.cells #[.int .i64 b0, .int .i64 b1] 24) (.cells #[.int .i64 a0, .int .i64 a1] 24)).1; rw [size2, size2] at this; exact this)⟩
  case rest =>
    obtain ⟨g7, g8, rfl, rfl, HB, KA, KB, K7, K8⟩ := hcut
    have cur := HB.out
    obtain ⟨x0, x1, -, -⟩ := cells2 KA.out
    obtain ⟨x2, x3, -, -⟩ := cells2 KB.out
    obtain ⟨x4, x5, -, -⟩ := cells2 K7.out
    obtain ⟨x6, x7, -, -⟩ := cells2 K8.out
    clear HB KA KB K7 K8
    go_wp2_with fail
    replace cur := cur.drew
    replace x0 := cell_drew x0
    replace x1 := cell_drew x1
    replace x2 := cell_drew x2
    replace x3 := cell_drew x3
    replace x4 := cell_drew x4
    replace x5 := cell_drew x5
    replace x6 := cell_drew x6
    replace x7 := cell_drew x7
    simp only [List.append]
    go_region_held3 (fun wx => wx.cell? ⟨w.heap.size, 0, none⟩ = some (.int .i64 a0) ∧ wx.cell? ⟨w.heap.size, 1, none⟩ = some (.int .i64 a1) ∧ wx.cell? ⟨w.heap.size + 1, 0, none⟩ = some (.int .i64 b0) ∧ wx.cell? ⟨w.heap.size + 1, 1, none⟩ = some (.int .i64 b1) ∧ wx.cell? ⟨g7, 0, none⟩ = some (.int .i64 a0) ∧ wx.cell? ⟨g7, 1, none⟩ = some (.int .i64 a1) ∧ wx.cell? ⟨g8, 0, none⟩ = some (.int .i64 b0) ∧ wx.cell? ⟨g8, 1, none⟩ = some (.int .i64 b1))
      (first | exact ⟨x0, x1, x2, x3, x4, x5, x6, x7⟩)
      (first | (go_at_call 13; refine (alive02 (HT.out.below cur)).mono ?_; rintro e wq ⟨rfl, hbq⟩; replace cur := seq cur hbq; replace x0 := cell_below hbq x0; replace x1 := cell_below hbq x1; replace x2 := cell_below hbq x2; replace x3 := cell_below hbq x3; replace x4 := cell_below hbq x4; replace x5 := cell_below hbq x5; replace x6 := cell_below hbq x6; replace x7 := cell_below hbq x7) | (go_at_call 26; refine (join_to a0 a1 b0 b1 j0 j1 Hj.out _).mono ?_; rintro e wq ⟨rfl, hbq⟩; replace cur := seq cur hbq; replace x0 := cell_below hbq x0; replace x1 := cell_below hbq x1; replace x2 := cell_below hbq x2; replace x3 := cell_below hbq x3; replace x4 := cell_below hbq x4; replace x5 := cell_below hbq x5; replace x6 := cell_below hbq x6; replace x7 := cell_below hbq x7) | (go_at_call 27; refine (rjoin_to a0 a1 b0 b1 j0 j1 Hj.out _).mono ?_; rintro e wq ⟨rfl, hbq⟩; replace cur := seq cur hbq; replace x0 := cell_below hbq x0; replace x1 := cell_below hbq x1; replace x2 := cell_below hbq x2; replace x3 := cell_below hbq x3; replace x4 := cell_below hbq x4; replace x5 := cell_below hbq x5; replace x6 := cell_below hbq x6; replace x7 := cell_below hbq x7) | (go_at_call 20; refine (meet_to a0 a1 b0 b1 m0 m1 Hm.out _).mono ?_; rintro e wq ⟨rfl, hbq⟩; replace cur := seq cur hbq; replace x0 := cell_below hbq x0; replace x1 := cell_below hbq x1; replace x2 := cell_below hbq x2; replace x3 := cell_below hbq x3; replace x4 := cell_below hbq x4; replace x5 := cell_below hbq x5; replace x6 := cell_below hbq x6; replace x7 := cell_below hbq x7) | (go_at_call 28; refine (rmeet_to a0 a1 b0 b1 m0 m1 Hm.out _).mono ?_; rintro e wq ⟨rfl, hbq⟩; replace cur := seq cur hbq; replace x0 := cell_below hbq x0; replace x1 := cell_below hbq x1; replace x2 := cell_below hbq x2; replace x3 := cell_below hbq x3; replace x4 := cell_below hbq x4; replace x5 := cell_below hbq x5; replace x6 := cell_below hbq x6; replace x7 := cell_below hbq x7) | (go_at_call 19; refine (leq_to a0 a1 b0 b1 lq Hlq.out _).mono ?_; rintro e wq ⟨rfl, hbq⟩; replace cur := seq cur hbq; replace x0 := cell_below hbq x0; replace x1 := cell_below hbq x1; replace x2 := cell_below hbq x2; replace x3 := cell_below hbq x3; replace x4 := cell_below hbq x4; replace x5 := cell_below hbq x5; replace x6 := cell_below hbq x6; replace x7 := cell_below hbq x7) | (go_at_call 29; refine (rleq_to a0 a1 b0 b1 lq Hlq.out _).mono ?_; rintro e wq ⟨rfl, hbq⟩; replace cur := seq cur hbq; replace x0 := cell_below hbq x0; replace x1 := cell_below hbq x1; replace x2 := cell_below hbq x2; replace x3 := cell_below hbq x3; replace x4 := cell_below hbq x4; replace x5 := cell_below hbq x5; replace x6 := cell_below hbq x6; replace x7 := cell_below hbq x7) | (go_at_call 14; refine (right_to a0 a1 rg Hrg.out _).mono ?_; rintro e wq ⟨rfl, hbq⟩; replace cur := seq cur hbq; replace x0 := cell_below hbq x0; replace x1 := cell_below hbq x1; replace x2 := cell_below hbq x2; replace x3 := cell_below hbq x3; replace x4 := cell_below hbq x4; replace x5 := cell_below hbq x5; replace x6 := cell_below hbq x6; replace x7 := cell_below hbq x7) | (go_at_call 30; refine (rright_to a0 a1 rg Hrg.out _).mono ?_; rintro e wq ⟨rfl, hbq⟩; replace cur := seq cur hbq; replace x0 := cell_below hbq x0; replace x1 := cell_below hbq x1; replace x2 := cell_below hbq x2; replace x3 := cell_below hbq x3; replace x4 := cell_below hbq x4; replace x5 := cell_below hbq x5; replace x6 := cell_below hbq x6; replace x7 := cell_below hbq x7) | (go_at_call 24; refine (has_to a0 a1 n hs Hhs.out _).mono ?_; rintro e wq ⟨rfl, hbq⟩; replace cur := seq cur hbq; replace x0 := cell_below hbq x0; replace x1 := cell_below hbq x1; replace x2 := cell_below hbq x2; replace x3 := cell_below hbq x3; replace x4 := cell_below hbq x4; replace x5 := cell_below hbq x5; replace x6 := cell_below hbq x6; replace x7 := cell_below hbq x7) | (go_at_call 31; refine (rhas_to a0 a1 n hs Hhs.out _).mono ?_; rintro e wq ⟨rfl, hbq⟩; replace cur := seq cur hbq; replace x0 := cell_below hbq x0; replace x1 := cell_below hbq x1; replace x2 := cell_below hbq x2; replace x3 := cell_below hbq x3; replace x4 := cell_below hbq x4; replace x5 := cell_below hbq x5; replace x6 := cell_below hbq x6; replace x7 := cell_below hbq x7) | (go_at_call 32; refine (text_to a0 a1 tx Htx.out (HT.out.below cur)).mono ?_; rintro e wq ⟨rfl, hbq⟩; replace cur := seq cur hbq; replace x0 := cell_below hbq x0; replace x1 := cell_below hbq x1; replace x2 := cell_below hbq x2; replace x3 := cell_below hbq x3; replace x4 := cell_below hbq x4; replace x5 := cell_below hbq x5; replace x6 := cell_below hbq x6; replace x7 := cell_below hbq x7) | (go_at_call 33; refine (rtext_to a0 a1 tx Htx.out _).mono ?_; rintro e wq ⟨rfl, hbq⟩; replace cur := seq cur hbq; replace x0 := cell_below hbq x0; replace x1 := cell_below hbq x1; replace x2 := cell_below hbq x2; replace x3 := cell_below hbq x3; replace x4 := cell_below hbq x4; replace x5 := cell_below hbq x5; replace x6 := cell_below hbq x6; replace x7 := cell_below hbq x7) | (go_at_call 34; refine (of_to a0 b1 o0 o1 Ho.out _).mono ?_; rintro e wq ⟨rfl, hbq⟩; replace cur := seq cur hbq; replace x0 := cell_below hbq x0; replace x1 := cell_below hbq x1; replace x2 := cell_below hbq x2; replace x3 := cell_below hbq x3; replace x4 := cell_below hbq x4; replace x5 := cell_below hbq x5; replace x6 := cell_below hbq x6; replace x7 := cell_below hbq x7) | (go_at_call 35; refine (rof_to a0 b1 o0 o1 Ho.out _).mono ?_; rintro e wq ⟨rfl, hbq⟩; replace cur := seq cur hbq; replace x0 := cell_below hbq x0; replace x1 := cell_below hbq x1; replace x2 := cell_below hbq x2; replace x3 := cell_below hbq x3; replace x4 := cell_below hbq x4; replace x5 := cell_below hbq x5; replace x6 := cell_below hbq x6; replace x7 := cell_below hbq x7))
    all_goals (have HCUR := Lib.hid cur; clear cur x0 x1 x2 x3 x4 x5 x6 x7; go_wp2_with fail; go_ret; exact ⟨rfl, HCUR.out⟩)
end Go.Proofs.YtjddafaaplhnfaaDoor.PSpanSets

set_option linter.unusedVariables false
namespace Go.Proofs.YtjddafaaplhnfaaDoor.SpanSets
open Go Go.ChangeShapes Go.WideShapes Go.ChangeAt Go.RowKit PSpanSets
theorem own : ownKnob Tryd.prog.godebug = none := by kernel_rfl
theorem laidOut : laidOutB Tryd.prog = true := by kernel_rfl
theorem tabs_of_laid {W : World} (h : laidMetH Tryd.prog Rows.spanSetsRow.laid W) : Tabs W := by
  have h' : laidMet Tryd.prog [("math/bits.deBruijn32tab", Rows.laid_math_bits_deBruijn32tab), ("math/bits.deBruijn64tab", Rows.laid_math_bits_deBruijn64tab), ("internal/strconv.uint64pow10", Rows.laid_internal_strconv_uint64pow10)] W := h
  have hp := Lib.tabIs_of_head (zs := Lib.pow10Tab) tab_pow tab_powT Tryd.underlying87 Tryd.underlying75 tab_cellsU64 tab_cellsTab h'.tail.tail
  exact ⟨hp⟩
/-- A world that meets the condition. -/
noncomputable def laidWorld (os : Os) : World := World.laidAll Tryd.prog os Rows.spanSetsRow.laid
theorem laidWorld_met (os : Os) (args : Array Value) : laidMetH Tryd.prog Rows.spanSetsRow.laid ((laidWorld os).forCall (fun _ _ => 0) ⟨#[], args, []⟩).memory :=
  laidMetH_of_parts (laidMet_of_run' 8 (by kernel_rfl) (by kernel_rfl)) (by kernel_rfl)
set_option maxRecDepth 100000 in
theorem lifted (os : Os) (started : os.Started) (H : Type) (enc : TypeId × Value → H) :
    ReturnsInHanded {} Tryd.checked os 7 .any (fun w args => (Rows.spanSetsSpec.pre enc Tryd.prog Tryd.f7 [] false w args ∧ laidMetH Tryd.prog Rows.spanSetsRow.laid w) ∧ sizedMet enc Tryd.prog Tryd.f7 (OpenSpec.ofChange Rows.spanSetsSpec) false w args)
      (Rows.spanSetsSpec.post enc Tryd.prog Tryd.f7 false true false false) := by
  refine returnsInHanded_of_change_and (C := Tryd.checked) (X := fun w _ => laidMetH Tryd.prog Rows.spanSetsRow.laid w) (fun _ _ _ hh h => h.of_heap hh) own started (by kernel_rfl) Tryd.func7
    (ChangeSpec.witness_at (enc := enc) (C := Tryd.checked) (os := os) (X := fun w _ => laidMetH Tryd.prog Rows.spanSetsRow.laid w) false (laidWorld os) #[.agg #[.int .i64 0, .int .i64 0], .agg #[.int .i64 0, .int .i64 0], .int .i64 0] 8 (World.laidAll_os _ _ _) (by kernel_rfl) (by kernel_rfl) (by kernel_rfl) (by kernel_rfl) (by kernel_rfl) (laidWorld_met os _)) ?_
  intro W base args ds gs before hval0 hW hcnd0 hsz0 hL hx0
  have hval : ∀ (j : Nat) t v, Tryd.f7.params[j]? = some t → args[j]? = some v → Value.okWide Tryd.prog W .any base t v := hval0
  have hW' := hW
  obtain ⟨p, q, hA0, hV, rfl, hfz, hnd⟩ := hW
  have hT := tabs_of_laid hL
  have hA : DataW.TrodAll enc Tryd.prog W 0 (fun _ => true) true Tryd.f7.params.toList args.toList ds p := hA0
  rw [Tryd.params7] at hA hval
  obtain ⟨v0, vs0, d0, ds0, p0, q0, hargs, rfl, rfl, h0, r0⟩ := trodAll_cons hA
  obtain ⟨v1, vs1, d1, ds1, p1, q1, rfl, rfl, rfl, h1, r1⟩ := trodAll_cons r0
  obtain ⟨v2, vs2, d2, ds2, p2, q2, rfl, rfl, rfl, h2, r2⟩ := trodAll_cons r1
  obtain ⟨rfl, rfl, rfl⟩ := trodAll_nil r2
  obtain rfl : args = #[v0, v1, v2] := by cases args; simp_all
  obtain ⟨rfl, rfl⟩ := trodVars_none hV
  obtain ⟨a0, b0, rfl, rfl, rfl, wa0, wb0⟩ := open_two' Tryd.underlying23 (by kernel_rfl) (by kernel_rfl) Tryd.underlying3 Tryd.underlying3 (hval 0 23 v0 rfl rfl) h0
  obtain ⟨a1, b1, rfl, rfl, rfl, wa1, wb1⟩ := open_two' Tryd.underlying23 (by kernel_rfl) (by kernel_rfl) Tryd.underlying3 Tryd.underlying3 (hval 1 23 v1 rfl rfl) h1
  obtain ⟨a2, rfl, rfl, rfl, w2⟩ := open_int Tryd.underlying3 (hval 2 3 v2 rfl rfl) h2
  clear hA0 hval0 hsz0 hcnd0 hx0
  refine (PSpanSets.SpanSets_walk a0 b0 a1 b1 a2 hT).mono fun e W' ⟨he, bel⟩ => ?_
  subst he
  exact ⟨_, rfl, _, _, _, [], _, [], hW', trodAll_mk1 (shut_bool Tryd.underlying4 _), (trodAll_cons_mk (shut_two' Tryd.underlying23 (by kernel_rfl) (by kernel_rfl) Tryd.underlying3 Tryd.underlying3 wa0 wb0) (trodAll_cons_mk (shut_two' Tryd.underlying23 (by kernel_rfl) (by kernel_rfl) Tryd.underlying3 Tryd.underlying3 wa1 wb1) (trodAll_cons_mk (shut_int Tryd.underlying3 w2) trodAll_mk0))), rfl, bel.frame _, fun h => by cases h⟩
theorem over : Rows.SpanSetsSaid :=
  OpenClaim.holds_of_wide 7 Tryd.f7 rfl rfl rfl rfl rfl rfl rfl ⟨rfl, rfl, rfl, rfl, rfl⟩ rfl rfl rfl rfl rfl (by kernel_rfl) Tryd.func7 (by kernel_rfl)
    (of_decide_eq_true (by kernel_rfl)) (by unfold Func.isWrapper; first | (rw [if_pos (by decide +kernel)]; kernel_rfl) | (rw [if_neg (by decide +kernel)]; exact ⟨rfl, rfl⟩))
    (fun os started H enc _ => lifted os started H enc)
theorem proved : Rows.SpanSetsCardSaid :=
  Claim7.holds_tied_plain_at .later [] [.data, .data, .data] true (true, "dd4255569846f32772da1bc8f9ad4daf2d0e0abb43648cb154e52fabfac71cc0") false
    over (fun _ h => by cases h) (by kernel_rfl) (fun _ h => by cases h) spanSets_row_tie rfl ⟨rfl, rfl⟩ (by kernel_rfl) rfl
    (fun f fn hf hfn => by
      obtain rfl : f = 7 := Option.some.inj ((show Tryd.prog.funcNamed "helmsman/helmsmanlaw02.SpanSets" = some 7 by kernel_rfl).symm.trans hf) |>.symm
      obtain rfl : fn = Tryd.f7 := (Option.some.inj (Tryd.func7.symm.trans hfn)).symm
      exact ⟨by kernel_rfl, fun j t ht => by
        rw [Tryd.params7] at ht
        have hts : t ∈ [23, 23, 3] := by
          rcases j with _ | _ | _ | j
          · simp at ht; simp [ht]
          · simp at ht; simp [ht]
          · simp at ht; simp [ht]
          · simp at ht
        simp only [List.mem_cons, List.not_mem_nil, or_false] at hts
        rcases hts with rfl | rfl | rfl <;> exact (show Tryd.prog.wantsStandIn _ = false by kernel_rfl)⟩)
    (by kernel_rfl)
#print axioms proved
end Go.Proofs.YtjddafaaplhnfaaDoor.SpanSets
namespace Go.Proofs.YtjddafaaplhnfaaDoor
/-- The card, under a short name, for the claim. -/
theorem spanSets_holds : Rows.SpanSetsCardSaid := SpanSets.proved
end Go.Proofs.YtjddafaaplhnfaaDoor
