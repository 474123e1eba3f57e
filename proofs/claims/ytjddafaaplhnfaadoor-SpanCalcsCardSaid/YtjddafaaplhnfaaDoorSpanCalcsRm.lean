/- Texts of this claim, one behind the other: Rh, Rq, Rk, WSpanCalcs, RowSpanCalcs. -/
import Derived.Test.YtjddafaaplhnfaaDoorPSpanCalcsx21
import Derived.Test.YtjddafaaplhnfaaDoorSpanCalcsSm
import Derived.Test.YtjddafaaplhnfaaDoorPSpanCalcsx27
import Derived.Test.YtjddafaaplhnfaaDoorPSpanCalcsx30
import Derived.Test.YtjddafaaplhnfaaDoorPm
import Derived.Test.YtjddafaaplhnfaaDoorRows
import Derived.Test.YtjddafaaplhnfaaDoorTie
import Derived.Test.YtjddafaaplhnfaaDoorCards
import Derived.WalkKit
import Derived.ShutString
import Derived.ChangeSame
import Derived.ChangeVars
import Derived.JoinedOf
import Derived.LaidLaws
import Derived.LaidHandle
import Derived.Stop.Joined
import Derived.Stop.LaidErr
import Derived.SevenTiedAt
import Derived.Lay
import Derived.WideKeyPair
import Derived.Lib.SmallJoins
import Derived.ChangeMaps5
set_option linter.unusedVariables false
set_option linter.unusedSimpArgs false
namespace Go.Proofs.YtjddafaaplhnfaaDoor.PSpanCalcs
open Go Go.RowKit Go.Proofs.YtjddafaaplhnfaaDoorW.PrintWords Go.Proofs.YtjddafaaplhnfaaDoorW.PrintLast Go.Proofs.YtjddafaaplhnfaaDoorW.PrintMore

theorem rTop : helmsmanref01_Top.f = some 1152921504606846976 := rfl
theorem rOf_f (k : Nat) (l h : Int) : helmsmanref02_Of.f (k + 1) l h = some (Sp.of l h) := by
  unfold helmsmanref02_Of.f Sp.of
  rw [rTop]
  simp only [Option.bind_some]
  rw [w64 (by omega)]
  have j0 : ∀ x, -1152921504606846976 ≤ x → helmsmanref02_Of.j0 (k + 1) x h = some (if x ≤ min h 1152921504606846976 then (x, min h 1152921504606846976) else (1, 0)) := by
    intro x hx
    simp only [helmsmanref02_Of.j0]
    have rTop : helmsmanref01_Top.f = some 1152921504606846976 := rfl
    rw [rTop]
    simp only [Option.bind_some]
    by_cases c1 : h > 1152921504606846976
    · rw [if_pos c1, show min h 1152921504606846976 = 1152921504606846976 by omega]
      by_cases c2 : x > 1152921504606846976
      · rw [if_pos c2, if_neg (by omega)]
      · rw [if_neg c2, if_pos (by omega)]
    · rw [if_neg c1, show min h 1152921504606846976 = h by omega]
      by_cases c2 : x > h
      · rw [if_pos c2, if_neg (by omega)]
      · rw [if_neg c2, if_pos (by omega)]
  by_cases c : l < -1152921504606846976
  · rw [if_pos c, j0 _ (by omega), show max l (-1152921504606846976) = -1152921504606846976 by omega]
  · rw [if_neg c, j0 _ (by omega), show max l (-1152921504606846976) = l by omega]

theorem rHull_go (l : List Int) (hl : l.length ≤ 1000000) : ∀ (d i k : Nat) (lo hi : Int), l.length - i = d → i ≤ l.length → d + 1 < k → lo ≤ hi →
    helmsmanref02_Hull.l0 k l lo hi i = some (Sp.of ((l.drop i).foldl min lo) ((l.drop i).foldl max hi)) := by
  intro d
  induction d with
  | zero =>
    intro i k lo hi hd hi2 hk hle
    obtain ⟨k, rfl⟩ : ∃ m, k = m + 2 := ⟨k - 2, by omega⟩
    have : l.drop i = [] := by rw [List.drop_eq_nil_iff]; omega
    rw [this]
    simp only [helmsmanref02_Hull.l0]
    rw [if_neg (by omega), rOf_f]; rfl
  | succ d ih =>
    intro i k lo hi hd hi2 hk hle
    obtain ⟨k, rfl⟩ : ∃ m, k = m + 1 := ⟨k - 1, by omega⟩
    have hlt : i < l.length := by omega
    have hr : rd l (i : Int) = l[i] := by unfold rd; simp [List.getD, hlt]
    have hw : wrap64 ((i : Int) + 1) = ((i + 1 : Nat) : Int) := by rw [w64 (by omega)]; omega
    rw [List.drop_eq_getElem_cons hlt]
    simp only [helmsmanref02_Hull.l0, List.foldl_cons]
    rw [if_pos (by omega), if_pos (by omega), hr, hw]
    by_cases c1 : l[i] < lo
    · rw [if_pos c1, if_neg (by omega), ih (i + 1) k _ _ (by omega) (by omega) (by omega) (by omega), show min lo l[i] = l[i] by omega, show max hi l[i] = hi by omega]
    · rw [if_neg c1]
      by_cases c2 : l[i] > hi
      · rw [if_pos c2, ih (i + 1) k _ _ (by omega) (by omega) (by omega) (by omega), show min lo l[i] = lo by omega, show max hi l[i] = l[i] by omega]
      · rw [if_neg c2, ih (i + 1) k _ _ (by omega) (by omega) (by omega) (by omega), show min lo l[i] = lo by omega, show max hi l[i] = hi by omega]
theorem rHull_f (l : List Int) (hl : l.length ≤ 1000000) (k : Nat) (hk : l.length + 1 < k) : helmsmanref02_Hull.f k l = some (Sp.hull l) := by
  unfold helmsmanref02_Hull.f Sp.hull
  cases l with
  | nil => rfl
  | cons x r =>
    rw [if_neg (by simp; omega), if_pos (by simp), if_neg (by simp)]
    have h0 : rd (x :: r) 0 = x := rfl
    rw [h0]
    have := rHull_go (x :: r) hl (x :: r).length 0 k x x rfl (by omega) (by omega) (by omega)
    rw [List.drop_zero] at this
    have e : ((0 : Nat) : Int) = 0 := rfl
    rw [e] at this
    rw [this]
    simp only [List.foldl_cons, Sp.minL, Sp.maxL]
    rw [show min x x = x by omega, show max x x = x by omega]
end Go.Proofs.YtjddafaaplhnfaaDoor.PSpanCalcs

set_option linter.unusedVariables false
set_option linter.unusedSimpArgs false
namespace Go.Proofs.YtjddafaaplhnfaaDoor.PSpanCalcs
open Go.RowKit Go.Proofs.YtjddafaaplhnfaaDoorW.PrintWords Go.Proofs.YtjddafaaplhnfaaDoorW.PrintLast Go.Proofs.YtjddafaaplhnfaaDoorW.PrintMore

theorem rIn_f (a : Int) : helmsmanref01_In.f a = some (Bd.inn a) := by
  unfold helmsmanref01_In.f Bd.inn
  rw [rTop]
  simp only [Option.bind_some]
  rw [w64 (by omega)]
  by_cases h : a ≥ -1152921504606846976
  · rw [if_pos h, decide_eq_true (show -1152921504606846976 ≤ a from h), Bool.true_and]
  · rw [if_neg h, decide_eq_false (show ¬ -1152921504606846976 ≤ a from h), Bool.false_and]
theorem rsize_f {a : Int} (h : -1152921504606846976 ≤ a ∧ a ≤ 1152921504606846976) : helmsmanref01_size.f a = some (a.natAbs : Int) := by
  unfold helmsmanref01_size.f
  split
  · rw [w64 (by omega)]; congr 1; omega
  · congr 1; omega
theorem half (a b : Int) : a * b = a * 2 * (b / 2) + a * (b % 2) := by
  have h := Int.mul_ediv_add_emod b 2
  calc a * b = a * (2 * (b / 2) + b % 2) := by rw [h]
    _ = a * 2 * (b / 2) + a * (b % 2) := by rw [Int.mul_add, Int.mul_assoc]

theorem rloop (d : Nat) : ∀ (k : Nat) (a b out : Int), 0 ≤ a → (0 < b → a ≤ 2305843009213693952) → a ≤ 4611686018427387904 → 0 ≤ b → b < 2 ^ d → b ≤ 1152921504606846976 → 0 ≤ out → out ≤ 1152921504606846976 → 2 * d < k →
    helmsmanref01_times.l0 k a b out = some (if out + a * b ≤ 1152921504606846976 then (out + a * b, true) else (0, false)) := by
  induction d with
  | zero =>
    intro k a b out ha ha2 ha4 hb hb2 hb3 ho ho2 hk
    obtain ⟨k, rfl⟩ : ∃ m, k = m + 1 := ⟨k - 1, by omega⟩
    obtain rfl : b = 0 := by simp at hb2; omega
    simp only [helmsmanref01_times.l0]
    rw [if_neg (by omega), Int.mul_zero, Int.add_zero, if_pos ho2]
  | succ d ih =>
    intro k a b out ha ha2 ha4 hb hb2 hb3 ho ho2 hk
    obtain ⟨k, rfl⟩ : ∃ m, k = m + 2 := ⟨k - 2, by omega⟩
    by_cases h0 : 0 < b
    · have ha' := ha2 h0
      have hh := half a b
      have hm : b.tmod 2 = b % 2 := Int.tmod_eq_emod_of_nonneg hb
      have hd : b.tdiv 2 = b / 2 := Int.tdiv_eq_ediv_of_nonneg hb
      have hm01 : b % 2 = 0 ∨ b % 2 = 1 := by omega
      have hp : (2 : Int) ^ (d + 1) = 2 ^ d * 2 := Int.pow_succ 2 d
      have hb' : b / 2 < 2 ^ d := by omega
      -- what is behind the first step
      have step : ∀ o, 0 ≤ o → o ≤ 3458764513820540928 → o + a * 2 * (b / 2) = out + a * b → helmsmanref01_times.j1 (k + 1) a b o = some (if out + a * b ≤ 1152921504606846976 then (out + a * b, true) else (0, false)) := by
        intro o h1 h2 h3
        have hnn : 0 ≤ a * 2 * (b / 2) := Int.mul_nonneg (by omega) (by omega)
        simp only [helmsmanref01_times.j1]
        have rTop : helmsmanref01_Top.f = some 1152921504606846976 := rfl
        rw [rTop]
        simp only [Option.bind_some]
        by_cases c1 : o > 1152921504606846976
        · rw [if_pos c1, if_neg (by omega)]
        · rw [if_neg c1, hd, w64 (by omega), w64 (by omega)]
          by_cases c2 : b / 2 > 0
          · rw [if_pos c2]
            by_cases c3 : a > 1152921504606846976
            · rw [if_pos c3]
              have : a * 2 * 1 ≤ a * 2 * (b / 2) := Int.mul_le_mul_of_nonneg_left (by omega) (by omega)
              rw [if_neg (by omega)]
            · rw [if_neg c3, ih k (a * 2) (b / 2) o (by omega) (fun _ => by omega) (by omega) (by omega) hb' (by omega) h1 (by omega) (by omega), h3]
          · rw [if_neg c2, ih k (a * 2) (b / 2) o (by omega) (fun h => by omega) (by omega) (by omega) hb' (by omega) h1 (by omega) (by omega), h3]
      simp only [helmsmanref01_times.l0]
      rw [if_pos h0, hm]
      rcases hm01 with e | e
      · rw [if_neg (by omega)]
        exact step out ho (by omega) (by rw [hh, e]; omega)
      · rw [if_pos e, w64 (by omega)]
        exact step (out + a) (by omega) (by omega) (by rw [hh, e]; omega)
    · obtain rfl : b = 0 := by omega
      simp only [helmsmanref01_times.l0]
      rw [if_neg (by omega), Int.mul_zero, Int.add_zero, if_pos ho2]

theorem sign_div {a b : Int} (x y : Nat) (hx : a.natAbs = x) (hy : b.natAbs = y) : a.tdiv b = if (decide (a < 0) != decide (b < 0)) = true then -((x / y : Nat) : Int) else ((x / y : Nat) : Int) := by
  have hxy : (x : Int).tdiv (y : Int) = ((x / y : Nat) : Int) := rfl
  by_cases ha : a < 0 <;> by_cases hb : b < 0
  · rw [decide_eq_true ha, decide_eq_true hb, if_neg (by simp), show a = -(x : Int) by omega, show b = -(y : Int) by omega, Int.neg_tdiv, Int.tdiv_neg, Int.neg_neg, hxy]
  · rw [decide_eq_true ha, decide_eq_false hb, if_pos (by simp), show a = -(x : Int) by omega, show b = (y : Int) by omega, Int.neg_tdiv, hxy]
  · rw [decide_eq_false ha, decide_eq_true hb, if_pos (by simp), show a = (x : Int) by omega, show b = -(y : Int) by omega, Int.tdiv_neg, hxy]
  · rw [decide_eq_false ha, decide_eq_false hb, if_neg (by simp), show a = (x : Int) by omega, show b = (y : Int) by omega, hxy]

theorem j3_f (k : Nat) (n : Int) (x9 x68 : Bool) (hn : -4611686018427387904 ≤ n ∧ n ≤ 4611686018427387904) :
    helmsmanref01_Calc.j3 (k + 1) n x9 x68 = some (if x9 = true then Bd.told (if x68 = true then -n else n) else (0, 10)) := by
  simp only [helmsmanref01_Calc.j3]
  cases x68 <;> cases x9 <;> simp only [reduceIte, Bool.false_eq_true]
  · rw [rIn_f]
    simp only [Option.bind_some, Bd.told]
    split <;> rfl
  · rw [w64 (by omega), rIn_f]
    simp only [Option.bind_some, Bd.told]
    split <;> rfl

theorem rCalc_f (op a b : Int) : helmsmanref01_Calc.f 200 op a b = some (Bd.calc' op a b) := by
  unfold helmsmanref01_Calc.f Bd.calc'
  by_cases h0 : op < 0
  · rw [if_pos h0, if_pos (.inl h0)]; rfl
  · rw [if_neg h0]
    by_cases h3 : op > 3
    · rw [if_pos h3, if_pos (.inr (.inl h3))]; rfl
    · rw [if_neg h3, rIn_f, rIn_f]
      simp only [Option.bind_some]
      cases ha : Bd.inn a
      · rw [if_neg (by simp), if_pos (.inr (.inr (.inl rfl)))]; rfl
      · rw [if_pos rfl]
        cases hb : Bd.inn b
        · rw [if_pos (.inr (.inr (.inr rfl)))]; rfl
        · rw [if_neg (by simp; omega)]
          have ha' := Bd.inn_iff.1 ha
          have hb' := Bd.inn_iff.1 hb
          simp only [Bool.not_true]
          show helmsmanref01_Calc.j0 (199 + 1) op a b false = _
          simp only [helmsmanref01_Calc.j0]
          rw [if_neg (by simp)]
          -- the product, and the quotient
          obtain ⟨x, hx⟩ : ∃ x, a.natAbs = x := ⟨_, rfl⟩
          obtain ⟨y, hy⟩ : ∃ y, b.natAbs = y := ⟨_, rfl⟩
          have j1 : ∀ k, 190 ≤ k → ∀ z, (z = true → op = 3 ∧ b = 0) → (op = 3 → b = 0 → z = true) → helmsmanref01_Calc.j1 (k + 1) op a b z = some (if op = 0 then Bd.told (a + b) else if op = 1 then Bd.told (a - b) else if op = 2 then Bd.told (a * b) else if b = 0 then (0, 11) else Bd.told (a.tdiv b)) := by
            intro k hk z hz hz2
            obtain ⟨k, rfl⟩ : ∃ m, k = m + 2 := ⟨k - 2, by omega⟩
            simp only [helmsmanref01_Calc.j1]
            cases z with
            | true =>
              obtain ⟨e1, e2⟩ := hz rfl
              rw [if_pos rfl, if_neg (by omega), if_neg (by omega), if_neg (by omega), if_pos e2]
            | false =>
              rw [if_neg (by simp)]
              have j2 : ∀ n x9, op ≤ 1 → (-4611686018427387904 ≤ n ∧ n ≤ 4611686018427387904) → helmsmanref01_Calc.j2 (k + 2) op a b n x9 = some (if x9 = true then Bd.told n else (0, 10)) := by
                intro n x9 ho hn
                simp only [helmsmanref01_Calc.j2]
                rw [if_neg (by omega), j3_f _ _ _ _ hn, if_neg (show ¬ false = true by simp)]
              have j2' : ∀ n x9, 1 < op → (-4611686018427387904 ≤ n ∧ n ≤ 4611686018427387904) → helmsmanref01_Calc.j2 (k + 2) op a b n x9 = some (if x9 = true then Bd.told (if (decide (a < 0) != decide (b < 0)) = true then -n else n) else (0, 10)) := by
                intro n x9 ho hn
                simp only [helmsmanref01_Calc.j2]
                rw [if_pos (by omega), j3_f _ _ _ _ hn]
              by_cases o0 : op = 0
              · rw [if_pos o0, if_pos o0, w64 (by omega), j2 _ _ (by omega) (by omega), if_pos rfl]
              · rw [if_neg o0, if_neg o0]
                by_cases o1 : op = 1
                · rw [if_pos o1, if_pos o1, w64 (by omega), j2 _ _ (by omega) (by omega), if_pos rfl]
                · rw [if_neg o1, if_neg o1]
                  rw [rsize_f (by omega), rsize_f (by omega)]
                  simp only [Option.bind_some]
                  rw [hx, hy]
                  by_cases o2 : op = 2
                  · rw [if_pos o2, if_pos o2]
                    unfold helmsmanref01_times.f
                    rw [rloop 61 (k + 2) x y 0 (by omega) (fun _ => by omega) (by omega) (by omega) (by omega) (by omega) (by omega) (by omega) (by omega)]
                    rw [sign_mul x y hx hy]
                    simp only [Option.bind_some, Int.zero_add]
                    rw [← Int.natCast_mul]
                    generalize x * y = p
                    by_cases hp : (p : Int) ≤ 1152921504606846976
                    · rw [if_pos hp, j2' _ _ (by omega) (by simp only; omega), if_pos rfl]
                    · rw [if_neg hp, j2' _ _ (by omega) (by simp only; omega), if_neg (by simp)]
                      unfold Bd.told
                      rw [if_neg (by rw [Bool.not_eq_true, Bd.inn_not]; split <;> omega)]
                  · have o3 : op = 3 := by omega
                    rw [if_neg o2, if_neg o2, if_pos o3]
                    have hb0 : b ≠ 0 := fun e => by have := hz2 o3 e; cases this
                    have hy0 : (y : Int) ≠ 0 := by omega
                    rw [if_neg hy0, if_neg hb0, show (x : Int).tdiv (y : Int) = ((x / y : Nat) : Int) from rfl]
                    rw [sign_div x y hx hy]
                    have := Nat.div_le_self x y
                    generalize x / y = q at *
                    rw [w64 (by omega), j2' _ _ (by omega) (by omega), if_pos rfl]
          by_cases o3 : op = 3
          · rw [if_pos o3]
            exact j1 198 (by omega) _ (fun h => ⟨o3, by simpa using h⟩) (fun _ h => by simpa using h)
          · rw [if_neg o3]
            exact j1 198 (by omega) _ (fun h => by cases h) (fun h => absurd h o3)
end Go.Proofs.YtjddafaaplhnfaaDoor.PSpanCalcs

set_option linter.unusedVariables false
set_option linter.unusedSimpArgs false
namespace Go.Proofs.YtjddafaaplhnfaaDoor.PSpanCalcs
open Go Go.RowKit Go.Proofs.YtjddafaaplhnfaaDoorW.PrintWords Go.Proofs.YtjddafaaplhnfaaDoorW.PrintLast Go.Proofs.YtjddafaaplhnfaaDoorW.PrintMore

theorem rRight_f (k : Nat) (a b : Int) : helmsmanref02_Right.f (k + 1) a b = some (Sp.right a b) := by
  unfold helmsmanref02_Right.f
  have j0 : ∀ x, helmsmanref02_Right.j0 (k + 1) x a b = some (if x = true then true else Sp.ok a b) := by
    intro x
    simp only [helmsmanref02_Right.j0]
    cases x
    · rw [if_neg (by simp), if_neg (by simp), rIn_f, rIn_f]
      simp only [Option.bind_some]
      have e : Sp.ok a b = true ↔ Bd.inn a = true ∧ Bd.inn b = true ∧ a ≤ b := by rw [Sp.ok_iff, Bd.inn_iff, Bd.inn_iff]; omega
      cases ha : Bd.inn a
      · rw [if_neg (by simp)]; cases h : Sp.ok a b
        · rfl
        · rw [h, ha] at e; simp at e
      · rw [if_pos rfl]
        cases hb : Bd.inn b
        · rw [if_neg (by simp)]; cases h : Sp.ok a b
          · rfl
          · rw [h, hb] at e; simp at e
        · rw [if_pos rfl]
          congr 1
          rw [Bool.eq_iff_iff, e]; simp [ha, hb]
    · rfl
  unfold Sp.right
  by_cases c : a = 1
  · rw [if_pos c, j0]
    congr 1
    subst c
    cases Sp.ok 1 b <;> cases (b == 0) <;> rfl
  · rw [if_neg c, j0, if_neg (by simp), beq_false_of_ne c]
    simp
theorem rNone_f (k : Nat) (a b : Int) : helmsmanref02_None.f (k + 1) a b = some (!Sp.ok a b) := by
  unfold helmsmanref02_None.f
  rw [rRight_f]
  simp only [Option.bind_some, Sp.right]
  cases h : Sp.ok a b
  · by_cases c : (a == 1 && b == 0) = true
    · rw [c]
      simp only [Bool.and_eq_true, beq_iff_eq] at c
      simp [c.1, c.2]
    · rw [Bool.not_eq_true] at c
      rw [c]
      rfl
  · have := Sp.ok_iff.1 h
    simp
    omega
theorem rHas_f (k : Nat) (a b n : Int) : helmsmanref02_Has.f (k + 1) a b n = some (Sp.has a b n) := by
  unfold helmsmanref02_Has.f Sp.has
  rw [rNone_f]
  simp only [Option.bind_some]
  cases h : Sp.ok a b
  · rfl
  · rw [if_neg (by simp)]
    by_cases c : a ≤ n
    · rw [if_pos c]; simp [c]
    · rw [if_neg c]; simp [c]
theorem rCalc_k {op a b : Int} (k : Nat) (hk : 200 ≤ k) : helmsmanref01_Calc.f k op a b = some (Bd.calc' op a b) := by
  obtain ⟨d, rfl⟩ : ∃ d, k = 200 + d := ⟨k - 200, by omega⟩
  clear hk
  induction d with
  | zero => exact rCalc_f op a b
  | succ d ih => exact helmsmanref01_Calc.mono _ _ _ _ _ ih
theorem one_f {op a y : Int} (k : Nat) (hk : 200 ≤ k) (h0 : 0 ≤ op) (h3 : op ≤ 3) (ha : Bd.inn a = true) (hy : Bd.inn y = true) :
    helmsmanref02_one.f k op a y = some (if op = 3 ∧ y = 0 then (0, false) else (Sp.rv op a y, true)) := by
  have ha' := Bd.inn_iff.1 ha
  have hy' := Bd.inn_iff.1 hy
  unfold helmsmanref02_one.f
  rcases (show op = 0 ∨ op = 1 ∨ op = 2 ∨ op = 3 by omega) with rfl | rfl | rfl | rfl
  · rw [if_pos rfl, if_neg (by omega), w64 (by omega)]; rfl
  · rw [if_neg (by omega), if_pos rfl, if_neg (by omega), w64 (by omega)]; rfl
  · rw [if_neg (by omega), if_neg (by omega), if_pos rfl, if_neg (show ¬ ((2 : Int) = 3 ∧ y = 0) by omega), rCalc_k k hk]
    have hE : helmsmanref01_Edge.f = some 2305843009213693952 := rfl
    have hc : Bd.calc' 2 a y = Bd.told (a * y) := by
      unfold Bd.calc'
      rw [if_neg (by rw [ha, hy]; simp), if_neg (by omega), if_neg (by omega), if_pos rfl]
    rw [hE, hc]
    have hv : Sp.rv 2 a y = Sp.rt a y := rfl
    rw [hv]
    simp only [Option.bind_some]
    unfold Bd.told Sp.rt
    cases Bd.inn (a * y)
    · simp only [show ¬ (10 : Int) = 0 by decide, Bool.false_eq_true, if_false]
      cases (decide (a < 0) != decide (y < 0))
      · simp only [Bool.false_eq_true, if_false]
      · simp only [if_true]
        rw [w64 (by omega)]
    · simp only [if_true]
  · rw [if_neg (by omega), if_neg (by omega), if_neg (by omega)]
    by_cases c : y = 0
    · rw [if_pos c, if_pos ⟨rfl, c⟩]
    · rw [if_neg c, if_neg (by simp [c])]
      have hq : -1152921504606846976 ≤ a.tdiv y ∧ a.tdiv y ≤ 1152921504606846976 := by
        have h1 : (a.tdiv y).natAbs ≤ a.natAbs := by rw [Int.natAbs_tdiv]; exact Nat.div_le_self _ _
        omega
      rw [w64 (by omega)]
      rfl
theorem rl_go {op a0 a1 : Int} (h0 : 0 ≤ op) (h3 : op ≤ 3) (ha : Bd.inn a0 = true) (hb : Bd.inn a1 = true) (ys : List Int) (hys : ∀ y ∈ ys, Bd.inn y = true) (hlen : ys.length ≤ 4) :
    ∀ (d i k : Nat) (bey : Bool) (out : List Int), ys.length - i = d → i ≤ ys.length → out.length + 2 * d ≤ 8 → 220 + 2 * d < k →
    helmsmanref02_Calc.l0 k op ys bey out i a0 a1 = some ((Sp.hull (out ++ Sp.R op a0 a1 (ys.drop i))).1, (Sp.hull (out ++ Sp.R op a0 a1 (ys.drop i))).2, bey || (Sp.R op a0 a1 (ys.drop i)).any (fun n => !Bd.inn n)) := by
  intro d
  induction d with
  | zero =>
    intro i k bey out hd hi2 ho hk
    obtain ⟨k, rfl⟩ : ∃ m, k = m + 1 := ⟨k - 1, by omega⟩
    have : ys.drop i = [] := by rw [List.drop_eq_nil_iff]; omega
    rw [this]
    simp only [helmsmanref02_Calc.l0]
    rw [if_neg (by omega), rHull_f out (by omega) k (by omega)]
    simp [Sp.R]
  | succ d ih =>
    intro i k bey out hd hi2 ho hk
    obtain ⟨k, rfl⟩ : ∃ m, k = m + 2 := ⟨k - 2, by omega⟩
    have hlt : i < ys.length := by omega
    have hr : rd ys (i : Int) = ys[i] := by unfold rd; simp [List.getD, hlt]
    have hw : wrap64 ((i : Int) + 1) = ((i + 1 : Nat) : Int) := by rw [w64 (by omega)]; omega
    have hy := hys ys[i] (List.getElem_mem hlt)
    rw [List.drop_eq_getElem_cons hlt]
    generalize ys[i] = y at *
    have hR : Sp.R op a0 a1 (y :: ys.drop (i + 1)) = (if op = 3 ∧ y = 0 then [] else [Sp.rv op a0 y, Sp.rv op a1 y]) ++ Sp.R op a0 a1 (ys.drop (i + 1)) := rfl
    rw [hR]
    simp only [helmsmanref02_Calc.l0]
    rw [if_pos (by omega), if_pos (by omega), hr, one_f (k + 1) (by omega) h0 h3 ha hy, one_f (k + 1) (by omega) h0 h3 hb hy]
    simp only [Option.bind_some]
    by_cases c : op = 3 ∧ y = 0
    · simp only [if_pos c]
      simp only [helmsmanref02_Calc.j7]
      rw [if_neg (by simp), if_neg (by simp), hw, ih (i + 1) k bey out (by omega) (by omega) (by omega) (by omega)]
      simp
    · simp only [if_neg c]
      simp only [helmsmanref02_Calc.j7, Option.bind_some]
      simp only [if_true]
      rw [if_pos (by simp; omega), rIn_f, rIn_f, hw]
      generalize Sp.rv op a0 y = u at *
      generalize Sp.rv op a1 y = v at *
      have key : ∀ b : Bool, b = (bey || (!Bd.inn u || !Bd.inn v)) → helmsmanref02_Calc.l0 k op ys b (out ++ [u, v]) ((i + 1 : Nat) : Int) a0 a1 = some ((Sp.hull (out ++ ([u, v] ++ Sp.R op a0 a1 (ys.drop (i + 1))))).1, (Sp.hull (out ++ ([u, v] ++ Sp.R op a0 a1 (ys.drop (i + 1))))).2, bey || ([u, v] ++ Sp.R op a0 a1 (ys.drop (i + 1))).any (fun n => !Bd.inn n)) := by
        intro b hb
        rw [ih (i + 1) k b (out ++ [u, v]) (by omega) (by omega) (by simp; omega) (by omega), hb, List.append_assoc]
        simp [Bool.or_assoc]
      simp only [Option.bind_some]
      cases bey
      · rw [if_neg (by simp)]
        cases hu : Bd.inn u
        · rw [if_neg (by simp)]
          exact key true (by rw [hu]; rfl)
        · rw [if_pos rfl]
          exact key _ (by rw [hu]; rfl)
      · rw [if_pos rfl]
        exact key true rfl
theorem rReck_f (op a0 a1 b0 b1 : Int) : helmsmanref02_Calc.f 300 op a0 a1 b0 b1 = some ((Sp.reck op a0 a1 b0 b1).1.1, (Sp.reck op a0 a1 b0 b1).1.2, (Sp.reck op a0 a1 b0 b1).2) := by
  unfold helmsmanref02_Calc.f
  have jt : helmsmanref02_Calc.j0 300 op true a0 a1 b0 b1 = some (1, 0, false) := by simp only [helmsmanref02_Calc.j0, if_true]
  rw [rNone_f, rNone_f]
  simp only [Option.bind_some]
  rw [jt]
  unfold Sp.reck
  cases ha : Sp.ok a0 a1
  · rw [if_pos (show (!false) = true from rfl), if_pos (.inl rfl)]
  · rw [if_neg (by simp)]
    cases hb : Sp.ok b0 b1
    · rw [if_pos (show (!false) = true from rfl), if_pos (.inr (.inl rfl))]
    · rw [if_neg (by simp)]
      by_cases h0 : op < 0
      · rw [if_pos h0, if_pos (.inr (.inr (.inl h0)))]
      · rw [if_neg h0]
        by_cases h3 : op > 3
        · rw [decide_eq_true h3, jt, if_pos (.inr (.inr (.inr h3)))]
        · rw [decide_eq_false h3, if_neg (by simp; omega)]
          have ha' := Sp.ok_iff.1 ha
          have hb' := Sp.ok_iff.1 hb
          have i0 : Bd.inn a0 = true := by rw [Bd.inn_iff]; omega
          have i1 : Bd.inn a1 = true := by rw [Bd.inn_iff]; omega
          have last : ∀ (l : List Int) (bey : Bool), l = Sp.ys op b0 b1 → bey = (op == 3 && Sp.has b0 b1 0) → helmsmanref02_Calc.j5 295 op l bey a0 a1 = some ((Sp.hull (Sp.res op a0 a1 b0 b1)).1, (Sp.hull (Sp.res op a0 a1 b0 b1)).2, ((Sp.res op a0 a1 b0 b1).any fun n => !Bd.inn n) || (op == 3 && Sp.has b0 b1 0)) := by
            intro l bey hl hbey
            obtain ⟨e1, e2⟩ := Sp.R_law (op := op) (by omega) (by omega) ha hb
            rw [← hl] at e1 e2
            have hin : ∀ y ∈ l, Bd.inn y = true := by
              intro y hy
              rw [hl] at hy
              unfold Sp.ys at hy
              rw [Bd.inn_iff]
              simp only [List.mem_append, List.mem_cons, List.not_mem_nil, or_false] at hy
              rcases hy with ((rfl | rfl) | hy) | hy
              · omega
              · omega
              · split at hy
                · have := List.mem_singleton.1 hy; omega
                · simp at hy
              · split at hy
                · have := List.mem_singleton.1 hy; omega
                · simp at hy
            have hlen : l.length ≤ 4 := by
              rw [hl]; unfold Sp.ys
              simp only [List.length_append, List.length_cons, List.length_nil]
              split <;> split <;> simp
            simp only [helmsmanref02_Calc.j5]
            have := rl_go (op := op) (by omega) (by omega) i0 i1 l hin hlen l.length 0 294 bey [] (by omega) (by omega) (by simp; omega) (by omega)
            rw [List.drop_zero, List.nil_append] at this
            have e : ((0 : Nat) : Int) = 0 := rfl
            rw [e] at this
            rw [this, e1, e2, hbey, Bool.or_comm]
          simp only [helmsmanref02_Calc.j0]
          rw [if_neg (by simp)]
          simp only [Option.bind_some]
          by_cases o3 : op = 3
          · rw [if_pos o3, rHas_f]
            simp only [Option.bind_some, helmsmanref02_Calc.j1]
            have fin : ∀ l : List Int, l = Sp.ys op b0 b1 → helmsmanref02_Calc.j4 296 op l a0 a1 b0 b1 = some ((Sp.hull (Sp.res op a0 a1 b0 b1)).1, (Sp.hull (Sp.res op a0 a1 b0 b1)).2, ((Sp.res op a0 a1 b0 b1).any fun n => !Bd.inn n) || (op == 3 && Sp.has b0 b1 0)) := by
              intro l hl
              simp only [helmsmanref02_Calc.j4]
              rw [if_pos o3, rHas_f]
              simp only [Option.bind_some]
              exact last l _ hl (by rw [show (op == 3) = true by rw [beq_iff_eq]; exact o3]; rfl)
            have mid : ∀ l : List Int, l.length ≤ 3 → l ++ (if op = 3 ∧ Sp.has b0 b1 (-1) = true then [-1] else []) = Sp.ys op b0 b1 → helmsmanref02_Calc.j2 298 op l a0 a1 b0 b1 = some ((Sp.hull (Sp.res op a0 a1 b0 b1)).1, (Sp.hull (Sp.res op a0 a1 b0 b1)).2, ((Sp.res op a0 a1 b0 b1).any fun n => !Bd.inn n) || (op == 3 && Sp.has b0 b1 0)) := by
              intro l hl he
              simp only [helmsmanref02_Calc.j2]
              rw [if_pos o3, rHas_f]
              simp only [Option.bind_some, helmsmanref02_Calc.j3]
              cases hm : Sp.has b0 b1 (-1)
              · rw [if_neg (by simp)]
                rw [hm, if_neg (by simp), List.append_nil] at he
                exact fin l he
              · rw [if_pos rfl, if_pos (by omega)]
                rw [hm, if_pos ⟨o3, rfl⟩] at he
                exact fin _ he
            cases hp : Sp.has b0 b1 1
            · rw [if_neg (by simp)]
              exact mid _ (by simp) (by unfold Sp.ys; rw [hp]; simp)
            · rw [if_pos rfl, if_pos (by simp)]
              exact mid _ (by simp) (by unfold Sp.ys; rw [hp, if_pos (show op = 3 ∧ true = true from ⟨o3, rfl⟩)])
          · rw [if_neg o3]
            simp only [helmsmanref02_Calc.j1]
            rw [if_neg (by simp)]
            simp only [helmsmanref02_Calc.j2]
            rw [if_neg o3]
            simp only [helmsmanref02_Calc.j3]
            rw [if_neg (by simp)]
            simp only [helmsmanref02_Calc.j4]
            rw [if_neg o3]
            exact last _ _ (by unfold Sp.ys; rw [if_neg (by simp [o3]), if_neg (by simp [o3])]; simp) (by rw [beq_false_of_ne o3]; rfl)
end Go.Proofs.YtjddafaaplhnfaaDoor.PSpanCalcs

set_option linter.unusedVariables false
set_option linter.unusedSimpArgs false
namespace Go.Proofs.YtjddafaaplhnfaaDoor.PSpanCalcs
open Go Go.RowKit Go.Deep Go.Proofs.YtjddafaaplhnfaaDoorW.PrintWords Go.Proofs.YtjddafaaplhnfaaDoorW.PrintLast Go.Proofs.YtjddafaaplhnfaaDoorW.PrintMore
variable {w : World}
def spEq2 (x0 x1 y0 y1 : Int) : Bool := x0 == y0 && x1 == y1
theorem eq_sp2 (w : World) (x0 x1 y0 y1 : Int) :
    (Op.equalIn 10000 23 (.agg #[.int .i64 x0, .int .i64 x1]) (.agg #[.int .i64 y0, .int .i64 y1])).run Tryd.prog w = .ok (spEq2 x0 x1 y0 y1) w := by
  rw [run_equalIn_struct w 9999 23 _ _ (by kernel_rfl) (by kernel_rfl)]
  simp only [Program.fieldsOf, Tryd.underlying23, spEq2]
  go_simp
  by_cases h0 : x0 = y0 <;> by_cases h1 : x1 = y1 <;> simp [h0, h1]
attribute [local go_sem high] eq_sp2
theorem rcalc_to (op a0 a1 b0 b1 v1 v2 : Int) (v3 : Bool) (h : Sp.reck op a0 a1 b0 b1 = ((v1, v2), v3)) (w : World) :
    Calls Tryd.prog 12 #[.int .i64 op, .agg #[.int .i64 a0, .int .i64 a1], .agg #[.int .i64 b0, .int .i64 b1]] w fun e w' => e = .returned (.tuple #[.agg #[.int .i64 v1, .int .i64 v2], .bool v3]) ∧ Below w.heap.size w w' :=
  (helmsmanref02_Calc.calls 300 op a0 a1 b0 b1 v1 v2 v3 w (by rw [rReck_f, h])).mono fun e w' h => ⟨h.1, by first | exact h.2 | exact h.2.below⟩
theorem reck_right (op a0 a1 b0 b1 : Int) : Sp.right (Sp.reck op a0 a1 b0 b1).1.1 (Sp.reck op a0 a1 b0 b1).1.2 = true := by
  unfold Sp.reck
  split
  · decide
  · simp only []
    unfold Sp.hull
    split
    · decide
    · exact Sp.of_right _ _

set_option maxRecDepth 100000 in
set_option maxHeartbeats 8000000 in
theorem SpanCalcs_walk (op a0 a1 b0 b1 : Int) (hT : Tabs w) :
    Calls Tryd.prog 3 #[.int .i64 op, .agg #[.int .i64 a0, .int .i64 a1], .agg #[.int .i64 b0, .int .i64 b1]] w fun e w' => e = .returned (.bool true) ∧ Below w.heap.size w w' := by
  have HT := Lib.hid hT
  clear hT
  obtain ⟨⟨⟨v1, v2⟩, v3⟩, hh⟩ : ∃ p, Sp.reck op a0 a1 b0 b1 = p := ⟨_, rfl⟩
  have hr := reck_right op a0 a1 b0 b1
  rw [hh] at hr
  have HH := Lib.hid hh
  have HR := Lib.hid hr
  have seqv : spEq2 v1 v2 v1 v2 = true := by simp [spEq2]
  clear hh hr
  go_enter Tryd.func3, Tryd.ntmps3
  go_wp2_with fail
  refine (calc_to op a0 a1 b0 b1 v1 v2 v3 HH.out _).mono ?_
  rintro e w1 ⟨rfl, hb⟩
  obtain ⟨ka, kb, B1⟩ := box2 _ _ _ hb
  clear hb
  obtain ⟨qa0, qa1, fa0, fa1⟩ := cells2 ka
  have Ka1 := Lib.hid ka
  obtain ⟨qb0, qb1, fb0, fb1⟩ := cells2 kb
  have Kb1 := Lib.hid kb
  have HB1 := Lib.hid B1
  clear B1 ka kb
  have ka := blk_alloc Ka1.out (.cells #[.int .i64 v1, .int .i64 v2] 24)
  have kb := blk_alloc Kb1.out (.cells #[.int .i64 v1, .int .i64 v2] 24)
  have ks := blk_new w1 (.cells #[.int .i64 v1, .int .i64 v2] 24)
  have B2 := Below.push HB1.out (Nat.le_refl _) (.cells #[.int .i64 v1, .int .i64 v2] 24)
  clear qa0 qa1 fa0 fa1 Ka1 qb0 qb1 fb0 fb1 Kb1
  obtain ⟨qa0, qa1, fa0, fa1⟩ := cells2 ka
  have Ka2 := Lib.hid ka
  obtain ⟨qb0, qb1, fb0, fb1⟩ := cells2 kb
  have Kb2 := Lib.hid kb
  obtain ⟨qs0, qs1, fs0, fs1⟩ := cells2 ks
  have Ks2 := Lib.hid ks
  have HB2 := Lib.hid B2
  clear B2 ka kb ks HB1
  go_wp2_with fail
  refine (rcalc_to op a0 a1 b0 b1 v1 v2 v3 HH.out _).mono ?_
  rintro e w3 ⟨rfl, hb⟩
  have ka := blk_below Ka2.out hb
  have kb := blk_below Kb2.out hb
  have ks := blk_below Ks2.out hb
  have B3 := seq HB2.out hb
  clear qa0 qa1 fa0 fa1 Ka2 qb0 qb1 fb0 fb1 Kb2 qs0 qs1 fs0 fs1 Ks2
  clear hb
  obtain ⟨qa0, qa1, fa0, fa1⟩ := cells2 ka
  have Ka3 := Lib.hid ka
  obtain ⟨qb0, qb1, fb0, fb1⟩ := cells2 kb
  have Kb3 := Lib.hid kb
  obtain ⟨qs0, qs1, fs0, fs1⟩ := cells2 ks
  have Ks3 := Lib.hid ks
  have HB3 := Lib.hid B3
  clear B3 ka kb ks HB2
  have ka := blk_alloc Ka3.out (.cells #[.int .i64 v1, .int .i64 v2] 23)
  have kb := blk_alloc Kb3.out (.cells #[.int .i64 v1, .int .i64 v2] 23)
  have ks := blk_alloc Ks3.out (.cells #[.int .i64 v1, .int .i64 v2] 23)
  have kt := blk_new w3 (.cells #[.int .i64 v1, .int .i64 v2] 23)
  have B4 := Below.push HB3.out (Nat.le_refl _) (.cells #[.int .i64 v1, .int .i64 v2] 23)
  clear qa0 qa1 fa0 fa1 Ka3 qb0 qb1 fb0 fb1 Kb3 qs0 qs1 fs0 fs1 Ks3
  obtain ⟨qa0, qa1, fa0, fa1⟩ := cells2 ka
  have Ka4 := Lib.hid ka
  obtain ⟨qb0, qb1, fb0, fb1⟩ := cells2 kb
  have Kb4 := Lib.hid kb
  obtain ⟨qs0, qs1, fs0, fs1⟩ := cells2 ks
  have Ks4 := Lib.hid ks
  obtain ⟨qt0, qt1, ft0, ft1⟩ := cells2 kt
  have Kt4 := Lib.hid kt
  have HB4 := Lib.hid B4
  clear B4 ka kb ks kt HB3
  go_wp2_with fail
  refine (alive02 (HT.out.below HB4.out)).mono ?_
  rintro e w5 ⟨rfl, hb⟩
  have ka := blk_below Ka4.out hb
  have kb := blk_below Kb4.out hb
  have ks := blk_below Ks4.out hb
  have kt := blk_below Kt4.out hb
  have B5 := seq HB4.out hb
  clear qa0 qa1 fa0 fa1 Ka4 qb0 qb1 fb0 fb1 Kb4 qs0 qs1 fs0 fs1 Ks4 qt0 qt1 ft0 ft1 Kt4
  clear hb
  obtain ⟨qa0, qa1, fa0, fa1⟩ := cells2 ka
  have Ka5 := Lib.hid ka
  obtain ⟨qb0, qb1, fb0, fb1⟩ := cells2 kb
  have Kb5 := Lib.hid kb
  obtain ⟨qs0, qs1, fs0, fs1⟩ := cells2 ks
  have Ks5 := Lib.hid ks
  obtain ⟨qt0, qt1, ft0, ft1⟩ := cells2 kt
  have Kt5 := Lib.hid kt
  have HB5 := Lib.hid B5
  clear B5 ka kb ks kt HB4
  go_wp2_with fail
  refine (right_to v1 v2 true HR.out _).mono ?_
  rintro e w6 ⟨rfl, hb⟩
  have ka := blk_below Ka5.out hb
  have kb := blk_below Kb5.out hb
  have ks := blk_below Ks5.out hb
  have kt := blk_below Kt5.out hb
  have B6 := seq HB5.out hb
  clear qa0 qa1 fa0 fa1 Ka5 qb0 qb1 fb0 fb1 Kb5 qs0 qs1 fs0 fs1 Ks5 qt0 qt1 ft0 ft1 Kt5
  clear hb
  obtain ⟨qa0, qa1, fa0, fa1⟩ := cells2 ka
  have Ka6 := Lib.hid ka
  obtain ⟨qb0, qb1, fb0, fb1⟩ := cells2 kb
  have Kb6 := Lib.hid kb
  obtain ⟨qs0, qs1, fs0, fs1⟩ := cells2 ks
  have Ks6 := Lib.hid ks
  obtain ⟨qt0, qt1, ft0, ft1⟩ := cells2 kt
  have Kt6 := Lib.hid kt
  have HB6 := Lib.hid B6
  clear B6 ka kb ks kt HB5
  go_wp2_with fail
  go_ret
  exact ⟨rfl, HB6.out⟩
end Go.Proofs.YtjddafaaplhnfaaDoor.PSpanCalcs

set_option linter.unusedVariables false
namespace Go.Proofs.YtjddafaaplhnfaaDoor.SpanCalcs
open Go Go.ChangeShapes Go.WideShapes Go.ChangeAt Go.RowKit PSpanCalcs
theorem own : ownKnob Tryd.prog.godebug = none := by kernel_rfl
theorem laidOut : laidOutB Tryd.prog = true := by kernel_rfl
theorem tabs_of_laid {W : World} (h : laidMetH Tryd.prog Rows.spanCalcsRow.laid W) : Tabs W := by
  have h' : laidMet Tryd.prog [("math/bits.deBruijn32tab", Rows.laid_math_bits_deBruijn32tab), ("math/bits.deBruijn64tab", Rows.laid_math_bits_deBruijn64tab), ("internal/strconv.uint64pow10", Rows.laid_internal_strconv_uint64pow10)] W := h
  have hp := Lib.tabIs_of_head (zs := Lib.pow10Tab) tab_pow tab_powT Tryd.underlying87 Tryd.underlying75 tab_cellsU64 tab_cellsTab h'.tail.tail
  exact ⟨hp⟩
/-- A world that meets the condition. -/
noncomputable def laidWorld (os : Os) : World := World.laidAll Tryd.prog os Rows.spanCalcsRow.laid
theorem laidWorld_met (os : Os) (args : Array Value) : laidMetH Tryd.prog Rows.spanCalcsRow.laid ((laidWorld os).forCall (fun _ _ => 0) ⟨#[], args, []⟩).memory :=
  laidMetH_of_parts (laidMet_of_run' 8 (by kernel_rfl) (by kernel_rfl)) (by kernel_rfl)
set_option maxRecDepth 100000 in
theorem lifted (os : Os) (started : os.Started) (H : Type) (enc : TypeId × Value → H) :
    ReturnsInHanded {} Tryd.checked os 3 .any (fun w args => (Rows.spanCalcsSpec.pre enc Tryd.prog Tryd.f3 [] false w args ∧ laidMetH Tryd.prog Rows.spanCalcsRow.laid w) ∧ sizedMet enc Tryd.prog Tryd.f3 (OpenSpec.ofChange Rows.spanCalcsSpec) false w args)
      (Rows.spanCalcsSpec.post enc Tryd.prog Tryd.f3 false true false false) := by
  refine returnsInHanded_of_change_and (C := Tryd.checked) (X := fun w _ => laidMetH Tryd.prog Rows.spanCalcsRow.laid w) (fun _ _ _ hh h => h.of_heap hh) own started (by kernel_rfl) Tryd.func3
    (ChangeSpec.witness_at (enc := enc) (C := Tryd.checked) (os := os) (X := fun w _ => laidMetH Tryd.prog Rows.spanCalcsRow.laid w) false (laidWorld os) #[.int .i64 0, .agg #[.int .i64 0, .int .i64 0], .agg #[.int .i64 0, .int .i64 0]] 8 (World.laidAll_os _ _ _) (by kernel_rfl) (by kernel_rfl) (by kernel_rfl) (by kernel_rfl) (by kernel_rfl) (laidWorld_met os _)) ?_
  intro W base args ds gs before hval0 hW hcnd0 hsz0 hL hx0
  have hval : ∀ (j : Nat) t v, Tryd.f3.params[j]? = some t → args[j]? = some v → Value.okWide Tryd.prog W .any base t v := hval0
  have hW' := hW
  obtain ⟨p, q, hA0, hV, rfl, hfz, hnd⟩ := hW
  have hT := tabs_of_laid hL
  have hA : DataW.TrodAll enc Tryd.prog W 0 (fun _ => true) true Tryd.f3.params.toList args.toList ds p := hA0
  rw [Tryd.params3] at hA hval
  obtain ⟨v0, vs0, d0, ds0, p0, q0, hargs, rfl, rfl, h0, r0⟩ := trodAll_cons hA
  obtain ⟨v1, vs1, d1, ds1, p1, q1, rfl, rfl, rfl, h1, r1⟩ := trodAll_cons r0
  obtain ⟨v2, vs2, d2, ds2, p2, q2, rfl, rfl, rfl, h2, r2⟩ := trodAll_cons r1
  obtain ⟨rfl, rfl, rfl⟩ := trodAll_nil r2
  obtain rfl : args = #[v0, v1, v2] := by cases args; simp_all
  obtain ⟨rfl, rfl⟩ := trodVars_none hV
  obtain ⟨a0, rfl, rfl, rfl, w0⟩ := open_int Tryd.underlying3 (hval 0 3 v0 rfl rfl) h0
  obtain ⟨a1, b1, rfl, rfl, rfl, wa1, wb1⟩ := open_two' Tryd.underlying23 (by kernel_rfl) (by kernel_rfl) Tryd.underlying3 Tryd.underlying3 (hval 1 23 v1 rfl rfl) h1
  obtain ⟨a2, b2, rfl, rfl, rfl, wa2, wb2⟩ := open_two' Tryd.underlying23 (by kernel_rfl) (by kernel_rfl) Tryd.underlying3 Tryd.underlying3 (hval 2 23 v2 rfl rfl) h2
  clear hA0 hval0 hsz0 hcnd0 hx0
  refine (PSpanCalcs.SpanCalcs_walk a0 a1 b1 a2 b2 hT).mono fun e W' ⟨he, bel⟩ => ?_
  subst he
  exact ⟨_, rfl, _, _, _, [], _, [], hW', trodAll_mk1 (shut_bool Tryd.underlying4 _), (trodAll_cons_mk (shut_int Tryd.underlying3 w0) (trodAll_cons_mk (shut_two' Tryd.underlying23 (by kernel_rfl) (by kernel_rfl) Tryd.underlying3 Tryd.underlying3 wa1 wb1) (trodAll_cons_mk (shut_two' Tryd.underlying23 (by kernel_rfl) (by kernel_rfl) Tryd.underlying3 Tryd.underlying3 wa2 wb2) trodAll_mk0))), rfl, bel.frame _, fun h => by cases h⟩
theorem over : Rows.SpanCalcsSaid :=
  OpenClaim.holds_of_wide 3 Tryd.f3 rfl rfl rfl rfl rfl rfl rfl ⟨rfl, rfl, rfl, rfl, rfl⟩ rfl rfl rfl rfl rfl (by kernel_rfl) Tryd.func3 (by kernel_rfl)
    (of_decide_eq_true (by kernel_rfl)) (by unfold Func.isWrapper; first | (rw [if_pos (by decide +kernel)]; kernel_rfl) | (rw [if_neg (by decide +kernel)]; exact ⟨rfl, rfl⟩))
    (fun os started H enc _ => lifted os started H enc)
theorem proved : Rows.SpanCalcsCardSaid :=
  Claim7.holds_tied_plain_at .later [] [.data, .data, .data] true (true, "dd4255569846f32772da1bc8f9ad4daf2d0e0abb43648cb154e52fabfac71cc0") false
    over (fun _ h => by cases h) (by kernel_rfl) (fun _ h => by cases h) spanCalcs_row_tie rfl ⟨rfl, rfl⟩ (by kernel_rfl) rfl
    (fun f fn hf hfn => by
      obtain rfl : f = 3 := Option.some.inj ((show Tryd.prog.funcNamed "helmsman/helmsmanlaw02.SpanCalcs" = some 3 by kernel_rfl).symm.trans hf) |>.symm
      obtain rfl : fn = Tryd.f3 := (Option.some.inj (Tryd.func3.symm.trans hfn)).symm
      exact ⟨by kernel_rfl, fun j t ht => by
        rw [Tryd.params3] at ht
        have hts : t ∈ [3, 23, 23] := by
          rcases j with _ | _ | _ | j
          · simp at ht; simp [ht]
          · simp at ht; simp [ht]
          · simp at ht; simp [ht]
          · simp at ht
        simp only [List.mem_cons, List.not_mem_nil, or_false] at hts
        rcases hts with rfl | rfl | rfl <;> exact (show Tryd.prog.wantsStandIn _ = false by kernel_rfl)⟩)
    (by kernel_rfl)
#print axioms proved
end Go.Proofs.YtjddafaaplhnfaaDoor.SpanCalcs
namespace Go.Proofs.YtjddafaaplhnfaaDoor
/-- The card, under a short name, for the claim. -/
theorem spanCalcs_holds : Rows.SpanCalcsCardSaid := SpanCalcs.proved
end Go.Proofs.YtjddafaaplhnfaaDoor
