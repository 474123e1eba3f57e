/- Texts of this claim, one behind the other: Rh, Ru, Wu, Rw2, WSpanWidens, RowSpanWidens. -/
import Derived.Test.YtjddafaaplhnfaaDoorPSpanWidensx44
import Derived.Test.YtjddafaaplhnfaaDoorSpanWidensSm
import Derived.Test.YtjddafaaplhnfaaDoorPSpanWidensx47
import Derived.Test.YtjddafaaplhnfaaDoorPSpanWidensx49
import Derived.Test.YtjddafaaplhnfaaDoorPSpanWidensx50
import Derived.Test.YtjddafaaplhnfaaDoorPSpanWidensx52
import Derived.Test.YtjddafaaplhnfaaDoorPm
import Derived.Test.YtjddafaaplhnfaaDoorPSpanWidensx0
import Derived.Test.YtjddafaaplhnfaaDoorPSpanWidensx42
import Derived.Test.YtjddafaaplhnfaaDoorPSpanWidensx46
import Derived.Test.YtjddafaaplhnfaaDoorPSpanWidensx47
import Derived.Test.YtjddafaaplhnfaaDoorPSpanWidensx49
import Derived.Test.YtjddafaaplhnfaaDoorPSpanWidensx50
import Derived.Test.YtjddafaaplhnfaaDoorRows
import Derived.Test.YtjddafaaplhnfaaDoorTie
import Derived.Test.YtjddafaaplhnfaaDoorCards
import Derived.WalkKit
import Derived.ShutString
import Derived.ChangeSame
import Derived.ChangeVars
import Derived.JoinedOf
import Derived.LaidLaws
import Derived.LaidHandle
import Derived.Stop.Joined
import Derived.Stop.LaidErr
import Derived.SevenTiedAt
import Derived.Lay
import Derived.WideKeyPair
import Derived.Lib.SmallJoins
import Derived.ChangeMaps5
set_option linter.unusedVariables false
set_option linter.unusedSimpArgs false
namespace Go.Proofs.YtjddafaaplhnfaaDoor.PSpanWidens
open Go Go.RowKit Go.Proofs.YtjddafaaplhnfaaDoorW.PrintWords Go.Proofs.YtjddafaaplhnfaaDoorW.PrintLast Go.Proofs.YtjddafaaplhnfaaDoorW.PrintMore

theorem rTop : helmsmanref01_Top.f = some 1152921504606846976 := rfl
theorem rOf_f (k : Nat) (l h : Int) : helmsmanref02_Of.f (k + 1) l h = some (Sp.of l h) := by
  unfold helmsmanref02_Of.f Sp.of
  rw [rTop]
  simp only [Option.bind_some]
  rw [w64 (by omega)]
  have j0 : ∀ x, -1152921504606846976 ≤ x → helmsmanref02_Of.j0 (k + 1) x h = some (if x ≤ min h 1152921504606846976 then (x, min h 1152921504606846976) else (1, 0)) := by
    intro x hx
    simp only [helmsmanref02_Of.j0]
    have rTop : helmsmanref01_Top.f = some 1152921504606846976 := rfl
    rw [rTop]
    simp only [Option.bind_some]
    by_cases c1 : h > 1152921504606846976
    · rw [if_pos c1, show min h 1152921504606846976 = 1152921504606846976 by omega]
      by_cases c2 : x > 1152921504606846976
      · rw [if_pos c2, if_neg (by omega)]
      · rw [if_neg c2, if_pos (by omega)]
    · rw [if_neg c1, show min h 1152921504606846976 = h by omega]
      by_cases c2 : x > h
      · rw [if_pos c2, if_neg (by omega)]
      · rw [if_neg c2, if_pos (by omega)]
  by_cases c : l < -1152921504606846976
  · rw [if_pos c, j0 _ (by omega), show max l (-1152921504606846976) = -1152921504606846976 by omega]
  · rw [if_neg c, j0 _ (by omega), show max l (-1152921504606846976) = l by omega]

theorem rHull_go (l : List Int) (hl : l.length ≤ 1000000) : ∀ (d i k : Nat) (lo hi : Int), l.length - i = d → i ≤ l.length → d + 1 < k → lo ≤ hi →
    helmsmanref02_Hull.l0 k l lo hi i = some (Sp.of ((l.drop i).foldl min lo) ((l.drop i).foldl max hi)) := by
  intro d
  induction d with
  | zero =>
    intro i k lo hi hd hi2 hk hle
    obtain ⟨k, rfl⟩ : ∃ m, k = m + 2 := ⟨k - 2, by omega⟩
    have : l.drop i = [] := by rw [List.drop_eq_nil_iff]; omega
    rw [this]
    simp only [helmsmanref02_Hull.l0]
    rw [if_neg (by omega), rOf_f]; rfl
  | succ d ih =>
    intro i k lo hi hd hi2 hk hle
    obtain ⟨k, rfl⟩ : ∃ m, k = m + 1 := ⟨k - 1, by omega⟩
    have hlt : i < l.length := by omega
    have hr : rd l (i : Int) = l[i] := by unfold rd; simp [List.getD, hlt]
    have hw : wrap64 ((i : Int) + 1) = ((i + 1 : Nat) : Int) := by rw [w64 (by omega)]; omega
    rw [List.drop_eq_getElem_cons hlt]
    simp only [helmsmanref02_Hull.l0, List.foldl_cons]
    rw [if_pos (by omega), if_pos (by omega), hr, hw]
    by_cases c1 : l[i] < lo
    · rw [if_pos c1, if_neg (by omega), ih (i + 1) k _ _ (by omega) (by omega) (by omega) (by omega), show min lo l[i] = l[i] by omega, show max hi l[i] = hi by omega]
    · rw [if_neg c1]
      by_cases c2 : l[i] > hi
      · rw [if_pos c2, ih (i + 1) k _ _ (by omega) (by omega) (by omega) (by omega), show min lo l[i] = lo by omega, show max hi l[i] = l[i] by omega]
      · rw [if_neg c2, ih (i + 1) k _ _ (by omega) (by omega) (by omega) (by omega), show min lo l[i] = lo by omega, show max hi l[i] = hi by omega]
theorem rHull_f (l : List Int) (hl : l.length ≤ 1000000) (k : Nat) (hk : l.length + 1 < k) : helmsmanref02_Hull.f k l = some (Sp.hull l) := by
  unfold helmsmanref02_Hull.f Sp.hull
  cases l with
  | nil => rfl
  | cons x r =>
    rw [if_neg (by simp; omega), if_pos (by simp), if_neg (by simp)]
    have h0 : rd (x :: r) 0 = x := rfl
    rw [h0]
    have := rHull_go (x :: r) hl (x :: r).length 0 k x x rfl (by omega) (by omega) (by omega)
    rw [List.drop_zero] at this
    have e : ((0 : Nat) : Int) = 0 := rfl
    rw [e] at this
    rw [this]
    simp only [List.foldl_cons, Sp.minL, Sp.maxL]
    rw [show min x x = x by omega, show max x x = x by omega]
end Go.Proofs.YtjddafaaplhnfaaDoor.PSpanWidens

set_option linter.unusedVariables false
set_option linter.unusedSimpArgs false
namespace Go.Proofs.YtjddafaaplhnfaaDoor.PSpanWidens
open Go Go.RowKit Go.Proofs.YtjddafaaplhnfaaDoorW.PrintWords Go.Proofs.YtjddafaaplhnfaaDoorW.PrintLast Go.Proofs.YtjddafaaplhnfaaDoorW.PrintMore

theorem rIn_f (a : Int) : helmsmanref01_In.f a = some (Bd.inn a) := by
  unfold helmsmanref01_In.f Bd.inn
  rw [rTop]
  simp only [Option.bind_some]
  rw [w64 (by omega)]
  by_cases h : a ≥ -1152921504606846976
  · rw [if_pos h, decide_eq_true (show -1152921504606846976 ≤ a from h), Bool.true_and]
  · rw [if_neg h, decide_eq_false (show ¬ -1152921504606846976 ≤ a from h), Bool.false_and]
theorem rRight_f (k : Nat) (a b : Int) : helmsmanref02_Right.f (k + 1) a b = some (Sp.right a b) := by
  unfold helmsmanref02_Right.f
  have j0 : ∀ x, helmsmanref02_Right.j0 (k + 1) x a b = some (if x = true then true else Sp.ok a b) := by
    intro x
    simp only [helmsmanref02_Right.j0]
    cases x
    · rw [if_neg (by simp), if_neg (by simp), rIn_f, rIn_f]
      simp only [Option.bind_some]
      have e : Sp.ok a b = true ↔ Bd.inn a = true ∧ Bd.inn b = true ∧ a ≤ b := by rw [Sp.ok_iff, Bd.inn_iff, Bd.inn_iff]; omega
      cases ha : Bd.inn a
      · rw [if_neg (by simp)]; cases h : Sp.ok a b
        · rfl
        · rw [h, ha] at e; simp at e
      · rw [if_pos rfl]
        cases hb : Bd.inn b
        · rw [if_neg (by simp)]; cases h : Sp.ok a b
          · rfl
          · rw [h, hb] at e; simp at e
        · rw [if_pos rfl]
          congr 1
          rw [Bool.eq_iff_iff, e]; simp [ha, hb]
    · rfl
  unfold Sp.right
  by_cases c : a = 1
  · rw [if_pos c, j0]
    congr 1
    subst c
    cases Sp.ok 1 b <;> cases (b == 0) <;> rfl
  · rw [if_neg c, j0, if_neg (by simp), beq_false_of_ne c]
    simp
theorem rNone_f (k : Nat) (a b : Int) : helmsmanref02_None.f (k + 1) a b = some (!Sp.ok a b) := by
  unfold helmsmanref02_None.f
  rw [rRight_f]
  simp only [Option.bind_some, Sp.right]
  cases h : Sp.ok a b
  · by_cases c : (a == 1 && b == 0) = true
    · rw [c]
      simp only [Bool.and_eq_true, beq_iff_eq] at c
      simp [c.1, c.2]
    · rw [Bool.not_eq_true] at c
      rw [c]
      rfl
  · have := Sp.ok_iff.1 h
    simp
    omega
theorem rHas_f (k : Nat) (a b n : Int) : helmsmanref02_Has.f (k + 1) a b n = some (Sp.has a b n) := by
  unfold helmsmanref02_Has.f Sp.has
  rw [rNone_f]
  simp only [Option.bind_some]
  cases h : Sp.ok a b
  · rfl
  · rw [if_neg (by simp)]
    by_cases c : a ≤ n
    · rw [if_pos c]; simp [c]
    · rw [if_neg c]; simp [c]
theorem rLeq_f (k : Nat) (a0 a1 b0 b1 : Int) : helmsmanref02_Leq.f (k + 1) a0 a1 b0 b1 = some (Sp.leq a0 a1 b0 b1) := by
  unfold helmsmanref02_Leq.f Sp.leq
  rw [rNone_f, rHas_f, rHas_f]
  simp only [Option.bind_some]
  cases h : Sp.ok a0 a1
  · rfl
  · have h' := Sp.ok_iff.1 h
    have e0 := Sp.has_iff (l := b0) (h := b1) (n := a0)
    have e1 := Sp.has_iff (l := b0) (h := b1) (n := a1)
    rw [if_neg (by simp)]
    have key : ((Sp.has b0 b1 a0 && Sp.has b0 b1 a1) = true) ↔ ((Sp.ok b0 b1 && (decide (b0 ≤ a0) && decide (a1 ≤ b1))) = true) := by
      rw [Bool.and_eq_true, e0, e1]
      simp only [Bool.and_eq_true, decide_eq_true_eq]
      constructor
      · rintro ⟨⟨h1, h2, h3⟩, _, h4, h5⟩
        exact ⟨h1, h2, h5⟩
      · rintro ⟨h1, h2, h3⟩
        exact ⟨⟨h1, h2, by omega⟩, h1, by omega, h3⟩
    have key' := Bool.eq_iff_iff.2 key
    simp only [Bool.not_true, Bool.false_or]
    rw [← key']
    cases Sp.has b0 b1 a0 <;> simp
theorem rJoin_f (k : Nat) (hk : 20 ≤ k) (a0 a1 b0 b1 : Int) : helmsmanref02_Join.f k a0 a1 b0 b1 = some (Sp.join a0 a1 b0 b1) := by
  obtain ⟨k, rfl⟩ : ∃ m, k = m + 2 := ⟨k - 2, by omega⟩
  unfold helmsmanref02_Join.f Sp.join Sp.clean
  rw [rNone_f]
  simp only [Option.bind_some, helmsmanref02_Join.j0, rNone_f]
  have hu : ∀ l : List Int, l.length ≤ 4 → helmsmanref02_Hull.f (k + 1) l = some (Sp.hull l) := fun l hl => rHull_f l (by omega) (k + 1) (by omega)
  have h2 : ∀ x y, Sp.ok x y = true → Sp.hull [x, y] = (x, y) := by
    intro x y h
    have h' := Sp.ok_iff.1 h
    show Sp.of (min x y) (max x y) = _
    rw [show min x y = x by omega, show max x y = y by omega, Sp.of_id h]
  cases h1 : Sp.ok a0 a1 <;> cases h3 : Sp.ok b0 b1
  · simp [hu]; exact ⟨rfl, rfl⟩
  · simp [hu, h2 b0 b1 h3]
  · simp [hu, h2 a0 a1 h1]
  · have e1 := Sp.ok_iff.1 h1
    have e2 := Sp.ok_iff.1 h3
    have : Sp.hull [a0, a1, b0, b1] = (min a0 b0, max a1 b1) := by
      show Sp.of (min (min (min a0 a1) b0) b1) (max (max (max a0 a1) b0) b1) = _
      rw [show min (min (min a0 a1) b0) b1 = min a0 b0 by omega, show max (max (max a0 a1) b0) b1 = max a1 b1 by omega]
      exact Sp.of_id (Sp.ok_iff.2 (by omega))
    simp [hu, this]
theorem rLower_go (l : List Int) (n : Int) (hl : l.length ≤ 1000000) : ∀ (d i k : Nat) (out : Int), l.length - i = d → i ≤ l.length → d + 1 < k →
    helmsmanref02_lower.l0 k l n out i = some (Sp.lowR n (l.drop i) out) := by
  intro d
  induction d with
  | zero =>
    intro i k out hd hi2 hk
    obtain ⟨k, rfl⟩ : ∃ m, k = m + 1 := ⟨k - 1, by omega⟩
    have : l.drop i = [] := by rw [List.drop_eq_nil_iff]; omega
    rw [this]
    simp only [helmsmanref02_lower.l0]
    rw [if_neg (by omega)]; rfl
  | succ d ih =>
    intro i k out hd hi2 hk
    obtain ⟨k, rfl⟩ : ∃ m, k = m + 1 := ⟨k - 1, by omega⟩
    have hlt : i < l.length := by omega
    have hr : rd l (i : Int) = l[i] := by unfold rd; simp [List.getD, hlt]
    have hw : wrap64 ((i : Int) + 1) = ((i + 1 : Nat) : Int) := by rw [w64 (by omega)]; omega
    rw [List.drop_eq_getElem_cons hlt]
    unfold Sp.lowR
    simp only [helmsmanref02_lower.l0, List.foldl_cons]
    rw [if_pos (by omega), if_pos (by omega), hr, hw, rIn_f]
    simp only [Option.bind_some]
    have ih' := fun out => ih (i + 1) k out (by omega) (by omega) (by omega)
    unfold Sp.lowR at ih'
    cases h1 : Bd.inn l[i]
    · rw [if_neg (by simp), ih', if_neg (by simp)]
    · rw [if_pos rfl]
      by_cases h2 : l[i] ≤ n
      · rw [if_pos h2]
        by_cases h3 : l[i] > out
        · rw [if_pos h3, ih', if_pos ⟨rfl, h2, h3⟩]
        · rw [if_neg h3, ih', if_neg (fun c => h3 c.2.2)]
      · rw [if_neg h2, ih', if_neg (fun c => h2 c.2.1)]
theorem rLower_f (l : List Int) (n : Int) (hl : l.length ≤ 1000000) (k : Nat) (hk : l.length + 1 < k) : helmsmanref02_lower.f k l n = some (Sp.lowS n l (-1152921504606846976)) := by
  unfold helmsmanref02_lower.f
  rw [rTop]
  simp only [Option.bind_some]
  rw [w64 (by omega)]
  have := rLower_go l n hl l.length 0 k (-1152921504606846976) (by omega) (by omega) (by omega)
  have e : ((0 : Nat) : Int) = 0 := rfl
  rw [e, List.drop_zero] at this
  rw [this, Sp.lowR_eq]
theorem minus_length (l : List Int) : (Sp.minus l).length ≤ l.length := by
  unfold Sp.minus
  rw [List.length_map]
  exact List.length_filter_le _ _
theorem rNarrow_f (a0 a1 b0 b1 : Int) : helmsmanref02_Narrow.f 30 a0 a1 b0 b1 = some (Sp.narrow a0 a1 b0 b1) := by
  unfold helmsmanref02_Narrow.f Sp.narrow
  rw [rNone_f 29, rNone_f 29]
  simp only [Option.bind_some]
  have hw : wrap64 (-1152921504606846976) = -1152921504606846976 := by rw [w64 (by omega)]
  have j1 : ∀ x y, helmsmanref02_Narrow.j1 29 a0 a1 b0 b1 x y = some (Sp.of x (if a1 = 1152921504606846976 then b1 else y)) := by
    intro x y
    simp only [helmsmanref02_Narrow.j1, rTop, Option.bind_some, rOf_f]
    split <;> rfl
  have j0 : helmsmanref02_Narrow.j0 30 false a0 a1 b0 b1 = some (Sp.of (if a0 = -1152921504606846976 then b0 else a0) (if a1 = 1152921504606846976 then b1 else a1)) := by
    simp only [helmsmanref02_Narrow.j0, rTop, Option.bind_some, hw]
    rw [if_neg (by simp)]
    split
    · rw [j1]
    · rw [j1]
  have jt : helmsmanref02_Narrow.j0 30 true a0 a1 b0 b1 = some (1, 0) := by
    simp only [helmsmanref02_Narrow.j0]
    rw [if_pos trivial]
  cases h1 : Sp.ok a0 a1
  · rw [if_pos (by simp), jt, if_neg (by simp)]
  · rw [if_neg (by simp)]
    cases h2 : Sp.ok b0 b1
    · rw [if_neg (by simp)]; exact jt
    · rw [if_pos ⟨rfl, rfl⟩]; exact j0
theorem rnarrow_to (a0 a1 b0 b1 v1 v2 : Int) (h : Sp.narrow a0 a1 b0 b1 = (v1, v2)) (w : World) :
    Calls Tryd.prog 18 #[.agg #[.int .i64 a0, .int .i64 a1], .agg #[.int .i64 b0, .int .i64 b1]] w fun e w' => e = .returned (.agg #[.int .i64 v1, .int .i64 v2]) ∧ Below w.heap.size w w' :=
  (helmsmanref02_Narrow.calls 30 a0 a1 b0 b1 v1 v2 w (by rw [rNarrow_f, h])).mono fun e w' h => ⟨h.1, by first | exact h.2 | exact h.2.below⟩
end Go.Proofs.YtjddafaaplhnfaaDoor.PSpanWidens

namespace Go.Proofs.YtjddafaaplhnfaaDoor.PSpanWidens
open Go.RowKit Go.Proofs.YtjddafaaplhnfaaDoorW.PrintWords Go.Proofs.YtjddafaaplhnfaaDoorW.PrintLast Go.Proofs.YtjddafaaplhnfaaDoorW.PrintMore
attribute [local go_sem] max2_int min2_int max_two min_two max_three min_three max_four min_four   -- for this text's walks alone
set_option linter.unusedVariables false
set_option linter.unusedSimpArgs false

/-! ### helmsmanref02_Widen: function 17 -/
def helmsmanref02_Widen.l0 : Nat → List Int → List Int → Int → Int → Int → Int → Int → Option (Int × Int)
  | 0, _, _, _, _, _, _, _ => none
  | k + 1, x2, x7, x8, x293000, x293001, x294000, x294001 => if x8 < (x2.length : Int) then (if 0 ≤ x8 then ((helmsmanref01_In.f (rd x2 x8)).bind fun t300 => (if t300 = true then (if x7.length < 17592186044416 then (helmsmanref02_Widen.l0 k x2 (x7 ++ [wrap64 (-(rd x2 x8))]) (wrap64 (x8 + 1)) x293000 x293001 x294000 x294001) else (none)) else (helmsmanref02_Widen.l0 k x2 x7 (wrap64 (x8 + 1)) x293000 x293001 x294000 x294001))) else (none)) else (if x294000 < x293000 then ((helmsmanref02_lower.f k x2 x294000).bind fun t306 => (if x294001 > x293001 then ((helmsmanref02_lower.f k x7 (wrap64 (-x294001))).bind fun t307 => (some (t306, wrap64 (-t307)))) else (some (t306, x293001)))) else (if x294001 > x293001 then ((helmsmanref02_lower.f k x7 (wrap64 (-x294001))).bind fun t308 => (some (x293000, wrap64 (-t308)))) else (some (x293000, x293001))))
def helmsmanref02_Widen.f (k : Nat) (a0_0 : Int) (a0_1 : Int) (a1_0 : Int) (a1_1 : Int) (l2 : List Int) : Option (Int × Int) := (helmsmanref02_Leq.f k a1_0 a1_1 a0_0 a0_1).bind fun t295 => (if t295 = true then ((helmsmanref02_Join.f k a0_0 a0_1 a0_0 a0_1).bind fun bt296 => (some (bt296.1, bt296.2))) else ((helmsmanref02_None.f k a0_0 a0_1).bind fun t298 => (if t298 = true then (some (a1_0, a1_1)) else (helmsmanref02_Widen.l0 k l2 ([] : List Int) 0 a0_0 a0_1 a1_0 a1_1))))
theorem helmsmanref02_Widen.mono_l : ∀ k, (∀ y0 y1 y2 y3 y4 y5 y6, LeO (helmsmanref02_Widen.l0 k y0 y1 y2 y3 y4 y5 y6) (helmsmanref02_Widen.l0 (k + 1) y0 y1 y2 y3 y4 y5 y6))
  | 0 => fun _ _ _ _ _ _ _ r h => by simp [helmsmanref02_Widen.l0] at h
  | k + 1 => by
    have ih0 := helmsmanref02_Widen.mono_l k
    · intro y0 y1 y2 y3 y4 y5 y6
      unfold helmsmanref02_Widen.l0
      repeat' first
      | (with_reducible exact ih0 _ _ _ _ _ _ _)
      | (with_reducible exact helmsmanref02_Join.mono _ _ _ _ _)
      | (with_reducible exact helmsmanref02_Leq.mono _ _ _ _ _)
      | (with_reducible exact helmsmanref02_None.mono _ _ _)
      | (with_reducible exact helmsmanref02_lower.mono _ _ _)
      | (with_reducible exact LeO.refl _)
      | (with_reducible exact LeO.none _)
      | (with_reducible refine LeO.ite ?_ ?_)
      | (with_reducible refine LeO.bind ?_ (fun _ => ?_))
      | exact ih0 _ _ _ _ _ _ _
      | exact helmsmanref02_Join.mono _ _ _ _ _
      | exact helmsmanref02_Leq.mono _ _ _ _ _
      | exact helmsmanref02_None.mono _ _ _
      | exact helmsmanref02_lower.mono _ _ _
      | exact LeO.none _
      | refine LeO.ite ?_ ?_
      | refine LeO.bind ?_ (fun _ => ?_)
theorem helmsmanref02_Widen.mono : ∀ a0 a1 a2 a3 a4 k, LeO (helmsmanref02_Widen.f k a0 a1 a2 a3 a4) (helmsmanref02_Widen.f (k + 1) a0 a1 a2 a3 a4) := by
  intro a0 a1 a2 a3 a4 k
  have ih0 := helmsmanref02_Widen.mono_l k
  unfold helmsmanref02_Widen.f
  repeat' first
      | (with_reducible exact ih0 _ _ _ _ _ _ _)
      | (with_reducible exact helmsmanref02_Join.mono _ _ _ _ _)
      | (with_reducible exact helmsmanref02_Leq.mono _ _ _ _ _)
      | (with_reducible exact helmsmanref02_None.mono _ _ _)
      | (with_reducible exact helmsmanref02_lower.mono _ _ _)
      | (with_reducible exact LeO.refl _)
      | (with_reducible exact LeO.none _)
      | (with_reducible refine LeO.ite ?_ ?_)
      | (with_reducible refine LeO.bind ?_ (fun _ => ?_))
      | exact ih0 _ _ _ _ _ _ _
      | exact helmsmanref02_Join.mono _ _ _ _ _
      | exact helmsmanref02_Leq.mono _ _ _ _ _
      | exact helmsmanref02_None.mono _ _ _
      | exact helmsmanref02_lower.mono _ _ _
      | exact LeO.none _
      | refine LeO.ite ?_ ?_
      | refine LeO.bind ?_ (fun _ => ?_)
set_option maxHeartbeats 8000000 in
set_option maxRecDepth 100000 in
theorem helmsmanref02_Widen.calls (k : Nat) (a0_0 : Int) (a0_1 : Int) (a1_0 : Int) (a1_1 : Int) (A2 : Option Addr) (c2 : Nat) (l2 : List Int) (r1 : Int) (r2 : Int) (w : World) (hr2 : Kd.C (Kd.int .i64) w A2 l2.length l2) (hc2 : l2.length ≤ c2) (h : helmsmanref02_Widen.f k a0_0 a0_1 a1_0 a1_1 l2 = some (r1, r2)) :
    Calls Tryd.prog 17 #[.agg #[.int .i64 a0_0, .int .i64 a0_1], .agg #[.int .i64 a1_0, .int .i64 a1_1], .slice A2 l2.length c2] w fun e w' => e = .returned (.agg #[.int .i64 r1, .int .i64 r2]) ∧ Below w.heap.size w w' := by
  have hu23 := Tryd.underlying23
  have HR2 := Aside0.mk hr2
  have HC2 := Aside0.mk hc2
  clear hr2 hc2
  have HB := Aside0.mk (Below.refl w.heap.size w)
  have H : ((helmsmanref02_Leq.f k a1_0 a1_1 a0_0 a0_1).bind fun t295 => (if t295 = true then ((helmsmanref02_Join.f k a0_0 a0_1 a0_0 a0_1).bind fun bt296 => (some (bt296.1, bt296.2))) else ((helmsmanref02_None.f k a0_0 a0_1).bind fun t298 => (if t298 = true then (some (a1_0, a1_1)) else (helmsmanref02_Widen.l0 k l2 ([] : List Int) 0 a0_0 a0_1 a1_0 a1_1))))) = some (r1, r2) := h
  clear h
  replace H := Option.bind_eq_some_iff.mp H
  obtain ⟨t295, A40, H⟩ := H
  replace H : (if t295 = true then ((helmsmanref02_Join.f k a0_0 a0_1 a0_0 a0_1).bind fun bt296 => (some (bt296.1, bt296.2))) else ((helmsmanref02_None.f k a0_0 a0_1).bind fun t298 => (if t298 = true then (some (a1_0, a1_1)) else (helmsmanref02_Widen.l0 k l2 ([] : List Int) 0 a0_0 a0_1 a1_0 a1_1)))) = some (r1, r2) := H
  have A4 := Aside0.mk A40
  clear A40
  by_cases c5 : t295 = true
  · subst c5
    have H1 : ((helmsmanref02_Join.f k a0_0 a0_1 a0_0 a0_1).bind fun bt296 => (some (bt296.1, bt296.2))) = some (r1, r2) := by rw [if_pos rfl] at H; exact H
    clear H
    have H := H1
    clear H1
    replace H := Option.bind_eq_some_iff.mp H
    obtain ⟨⟨t296, t297⟩, A60, H⟩ := H
    replace H : (some (t296, t297)) = some (r1, r2) := H
    have A6 := Aside0.mk A60
    clear A60
    simp only [Option.some.injEq, Prod.mk.injEq] at H
    obtain ⟨rfl, rfl⟩ := H
    go_enter Tryd.func17, Tryd.ntmps17
    go_wp2_with (first | ((with_reducible refine gate_dst (N := 3) rfl ?_); refine box_event ?hg (N := 3) ?hd (cs := #[.int .i64 a0_0, .int .i64 a0_1]) (t := 23) ?hr ?_; (case hd => rfl); (case hg => rfl); (case hr => first | (go_simp; done) | (go_simp; rfl)); intro gb292 hg w7 hbox hb; have n0_ := Aside0.mk (below_step (by repeat (first | (with_reducible first | exact HB.out | apply below_alloc | apply pw_below_drewN | apply below_drew1) | exact HB.out)) hb); have n1_ := Aside0.mk (hbox); have n2_ := Aside0.mk ((by rw [hg]; exact (below_size (by repeat (first | (with_reducible first | exact HB.out | apply below_alloc | apply pw_below_drewN | apply below_drew1) | exact HB.out))) : w.heap.size ≤ gb292)); have n3_ := Aside0.mk ((by rw [hg]; exact (below_size (by repeat (first | (with_reducible first | exact HB.out | apply below_alloc | apply pw_below_drewN | apply below_drew1) | exact HB.out))) : w.heap.size ≤ gb292)); clear HB; have HB := n0_; have BK292 := n1_; have GW292 := n2_; have GE292 := n3_; clear n0_ n1_ n2_ n3_; clear hb hbox hg) | ((with_reducible refine gate_dst (N := 4) rfl ?_); refine box_event ?hg (N := 4) ?hd (cs := #[.int .i64 a1_0, .int .i64 a1_1]) (t := 23) ?hr ?_; (case hd => rfl); (case hg => rfl); (case hr => first | (go_simp; done) | (go_simp; rfl)); intro gb293 hg w8 hbox hb; have n0_ := Aside0.mk (blk_below (g := gb292) (o := .cells #[.int .i64 a0_0, .int .i64 a0_1] 23 (0, 0)) (by (with_reducible repeat (first | refine blk_drewN ?_ _ | refine blk_drew ?_ | refine blk_alloc ?_ _)); exact BK292.out) hb); have n1_ := Aside0.mk (below_step (by repeat (first | (with_reducible first | exact HB.out | apply below_alloc | apply pw_below_drewN | apply below_drew1 | refine below_set ?_ GE292.out) | exact HB.out)) hb); have n2_ := Aside0.mk (hbox); have n3_ := Aside0.mk ((by rw [hg]; exact (below_size (by repeat (first | (with_reducible first | exact HB.out | apply below_alloc | apply pw_below_drewN | apply below_drew1 | refine below_set ?_ GE292.out) | exact HB.out))) : w.heap.size ≤ gb293)); have n4_ := Aside0.mk ((by rw [hg]; exact (below_size (by repeat (first | (with_reducible first | exact HB.out | apply below_alloc | apply pw_below_drewN | apply below_drew1 | refine below_set ?_ GE292.out) | exact HB.out))) : w.heap.size ≤ gb293)); have n5_ := Aside0.mk ((by rw [hg]; exact Nat.ne_of_lt (blk_lt (g := gb292) (o := .cells #[.int .i64 a0_0, .int .i64 a0_1] 23 (0, 0)) (by (with_reducible repeat (first | refine blk_drewN ?_ _ | refine blk_drew ?_ | refine blk_alloc ?_ _)); exact BK292.out)) : gb292 ≠ gb293)); have n6_ := Aside0.mk ((by rw [hg]; exact Nat.ne_of_gt (blk_lt (g := gb292) (o := .cells #[.int .i64 a0_0, .int .i64 a0_1] 23 (0, 0)) (by (with_reducible repeat (first | refine blk_drewN ?_ _ | refine blk_drew ?_ | refine blk_alloc ?_ _)); exact BK292.out)) : gb293 ≠ gb292)); clear BK292; clear HB; have BK292 := n0_; have HB := n1_; have BK293 := n2_; have GW293 := n3_; have GE293 := n4_; have NB292_293 := n5_; have NB293_292 := n6_; clear n0_ n1_ n2_ n3_ n4_ n5_ n6_; clear hb hbox hg) | ((with_reducible refine gate_dst (N := 6) rfl ?_); refine box_event ?hg (N := 6) ?hd (cs := #[.int .i64 0, .int .i64 0]) (t := 23) ?hr ?_; (case hd => rfl); (case hg => rfl); (case hr => first | (go_simp; done) | (go_simp; rfl)); intro gb294 hg w9 hbox hb; have n0_ := Aside0.mk (blk_below (g := gb292) (o := .cells #[.int .i64 a0_0, .int .i64 a0_1] 23 (0, 0)) (by (with_reducible repeat (first | refine blk_drewN ?_ _ | refine blk_drew ?_ | refine blk_alloc ?_ _)); exact BK292.out) hb); have n1_ := Aside0.mk (blk_below (g := gb293) (o := .cells #[.int .i64 a1_0, .int .i64 a1_1] 23 (0, 0)) (by (with_reducible repeat (first | refine blk_drewN ?_ _ | refine blk_drew ?_ | refine blk_alloc ?_ _)); exact BK293.out) hb); have n2_ := Aside0.mk (below_step (by repeat (first | (with_reducible first | exact HB.out | apply below_alloc | apply pw_below_drewN | apply below_drew1 | refine below_set ?_ GE292.out | refine below_set ?_ GE293.out) | exact HB.out)) hb); have n3_ := Aside0.mk (hbox); have n4_ := Aside0.mk ((by rw [hg]; exact (below_size (by repeat (first | (with_reducible first | exact HB.out | apply below_alloc | apply pw_below_drewN | apply below_drew1 | refine below_set ?_ GE292.out | refine below_set ?_ GE293.out) | exact HB.out))) : w.heap.size ≤ gb294)); have n5_ := Aside0.mk ((by rw [hg]; exact (below_size (by repeat (first | (with_reducible first | exact HB.out | apply below_alloc | apply pw_below_drewN | apply below_drew1 | refine below_set ?_ GE292.out | refine below_set ?_ GE293.out) | exact HB.out))) : w.heap.size ≤ gb294)); have n6_ := Aside0.mk ((by rw [hg]; exact Nat.ne_of_lt (blk_lt (g := gb292) (o := .cells #[.int .i64 a0_0, .int .i64 a0_1] 23 (0, 0)) (by (with_reducible repeat (first | refine blk_drewN ?_ _ | refine blk_drew ?_ | refine blk_alloc ?_ _)); exact BK292.out)) : gb292 ≠ gb294)); have n7_ := Aside0.mk ((by rw [hg]; exact Nat.ne_of_gt (blk_lt (g := gb292) (o := .cells #[.int .i64 a0_0, .int .i64 a0_1] 23 (0, 0)) (by (with_reducible repeat (first | refine blk_drewN ?_ _ | refine blk_drew ?_ | refine blk_alloc ?_ _)); exact BK292.out)) : gb294 ≠ gb292)); have n8_ := Aside0.mk ((by rw [hg]; exact Nat.ne_of_lt (blk_lt (g := gb293) (o := .cells #[.int .i64 a1_0, .int .i64 a1_1] 23 (0, 0)) (by (with_reducible repeat (first | refine blk_drewN ?_ _ | refine blk_drew ?_ | refine blk_alloc ?_ _)); exact BK293.out)) : gb293 ≠ gb294)); have n9_ := Aside0.mk ((by rw [hg]; exact Nat.ne_of_gt (blk_lt (g := gb293) (o := .cells #[.int .i64 a1_0, .int .i64 a1_1] 23 (0, 0)) (by (with_reducible repeat (first | refine blk_drewN ?_ _ | refine blk_drew ?_ | refine blk_alloc ?_ _)); exact BK293.out)) : gb294 ≠ gb293)); clear BK292; clear BK293; clear HB; have BK292 := n0_; have BK293 := n1_; have HB := n2_; have BK294 := n3_; have GW294 := n4_; have GE294 := n5_; have NB292_294 := n6_; have NB294_292 := n7_; have NB293_294 := n8_; have NB294_293 := n9_; clear n0_ n1_ n2_ n3_ n4_ n5_ n6_ n7_ n8_ n9_; clear hb hbox hg; have hnb10 := NB293_292.out; have hnc10 := NB292_293.out; have hnb11 := NB293_294.out; have hnc11 := NB294_293.out; have hcz12_0 : w9.cell? ⟨gb293, 0, none⟩ = some (.int .i64 a1_0) := (blk_cell BK293.out 0).trans rfl; have hcz12_1 : w9.cell? ⟨gb293, 1, none⟩ = some (.int .i64 a1_1) := (blk_cell BK293.out 1).trans rfl; have hfz12_0 := blk_frozen BK293.out 0; have hfz12_1 := blk_frozen BK293.out 1; have hnb13 := NB292_294.out; have hnc13 := NB294_292.out; have hcz14_0 : w9.cell? ⟨gb292, 0, none⟩ = some (.int .i64 a0_0) := (blk_cell BK292.out 0).trans rfl; have hcz14_1 : w9.cell? ⟨gb292, 1, none⟩ = some (.int .i64 a0_1) := (blk_cell BK292.out 1).trans rfl; have hfz14_0 := blk_frozen BK292.out 0; have hfz14_1 := blk_frozen BK292.out 1) | ((with_reducible refine gate_callee (f := 29) rfl ?_); refine goesL_ (some 12) rfl rfl Tryd.func29 (by kernel_rfl) rfl #[.agg #[.int .i64 a1_0, .int .i64 a1_1], .agg #[.int .i64 a0_0, .int .i64 a0_1]] rfl (by (try simp only [List.map_toArray, List.map_cons, List.map_nil]); first | done | rfl | (simp only [List.length_drop, List.length_take]; rfl)) ?_; (with_reducible refine (helmsmanref02_Leq.calls k a1_0 a1_1 a0_0 a0_1 true _ A4.out).mono ?_); rintro e w15 ⟨rfl, hb⟩; refine ⟨_, rfl, ?_⟩; have n0_ := Aside0.mk (blk_below (g := gb292) (o := .cells #[.int .i64 a0_0, .int .i64 a0_1] 23 (0, 0)) (by (with_reducible repeat (first | refine blk_drewN ?_ _ | refine blk_drew ?_ | refine blk_alloc ?_ _)); exact BK292.out) hb); have n1_ := Aside0.mk (blk_below (g := gb293) (o := .cells #[.int .i64 a1_0, .int .i64 a1_1] 23 (0, 0)) (by (with_reducible repeat (first | refine blk_drewN ?_ _ | refine blk_drew ?_ | refine blk_alloc ?_ _)); exact BK293.out) hb); have n2_ := Aside0.mk (blk_below (g := gb294) (o := .cells #[.int .i64 0, .int .i64 0] 23 (0, 0)) (by (with_reducible repeat (first | refine blk_drewN ?_ _ | refine blk_drew ?_ | refine blk_alloc ?_ _)); exact BK294.out) hb); have n3_ := Aside0.mk (below_step (by repeat (first | (with_reducible first | exact HB.out | apply below_alloc | apply pw_below_drewN | apply below_drew1 | refine below_set ?_ GE292.out | refine below_set ?_ GE293.out | refine below_set ?_ GE294.out) | exact HB.out)) hb); clear BK292; clear BK293; clear BK294; clear HB; have BK292 := n0_; have BK293 := n1_; have BK294 := n2_; have HB := n3_; clear n0_ n1_ n2_ n3_; (try clear hb); (try clear hb2); (try clear hk); (try clear hi); have hcz16_0 : w15.cell? ⟨gb292, 0, none⟩ = some (.int .i64 a0_0) := (blk_cell BK292.out 0).trans rfl; have hcz16_1 : w15.cell? ⟨gb292, 1, none⟩ = some (.int .i64 a0_1) := (blk_cell BK292.out 1).trans rfl; have hfz16_0 := blk_frozen BK292.out 0; have hfz16_1 := blk_frozen BK292.out 1) | ((with_reducible refine gate_callee (f := 27) rfl ?_); refine goesL_ (some 15) rfl rfl Tryd.func27 (by kernel_rfl) rfl #[.agg #[.int .i64 a0_0, .int .i64 a0_1], .agg #[.int .i64 a0_0, .int .i64 a0_1]] rfl (by (try simp only [List.map_toArray, List.map_cons, List.map_nil]); first | done | rfl | (simp only [List.length_drop, List.length_take]; rfl)) ?_; (with_reducible refine (helmsmanref02_Join.calls k a0_0 a0_1 a0_0 a0_1 t296 t297 _ A6.out).mono ?_); rintro e w17 ⟨rfl, hb⟩; refine ⟨_, rfl, ?_⟩; have n0_ := Aside0.mk (blk_below (g := gb292) (o := .cells #[.int .i64 a0_0, .int .i64 a0_1] 23 (0, 0)) (by (with_reducible repeat (first | refine blk_drewN ?_ _ | refine blk_drew ?_ | refine blk_alloc ?_ _)); exact BK292.out) hb); have n1_ := Aside0.mk (blk_below (g := gb293) (o := .cells #[.int .i64 a1_0, .int .i64 a1_1] 23 (0, 0)) (by (with_reducible repeat (first | refine blk_drewN ?_ _ | refine blk_drew ?_ | refine blk_alloc ?_ _)); exact BK293.out) hb); have n2_ := Aside0.mk (blk_below (g := gb294) (o := .cells #[.int .i64 0, .int .i64 0] 23 (0, 0)) (by (with_reducible repeat (first | refine blk_drewN ?_ _ | refine blk_drew ?_ | refine blk_alloc ?_ _)); exact BK294.out) hb); have n3_ := Aside0.mk (below_step (by repeat (first | (with_reducible first | exact HB.out | apply below_alloc | apply pw_below_drewN | apply below_drew1 | refine below_set ?_ GE292.out | refine below_set ?_ GE293.out | refine below_set ?_ GE294.out) | exact HB.out)) hb); clear BK292; clear BK293; clear BK294; clear HB; have BK292 := n0_; have BK293 := n1_; have BK294 := n2_; have HB := n3_; clear n0_ n1_ n2_ n3_; (try clear hb); (try clear hb2); (try clear hk); (try clear hi); have hcz18_0 : w17.cell? ⟨gb294, 0, none⟩ = some (.int .i64 0) := (blk_cell BK294.out 0).trans rfl; have hcz18_1 : w17.cell? ⟨gb294, 1, none⟩ = some (.int .i64 0) := (blk_cell BK294.out 1).trans rfl; have hfz18_0 := blk_frozen BK294.out 0; have hfz18_1 := blk_frozen BK294.out 1))
    refine bodyPost_ret (results_cell_row rfl _ _ gb294 23 #[.int .i64 t296, .int .i64 t297] (0, 0) _ rfl (by (with_reducible repeat (first | refine blk_drewN ?_ _ | refine blk_drew ?_ | refine blk_alloc ?_ _)); refine blk_put (cs := #[.int .i64 t296, .int .i64 0]) ?_ 1 _ rfl; (with_reducible repeat (first | refine blk_drewN ?_ _ | refine blk_drew ?_ | refine blk_alloc ?_ _)); refine blk_put (cs := #[.int .i64 0, .int .i64 0]) ?_ 0 _ rfl; (with_reducible repeat (first | refine blk_drewN ?_ _ | refine blk_drew ?_ | refine blk_alloc ?_ _)); exact BK294.out) Tryd.underlying23 rfl (by kernel_rfl)) rfl ?_
    exact ⟨by first | rfl | (simp [errW_none, errW_some] <;> rfl) | (simp [*, errW_none, errW_some] <;> rfl), by repeat (first | (with_reducible first | exact HB.out | apply below_alloc | apply pw_below_drewN | apply below_drew1 | refine below_set ?_ GE292.out | refine below_set ?_ GE293.out | refine below_set ?_ GE294.out) | exact HB.out)⟩
  · replace c5 := Bool.eq_false_iff.mpr c5
    subst c5
    have H1 : ((helmsmanref02_None.f k a0_0 a0_1).bind fun t298 => (if t298 = true then (some (a1_0, a1_1)) else (helmsmanref02_Widen.l0 k l2 ([] : List Int) 0 a0_0 a0_1 a1_0 a1_1))) = some (r1, r2) := by rw [if_neg (show ¬ (false = true) by decide)] at H; exact H
    clear H
    have H := H1
    clear H1
    replace H := Option.bind_eq_some_iff.mp H
    obtain ⟨t298, A190, H⟩ := H
    replace H : (if t298 = true then (some (a1_0, a1_1)) else (helmsmanref02_Widen.l0 k l2 ([] : List Int) 0 a0_0 a0_1 a1_0 a1_1)) = some (r1, r2) := H
    have A19 := Aside0.mk A190
    clear A190
    by_cases c20 : t298 = true
    · subst c20
      have H1 : (some (a1_0, a1_1)) = some (r1, r2) := by rw [if_pos rfl] at H; exact H
      clear H
      have H := H1
      clear H1
      simp only [Option.some.injEq, Prod.mk.injEq] at H
      obtain ⟨rfl, rfl⟩ := H
      go_enter Tryd.func17, Tryd.ntmps17
      go_wp2_with (first | ((with_reducible refine gate_dst (N := 3) rfl ?_); refine box_event ?hg (N := 3) ?hd (cs := #[.int .i64 a0_0, .int .i64 a0_1]) (t := 23) ?hr ?_; (case hd => rfl); (case hg => rfl); (case hr => first | (go_simp; done) | (go_simp; rfl)); intro gb292 hg w21 hbox hb; have n0_ := Aside0.mk (below_step (by repeat (first | (with_reducible first | exact HB.out | apply below_alloc | apply pw_below_drewN | apply below_drew1) | exact HB.out)) hb); have n1_ := Aside0.mk (hbox); have n2_ := Aside0.mk ((by rw [hg]; exact (below_size (by repeat (first | (with_reducible first | exact HB.out | apply below_alloc | apply pw_below_drewN | apply below_drew1) | exact HB.out))) : w.heap.size ≤ gb292)); have n3_ := Aside0.mk ((by rw [hg]; exact (below_size (by repeat (first | (with_reducible first | exact HB.out | apply below_alloc | apply pw_below_drewN | apply below_drew1) | exact HB.out))) : w.heap.size ≤ gb292)); clear HB; have HB := n0_; have BK292 := n1_; have GW292 := n2_; have GE292 := n3_; clear n0_ n1_ n2_ n3_; clear hb hbox hg) | ((with_reducible refine gate_dst (N := 4) rfl ?_); refine box_event ?hg (N := 4) ?hd (cs := #[.int .i64 a1_0, .int .i64 a1_1]) (t := 23) ?hr ?_; (case hd => rfl); (case hg => rfl); (case hr => first | (go_simp; done) | (go_simp; rfl)); intro gb293 hg w22 hbox hb; have n0_ := Aside0.mk (blk_below (g := gb292) (o := .cells #[.int .i64 a0_0, .int .i64 a0_1] 23 (0, 0)) (by (with_reducible repeat (first | refine blk_drewN ?_ _ | refine blk_drew ?_ | refine blk_alloc ?_ _)); exact BK292.out) hb); have n1_ := Aside0.mk (below_step (by repeat (first | (with_reducible first | exact HB.out | apply below_alloc | apply pw_below_drewN | apply below_drew1 | refine below_set ?_ GE292.out) | exact HB.out)) hb); have n2_ := Aside0.mk (hbox); have n3_ := Aside0.mk ((by rw [hg]; exact (below_size (by repeat (first | (with_reducible first | exact HB.out | apply below_alloc | apply pw_below_drewN | apply below_drew1 | refine below_set ?_ GE292.out) | exact HB.out))) : w.heap.size ≤ gb293)); have n4_ := Aside0.mk ((by rw [hg]; exact (below_size (by repeat (first | (with_reducible first | exact HB.out | apply below_alloc | apply pw_below_drewN | apply below_drew1 | refine below_set ?_ GE292.out) | exact HB.out))) : w.heap.size ≤ gb293)); have n5_ := Aside0.mk ((by rw [hg]; exact Nat.ne_of_lt (blk_lt (g := gb292) (o := .cells #[.int .i64 a0_0, .int .i64 a0_1] 23 (0, 0)) (by (with_reducible repeat (first | refine blk_drewN ?_ _ | refine blk_drew ?_ | refine blk_alloc ?_ _)); exact BK292.out)) : gb292 ≠ gb293)); have n6_ := Aside0.mk ((by rw [hg]; exact Nat.ne_of_gt (blk_lt (g := gb292) (o := .cells #[.int .i64 a0_0, .int .i64 a0_1] 23 (0, 0)) (by (with_reducible repeat (first | refine blk_drewN ?_ _ | refine blk_drew ?_ | refine blk_alloc ?_ _)); exact BK292.out)) : gb293 ≠ gb292)); clear BK292; clear HB; have BK292 := n0_; have HB := n1_; have BK293 := n2_; have GW293 := n3_; have GE293 := n4_; have NB292_293 := n5_; have NB293_292 := n6_; clear n0_ n1_ n2_ n3_ n4_ n5_ n6_; clear hb hbox hg) | ((with_reducible refine gate_dst (N := 6) rfl ?_); refine box_event ?hg (N := 6) ?hd (cs := #[.int .i64 0, .int .i64 0]) (t := 23) ?hr ?_; (case hd => rfl); (case hg => rfl); (case hr => first | (go_simp; done) | (go_simp; rfl)); intro gb294 hg w23 hbox hb; have n0_ := Aside0.mk (blk_below (g := gb292) (o := .cells #[.int .i64 a0_0, .int .i64 a0_1] 23 (0, 0)) (by (with_reducible repeat (first | refine blk_drewN ?_ _ | refine blk_drew ?_ | refine blk_alloc ?_ _)); exact BK292.out) hb); have n1_ := Aside0.mk (blk_below (g := gb293) (o := .cells #[.int .i64 a1_0, .int .i64 a1_1] 23 (0, 0)) (by (with_reducible repeat (first | refine blk_drewN ?_ _ | refine blk_drew ?_ | refine blk_alloc ?_ _)); exact BK293.out) hb); have n2_ := Aside0.mk (below_step (by repeat (first | (with_reducible first | exact HB.out | apply below_alloc | apply pw_below_drewN | apply below_drew1 | refine below_set ?_ GE292.out | refine below_set ?_ GE293.out) | exact HB.out)) hb); have n3_ := Aside0.mk (hbox); have n4_ := Aside0.mk ((by rw [hg]; exact (below_size (by repeat (first | (with_reducible first | exact HB.out | apply below_alloc | apply pw_below_drewN | apply below_drew1 | refine below_set ?_ GE292.out | refine below_set ?_ GE293.out) | exact HB.out))) : w.heap.size ≤ gb294)); have n5_ := Aside0.mk ((by rw [hg]; exact (below_size (by repeat (first | (with_reducible first | exact HB.out | apply below_alloc | apply pw_below_drewN | apply below_drew1 | refine below_set ?_ GE292.out | refine below_set ?_ GE293.out) | exact HB.out))) : w.heap.size ≤ gb294)); have n6_ := Aside0.mk ((by rw [hg]; exact Nat.ne_of_lt (blk_lt (g := gb292) (o := .cells #[.int .i64 a0_0, .int .i64 a0_1] 23 (0, 0)) (by (with_reducible repeat (first | refine blk_drewN ?_ _ | refine blk_drew ?_ | refine blk_alloc ?_ _)); exact BK292.out)) : gb292 ≠ gb294)); have n7_ := Aside0.mk ((by rw [hg]; exact Nat.ne_of_gt (blk_lt (g := gb292) (o := .cells #[.int .i64 a0_0, .int .i64 a0_1] 23 (0, 0)) (by (with_reducible repeat (first | refine blk_drewN ?_ _ | refine blk_drew ?_ | refine blk_alloc ?_ _)); exact BK292.out)) : gb294 ≠ gb292)); have n8_ := Aside0.mk ((by rw [hg]; exact Nat.ne_of_lt (blk_lt (g := gb293) (o := .cells #[.int .i64 a1_0, .int .i64 a1_1] 23 (0, 0)) (by (with_reducible repeat (first | refine blk_drewN ?_ _ | refine blk_drew ?_ | refine blk_alloc ?_ _)); exact BK293.out)) : gb293 ≠ gb294)); have n9_ := Aside0.mk ((by rw [hg]; exact Nat.ne_of_gt (blk_lt (g := gb293) (o := .cells #[.int .i64 a1_0, .int .i64 a1_1] 23 (0, 0)) (by (with_reducible repeat (first | refine blk_drewN ?_ _ | refine blk_drew ?_ | refine blk_alloc ?_ _)); exact BK293.out)) : gb294 ≠ gb293)); clear BK292; clear BK293; clear HB; have BK292 := n0_; have BK293 := n1_; have HB := n2_; have BK294 := n3_; have GW294 := n4_; have GE294 := n5_; have NB292_294 := n6_; have NB294_292 := n7_; have NB293_294 := n8_; have NB294_293 := n9_; clear n0_ n1_ n2_ n3_ n4_ n5_ n6_ n7_ n8_ n9_; clear hb hbox hg; have hnb24 := NB293_292.out; have hnc24 := NB292_293.out; have hnb25 := NB293_294.out; have hnc25 := NB294_293.out; have hcz26_0 : w23.cell? ⟨gb293, 0, none⟩ = some (.int .i64 a1_0) := (blk_cell BK293.out 0).trans rfl; have hcz26_1 : w23.cell? ⟨gb293, 1, none⟩ = some (.int .i64 a1_1) := (blk_cell BK293.out 1).trans rfl; have hfz26_0 := blk_frozen BK293.out 0; have hfz26_1 := blk_frozen BK293.out 1; have hnb27 := NB292_294.out; have hnc27 := NB294_292.out; have hcz28_0 : w23.cell? ⟨gb292, 0, none⟩ = some (.int .i64 a0_0) := (blk_cell BK292.out 0).trans rfl; have hcz28_1 : w23.cell? ⟨gb292, 1, none⟩ = some (.int .i64 a0_1) := (blk_cell BK292.out 1).trans rfl; have hfz28_0 := blk_frozen BK292.out 0; have hfz28_1 := blk_frozen BK292.out 1) | ((with_reducible refine gate_callee (f := 29) rfl ?_); refine goesL_ (some 12) rfl rfl Tryd.func29 (by kernel_rfl) rfl #[.agg #[.int .i64 a1_0, .int .i64 a1_1], .agg #[.int .i64 a0_0, .int .i64 a0_1]] rfl (by (try simp only [List.map_toArray, List.map_cons, List.map_nil]); first | done | rfl | (simp only [List.length_drop, List.length_take]; rfl)) ?_; (with_reducible refine (helmsmanref02_Leq.calls k a1_0 a1_1 a0_0 a0_1 false _ A4.out).mono ?_); rintro e w29 ⟨rfl, hb⟩; refine ⟨_, rfl, ?_⟩; have n0_ := Aside0.mk (blk_below (g := gb292) (o := .cells #[.int .i64 a0_0, .int .i64 a0_1] 23 (0, 0)) (by (with_reducible repeat (first | refine blk_drewN ?_ _ | refine blk_drew ?_ | refine blk_alloc ?_ _)); exact BK292.out) hb); have n1_ := Aside0.mk (blk_below (g := gb293) (o := .cells #[.int .i64 a1_0, .int .i64 a1_1] 23 (0, 0)) (by (with_reducible repeat (first | refine blk_drewN ?_ _ | refine blk_drew ?_ | refine blk_alloc ?_ _)); exact BK293.out) hb); have n2_ := Aside0.mk (blk_below (g := gb294) (o := .cells #[.int .i64 0, .int .i64 0] 23 (0, 0)) (by (with_reducible repeat (first | refine blk_drewN ?_ _ | refine blk_drew ?_ | refine blk_alloc ?_ _)); exact BK294.out) hb); have n3_ := Aside0.mk (below_step (by repeat (first | (with_reducible first | exact HB.out | apply below_alloc | apply pw_below_drewN | apply below_drew1 | refine below_set ?_ GE292.out | refine below_set ?_ GE293.out | refine below_set ?_ GE294.out) | exact HB.out)) hb); clear BK292; clear BK293; clear BK294; clear HB; have BK292 := n0_; have BK293 := n1_; have BK294 := n2_; have HB := n3_; clear n0_ n1_ n2_ n3_; (try clear hb); (try clear hb2); (try clear hk); (try clear hi); have hcz30_0 : w29.cell? ⟨gb292, 0, none⟩ = some (.int .i64 a0_0) := (blk_cell BK292.out 0).trans rfl; have hcz30_1 : w29.cell? ⟨gb292, 1, none⟩ = some (.int .i64 a0_1) := (blk_cell BK292.out 1).trans rfl; have hfz30_0 := blk_frozen BK292.out 0; have hfz30_1 := blk_frozen BK292.out 1) | ((with_reducible refine gate_callee (f := 42) rfl ?_); refine goesL_ (some 17) rfl rfl Tryd.func42 (by kernel_rfl) rfl #[.agg #[.int .i64 a0_0, .int .i64 a0_1]] rfl (by (try simp only [List.map_toArray, List.map_cons, List.map_nil]); first | done | rfl | (simp only [List.length_drop, List.length_take]; rfl)) ?_; (with_reducible refine (helmsmanref02_None.calls k a0_0 a0_1 true _ A19.out).mono ?_); rintro e w31 ⟨rfl, hb⟩; refine ⟨_, rfl, ?_⟩; have n0_ := Aside0.mk (blk_below (g := gb292) (o := .cells #[.int .i64 a0_0, .int .i64 a0_1] 23 (0, 0)) (by (with_reducible repeat (first | refine blk_drewN ?_ _ | refine blk_drew ?_ | refine blk_alloc ?_ _)); exact BK292.out) hb); have n1_ := Aside0.mk (blk_below (g := gb293) (o := .cells #[.int .i64 a1_0, .int .i64 a1_1] 23 (0, 0)) (by (with_reducible repeat (first | refine blk_drewN ?_ _ | refine blk_drew ?_ | refine blk_alloc ?_ _)); exact BK293.out) hb); have n2_ := Aside0.mk (blk_below (g := gb294) (o := .cells #[.int .i64 0, .int .i64 0] 23 (0, 0)) (by (with_reducible repeat (first | refine blk_drewN ?_ _ | refine blk_drew ?_ | refine blk_alloc ?_ _)); exact BK294.out) hb); have n3_ := Aside0.mk (below_step (by repeat (first | (with_reducible first | exact HB.out | apply below_alloc | apply pw_below_drewN | apply below_drew1 | refine below_set ?_ GE292.out | refine below_set ?_ GE293.out | refine below_set ?_ GE294.out) | exact HB.out)) hb); clear BK292; clear BK293; clear BK294; clear HB; have BK292 := n0_; have BK293 := n1_; have BK294 := n2_; have HB := n3_; clear n0_ n1_ n2_ n3_; (try clear hb); (try clear hb2); (try clear hk); (try clear hi); have hcz32_0 : w31.cell? ⟨gb293, 0, none⟩ = some (.int .i64 a1_0) := (blk_cell BK293.out 0).trans rfl; have hcz32_1 : w31.cell? ⟨gb293, 1, none⟩ = some (.int .i64 a1_1) := (blk_cell BK293.out 1).trans rfl; have hfz32_0 := blk_frozen BK293.out 0; have hfz32_1 := blk_frozen BK293.out 1; have hcz33_0 : w31.cell? ⟨gb294, 0, none⟩ = some (.int .i64 0) := (blk_cell BK294.out 0).trans rfl; have hcz33_1 : w31.cell? ⟨gb294, 1, none⟩ = some (.int .i64 0) := (blk_cell BK294.out 1).trans rfl; have hfz33_0 := blk_frozen BK294.out 0; have hfz33_1 := blk_frozen BK294.out 1))
      refine bodyPost_ret (results_cell_row rfl _ _ gb294 23 #[.int .i64 a1_0, .int .i64 a1_1] (0, 0) _ rfl (by (with_reducible repeat (first | refine blk_drewN ?_ _ | refine blk_drew ?_ | refine blk_alloc ?_ _)); refine blk_put (cs := #[.int .i64 a1_0, .int .i64 0]) ?_ 1 _ rfl; (with_reducible repeat (first | refine blk_drewN ?_ _ | refine blk_drew ?_ | refine blk_alloc ?_ _)); refine blk_put (cs := #[.int .i64 0, .int .i64 0]) ?_ 0 _ rfl; (with_reducible repeat (first | refine blk_drewN ?_ _ | refine blk_drew ?_ | refine blk_alloc ?_ _)); exact BK294.out) Tryd.underlying23 rfl (by kernel_rfl)) rfl ?_
      exact ⟨by first | rfl | (simp [errW_none, errW_some] <;> rfl) | (simp [*, errW_none, errW_some] <;> rfl), by repeat (first | (with_reducible first | exact HB.out | apply below_alloc | apply pw_below_drewN | apply below_drew1 | refine below_set ?_ GE292.out | refine below_set ?_ GE293.out | refine below_set ?_ GE294.out) | exact HB.out)⟩
    · replace c20 := Bool.eq_false_iff.mpr c20
      subst c20
      have H1 : (helmsmanref02_Widen.l0 k l2 ([] : List Int) 0 a0_0 a0_1 a1_0 a1_1) = some (r1, r2) := by rw [if_neg (show ¬ (false = true) by decide)] at H; exact H
      clear H
      have H := H1
      clear H1
      have H' := Aside0.mk H
      clear H
      go_enter Tryd.func17, Tryd.ntmps17
      go_wp2_with (first | ((with_reducible refine gate_dst (N := 3) rfl ?_); refine box_event ?hg (N := 3) ?hd (cs := #[.int .i64 a0_0, .int .i64 a0_1]) (t := 23) ?hr ?_; (case hd => rfl); (case hg => rfl); (case hr => first | (go_simp; done) | (go_simp; rfl)); intro gb292 hg w34 hbox hb; have n0_ := Aside0.mk (below_step (by repeat (first | (with_reducible first | exact HB.out | apply below_alloc | apply pw_below_drewN | apply below_drew1) | exact HB.out)) hb); have n1_ := Aside0.mk (hbox); have n2_ := Aside0.mk ((by rw [hg]; exact (below_size (by repeat (first | (with_reducible first | exact HB.out | apply below_alloc | apply pw_below_drewN | apply below_drew1) | exact HB.out))) : w.heap.size ≤ gb292)); have n3_ := Aside0.mk ((by rw [hg]; exact (below_size (by repeat (first | (with_reducible first | exact HB.out | apply below_alloc | apply pw_below_drewN | apply below_drew1) | exact HB.out))) : w.heap.size ≤ gb292)); clear HB; have HB := n0_; have BK292 := n1_; have GW292 := n2_; have GE292 := n3_; clear n0_ n1_ n2_ n3_; clear hb hbox hg) | ((with_reducible refine gate_dst (N := 4) rfl ?_); refine box_event ?hg (N := 4) ?hd (cs := #[.int .i64 a1_0, .int .i64 a1_1]) (t := 23) ?hr ?_; (case hd => rfl); (case hg => rfl); (case hr => first | (go_simp; done) | (go_simp; rfl)); intro gb293 hg w35 hbox hb; have n0_ := Aside0.mk (blk_below (g := gb292) (o := .cells #[.int .i64 a0_0, .int .i64 a0_1] 23 (0, 0)) (by (with_reducible repeat (first | refine blk_drewN ?_ _ | refine blk_drew ?_ | refine blk_alloc ?_ _)); exact BK292.out) hb); have n1_ := Aside0.mk (below_step (by repeat (first | (with_reducible first | exact HB.out | apply below_alloc | apply pw_below_drewN | apply below_drew1 | refine below_set ?_ GE292.out) | exact HB.out)) hb); have n2_ := Aside0.mk (hbox); have n3_ := Aside0.mk ((by rw [hg]; exact (below_size (by repeat (first | (with_reducible first | exact HB.out | apply below_alloc | apply pw_below_drewN | apply below_drew1 | refine below_set ?_ GE292.out) | exact HB.out))) : w.heap.size ≤ gb293)); have n4_ := Aside0.mk ((by rw [hg]; exact (below_size (by repeat (first | (with_reducible first | exact HB.out | apply below_alloc | apply pw_below_drewN | apply below_drew1 | refine below_set ?_ GE292.out) | exact HB.out))) : w.heap.size ≤ gb293)); have n5_ := Aside0.mk ((by rw [hg]; exact Nat.ne_of_lt (blk_lt (g := gb292) (o := .cells #[.int .i64 a0_0, .int .i64 a0_1] 23 (0, 0)) (by (with_reducible repeat (first | refine blk_drewN ?_ _ | refine blk_drew ?_ | refine blk_alloc ?_ _)); exact BK292.out)) : gb292 ≠ gb293)); have n6_ := Aside0.mk ((by rw [hg]; exact Nat.ne_of_gt (blk_lt (g := gb292) (o := .cells #[.int .i64 a0_0, .int .i64 a0_1] 23 (0, 0)) (by (with_reducible repeat (first | refine blk_drewN ?_ _ | refine blk_drew ?_ | refine blk_alloc ?_ _)); exact BK292.out)) : gb293 ≠ gb292)); clear BK292; clear HB; have BK292 := n0_; have HB := n1_; have BK293 := n2_; have GW293 := n3_; have GE293 := n4_; have NB292_293 := n5_; have NB293_292 := n6_; clear n0_ n1_ n2_ n3_ n4_ n5_ n6_; clear hb hbox hg) | ((with_reducible refine gate_dst (N := 6) rfl ?_); refine box_event ?hg (N := 6) ?hd (cs := #[.int .i64 0, .int .i64 0]) (t := 23) ?hr ?_; (case hd => rfl); (case hg => rfl); (case hr => first | (go_simp; done) | (go_simp; rfl)); intro gb294 hg w36 hbox hb; have n0_ := Aside0.mk (blk_below (g := gb292) (o := .cells #[.int .i64 a0_0, .int .i64 a0_1] 23 (0, 0)) (by (with_reducible repeat (first | refine blk_drewN ?_ _ | refine blk_drew ?_ | refine blk_alloc ?_ _)); exact BK292.out) hb); have n1_ := Aside0.mk (blk_below (g := gb293) (o := .cells #[.int .i64 a1_0, .int .i64 a1_1] 23 (0, 0)) (by (with_reducible repeat (first | refine blk_drewN ?_ _ | refine blk_drew ?_ | refine blk_alloc ?_ _)); exact BK293.out) hb); have n2_ := Aside0.mk (below_step (by repeat (first | (with_reducible first | exact HB.out | apply below_alloc | apply pw_below_drewN | apply below_drew1 | refine below_set ?_ GE292.out | refine below_set ?_ GE293.out) | exact HB.out)) hb); have n3_ := Aside0.mk (hbox); have n4_ := Aside0.mk ((by rw [hg]; exact (below_size (by repeat (first | (with_reducible first | exact HB.out | apply below_alloc | apply pw_below_drewN | apply below_drew1 | refine below_set ?_ GE292.out | refine below_set ?_ GE293.out) | exact HB.out))) : w.heap.size ≤ gb294)); have n5_ := Aside0.mk ((by rw [hg]; exact (below_size (by repeat (first | (with_reducible first | exact HB.out | apply below_alloc | apply pw_below_drewN | apply below_drew1 | refine below_set ?_ GE292.out | refine below_set ?_ GE293.out) | exact HB.out))) : w.heap.size ≤ gb294)); have n6_ := Aside0.mk ((by rw [hg]; exact Nat.ne_of_lt (blk_lt (g := gb292) (o := .cells #[.int .i64 a0_0, .int .i64 a0_1] 23 (0, 0)) (by (with_reducible repeat (first | refine blk_drewN ?_ _ | refine blk_drew ?_ | refine blk_alloc ?_ _)); exact BK292.out)) : gb292 ≠ gb294)); have n7_ := Aside0.mk ((by rw [hg]; exact Nat.ne_of_gt (blk_lt (g := gb292) (o := .cells #[.int .i64 a0_0, .int .i64 a0_1] 23 (0, 0)) (by (with_reducible repeat (first | refine blk_drewN ?_ _ | refine blk_drew ?_ | refine blk_alloc ?_ _)); exact BK292.out)) : gb294 ≠ gb292)); have n8_ := Aside0.mk ((by rw [hg]; exact Nat.ne_of_lt (blk_lt (g := gb293) (o := .cells #[.int .i64 a1_0, .int .i64 a1_1] 23 (0, 0)) (by (with_reducible repeat (first | refine blk_drewN ?_ _ | refine blk_drew ?_ | refine blk_alloc ?_ _)); exact BK293.out)) : gb293 ≠ gb294)); have n9_ := Aside0.mk ((by rw [hg]; exact Nat.ne_of_gt (blk_lt (g := gb293) (o := .cells #[.int .i64 a1_0, .int .i64 a1_1] 23 (0, 0)) (by (with_reducible repeat (first | refine blk_drewN ?_ _ | refine blk_drew ?_ | refine blk_alloc ?_ _)); exact BK293.out)) : gb294 ≠ gb293)); clear BK292; clear BK293; clear HB; have BK292 := n0_; have BK293 := n1_; have HB := n2_; have BK294 := n3_; have GW294 := n4_; have GE294 := n5_; have NB292_294 := n6_; have NB294_292 := n7_; have NB293_294 := n8_; have NB294_293 := n9_; clear n0_ n1_ n2_ n3_ n4_ n5_ n6_ n7_ n8_ n9_; clear hb hbox hg; have hnb37 := NB293_292.out; have hnc37 := NB292_293.out; have hnb38 := NB293_294.out; have hnc38 := NB294_293.out; have hcz39_0 : w36.cell? ⟨gb293, 0, none⟩ = some (.int .i64 a1_0) := (blk_cell BK293.out 0).trans rfl; have hcz39_1 : w36.cell? ⟨gb293, 1, none⟩ = some (.int .i64 a1_1) := (blk_cell BK293.out 1).trans rfl; have hfz39_0 := blk_frozen BK293.out 0; have hfz39_1 := blk_frozen BK293.out 1; have hnb40 := NB292_294.out; have hnc40 := NB294_292.out; have hcz41_0 : w36.cell? ⟨gb292, 0, none⟩ = some (.int .i64 a0_0) := (blk_cell BK292.out 0).trans rfl; have hcz41_1 : w36.cell? ⟨gb292, 1, none⟩ = some (.int .i64 a0_1) := (blk_cell BK292.out 1).trans rfl; have hfz41_0 := blk_frozen BK292.out 0; have hfz41_1 := blk_frozen BK292.out 1) | ((with_reducible refine gate_callee (f := 29) rfl ?_); refine goesL_ (some 12) rfl rfl Tryd.func29 (by kernel_rfl) rfl #[.agg #[.int .i64 a1_0, .int .i64 a1_1], .agg #[.int .i64 a0_0, .int .i64 a0_1]] rfl (by (try simp only [List.map_toArray, List.map_cons, List.map_nil]); first | done | rfl | (simp only [List.length_drop, List.length_take]; rfl)) ?_; (with_reducible refine (helmsmanref02_Leq.calls k a1_0 a1_1 a0_0 a0_1 false _ A4.out).mono ?_); rintro e w42 ⟨rfl, hb⟩; refine ⟨_, rfl, ?_⟩; have n0_ := Aside0.mk (blk_below (g := gb292) (o := .cells #[.int .i64 a0_0, .int .i64 a0_1] 23 (0, 0)) (by (with_reducible repeat (first | refine blk_drewN ?_ _ | refine blk_drew ?_ | refine blk_alloc ?_ _)); exact BK292.out) hb); have n1_ := Aside0.mk (blk_below (g := gb293) (o := .cells #[.int .i64 a1_0, .int .i64 a1_1] 23 (0, 0)) (by (with_reducible repeat (first | refine blk_drewN ?_ _ | refine blk_drew ?_ | refine blk_alloc ?_ _)); exact BK293.out) hb); have n2_ := Aside0.mk (blk_below (g := gb294) (o := .cells #[.int .i64 0, .int .i64 0] 23 (0, 0)) (by (with_reducible repeat (first | refine blk_drewN ?_ _ | refine blk_drew ?_ | refine blk_alloc ?_ _)); exact BK294.out) hb); have n3_ := Aside0.mk (below_step (by repeat (first | (with_reducible first | exact HB.out | apply below_alloc | apply pw_below_drewN | apply below_drew1 | refine below_set ?_ GE292.out | refine below_set ?_ GE293.out | refine below_set ?_ GE294.out) | exact HB.out)) hb); clear BK292; clear BK293; clear BK294; clear HB; have BK292 := n0_; have BK293 := n1_; have BK294 := n2_; have HB := n3_; clear n0_ n1_ n2_ n3_; (try clear hb); (try clear hb2); (try clear hk); (try clear hi); have hcz43_0 : w42.cell? ⟨gb292, 0, none⟩ = some (.int .i64 a0_0) := (blk_cell BK292.out 0).trans rfl; have hcz43_1 : w42.cell? ⟨gb292, 1, none⟩ = some (.int .i64 a0_1) := (blk_cell BK292.out 1).trans rfl; have hfz43_0 := blk_frozen BK292.out 0; have hfz43_1 := blk_frozen BK292.out 1) | ((with_reducible refine gate_callee (f := 42) rfl ?_); refine goesL_ (some 17) rfl rfl Tryd.func42 (by kernel_rfl) rfl #[.agg #[.int .i64 a0_0, .int .i64 a0_1]] rfl (by (try simp only [List.map_toArray, List.map_cons, List.map_nil]); first | done | rfl | (simp only [List.length_drop, List.length_take]; rfl)) ?_; (with_reducible refine (helmsmanref02_None.calls k a0_0 a0_1 false _ A19.out).mono ?_); rintro e w44 ⟨rfl, hb⟩; refine ⟨_, rfl, ?_⟩; have n0_ := Aside0.mk (blk_below (g := gb292) (o := .cells #[.int .i64 a0_0, .int .i64 a0_1] 23 (0, 0)) (by (with_reducible repeat (first | refine blk_drewN ?_ _ | refine blk_drew ?_ | refine blk_alloc ?_ _)); exact BK292.out) hb); have n1_ := Aside0.mk (blk_below (g := gb293) (o := .cells #[.int .i64 a1_0, .int .i64 a1_1] 23 (0, 0)) (by (with_reducible repeat (first | refine blk_drewN ?_ _ | refine blk_drew ?_ | refine blk_alloc ?_ _)); exact BK293.out) hb); have n2_ := Aside0.mk (blk_below (g := gb294) (o := .cells #[.int .i64 0, .int .i64 0] 23 (0, 0)) (by (with_reducible repeat (first | refine blk_drewN ?_ _ | refine blk_drew ?_ | refine blk_alloc ?_ _)); exact BK294.out) hb); have n3_ := Aside0.mk (below_step (by repeat (first | (with_reducible first | exact HB.out | apply below_alloc | apply pw_below_drewN | apply below_drew1 | refine below_set ?_ GE292.out | refine below_set ?_ GE293.out | refine below_set ?_ GE294.out) | exact HB.out)) hb); clear BK292; clear BK293; clear BK294; clear HB; have BK292 := n0_; have BK293 := n1_; have BK294 := n2_; have HB := n3_; clear n0_ n1_ n2_ n3_; (try clear hb); (try clear hb2); (try clear hk); (try clear hi)))
      go_loopg [7, 8] k (fun kq v7 v8 w' => ∃ (x7_1 : List Int) (x8_1 : Int), v8 = .int .i64 x8_1 ∧ Aside0 (helmsmanref02_Widen.l0 kq l2 x7_1 x8_1 a0_0 a0_1 a1_0 a1_1 = some (r1, r2)) ∧ Aside0 (kq ≤ k) ∧ Aside0 (Kd.R (Kd.int .i64) 3 w' w.heap.size (fun _ => True) v7 x7_1) ∧ Aside0 (w'.heap[gb292]? = some (.cells #[.int .i64 a0_0, .int .i64 a0_1] 23 (0, 0))) ∧ Aside0 (w'.heap[gb293]? = some (.cells #[.int .i64 a1_0, .int .i64 a1_1] 23 (0, 0))) ∧ Aside0 (w'.heap[gb294]? = some (.cells #[.int .i64 0, .int .i64 0] 23 (0, 0))) ∧ Aside0 (Below w.heap.size w w'))
      case atStart => exact ⟨(([] : List Int)), (0), (by first | rfl | (simp; done) | (simp [*]; done)), H', ⟨Nat.le_refl _⟩, ⟨by first | exact Kd.R_nil _ _ _ _ _ | exact Kd.N_nil _ _ _ _ _ | exact Kd.V_nil _ _ _ _ _ | exact Kd.Q_nil _ _ _ _ _ | exact Kd.S_nil _ _ _ _ _⟩, ⟨by (with_reducible repeat (first | refine blk_drewN ?_ _ | refine blk_drew ?_ | refine blk_alloc ?_ _)); exact BK292.out⟩, ⟨by (with_reducible repeat (first | refine blk_drewN ?_ _ | refine blk_drew ?_ | refine blk_alloc ?_ _)); exact BK293.out⟩, ⟨by (with_reducible repeat (first | refine blk_drewN ?_ _ | refine blk_drew ?_ | refine blk_alloc ?_ _)); exact BK294.out⟩, ⟨by repeat (first | (with_reducible first | exact HB.out | apply below_alloc | apply pw_below_drewN | apply below_drew1 | refine below_set ?_ GE292.out | refine below_set ?_ GE293.out | refine below_set ?_ GE294.out) | exact HB.out)⟩⟩
      case round =>
        clear H'
        try clear c1
        try clear c2
        try clear p2
        try clear c3
        try clear c4
        try clear c5
        try clear c10
        try clear c11
        try clear c13
        try clear c17
        try clear c20
        try clear c24
        try clear c25
        try clear c27
        try clear c29
        try clear c37
        try clear c38
        try clear c40
        try clear c42
        try clear hcz12_0
        try clear hcz12_1
        try clear hcz14_0
        try clear hcz14_1
        try clear hcz16_0
        try clear hcz16_1
        try clear hcz18_0
        try clear hcz18_1
        try clear hcz26_0
        try clear hcz26_1
        try clear hcz28_0
        try clear hcz28_1
        try clear hcz30_0
        try clear hcz30_1
        try clear hcz32_0
        try clear hcz32_1
        try clear hcz33_0
        try clear hcz33_1
        try clear hcz39_0
        try clear hcz39_1
        try clear hcz41_0
        try clear hcz41_1
        try clear hcz43_0
        try clear hcz43_1
        try clear hfz12_0
        try clear hfz12_1
        try clear hfz14_0
        try clear hfz14_1
        try clear hfz16_0
        try clear hfz16_1
        try clear hfz18_0
        try clear hfz18_1
        try clear hfz26_0
        try clear hfz26_1
        try clear hfz28_0
        try clear hfz28_1
        try clear hfz30_0
        try clear hfz30_1
        try clear hfz32_0
        try clear hfz32_1
        try clear hfz33_0
        try clear hfz33_1
        try clear hfz39_0
        try clear hfz39_1
        try clear hfz41_0
        try clear hfz41_1
        try clear hfz43_0
        try clear hfz43_1
        obtain ⟨x7_1, x8_1, rfl, HA, HK1, HO_7, BK292, BK293, BK294, HB⟩ := hrel
        cases gk with
        | zero => exact absurd HA.out (by simp [helmsmanref02_Widen.l0])
        | succ k1 =>
          have H := HA.out
          clear HA
          simp only [helmsmanref02_Widen.l0] at H
          by_cases c45 : x8_1 < (l2.length : Int)
          · rw [if_pos c45] at H
            have c45b0 : decide (x8_1 < (l2.length : Int)) = true := decide_eq_true c45
            clear c45
            by_cases c46 : 0 ≤ x8_1
            · rw [if_pos c46] at H
              have c46b0 : decide (0 ≤ x8_1) = true := decide_eq_true c46
              clear c46
              replace H := Option.bind_eq_some_iff.mp H
              obtain ⟨t300, A470, H⟩ := H
              replace H : (if t300 = true then (if x7_1.length < 17592186044416 then (helmsmanref02_Widen.l0 k1 l2 (x7_1 ++ [wrap64 (-(rd l2 x8_1))]) (wrap64 (x8_1 + 1)) a0_0 a0_1 a1_0 a1_1) else (none)) else (helmsmanref02_Widen.l0 k1 l2 x7_1 (wrap64 (x8_1 + 1)) a0_0 a0_1 a1_0 a1_1)) = some (r1, r2) := H
              have A47 := Aside0.mk A470
              clear A470
              by_cases c48 : t300 = true
              · subst c48
                have H1 : (if x7_1.length < 17592186044416 then (helmsmanref02_Widen.l0 k1 l2 (x7_1 ++ [wrap64 (-(rd l2 x8_1))]) (wrap64 (x8_1 + 1)) a0_0 a0_1 a1_0 a1_1) else (none)) = some (r1, r2) := by rw [if_pos rfl] at H; exact H
                clear H
                have H := H1
                clear H1
                by_cases c49 : x7_1.length < 17592186044416
                · rw [if_pos c49] at H
                  have LMc49 := Aside0.mk c49
                  clear c49
                  obtain ⟨y302, hy302⟩ : ∃ y_ : List Int, y_ = (x7_1 ++ [wrap64 (-(rd l2 x8_1))]) := ⟨_, rfl⟩
                  replace H : (helmsmanref02_Widen.l0 k1 l2 y302 (wrap64 (x8_1 + 1)) a0_0 a0_1 a1_0 a1_1) = some (r1, r2) := by first | (rw [hy302]; with_reducible exact H) | (have H2_ := (Option.bind_some _ _).symm.trans H; rw [hy302]; with_reducible exact H2_) | (have H2_ := (Option.bind_some _ _).symm.trans H; with_reducible exact H2_) | with_reducible exact H | (rw [hy302]; exact H) | exact H
                  have Ny302 := Aside0.mk hy302
                  clear hy302
                  have H' := Aside0.mk H
                  clear H
                  have p299 : 0 ≤ (x8_1 : Int) := of_decide_eq_true (by first | (with_reducible assumption) | assumption)
                  have q299 : x8_1 < (l2.length : Int) := of_decide_eq_true (by first | (with_reducible assumption) | assumption)
                  obtain ⟨ad299, e299, hx299_0⟩ := Kd.at_int HR2.out x8_1 p299 q299
                  cases e299
                  replace hx299_0 := (HB.out.cell (World.block_lt_of_cell? w _ hx299_0)).trans hx299_0
                  replace p299 := eq_true p299
                  replace q299 := eq_true q299
                  go_wp2_with (first | ((with_reducible refine gate_callee (f := 23) rfl ?_); refine goesL_ (some 29) rfl rfl Tryd.func23 (by kernel_rfl) rfl #[.int .i64 (rd l2 x8_1)] rfl (by (try simp only [List.map_toArray, List.map_cons, List.map_nil]); first | done | rfl | (simp only [List.length_drop, List.length_take]; rfl)) ?_; (with_reducible refine (helmsmanref01_In.calls (rd l2 x8_1) true _ A47.out).mono ?_); rintro e w' ⟨rfl, ⟨nd, rfl⟩⟩; refine ⟨_, rfl, ?_⟩; have p301 : 0 ≤ (x8_1 : Int) := of_decide_eq_true (by first | (with_reducible assumption) | assumption); have q301 : x8_1 < (l2.length : Int) := of_decide_eq_true (by first | (with_reducible assumption) | assumption); obtain ⟨ad301, e301, hx301_0⟩ := Kd.at_int HR2.out x8_1 p301 q301; obtain rfl : ad299 = ad301 := (by injection e301); replace hx301_0 := (HB.out.cell (World.block_lt_of_cell? w _ hx301_0)).trans hx301_0; replace p301 := eq_true p301; replace q301 := eq_true q301) | ((with_reducible refine gate_builtin (b := .append) (xs := #[.tmp 30, .tmp 36]) rfl ?_); at_builtin; refine Kd.R_append (Kd.int .i64) (w0 := w) w.heap.size rfl (.tmp 30) (.tmp 36) 32 3 (.int .i64 0) 8 rfl Tryd.underlying32 info3 rfl (by decide) (by omega) u7 x7_1 (wrap64 (-(rd l2 x8_1))) [.int .i64 (wrap64 (-(rd l2 x8_1)))] (fun _ => True) (fun _ => False) rfl rfl ?aP (fun _ hk => hk.elim) ?aF ?aO ?aB ?aS ?aL ?_; (case aP => exact rfl); (case aB => exact (by repeat (first | (with_reducible first | exact HB.out | apply below_alloc | apply pw_below_drewN | apply below_drew1 | refine below_set ?_ GE292.out | refine below_set ?_ GE293.out | refine below_set ?_ GE294.out) | exact HB.out))); (case aF => exact (fun _ _ => trivial)); (case aO => exact (by (with_reducible repeat (first | apply Kd.R_alloc | apply Kd.R_drewN | apply Kd.R_drew)); exact HO_7.out)); (case aS => exact (below_size (by repeat (first | (with_reducible first | exact HB.out | apply below_alloc | apply pw_below_drewN | apply below_drew1 | refine below_set ?_ GE292.out | refine below_set ?_ GE293.out | refine below_set ?_ GE294.out) | exact HB.out)))); (case aL => have := LMc49.out; omega); intro v303 w50 ho hb hg hat; rw [← Ny302.out] at ho; have n0_ := Aside0.mk (blk_grown (g := gb292) (o := .cells #[.int .i64 a0_0, .int .i64 a0_1] 23 (0, 0)) (by (with_reducible repeat (first | refine blk_drewN ?_ _ | refine blk_drew ?_ | refine blk_alloc ?_ _)); exact BK292.out) hg (Kd.R_ne HO_7.out BK292.out (by decide))); have n1_ := Aside0.mk (blk_grown (g := gb293) (o := .cells #[.int .i64 a1_0, .int .i64 a1_1] 23 (0, 0)) (by (with_reducible repeat (first | refine blk_drewN ?_ _ | refine blk_drew ?_ | refine blk_alloc ?_ _)); exact BK293.out) hg (Kd.R_ne HO_7.out BK293.out (by decide))); have n2_ := Aside0.mk (blk_grown (g := gb294) (o := .cells #[.int .i64 0, .int .i64 0] 23 (0, 0)) (by (with_reducible repeat (first | refine blk_drewN ?_ _ | refine blk_drew ?_ | refine blk_alloc ?_ _)); exact BK294.out) hg (Kd.R_ne HO_7.out BK294.out (by decide))); have n3_ := Aside0.mk (hb); have n4_ := Aside0.mk (ho); clear BK292; clear BK293; clear BK294; clear HB; clear HO_7; have BK292 := n0_; have BK293 := n1_; have BK294 := n2_; have HB := n3_; have HO304 := n4_; clear n0_ n1_ n2_ n3_ n4_; clear ho hb hg hat))
                  go_roundg k1
                  case measure => have := HK1.out; omega
                  case rel => exact ⟨(y302), (wrap64 (x8_1 + 1)), (by first | rfl | (simp; done) | (simp [*]; done)), H', ⟨by have := HK1.out; omega⟩, ⟨by (with_reducible repeat (first | apply Kd.R_alloc | apply Kd.R_drewN | apply Kd.R_drew)); exact HO304.out⟩, ⟨by (with_reducible repeat (first | refine blk_drewN ?_ _ | refine blk_drew ?_ | refine blk_alloc ?_ _)); exact BK292.out⟩, ⟨by (with_reducible repeat (first | refine blk_drewN ?_ _ | refine blk_drew ?_ | refine blk_alloc ?_ _)); exact BK293.out⟩, ⟨by (with_reducible repeat (first | refine blk_drewN ?_ _ | refine blk_drew ?_ | refine blk_alloc ?_ _)); exact BK294.out⟩, ⟨by repeat (first | (with_reducible first | exact HB.out | apply below_alloc | apply pw_below_drewN | apply below_drew1 | refine below_set ?_ GE292.out | refine below_set ?_ GE293.out | refine below_set ?_ GE294.out) | exact HB.out)⟩⟩
                · rw [if_neg c49] at H
                  exact absurd H (by simp)
              · replace c48 := Bool.eq_false_iff.mpr c48
                subst c48
                have H1 : (helmsmanref02_Widen.l0 k1 l2 x7_1 (wrap64 (x8_1 + 1)) a0_0 a0_1 a1_0 a1_1) = some (r1, r2) := by rw [if_neg (show ¬ (false = true) by decide)] at H; exact H
                clear H
                have H := H1
                clear H1
                have H' := Aside0.mk H
                clear H
                have p299 : 0 ≤ (x8_1 : Int) := of_decide_eq_true (by first | (with_reducible assumption) | assumption)
                have q299 : x8_1 < (l2.length : Int) := of_decide_eq_true (by first | (with_reducible assumption) | assumption)
                obtain ⟨ad299, e299, hx299_0⟩ := Kd.at_int HR2.out x8_1 p299 q299
                cases e299
                replace hx299_0 := (HB.out.cell (World.block_lt_of_cell? w _ hx299_0)).trans hx299_0
                replace p299 := eq_true p299
                replace q299 := eq_true q299
                go_wp2_with (first | ((with_reducible refine gate_callee (f := 23) rfl ?_); refine goesL_ (some 29) rfl rfl Tryd.func23 (by kernel_rfl) rfl #[.int .i64 (rd l2 x8_1)] rfl (by (try simp only [List.map_toArray, List.map_cons, List.map_nil]); first | done | rfl | (simp only [List.length_drop, List.length_take]; rfl)) ?_; (with_reducible refine (helmsmanref01_In.calls (rd l2 x8_1) false _ A47.out).mono ?_); rintro e w' ⟨rfl, ⟨nd, rfl⟩⟩; refine ⟨_, rfl, ?_⟩))
                go_roundg k1
                case measure => have := HK1.out; omega
                case rel => exact ⟨(x7_1), (wrap64 (x8_1 + 1)), (by first | rfl | (simp; done) | (simp [*]; done)), H', ⟨by have := HK1.out; omega⟩, ⟨by (with_reducible repeat (first | apply Kd.R_alloc | apply Kd.R_drewN | apply Kd.R_drew)); exact HO_7.out⟩, ⟨by (with_reducible repeat (first | refine blk_drewN ?_ _ | refine blk_drew ?_ | refine blk_alloc ?_ _)); exact BK292.out⟩, ⟨by (with_reducible repeat (first | refine blk_drewN ?_ _ | refine blk_drew ?_ | refine blk_alloc ?_ _)); exact BK293.out⟩, ⟨by (with_reducible repeat (first | refine blk_drewN ?_ _ | refine blk_drew ?_ | refine blk_alloc ?_ _)); exact BK294.out⟩, ⟨by repeat (first | (with_reducible first | exact HB.out | apply below_alloc | apply pw_below_drewN | apply below_drew1 | refine below_set ?_ GE292.out | refine below_set ?_ GE293.out | refine below_set ?_ GE294.out) | exact HB.out)⟩⟩
            · rw [if_neg c46] at H
              exact absurd H (by simp)
          · rw [if_neg c45] at H
            have c45b0 : decide (x8_1 < (l2.length : Int)) = false := decide_eq_false c45
            clear c45
            by_cases c51 : a1_0 < a0_0
            · rw [if_pos c51] at H
              have c51b0 : decide (a1_0 < a0_0) = true := decide_eq_true c51
              clear c51
              replace H := Option.bind_eq_some_iff.mp H
              obtain ⟨t306, A520, H⟩ := H
              replace H : (if a1_1 > a0_1 then ((helmsmanref02_lower.f k1 x7_1 (wrap64 (-a1_1))).bind fun t307 => (some (t306, wrap64 (-t307)))) else (some (t306, a0_1))) = some (r1, r2) := H
              have A52 := Aside0.mk A520
              clear A520
              by_cases c53 : a1_1 > a0_1
              · rw [if_pos c53] at H
                have c53b0 : decide (a0_1 < a1_1) = true := decide_eq_true c53
                clear c53
                replace H := Option.bind_eq_some_iff.mp H
                obtain ⟨t307, A540, H⟩ := H
                replace H : (some (t306, wrap64 (-t307))) = some (r1, r2) := H
                have A54 := Aside0.mk A540
                clear A540
                simp only [Option.some.injEq, Prod.mk.injEq] at H
                obtain ⟨rfl, rfl⟩ := H
                obtain ⟨z0, z1, -, -⟩ := cells2 BK292.out
                go_upto_region 12 with fail
                have B2 := blk_alloc BK292.out (.cells #[.int .i64 a0_0, .int .i64 a0_1] 23)
                have B3 := blk_alloc BK293.out (.cells #[.int .i64 a0_0, .int .i64 a0_1] 23)
                have B4 := blk_alloc BK294.out (.cells #[.int .i64 a0_0, .int .i64 a0_1] 23)
                have B9 := blk_new wr (.cells #[.int .i64 a0_0, .int .i64 a0_1] 23)
                have HBX := Lib.hid (Below.push HB.out (Nat.le_refl _) (.cells #[.int .i64 a0_0, .int .i64 a0_1] 23))
                have HOX := Lib.hid (Kd.R_alloc (o := .cells #[.int .i64 a0_0, .int .i64 a0_1] 23) HO_7.out)
                have l9 : w.heap.size ≤ wr.heap.size := below_size HB.out
                have n2 : gb292 ≠ wr.heap.size := Nat.ne_of_lt (blk_lt BK292.out)
                have n3 : gb293 ≠ wr.heap.size := Nat.ne_of_lt (blk_lt BK293.out)
                have n4 : gb294 ≠ wr.heap.size := Nat.ne_of_lt (blk_lt BK294.out)
                obtain ⟨Ao, co, eo⟩ := Kd.R_slice HO_7.out
                subst eo
                generalize wr.alloc (.cells #[.int .i64 a0_0, .int .i64 a0_1] 23) = X at B2 B3 B4 B9 HBX HOX ⊢
                generalize wr.heap.size = g9 at B9 l9 n2 n3 n4 ⊢
                clear BK292 BK293 BK294 HB HO_7 z0 z1
                obtain ⟨x0, x1, -, -⟩ := cells2 B2
                obtain ⟨y0, y1, -, -⟩ := cells2 B3
                go_wp2_with fail
                refine (helmsmanref02_lower.calls k1 _ _ l2 a1_0 t306 _ (Kd.C_below HR2.out HBX.out) (HC2.out) A52.out).mono ?_
                rintro e w' ⟨rfl, ⟨nd, rfl⟩⟩
                clear x0 x1 y0 y1
                replace B2 := blk_drewN B2 nd
                replace B3 := blk_drewN B3 nd
                replace B4 := blk_drewN B4 nd
                replace B9 := blk_drewN B9 nd
                replace HBX := Lib.hid (pw_below_drewN HBX.out nd)
                replace HOX := Lib.hid (Kd.R_drewN HOX.out nd)
                generalize X.drewN nd = Yd at B2 B3 B4 B9 HBX HOX ⊢
                obtain ⟨x0, x1, -, -⟩ := cells2 B2
                obtain ⟨y0, y1, -, -⟩ := cells2 B3
                obtain ⟨q0, q1, fq0, fq1⟩ := cells2 B9
                go_upto_region 14 with fail
                clear x0 x1 y0 y1 q0 q1 fq0 fq1
                have c9 : (Yd.setCell ⟨g9, 0, none⟩ (.int .i64 t306)).heap[g9]? = some (.cells #[.int .i64 t306, .int .i64 a0_1] 23 (0, 0)) := blk_put (cs := #[.int .i64 a0_0, .int .i64 a0_1]) B9 0 _ rfl
                have cO := Lib.hid (Kd.R_mono (ok' := fun _ => True) (Kd.R_far (p := ⟨g9, 0, none⟩) (Kd.R_types HOX.out B9 (by decide)) (fun _ hk => hk.2) (.int .i64 t306)) (fun _ h_ => h_.1))
                have c2 : (Yd.setCell ⟨g9, 0, none⟩ (.int .i64 t306)).heap[gb292]? = some (.cells #[.int .i64 a0_0, .int .i64 a0_1] 23 (0, 0)) := by exact blk_far B2 n2 _
                have c3 : (Yd.setCell ⟨g9, 0, none⟩ (.int .i64 t306)).heap[gb293]? = some (.cells #[.int .i64 a1_0, .int .i64 a1_1] 23 (0, 0)) := by exact blk_far B3 n3 _
                have c4 : (Yd.setCell ⟨g9, 0, none⟩ (.int .i64 t306)).heap[gb294]? = some (.cells #[.int .i64 0, .int .i64 0] 23 (0, 0)) := by exact blk_far B4 n4 _
                have cB : Hid (Below w.heap.size w (Yd.setCell ⟨g9, 0, none⟩ (.int .i64 t306))) := Lib.hid (Below.setCell HBX.out l9 _)
                clear B2 B3 B4 B9 HBX HOX
                have B2 := c2
                have B3 := c3
                have B4 := c4
                have B9 := c9
                have HBX := cB
                have HOX := cO
                clear c2 c3 c4 c9 cB cO
                generalize Yd.setCell ⟨g9, 0, none⟩ (.int .i64 t306) = Y at B2 B3 B4 B9 HBX HOX ⊢
                obtain ⟨x0, x1, -, -⟩ := cells2 B2
                obtain ⟨y0, y1, -, -⟩ := cells2 B3
                go_wp2_with fail
                refine (helmsmanref02_lower.calls k1 _ _ x7_1 (wrap64 (-a1_1)) t307 _ ((Kd.R_reads' HOX.out).2.2) ((Kd.R_reads' HOX.out).2.1) A54.out).mono ?_
                rintro e w' ⟨rfl, ⟨nd, rfl⟩⟩
                clear x0 x1 y0 y1
                replace B2 := blk_drewN B2 nd
                replace B3 := blk_drewN B3 nd
                replace B4 := blk_drewN B4 nd
                replace B9 := blk_drewN B9 nd
                replace HBX := Lib.hid (pw_below_drewN HBX.out nd)
                replace HOX := Lib.hid (Kd.R_drewN HOX.out nd)
                generalize Y.drewN nd = Zd at B2 B3 B4 B9 HBX HOX ⊢
                obtain ⟨x0, x1, -, -⟩ := cells2 B2
                obtain ⟨y0, y1, -, -⟩ := cells2 B3
                obtain ⟨q0, q1, fq0, fq1⟩ := cells2 B9
                go_upto_region 16 with fail
                clear x0 x1 y0 y1 q0 q1 fq0 fq1
                have c9 : (Zd.setCell ⟨g9, 1, none⟩ (.int .i64 (wrap64 (-t307)))).heap[g9]? = some (.cells #[.int .i64 t306, .int .i64 (wrap64 (-t307))] 23 (0, 0)) := blk_put (cs := #[.int .i64 t306, .int .i64 a0_1]) B9 1 _ rfl
                have cO := Lib.hid (Kd.R_mono (ok' := fun _ => True) (Kd.R_far (p := ⟨g9, 1, none⟩) (Kd.R_types HOX.out B9 (by decide)) (fun _ hk => hk.2) (.int .i64 (wrap64 (-t307)))) (fun _ h_ => h_.1))
                have c2 : (Zd.setCell ⟨g9, 1, none⟩ (.int .i64 (wrap64 (-t307)))).heap[gb292]? = some (.cells #[.int .i64 a0_0, .int .i64 a0_1] 23 (0, 0)) := by exact blk_far B2 n2 _
                have c3 : (Zd.setCell ⟨g9, 1, none⟩ (.int .i64 (wrap64 (-t307)))).heap[gb293]? = some (.cells #[.int .i64 a1_0, .int .i64 a1_1] 23 (0, 0)) := by exact blk_far B3 n3 _
                have c4 : (Zd.setCell ⟨g9, 1, none⟩ (.int .i64 (wrap64 (-t307)))).heap[gb294]? = some (.cells #[.int .i64 0, .int .i64 0] 23 (0, 0)) := by exact blk_far B4 n4 _
                have cB : Hid (Below w.heap.size w (Zd.setCell ⟨g9, 1, none⟩ (.int .i64 (wrap64 (-t307))))) := Lib.hid (Below.setCell HBX.out l9 _)
                clear B2 B3 B4 B9 HBX HOX
                have B2 := c2
                have B3 := c3
                have B4 := c4
                have B9 := c9
                have HBX := cB
                have HOX := cO
                clear c2 c3 c4 c9 cB cO
                generalize Zd.setCell ⟨g9, 1, none⟩ (.int .i64 (wrap64 (-t307))) = Z at B2 B3 B4 B9 HBX HOX ⊢
                obtain ⟨x0, x1, -, -⟩ := cells2 B2
                obtain ⟨y0, y1, -, -⟩ := cells2 B3
                obtain ⟨q0, q1, -, -⟩ := cells2 B9
                obtain ⟨r0, r1, fr0, fr1⟩ := cells2 B4
                go_wp2_with fail
                exact bodyPost_ret (results_cell_row rfl _ _ gb294 23 #[.int .i64 t306, .int .i64 (wrap64 (-t307))] (0, 0) _ rfl (put2 B4 _ _) Tryd.underlying23 rfl (by kernel_rfl)) rfl ⟨rfl, below2 HBX.out GE294.out _ _⟩
              · rw [if_neg c53] at H
                have c53b0 : decide (a0_1 < a1_1) = false := decide_eq_false c53
                clear c53
                simp only [Option.some.injEq, Prod.mk.injEq] at H
                obtain ⟨rfl, rfl⟩ := H
                obtain ⟨z0, z1, -, -⟩ := cells2 BK292.out
                go_upto_region 12 with fail
                have B2 := blk_alloc BK292.out (.cells #[.int .i64 a0_0, .int .i64 a0_1] 23)
                have B3 := blk_alloc BK293.out (.cells #[.int .i64 a0_0, .int .i64 a0_1] 23)
                have B4 := blk_alloc BK294.out (.cells #[.int .i64 a0_0, .int .i64 a0_1] 23)
                have B9 := blk_new wr (.cells #[.int .i64 a0_0, .int .i64 a0_1] 23)
                have HBX := Lib.hid (Below.push HB.out (Nat.le_refl _) (.cells #[.int .i64 a0_0, .int .i64 a0_1] 23))
                have HOX := Lib.hid (Kd.R_alloc (o := .cells #[.int .i64 a0_0, .int .i64 a0_1] 23) HO_7.out)
                have l9 : w.heap.size ≤ wr.heap.size := below_size HB.out
                have n2 : gb292 ≠ wr.heap.size := Nat.ne_of_lt (blk_lt BK292.out)
                have n3 : gb293 ≠ wr.heap.size := Nat.ne_of_lt (blk_lt BK293.out)
                have n4 : gb294 ≠ wr.heap.size := Nat.ne_of_lt (blk_lt BK294.out)
                obtain ⟨Ao, co, eo⟩ := Kd.R_slice HO_7.out
                subst eo
                generalize wr.alloc (.cells #[.int .i64 a0_0, .int .i64 a0_1] 23) = X at B2 B3 B4 B9 HBX HOX ⊢
                generalize wr.heap.size = g9 at B9 l9 n2 n3 n4 ⊢
                clear BK292 BK293 BK294 HB HO_7 z0 z1
                obtain ⟨x0, x1, -, -⟩ := cells2 B2
                obtain ⟨y0, y1, -, -⟩ := cells2 B3
                go_wp2_with fail
                refine (helmsmanref02_lower.calls k1 _ _ l2 a1_0 t306 _ (Kd.C_below HR2.out HBX.out) (HC2.out) A52.out).mono ?_
                rintro e w' ⟨rfl, ⟨nd, rfl⟩⟩
                clear x0 x1 y0 y1
                replace B2 := blk_drewN B2 nd
                replace B3 := blk_drewN B3 nd
                replace B4 := blk_drewN B4 nd
                replace B9 := blk_drewN B9 nd
                replace HBX := Lib.hid (pw_below_drewN HBX.out nd)
                replace HOX := Lib.hid (Kd.R_drewN HOX.out nd)
                generalize X.drewN nd = Yd at B2 B3 B4 B9 HBX HOX ⊢
                obtain ⟨x0, x1, -, -⟩ := cells2 B2
                obtain ⟨y0, y1, -, -⟩ := cells2 B3
                obtain ⟨q0, q1, fq0, fq1⟩ := cells2 B9
                go_upto_region 14 with fail
                clear x0 x1 y0 y1 q0 q1 fq0 fq1
                have c9 : (Yd.setCell ⟨g9, 0, none⟩ (.int .i64 t306)).heap[g9]? = some (.cells #[.int .i64 t306, .int .i64 a0_1] 23 (0, 0)) := blk_put (cs := #[.int .i64 a0_0, .int .i64 a0_1]) B9 0 _ rfl
                have cO := Lib.hid (Kd.R_mono (ok' := fun _ => True) (Kd.R_far (p := ⟨g9, 0, none⟩) (Kd.R_types HOX.out B9 (by decide)) (fun _ hk => hk.2) (.int .i64 t306)) (fun _ h_ => h_.1))
                have c2 : (Yd.setCell ⟨g9, 0, none⟩ (.int .i64 t306)).heap[gb292]? = some (.cells #[.int .i64 a0_0, .int .i64 a0_1] 23 (0, 0)) := by exact blk_far B2 n2 _
                have c3 : (Yd.setCell ⟨g9, 0, none⟩ (.int .i64 t306)).heap[gb293]? = some (.cells #[.int .i64 a1_0, .int .i64 a1_1] 23 (0, 0)) := by exact blk_far B3 n3 _
                have c4 : (Yd.setCell ⟨g9, 0, none⟩ (.int .i64 t306)).heap[gb294]? = some (.cells #[.int .i64 0, .int .i64 0] 23 (0, 0)) := by exact blk_far B4 n4 _
                have cB : Hid (Below w.heap.size w (Yd.setCell ⟨g9, 0, none⟩ (.int .i64 t306))) := Lib.hid (Below.setCell HBX.out l9 _)
                clear B2 B3 B4 B9 HBX HOX
                have B2 := c2
                have B3 := c3
                have B4 := c4
                have B9 := c9
                have HBX := cB
                have HOX := cO
                clear c2 c3 c4 c9 cB cO
                generalize Yd.setCell ⟨g9, 0, none⟩ (.int .i64 t306) = Y at B2 B3 B4 B9 HBX HOX ⊢
                obtain ⟨x0, x1, -, -⟩ := cells2 B2
                obtain ⟨y0, y1, -, -⟩ := cells2 B3
                obtain ⟨q0, q1, -, -⟩ := cells2 B9
                obtain ⟨r0, r1, fr0, fr1⟩ := cells2 B4
                go_wp2_with fail
                exact bodyPost_ret (results_cell_row rfl _ _ gb294 23 #[.int .i64 t306, .int .i64 a0_1] (0, 0) _ rfl (put2 B4 _ _) Tryd.underlying23 rfl (by kernel_rfl)) rfl ⟨rfl, below2 HBX.out GE294.out _ _⟩
            · rw [if_neg c51] at H
              have c51b0 : decide (a1_0 < a0_0) = false := decide_eq_false c51
              clear c51
              by_cases c80 : a1_1 > a0_1
              · rw [if_pos c80] at H
                have c80b0 : decide (a0_1 < a1_1) = true := decide_eq_true c80
                clear c80
                replace H := Option.bind_eq_some_iff.mp H
                obtain ⟨t308, A810, H⟩ := H
                replace H : (some (a0_0, wrap64 (-t308))) = some (r1, r2) := H
                have A81 := Aside0.mk A810
                clear A810
                simp only [Option.some.injEq, Prod.mk.injEq] at H
                obtain ⟨rfl, rfl⟩ := H
                obtain ⟨z0, z1, -, -⟩ := cells2 BK292.out
                go_upto_region 12 with fail
                have B2 := blk_alloc BK292.out (.cells #[.int .i64 a0_0, .int .i64 a0_1] 23)
                have B3 := blk_alloc BK293.out (.cells #[.int .i64 a0_0, .int .i64 a0_1] 23)
                have B4 := blk_alloc BK294.out (.cells #[.int .i64 a0_0, .int .i64 a0_1] 23)
                have B9 := blk_new wr (.cells #[.int .i64 a0_0, .int .i64 a0_1] 23)
                have HBX := Lib.hid (Below.push HB.out (Nat.le_refl _) (.cells #[.int .i64 a0_0, .int .i64 a0_1] 23))
                have HOX := Lib.hid (Kd.R_alloc (o := .cells #[.int .i64 a0_0, .int .i64 a0_1] 23) HO_7.out)
                have l9 : w.heap.size ≤ wr.heap.size := below_size HB.out
                have n2 : gb292 ≠ wr.heap.size := Nat.ne_of_lt (blk_lt BK292.out)
                have n3 : gb293 ≠ wr.heap.size := Nat.ne_of_lt (blk_lt BK293.out)
                have n4 : gb294 ≠ wr.heap.size := Nat.ne_of_lt (blk_lt BK294.out)
                obtain ⟨Ao, co, eo⟩ := Kd.R_slice HO_7.out
                subst eo
                generalize wr.alloc (.cells #[.int .i64 a0_0, .int .i64 a0_1] 23) = X at B2 B3 B4 B9 HBX HOX ⊢
                generalize wr.heap.size = g9 at B9 l9 n2 n3 n4 ⊢
                clear BK292 BK293 BK294 HB HO_7 z0 z1
                obtain ⟨x0, x1, -, -⟩ := cells2 B2
                obtain ⟨y0, y1, -, -⟩ := cells2 B3
                go_wp2_with fail
                refine (helmsmanref02_lower.calls k1 _ _ x7_1 (wrap64 (-a1_1)) t308 _ ((Kd.R_reads' HOX.out).2.2) ((Kd.R_reads' HOX.out).2.1) A81.out).mono ?_
                rintro e w' ⟨rfl, ⟨nd, rfl⟩⟩
                clear x0 x1 y0 y1
                replace B2 := blk_drewN B2 nd
                replace B3 := blk_drewN B3 nd
                replace B4 := blk_drewN B4 nd
                replace B9 := blk_drewN B9 nd
                replace HBX := Lib.hid (pw_below_drewN HBX.out nd)
                replace HOX := Lib.hid (Kd.R_drewN HOX.out nd)
                generalize X.drewN nd = Zd at B2 B3 B4 B9 HBX HOX ⊢
                obtain ⟨x0, x1, -, -⟩ := cells2 B2
                obtain ⟨y0, y1, -, -⟩ := cells2 B3
                obtain ⟨q0, q1, fq0, fq1⟩ := cells2 B9
                go_upto_region 16 with fail
                clear x0 x1 y0 y1 q0 q1 fq0 fq1
                have c9 : (Zd.setCell ⟨g9, 1, none⟩ (.int .i64 (wrap64 (-t308)))).heap[g9]? = some (.cells #[.int .i64 a0_0, .int .i64 (wrap64 (-t308))] 23 (0, 0)) := blk_put (cs := #[.int .i64 a0_0, .int .i64 a0_1]) B9 1 _ rfl
                have cO := Lib.hid (Kd.R_mono (ok' := fun _ => True) (Kd.R_far (p := ⟨g9, 1, none⟩) (Kd.R_types HOX.out B9 (by decide)) (fun _ hk => hk.2) (.int .i64 (wrap64 (-t308)))) (fun _ h_ => h_.1))
                have c2 : (Zd.setCell ⟨g9, 1, none⟩ (.int .i64 (wrap64 (-t308)))).heap[gb292]? = some (.cells #[.int .i64 a0_0, .int .i64 a0_1] 23 (0, 0)) := by exact blk_far B2 n2 _
                have c3 : (Zd.setCell ⟨g9, 1, none⟩ (.int .i64 (wrap64 (-t308)))).heap[gb293]? = some (.cells #[.int .i64 a1_0, .int .i64 a1_1] 23 (0, 0)) := by exact blk_far B3 n3 _
                have c4 : (Zd.setCell ⟨g9, 1, none⟩ (.int .i64 (wrap64 (-t308)))).heap[gb294]? = some (.cells #[.int .i64 0, .int .i64 0] 23 (0, 0)) := by exact blk_far B4 n4 _
                have cB : Hid (Below w.heap.size w (Zd.setCell ⟨g9, 1, none⟩ (.int .i64 (wrap64 (-t308))))) := Lib.hid (Below.setCell HBX.out l9 _)
                clear B2 B3 B4 B9 HBX HOX
                have B2 := c2
                have B3 := c3
                have B4 := c4
                have B9 := c9
                have HBX := cB
                have HOX := cO
                clear c2 c3 c4 c9 cB cO
                generalize Zd.setCell ⟨g9, 1, none⟩ (.int .i64 (wrap64 (-t308))) = Z at B2 B3 B4 B9 HBX HOX ⊢
                obtain ⟨x0, x1, -, -⟩ := cells2 B2
                obtain ⟨y0, y1, -, -⟩ := cells2 B3
                obtain ⟨q0, q1, -, -⟩ := cells2 B9
                obtain ⟨r0, r1, fr0, fr1⟩ := cells2 B4
                go_wp2_with fail
                exact bodyPost_ret (results_cell_row rfl _ _ gb294 23 #[.int .i64 a0_0, .int .i64 (wrap64 (-t308))] (0, 0) _ rfl (put2 B4 _ _) Tryd.underlying23 rfl (by kernel_rfl)) rfl ⟨rfl, below2 HBX.out GE294.out _ _⟩
              · rw [if_neg c80] at H
                have c80b0 : decide (a0_1 < a1_1) = false := decide_eq_false c80
                clear c80
                simp only [Option.some.injEq, Prod.mk.injEq] at H
                obtain ⟨rfl, rfl⟩ := H
                obtain ⟨z0, z1, -, -⟩ := cells2 BK292.out
                go_upto_region 12 with fail
                have B2 := blk_alloc BK292.out (.cells #[.int .i64 a0_0, .int .i64 a0_1] 23)
                have B3 := blk_alloc BK293.out (.cells #[.int .i64 a0_0, .int .i64 a0_1] 23)
                have B4 := blk_alloc BK294.out (.cells #[.int .i64 a0_0, .int .i64 a0_1] 23)
                have B9 := blk_new wr (.cells #[.int .i64 a0_0, .int .i64 a0_1] 23)
                have HBX := Lib.hid (Below.push HB.out (Nat.le_refl _) (.cells #[.int .i64 a0_0, .int .i64 a0_1] 23))
                have HOX := Lib.hid (Kd.R_alloc (o := .cells #[.int .i64 a0_0, .int .i64 a0_1] 23) HO_7.out)
                have l9 : w.heap.size ≤ wr.heap.size := below_size HB.out
                have n2 : gb292 ≠ wr.heap.size := Nat.ne_of_lt (blk_lt BK292.out)
                have n3 : gb293 ≠ wr.heap.size := Nat.ne_of_lt (blk_lt BK293.out)
                have n4 : gb294 ≠ wr.heap.size := Nat.ne_of_lt (blk_lt BK294.out)
                obtain ⟨Ao, co, eo⟩ := Kd.R_slice HO_7.out
                subst eo
                generalize wr.alloc (.cells #[.int .i64 a0_0, .int .i64 a0_1] 23) = X at B2 B3 B4 B9 HBX HOX ⊢
                generalize wr.heap.size = g9 at B9 l9 n2 n3 n4 ⊢
                clear BK292 BK293 BK294 HB HO_7 z0 z1
                obtain ⟨x0, x1, -, -⟩ := cells2 B2
                obtain ⟨y0, y1, -, -⟩ := cells2 B3
                obtain ⟨q0, q1, -, -⟩ := cells2 B9
                obtain ⟨r0, r1, fr0, fr1⟩ := cells2 B4
                go_wp2_with fail
                exact bodyPost_ret (results_cell_row rfl _ _ gb294 23 #[.int .i64 a0_0, .int .i64 a0_1] (0, 0) _ rfl (put2 B4 _ _) Tryd.underlying23 rfl (by kernel_rfl)) rfl ⟨rfl, below2 HBX.out GE294.out _ _⟩

end Go.Proofs.YtjddafaaplhnfaaDoor.PSpanWidens

set_option linter.unusedVariables false
set_option linter.unusedSimpArgs false
namespace Go.Proofs.YtjddafaaplhnfaaDoor.PSpanWidens
open Go Go.RowKit Go.Proofs.YtjddafaaplhnfaaDoorW.PrintWords Go.Proofs.YtjddafaaplhnfaaDoorW.PrintLast Go.Proofs.YtjddafaaplhnfaaDoorW.PrintMore

theorem rWiden_go (l : List Int) (hl : l.length ≤ 100000) (a0 a1 b0 b1 : Int) (hb : Sp.ok b0 b1 = true) : ∀ (d i k : Nat) (m : List Int), l.length - i = d → i ≤ l.length → d + l.length + 3 < k → m.length ≤ i → m ++ Sp.minus (l.drop i) = Sp.minus l →
    helmsmanref02_Widen.l0 k l m i a0 a1 b0 b1 = some (if a0 ≤ b0 then a0 else Sp.lowS b0 l (-1152921504606846976), if b1 ≤ a1 then a1 else Sp.highS b1 l 1152921504606846976) := by
  have hb' := Sp.ok_iff.1 hb
  intro d
  induction d with
  | zero =>
    intro i k m hd hi2 hk hm he
    obtain ⟨k, rfl⟩ : ∃ m, k = m + 1 := ⟨k - 1, by omega⟩
    have : l.drop i = [] := by rw [List.drop_eq_nil_iff]; omega
    rw [this] at he
    have he : m = Sp.minus l := by simpa [Sp.minus] using he
    subst he
    have hml := minus_length l
    simp only [helmsmanref02_Widen.l0]
    rw [if_neg (show ¬ ((i : Int) < (l.length : Int)) by omega), rLower_f l b0 (by omega) k (by omega), w64 (by omega), rLower_f (Sp.minus l) (-b1) (by omega) k (by omega)]
    simp only [Option.bind_some]
    have hs := Sp.minus_eq b1 l 1152921504606846976
    have hbd := Sp.highS_bd l hb'.2.2
    have hw : wrap64 (-(Sp.lowS (-b1) (Sp.minus l) (-1152921504606846976))) = Sp.highS b1 l 1152921504606846976 := by
      rw [hs, w64 (by omega)]
    rw [hw]
    by_cases c1 : b0 < a0
    · rw [if_pos c1, if_neg (show ¬ a0 ≤ b0 by omega)]
      by_cases c2 : b1 > a1
      · rw [if_pos c2, if_neg (by omega)]
      · rw [if_neg c2, if_pos (by omega)]
    · rw [if_neg c1, if_pos (show a0 ≤ b0 by omega)]
      by_cases c2 : b1 > a1
      · rw [if_pos c2, if_neg (by omega)]
      · rw [if_neg c2, if_pos (by omega)]
  | succ d ih =>
    intro i k m hd hi2 hk hm he
    obtain ⟨k, rfl⟩ : ∃ m, k = m + 1 := ⟨k - 1, by omega⟩
    have hlt : i < l.length := by omega
    have c1 : (i : Int) < (l.length : Int) := by omega
    have c2 : (0 : Int) ≤ (i : Int) := by omega
    have c3 : m.length < 17592186044416 := by omega
    have k1 : d + l.length + 3 < k := by omega
    have k2 : l.length - (i + 1) = d := by omega
    have k3 : i + 1 ≤ l.length := by omega
    have k4 : m.length ≤ i + 1 := by omega
    have hr : rd l (i : Int) = l[i] := by unfold rd; simp [List.getD, hlt]
    have hw : wrap64 ((i : Int) + 1) = ((i + 1 : Nat) : Int) := by rw [w64 (by omega)]; omega
    rw [List.drop_eq_getElem_cons hlt] at he
    simp only [helmsmanref02_Widen.l0]
    rw [if_pos c1, if_pos c2, hr, hw, rIn_f]
    simp only [Option.bind_some]
    cases h1 : Bd.inn l[i]
    · rw [if_neg (by simp)]
      refine ih (i + 1) k m k2 k3 k1 k4 ?_
      rw [← he]
      unfold Sp.minus
      rw [List.filter_cons_of_neg (by simp [h1])]
    · have hi := Bd.inn_iff.1 h1
      rw [if_pos rfl, if_pos c3, w64 (by omega)]
      refine ih (i + 1) k _ k2 k3 k1 (by rw [List.length_append]; exact Nat.succ_le_succ hm) ?_
      rw [← he]
      unfold Sp.minus
      rw [List.filter_cons_of_pos (by simp [h1])]
      simp
theorem rWiden_f (l : List Int) (hl : l.length ≤ 1000) (a0 a1 b0 b1 : Int) : helmsmanref02_Widen.f 3000 a0 a1 b0 b1 l = some (Sp.widen a0 a1 b0 b1 l) := by
  unfold helmsmanref02_Widen.f Sp.widen
  rw [rLeq_f 2999, rJoin_f 3000 (by omega), rNone_f 2999]
  simp only [Option.bind_some]
  cases h1 : Sp.leq b0 b1 a0 a1
  · have hb : Sp.ok b0 b1 = true := by
      cases h : Sp.ok b0 b1
      · have := (Sp.leq_iff (a0 := b0) (a1 := b1) (b0 := a0) (b1 := a1)).2 (.inl h)
        rw [this] at h1; cases h1
      · rfl
    cases h2 : Sp.ok a0 a1
    · simp
    · have hgo := rWiden_go l (by omega) a0 a1 b0 b1 hb l.length 0 3000 [] (by omega) (by omega) (by omega) (by simp) (by simp)
      have e : ((0 : Nat) : Int) = 0 := rfl
      rw [e] at hgo
      simp only [Bool.false_eq_true, if_false, Bool.not_true, hgo, reduceCtorEq]
  · rw [if_pos rfl, if_pos rfl]
    congr 1
    unfold Sp.join
    cases h2 : Sp.ok a0 a1
    · rfl
    · rw [if_pos rfl, if_pos rfl]; unfold Sp.clean; rw [if_pos h2]; simp
theorem rwiden_to {w : World} (a0 a1 b0 b1 : Int) (l : List Int) (v : Value) (v1 v2 : Int) (hl : IntsAt w v l) (hlen : l.length ≤ 1000) (h : Sp.widen a0 a1 b0 b1 l = (v1, v2)) :
    Calls Tryd.prog 17 #[.agg #[.int .i64 a0, .int .i64 a1], .agg #[.int .i64 b0, .int .i64 b1], v] w fun e w' => e = .returned (.agg #[.int .i64 v1, .int .i64 v2]) ∧ Below w.heap.size w w' := by
  obtain ⟨A, c, rfl, h0, hC⟩ := hl.row
  exact (helmsmanref02_Widen.calls 3000 a0 a1 b0 b1 A c l v1 v2 w hC h0 (by rw [rWiden_f _ hlen, h])).mono fun e w' h => ⟨h.1, by first | exact h.2 | exact h.2.below⟩
end Go.Proofs.YtjddafaaplhnfaaDoor.PSpanWidens

set_option linter.unusedVariables false
set_option linter.unusedSimpArgs false
namespace Go.Proofs.YtjddafaaplhnfaaDoor.PSpanWidens
open Go Go.RowKit Go.Deep Go.Proofs.YtjddafaaplhnfaaDoorW.PrintWords Go.Proofs.YtjddafaaplhnfaaDoorW.PrintLast Go.Proofs.YtjddafaaplhnfaaDoorW.PrintMore
variable {w : World}
theorem eq_rsp (w : World) (x0 x1 y0 y1 : Int) :
    (Op.equalIn 10000 23 (.agg #[.int .i64 x0, .int .i64 x1]) (.agg #[.int .i64 y0, .int .i64 y1])).run Tryd.prog w = .ok (spEq x0 x1 y0 y1) w := by
  rw [run_equalIn_struct w 9999 23 _ _ (by kernel_rfl) (by kernel_rfl)]
  simp only [Program.fieldsOf, Tryd.underlying23, spEq]
  go_simp
  by_cases h0 : x0 = y0 <;> by_cases h1 : x1 = y1 <;> simp [h0, h1]
attribute [local go_sem high] eq_rsp
theorem size2 (W : World) (o7 : Obj) : (W.alloc o7).heap.size = W.heap.size + 1 := by simp
theorem two_boxes (W : World) (o7 o8 : Obj) : ((W.alloc o7).alloc o8).heap[W.heap.size]? = some o7 ∧ ((W.alloc o7).alloc o8).heap[W.heap.size + 1]? = some o8 := by
  refine ⟨blk_alloc (blk_new _ _) _, ?_⟩
  have := blk_new (W.alloc o7) o8
  rw [size2] at this
  exact this
set_option maxRecDepth 100000 in
set_option maxHeartbeats 16000000 in
theorem SpanWidens_walk (a0 a1 b0 b1 : Int) (v : Value) (l : List Int) (hT : Tabs w) (hl : IntsAt w v l) :
    Calls Tryd.prog 4 #[.agg #[.int .i64 a0, .int .i64 a1], .agg #[.int .i64 b0, .int .i64 b1], v] w fun e w' => e = .returned (.bool true) ∧ Below w.heap.size w w' := by
  have HT := Lib.hid hT
  have HL := Lib.hid hl
  obtain ⟨ao, c, rfl, hcap, hlen, hc⟩ := hl
  clear hT hc hcap hlen
  have hu1 := Sp.leq_widen a0 a1 b0 b1 l
  have hn1 := Sp.leq_meet_narrow a0 a1 b0 b1
  have hn2 := @Sp.narrow_between a0 a1 b0 b1
  obtain ⟨⟨u0, u1⟩, hu⟩ : ∃ p, Sp.widen a0 a1 b0 b1 l = p := ⟨_, rfl⟩
  obtain ⟨⟨n0, n1⟩, hn⟩ : ∃ p, Sp.narrow a0 a1 b0 b1 = p := ⟨_, rfl⟩
  obtain ⟨⟨m0, m1⟩, hm⟩ : ∃ p, Sp.meet a0 a1 b0 b1 = p := ⟨_, rfl⟩
  rw [hu] at hu1
  rw [hm, hn] at hn1
  rw [hn] at hn2
  have HU := Lib.hid hu
  have HN := Lib.hid hn
  have HM := Lib.hid hm
  have HU1 := Lib.hid hu1
  have HN1 := Lib.hid hn1
  have HN2 := Lib.hid hn2
  clear hu hn hm hu1 hn1 hn2
  have su : spEq u0 u1 u0 u1 = true := by simp [spEq]
  have sn : spEq n0 n1 n0 n1 = true := by simp [spEq]
  obtain ⟨ka, kb, HB⟩ := box2 w (.cells #[.int .i64 a0, .int .i64 a1] 23) (.cells #[.int .i64 b0, .int .i64 b1] 23) (Below.refl _ _)
  have KA := Lib.hid ka
  have KB := Lib.hid kb
  have HB' := Lib.hid HB
  clear ka kb HB
  go_enter Tryd.func4, Tryd.ntmps4
  by_cases hlt : 50 < l.length
  · have d1 : decide ((50 : Int) < (l.length : Int)) = true := decide_eq_true (by omega)
    go_wp2_with fail
    refine (alive02 (HT.out.below HB'.out)).mono ?_
    rintro e w4 ⟨rfl, hb4⟩
    have HB3 := Lib.hid (seq HB'.out hb4)
    clear hb4
    go_wp2_with fail
    go_ret
    exact ⟨rfl, HB3.out⟩
  · have d1 : decide ((50 : Int) < (l.length : Int)) = false := decide_eq_false (by omega)
    obtain ⟨qa0, qa1, -, -⟩ := cells2 KA.out
    obtain ⟨qb0, qb1, -, -⟩ := cells2 KB.out
    go_upto_region 3 with fail
    go_cut [7, 8] (fun v7 v8 wc => ∃ g7 g8 : Nat, v7 = .pointer (some ⟨g7, 0, none⟩) ∧ v8 = .pointer (some ⟨g8, 0, none⟩) ∧ Hid (Below w.heap.size w wc) ∧ Hid (wc.heap[w.heap.size]? = some (.cells #[.int .i64 a0, .int .i64 a1] 23 (0, 0))) ∧ Hid (wc.heap[w.heap.size + 1]? = some (.cells #[.int .i64 b0, .int .i64 b1] 23 (0, 0))) ∧ Hid (wc.heap[g7]? = some (.cells #[.int .i64 a0, .int .i64 a1] 24 (0, 0))) ∧ Hid (wc.heap[g8]? = some (.cells #[.int .i64 b0, .int .i64 b1] 24 (0, 0))))
    case first =>
      go_wp2_with fail
      go_region
      all_goals (go_wp2_with fail; go_meet)
      all_goals first
        | exact ⟨_, _, rfl, rfl, (Below.push (Below.push HB'.out (by omega) (.cells #[.int .i64 a0, .int .i64 a1] 24)) (by have := size2 ((w.alloc (.cells #[.int .i64 a0, .int .i64 a1] 23)).alloc (.cells #[.int .i64 b0, .int .i64 b1] 23)) (.cells #[.int .i64 a0, .int .i64 a1] 24); omega) (.cells #[.int .i64 b0, .int .i64 b1] 24)).drew, Lib.hid (blk_alloc (blk_alloc KA.out (.cells #[.int .i64 a0, .int .i64 a1] 24)) (.cells #[.int .i64 b0, .int .i64 b1] 24)), Lib.hid (blk_alloc (blk_alloc KB.out (.cells #[.int .i64 a0, .int .i64 a1] 24)) (.cells #[.int .i64 b0, .int .i64 b1] 24)), (by have := (two_boxes ((w.alloc (.cells #[.int .i64 a0, .int .i64 a1] 23)).alloc (.cells #[.int .i64 b0, .int .i64 b1] 23)) (.cells #[.int .i64 a0, .int .i64 a1] 24) (.cells #[.int .i64 b0, .int .i64 b1] 24)).1; rw [size2, size2] at this; exact this), (by have := (two_boxes ((w.alloc (.cells #[.int .i64 a0, .int .i64 a1] 23)).alloc (.cells #[.int .i64 b0, .int .i64 b1] 23)) (.cells #[.int .i64 a0, .int .i64 a1] 24) (.cells #[.int .i64 b0, .int .i64 b1] 24)).2; rw [size2, size2] at this; exact this)⟩
        | exact ⟨_, _, rfl, rfl, (Below.push (Below.push HB'.out (by omega) (.cells #[.int .i64 b0, .int .i64 b1] 24)) (by have := size2 ((w.alloc (.cells #[.int .i64 a0, .int .i64 a1] 23)).alloc (.cells #[.int .i64 b0, .int .i64 b1] 23)) (.cells #[.int .i64 b0, .int .i64 b1] 24); omega) (.cells #[.int .i64 a0, .int .i64 a1] 24)).drew, Lib.hid (blk_alloc (blk_alloc KA.out (.cells #[.int .i64 b0, .int .i64 b1] 24)) (.cells #[.int .i64 a0, .int .i64 a1] 24)), Lib.hid (blk_alloc (blk_alloc KB.out (.cells #[.int .i64 b0, .int .i64 b1] 24)) (.cells #[.int .i64 a0, .int .i64 a1] 24)), (by have := (two_boxes ((w.alloc (.cells #[.int .i64 a0, .int .i64 a1] 23)).alloc (.cells #[.int .i64 b0, .int .i64 b1] 23)) (.cells #[.int .i64 b0, .int .i64 b1] 24) (.cells #[.int .i64 a0, .int .i64 a1] 24)).2; rw [size2, size2] at this; exact this), (by have := (two_boxes ((w.alloc (.cells #[.int .i64 a0, .int .i64 a1] 23)).alloc (.cells #[.int .i64 b0, .int .i64 b1] 23)) (.cells #[.int .i64 b0, .int .i64 b1] 24) (.cells #[.int .i64 a0, .int .i64 a1] 24)).1; rw [size2, size2] at this; exact this)⟩
    case rest =>
      obtain ⟨g7, g8, rfl, rfl, HB, KA2, KB2, K7, K8⟩ := hcut
      clear qa0 qa1 qb0 qb1 KA KB HB'
      obtain ⟨x0, x1, -, -⟩ := cells2 K7.out
      obtain ⟨x2, x3, -, -⟩ := cells2 K8.out
      have HLc := Lib.hid (HL.out.below HB.out)
      go_upto_region 4 with fail
      go_cut [9, 10] (fun v9 v10 wd => ∃ g9 g10 : Nat, v9 = .pointer (some ⟨g9, 0, none⟩) ∧ v10 = .pointer (some ⟨g10, 0, none⟩) ∧ Hid (Below w.heap.size w wd) ∧ Hid (wd.heap[w.heap.size]? = some (.cells #[.int .i64 a0, .int .i64 a1] 23 (0, 0))) ∧ Hid (wd.heap[w.heap.size + 1]? = some (.cells #[.int .i64 b0, .int .i64 b1] 23 (0, 0))) ∧ Hid (wd.heap[g7]? = some (.cells #[.int .i64 a0, .int .i64 a1] 24 (0, 0))) ∧ Hid (wd.heap[g8]? = some (.cells #[.int .i64 b0, .int .i64 b1] 24 (0, 0))) ∧ Hid (wd.heap[g9]? = some (.cells #[.int .i64 u0, .int .i64 u1] 24 (0, 0))) ∧ Hid (wd.heap[g10]? = some (.cells #[.int .i64 n0, .int .i64 n1] 24 (0, 0))))
      case first =>
        clear d1
        go_wp2_with fail
        refine start_ (n := 11) (S := fun w' => w'.cell? ⟨g7, 0, none⟩ = some (.int .i64 a0) ∧ w'.cell? ⟨g7, 1, none⟩ = some (.int .i64 a1) ∧ w'.cell? ⟨g8, 0, none⟩ = some (.int .i64 b0) ∧ w'.cell? ⟨g8, 1, none⟩ = some (.int .i64 b1)) (ds := [9, 10]) #[false, false, false, false, false, false, false, false, false, false, false] (by kernel_rfl) rfl rfl ⟨cell_below ((Below.refl wc.heap.size wc).drew) x0, cell_below ((Below.refl wc.heap.size wc).drew) x1, cell_below ((Below.refl wc.heap.size wc).drew) x2, cell_below ((Below.refl wc.heap.size wc).drew) x3⟩ (fun hHeld => ?_)
        refine pure_ (i := 2) (N := some 19) (v := ?_) (a' := ?_) #[false, false, true, false, false, false, false, false, false, false, false] rfl rfl (by kernel_rfl) (fun _ _ _ h => h) (Or.inl ⟨by rfl, ?_⟩) ?_ ?_
        rotate_left
        · intro w'
          go_simp
          with_reducible rfl
        rotate_left
        · simp only [Act.put, List.setIfInBounds_toArray, List.set_cons_zero, List.set_cons_succ, i64_w, i32_w]
          rfl
        refine take_ (i := 0) (N := some 17) (v := ?_) (a' := ?_) #[true, false, true, false, false, false, false, false, false, false, false] rfl rfl (by kernel_rfl) (fun _ _ _ h => h) (Or.inl ⟨by rfl, ?_⟩) hHeld ?_ ?_
        rotate_left
        · rintro w' ⟨s0, s1, s2, s3⟩
          go_simp
          with_reducible rfl
        rotate_left
        · simp only [Act.put, List.setIfInBounds_toArray, List.set_cons_zero, List.set_cons_succ, i64_w, i32_w]
          rfl
        refine take_ (i := 1) (N := some 18) (v := ?_) (a' := ?_) #[true, true, true, false, false, false, false, false, false, false, false] rfl rfl (by kernel_rfl) (fun _ _ _ h => h) (Or.inl ⟨by rfl, ?_⟩) hHeld ?_ ?_
        rotate_left
        · rintro w' ⟨s0, s1, s2, s3⟩
          go_simp
          with_reducible rfl
        rotate_left
        · simp only [Act.put, List.setIfInBounds_toArray, List.set_cons_zero, List.set_cons_succ, i64_w, i32_w]
          rfl
        refine take_ (i := 4) (N := some 21) (v := ?_) (a' := ?_) #[true, true, true, false, true, false, false, false, false, false, false] rfl rfl (by kernel_rfl) (fun _ _ _ h => h) (Or.inl ⟨by rfl, ?_⟩) hHeld ?_ ?_
        rotate_left
        · rintro w' ⟨s0, s1, s2, s3⟩
          go_simp
          with_reducible rfl
        rotate_left
        · simp only [Act.put, List.setIfInBounds_toArray, List.set_cons_zero, List.set_cons_succ, i64_w, i32_w]
          rfl
        refine take_ (i := 5) (N := some 22) (v := ?_) (a' := ?_) #[true, true, true, false, true, true, false, false, false, false, false] rfl rfl (by kernel_rfl) (fun _ _ _ h => h) (Or.inl ⟨by rfl, ?_⟩) hHeld ?_ ?_
        rotate_left
        · rintro w' ⟨s0, s1, s2, s3⟩
          go_simp
          with_reducible rfl
        rotate_left
        · simp only [Act.put, List.setIfInBounds_toArray, List.set_cons_zero, List.set_cons_succ, i64_w, i32_w]
          rfl
        refine join_ (σ := Nat × Nat) 2 #[true, true, true, true, true, true, true, true, true, false, false] (fun zz => [(20, .agg #[.int .i64 u0, .int .i64 u1]), (23, .agg #[.int .i64 n0, .int .i64 n1]), (9, .pointer (some ⟨zz.1, 0, none⟩)), (10, .pointer (some ⟨zz.2, 0, none⟩))]) (fun zz w' => Below wc.heap.size wc w' ∧ w'.heap[zz.1]? = some (.cells #[.int .i64 0, .int .i64 0] 24 (0, 0)) ∧ wc.heap.size ≤ zz.1 ∧ w'.heap[zz.2]? = some (.cells #[.int .i64 0, .int .i64 0] 24 (0, 0)) ∧ wc.heap.size ≤ zz.2 ∧ zz.1 ≠ zz.2) ?_ ?_
        rotate_left
        · intro hJ3_6_7_8
          refine join_ (σ := Nat) 3 #[true, true, true, true, true, true, true, true, false, false, false] (fun zz => [(20, .agg #[.int .i64 u0, .int .i64 u1]), (23, .agg #[.int .i64 n0, .int .i64 n1]), (9, .pointer (some ⟨zz, 0, none⟩))]) (fun zz w' => Below wc.heap.size wc w' ∧ w'.heap[zz]? = some (.cells #[.int .i64 0, .int .i64 0] 24 (0, 0)) ∧ wc.heap.size ≤ zz) ?_ ?_
          rotate_left
          · intro hJ3_6_7
            refine join_ (σ := Nat) 3 #[true, true, true, true, true, true, true, false, true, false, false] (fun zz => [(20, .agg #[.int .i64 u0, .int .i64 u1]), (23, .agg #[.int .i64 n0, .int .i64 n1]), (10, .pointer (some ⟨zz, 0, none⟩))]) (fun zz w' => Below wc.heap.size wc w' ∧ w'.heap[zz]? = some (.cells #[.int .i64 0, .int .i64 0] 24 (0, 0)) ∧ wc.heap.size ≤ zz) ?_ ?_
            rotate_left
            · intro hJ3_6_8
              refine join_ (σ := Nat × Nat) 3 #[true, true, true, true, true, true, false, true, true, false, false] (fun zz => [(20, .agg #[.int .i64 u0, .int .i64 u1]), (9, .pointer (some ⟨zz.1, 0, none⟩)), (10, .pointer (some ⟨zz.2, 0, none⟩))]) (fun zz w' => Below wc.heap.size wc w' ∧ w'.heap[zz.1]? = some (.cells #[.int .i64 0, .int .i64 0] 24 (0, 0)) ∧ wc.heap.size ≤ zz.1 ∧ w'.heap[zz.2]? = some (.cells #[.int .i64 0, .int .i64 0] 24 (0, 0)) ∧ wc.heap.size ≤ zz.2 ∧ zz.1 ≠ zz.2) ?_ ?_
              rotate_left
              · intro hJ3_7_8
                refine join_ (σ := Unit) 4 #[true, true, true, true, true, true, true, false, false, false, false] (fun zz => [(20, .agg #[.int .i64 u0, .int .i64 u1]), (23, .agg #[.int .i64 n0, .int .i64 n1])]) (fun zz w' => Below wc.heap.size wc w') ?_ ?_
                rotate_left
                · intro hJ3_6
                  refine join_ (σ := Nat) 4 #[true, true, true, true, true, true, false, true, false, false, false] (fun zz => [(20, .agg #[.int .i64 u0, .int .i64 u1]), (9, .pointer (some ⟨zz, 0, none⟩))]) (fun zz w' => Below wc.heap.size wc w' ∧ w'.heap[zz]? = some (.cells #[.int .i64 0, .int .i64 0] 24 (0, 0)) ∧ wc.heap.size ≤ zz) ?_ ?_
                  rotate_left
                  · intro hJ3_7
                    refine join_ (σ := Nat) 4 #[true, true, true, true, true, true, false, false, true, false, false] (fun zz => [(20, .agg #[.int .i64 u0, .int .i64 u1]), (10, .pointer (some ⟨zz, 0, none⟩))]) (fun zz w' => Below wc.heap.size wc w' ∧ w'.heap[zz]? = some (.cells #[.int .i64 0, .int .i64 0] 24 (0, 0)) ∧ wc.heap.size ≤ zz) ?_ ?_
                    rotate_left
                    · intro hJ3_8
                      refine join_ (σ := Nat × Nat) 4 #[true, true, true, false, true, true, false, true, true, false, false] (fun zz => [(9, .pointer (some ⟨zz.1, 0, none⟩)), (10, .pointer (some ⟨zz.2, 0, none⟩))]) (fun zz w' => Below wc.heap.size wc w' ∧ w'.heap[zz.1]? = some (.cells #[.int .i64 0, .int .i64 0] 24 (0, 0)) ∧ wc.heap.size ≤ zz.1 ∧ w'.heap[zz.2]? = some (.cells #[.int .i64 0, .int .i64 0] 24 (0, 0)) ∧ wc.heap.size ≤ zz.2 ∧ zz.1 ≠ zz.2) ?_ ?_
                      rotate_left
                      · intro hJ7_8
                        refine join_ (σ := Unit) 5 #[true, true, true, true, true, true, false, false, false, false, false] (fun zz => [(20, .agg #[.int .i64 u0, .int .i64 u1])]) (fun zz w' => Below wc.heap.size wc w') ?_ ?_
                        rotate_left
                        · intro hJ3
                          refine join_ (σ := Nat) 5 #[true, true, true, false, true, true, false, true, false, false, false] (fun zz => [(9, .pointer (some ⟨zz, 0, none⟩))]) (fun zz w' => Below wc.heap.size wc w' ∧ w'.heap[zz]? = some (.cells #[.int .i64 0, .int .i64 0] 24 (0, 0)) ∧ wc.heap.size ≤ zz) ?_ ?_
                          rotate_left
                          · intro hJ7
                            refine join_ (σ := Nat) 5 #[true, true, true, false, true, true, false, false, true, false, false] (fun zz => [(10, .pointer (some ⟨zz, 0, none⟩))]) (fun zz w' => Below wc.heap.size wc w' ∧ w'.heap[zz]? = some (.cells #[.int .i64 0, .int .i64 0] 24 (0, 0)) ∧ wc.heap.size ≤ zz) ?_ ?_
                            rotate_left
                            · intro hJ8
                              refine three_ (i := 3) (j := 7) (k := 8) (Ni := some 20) (Nj := some 9) (Nk := some 10) #[true, true, true, true, true, true, false, false, false, false, false] #[true, true, true, false, true, true, false, true, false, false, false] #[true, true, true, false, true, true, false, false, true, false, false] rfl rfl rfl rfl rfl rfl (by kernel_rfl) (by decide) (by decide) (by decide) (fun K hK => ?_) (fun K hK => ?_) (fun K hK => ?_)
                              · skip
                                refine goes_ Tryd.func15 (by kernel_rfl) rfl #[.agg #[.int .i64 a0, .int .i64 a1], .agg #[.int .i64 b0, .int .i64 b1], .slice ao l.length c] (by rfl) rfl rfl (by simp only [List.map_toArray, List.map_cons, List.map_nil]; rfl) ?_
                                with_reducible refine (widen_to a0 a1 b0 b1 l (.slice ao l.length c) u0 u1 (HLc.out.below (by first | exact cur | exact (Below.refl _ _).drew)) (by omega) HU.out).mono ?_
                                rintro e w3 ⟨rfl, hb⟩
                                refine ⟨_, rfl, ?_⟩
                                have cur3 := seq ((Below.refl wc.heap.size wc).drew) hb
                                refine hK.out _ _ ⟨cell_below (cur3) x0, cell_below (cur3) x1, cell_below (cur3) x2, cell_below (cur3) x3⟩ (fun hHeld => ?_)
                                clear hK K
                                refine norm_ (a' := ?_) ?_ ?_
                                rotate_left
                                · show Act.put _ (some 20) _ = _
                                  simp only [Act.put, List.setIfInBounds_toArray, List.set_cons_zero, List.set_cons_succ, i64_w, i32_w]
                                  rfl
                                exact norm_ (by first | (simp only [putAll, Act.put, List.setIfInBounds_toArray, List.set_cons_zero, List.set_cons_succ]; done) | (simp only [putAll, Act.put, List.setIfInBounds_toArray, List.set_cons_zero, List.set_cons_succ]; rfl)) (hJ3 () _ cur3)
                              · skip
                                refine value_ (w1 := ?_) (v := ?_) (by rfl) rfl ?_ ?_
                                rotate_left 2
                                · go_simp
                                  constructor
                                  · rfl
                                  · rfl
                                have cur3 := Below.push ((Below.refl wc.heap.size wc).drew) (Nat.le_refl _) (.cells #[.int .i64 0, .int .i64 0] 24)
                                refine hK.out _ _ ⟨cell_below (cur3) x0, cell_below (cur3) x1, cell_below (cur3) x2, cell_below (cur3) x3⟩ (fun hHeld => ?_)
                                clear hK K
                                refine norm_ (a' := ?_) ?_ ?_
                                rotate_left
                                · show Act.put _ (some 9) _ = _
                                  simp only [Act.put, List.setIfInBounds_toArray, List.set_cons_zero, List.set_cons_succ, i64_w, i32_w]
                                  rfl
                                exact norm_ (by first | (simp only [putAll, Act.put, List.setIfInBounds_toArray, List.set_cons_zero, List.set_cons_succ]; done) | (simp only [putAll, Act.put, List.setIfInBounds_toArray, List.set_cons_zero, List.set_cons_succ]; rfl)) (hJ7 (wc.drew.heap.size) _ ⟨cur3, blk_new _ _, ((Below.refl wc.heap.size wc).drew).size⟩)
                              · skip
                                refine value_ (w1 := ?_) (v := ?_) (by rfl) rfl ?_ ?_
                                rotate_left 2
                                · go_simp
                                  constructor
                                  · rfl
                                  · rfl
                                have cur3 := Below.push ((Below.refl wc.heap.size wc).drew) (Nat.le_refl _) (.cells #[.int .i64 0, .int .i64 0] 24)
                                refine hK.out _ _ ⟨cell_below (cur3) x0, cell_below (cur3) x1, cell_below (cur3) x2, cell_below (cur3) x3⟩ (fun hHeld => ?_)
                                clear hK K
                                refine norm_ (a' := ?_) ?_ ?_
                                rotate_left
                                · show Act.put _ (some 10) _ = _
                                  simp only [Act.put, List.setIfInBounds_toArray, List.set_cons_zero, List.set_cons_succ, i64_w, i32_w]
                                  rfl
                                exact norm_ (by first | (simp only [putAll, Act.put, List.setIfInBounds_toArray, List.set_cons_zero, List.set_cons_succ]; done) | (simp only [putAll, Act.put, List.setIfInBounds_toArray, List.set_cons_zero, List.set_cons_succ]; rfl)) (hJ8 (wc.drew.heap.size) _ ⟨cur3, blk_new _ _, ((Below.refl wc.heap.size wc).drew).size⟩)
                            · skip
                              rintro ga8 w1 ⟨cur, p8, q8⟩
                              have hHeld : w1.cell? ⟨g7, 0, none⟩ = some (.int .i64 a0) ∧ w1.cell? ⟨g7, 1, none⟩ = some (.int .i64 a1) ∧ w1.cell? ⟨g8, 0, none⟩ = some (.int .i64 b0) ∧ w1.cell? ⟨g8, 1, none⟩ = some (.int .i64 b1) := ⟨cell_below (cur) x0, cell_below (cur) x1, cell_below (cur) x2, cell_below (cur) x3⟩
                              refine norm_ (a' := ?_) ?_ ?_
                              rotate_left
                              · simp only [putAll, Act.put, List.setIfInBounds_toArray, List.set_cons_zero, List.set_cons_succ]
                                rfl
                              refine two_ (i := 3) (j := 7) (Ni := some 20) (Nj := some 9) #[true, true, true, true, true, true, false, false, true, false, false] #[true, true, true, false, true, true, false, true, true, false, false] rfl rfl rfl rfl (by kernel_rfl) (by decide) (by decide) (fun K hK => ?_) (fun K hK => ?_)
                              · skip
                                refine goes_ Tryd.func15 (by kernel_rfl) rfl #[.agg #[.int .i64 a0, .int .i64 a1], .agg #[.int .i64 b0, .int .i64 b1], .slice ao l.length c] (by rfl) rfl rfl (by simp only [List.map_toArray, List.map_cons, List.map_nil]; rfl) ?_
                                with_reducible refine (widen_to a0 a1 b0 b1 l (.slice ao l.length c) u0 u1 (HLc.out.below (by first | exact cur | exact (Below.refl _ _).drew)) (by omega) HU.out).mono ?_
                                rintro e w3 ⟨rfl, hb⟩
                                refine ⟨_, rfl, ?_⟩
                                have cur3 := seq (cur) hb
                                have p3_8 := blk_below p8 hb
                                refine hK.out _ _ ⟨cell_below (cur3) x0, cell_below (cur3) x1, cell_below (cur3) x2, cell_below (cur3) x3⟩ (fun hHeld => ?_)
                                clear hK K
                                refine norm_ (a' := ?_) ?_ ?_
                                rotate_left
                                · show Act.put _ (some 20) _ = _
                                  simp only [Act.put, List.setIfInBounds_toArray, List.set_cons_zero, List.set_cons_succ, i64_w, i32_w]
                                  rfl
                                exact norm_ (by first | (simp only [putAll, Act.put, List.setIfInBounds_toArray, List.set_cons_zero, List.set_cons_succ]; done) | (simp only [putAll, Act.put, List.setIfInBounds_toArray, List.set_cons_zero, List.set_cons_succ]; rfl)) (hJ3_8 ga8 _ ⟨cur3, p3_8, q8⟩)
                              · skip
                                refine value_ (w1 := ?_) (v := ?_) (by rfl) rfl ?_ ?_
                                rotate_left 2
                                · go_simp
                                  constructor
                                  · rfl
                                  · rfl
                                have cur3 := Below.push (cur) (Nat.le_refl _) (.cells #[.int .i64 0, .int .i64 0] 24)
                                have p3_8 := blk_alloc p8 (.cells #[.int .i64 0, .int .i64 0] 24)
                                refine hK.out _ _ ⟨cell_below (cur3) x0, cell_below (cur3) x1, cell_below (cur3) x2, cell_below (cur3) x3⟩ (fun hHeld => ?_)
                                clear hK K
                                refine norm_ (a' := ?_) ?_ ?_
                                rotate_left
                                · show Act.put _ (some 9) _ = _
                                  simp only [Act.put, List.setIfInBounds_toArray, List.set_cons_zero, List.set_cons_succ, i64_w, i32_w]
                                  rfl
                                exact norm_ (by first | (simp only [putAll, Act.put, List.setIfInBounds_toArray, List.set_cons_zero, List.set_cons_succ]; done) | (simp only [putAll, Act.put, List.setIfInBounds_toArray, List.set_cons_zero, List.set_cons_succ]; rfl)) (hJ7_8 (w1.heap.size, ga8) _ ⟨cur3, blk_new _ _, (cur).size, p3_8, q8, (Nat.ne_of_gt (blk_lt p8))⟩)
                          · skip
                            rintro ga7 w1 ⟨cur, p7, q7⟩
                            have hHeld : w1.cell? ⟨g7, 0, none⟩ = some (.int .i64 a0) ∧ w1.cell? ⟨g7, 1, none⟩ = some (.int .i64 a1) ∧ w1.cell? ⟨g8, 0, none⟩ = some (.int .i64 b0) ∧ w1.cell? ⟨g8, 1, none⟩ = some (.int .i64 b1) := ⟨cell_below (cur) x0, cell_below (cur) x1, cell_below (cur) x2, cell_below (cur) x3⟩
                            refine norm_ (a' := ?_) ?_ ?_
                            rotate_left
                            · simp only [putAll, Act.put, List.setIfInBounds_toArray, List.set_cons_zero, List.set_cons_succ]
                              rfl
                            refine two_ (i := 3) (j := 8) (Ni := some 20) (Nj := some 10) #[true, true, true, true, true, true, false, true, false, false, false] #[true, true, true, false, true, true, false, true, true, false, false] rfl rfl rfl rfl (by kernel_rfl) (by decide) (by decide) (fun K hK => ?_) (fun K hK => ?_)
                            · skip
                              refine goes_ Tryd.func15 (by kernel_rfl) rfl #[.agg #[.int .i64 a0, .int .i64 a1], .agg #[.int .i64 b0, .int .i64 b1], .slice ao l.length c] (by rfl) rfl rfl (by simp only [List.map_toArray, List.map_cons, List.map_nil]; rfl) ?_
                              with_reducible refine (widen_to a0 a1 b0 b1 l (.slice ao l.length c) u0 u1 (HLc.out.below (by first | exact cur | exact (Below.refl _ _).drew)) (by omega) HU.out).mono ?_
                              rintro e w3 ⟨rfl, hb⟩
                              refine ⟨_, rfl, ?_⟩
                              have cur3 := seq (cur) hb
                              have p3_7 := blk_below p7 hb
                              refine hK.out _ _ ⟨cell_below (cur3) x0, cell_below (cur3) x1, cell_below (cur3) x2, cell_below (cur3) x3⟩ (fun hHeld => ?_)
                              clear hK K
                              refine norm_ (a' := ?_) ?_ ?_
                              rotate_left
                              · show Act.put _ (some 20) _ = _
                                simp only [Act.put, List.setIfInBounds_toArray, List.set_cons_zero, List.set_cons_succ, i64_w, i32_w]
                                rfl
                              exact norm_ (by first | (simp only [putAll, Act.put, List.setIfInBounds_toArray, List.set_cons_zero, List.set_cons_succ]; done) | (simp only [putAll, Act.put, List.setIfInBounds_toArray, List.set_cons_zero, List.set_cons_succ]; rfl)) (hJ3_7 ga7 _ ⟨cur3, p3_7, q7⟩)
                            · skip
                              refine value_ (w1 := ?_) (v := ?_) (by rfl) rfl ?_ ?_
                              rotate_left 2
                              · go_simp
                                constructor
                                · rfl
                                · rfl
                              have cur3 := Below.push (cur) (Nat.le_refl _) (.cells #[.int .i64 0, .int .i64 0] 24)
                              have p3_7 := blk_alloc p7 (.cells #[.int .i64 0, .int .i64 0] 24)
                              refine hK.out _ _ ⟨cell_below (cur3) x0, cell_below (cur3) x1, cell_below (cur3) x2, cell_below (cur3) x3⟩ (fun hHeld => ?_)
                              clear hK K
                              refine norm_ (a' := ?_) ?_ ?_
                              rotate_left
                              · show Act.put _ (some 10) _ = _
                                simp only [Act.put, List.setIfInBounds_toArray, List.set_cons_zero, List.set_cons_succ, i64_w, i32_w]
                                rfl
                              exact norm_ (by first | (simp only [putAll, Act.put, List.setIfInBounds_toArray, List.set_cons_zero, List.set_cons_succ]; done) | (simp only [putAll, Act.put, List.setIfInBounds_toArray, List.set_cons_zero, List.set_cons_succ]; rfl)) (hJ7_8 (ga7, w1.heap.size) _ ⟨cur3, p3_7, q7, blk_new _ _, (cur).size, (Nat.ne_of_lt (blk_lt p7))⟩)
                        · skip
                          rintro ⟨⟩ w1 cur
                          have hHeld : w1.cell? ⟨g7, 0, none⟩ = some (.int .i64 a0) ∧ w1.cell? ⟨g7, 1, none⟩ = some (.int .i64 a1) ∧ w1.cell? ⟨g8, 0, none⟩ = some (.int .i64 b0) ∧ w1.cell? ⟨g8, 1, none⟩ = some (.int .i64 b1) := ⟨cell_below (cur) x0, cell_below (cur) x1, cell_below (cur) x2, cell_below (cur) x3⟩
                          refine norm_ (a' := ?_) ?_ ?_
                          rotate_left
                          · simp only [putAll, Act.put, List.setIfInBounds_toArray, List.set_cons_zero, List.set_cons_succ]
                            rfl
                          refine three_ (i := 6) (j := 7) (k := 8) (Ni := some 23) (Nj := some 9) (Nk := some 10) #[true, true, true, true, true, true, true, false, false, false, false] #[true, true, true, true, true, true, false, true, false, false, false] #[true, true, true, true, true, true, false, false, true, false, false] rfl rfl rfl rfl rfl rfl (by kernel_rfl) (by decide) (by decide) (by decide) (fun K hK => ?_) (fun K hK => ?_) (fun K hK => ?_)
                          · skip
                            refine goes_ Tryd.func16 (by kernel_rfl) rfl #[.agg #[.int .i64 a0, .int .i64 a1], .agg #[.int .i64 b0, .int .i64 b1]] (by rfl) rfl rfl (by simp only [List.map_toArray, List.map_cons, List.map_nil]; rfl) ?_
                            with_reducible refine (narrow_to a0 a1 b0 b1 n0 n1 HN.out _).mono ?_
                            rintro e w3 ⟨rfl, hb⟩
                            refine ⟨_, rfl, ?_⟩
                            have cur3 := seq (cur) hb
                            refine hK.out _ _ ⟨cell_below (cur3) x0, cell_below (cur3) x1, cell_below (cur3) x2, cell_below (cur3) x3⟩ (fun hHeld => ?_)
                            clear hK K
                            refine norm_ (a' := ?_) ?_ ?_
                            rotate_left
                            · show Act.put _ (some 23) _ = _
                              simp only [Act.put, List.setIfInBounds_toArray, List.set_cons_zero, List.set_cons_succ, i64_w, i32_w]
                              rfl
                            exact norm_ (by first | (simp only [putAll, Act.put, List.setIfInBounds_toArray, List.set_cons_zero, List.set_cons_succ]; done) | (simp only [putAll, Act.put, List.setIfInBounds_toArray, List.set_cons_zero, List.set_cons_succ]; rfl)) (hJ3_6 () _ cur3)
                          · skip
                            refine value_ (w1 := ?_) (v := ?_) (by rfl) rfl ?_ ?_
                            rotate_left 2
                            · go_simp
                              constructor
                              · rfl
                              · rfl
                            have cur3 := Below.push (cur) (Nat.le_refl _) (.cells #[.int .i64 0, .int .i64 0] 24)
                            refine hK.out _ _ ⟨cell_below (cur3) x0, cell_below (cur3) x1, cell_below (cur3) x2, cell_below (cur3) x3⟩ (fun hHeld => ?_)
                            clear hK K
                            refine norm_ (a' := ?_) ?_ ?_
                            rotate_left
                            · show Act.put _ (some 9) _ = _
                              simp only [Act.put, List.setIfInBounds_toArray, List.set_cons_zero, List.set_cons_succ, i64_w, i32_w]
                              rfl
                            exact norm_ (by first | (simp only [putAll, Act.put, List.setIfInBounds_toArray, List.set_cons_zero, List.set_cons_succ]; done) | (simp only [putAll, Act.put, List.setIfInBounds_toArray, List.set_cons_zero, List.set_cons_succ]; rfl)) (hJ3_7 (w1.heap.size) _ ⟨cur3, blk_new _ _, (cur).size⟩)
                          · skip
                            refine value_ (w1 := ?_) (v := ?_) (by rfl) rfl ?_ ?_
                            rotate_left 2
                            · go_simp
                              constructor
                              · rfl
                              · rfl
                            have cur3 := Below.push (cur) (Nat.le_refl _) (.cells #[.int .i64 0, .int .i64 0] 24)
                            refine hK.out _ _ ⟨cell_below (cur3) x0, cell_below (cur3) x1, cell_below (cur3) x2, cell_below (cur3) x3⟩ (fun hHeld => ?_)
                            clear hK K
                            refine norm_ (a' := ?_) ?_ ?_
                            rotate_left
                            · show Act.put _ (some 10) _ = _
                              simp only [Act.put, List.setIfInBounds_toArray, List.set_cons_zero, List.set_cons_succ, i64_w, i32_w]
                              rfl
                            exact norm_ (by first | (simp only [putAll, Act.put, List.setIfInBounds_toArray, List.set_cons_zero, List.set_cons_succ]; done) | (simp only [putAll, Act.put, List.setIfInBounds_toArray, List.set_cons_zero, List.set_cons_succ]; rfl)) (hJ3_8 (w1.heap.size) _ ⟨cur3, blk_new _ _, (cur).size⟩)
                      · skip
                        rintro ⟨ga7, ga8⟩ w1 ⟨cur, p7, q7, p8, q8, ne7_8⟩
                        dsimp only at p7 q7 p8 q8 ne7_8
                        have hHeld : w1.cell? ⟨g7, 0, none⟩ = some (.int .i64 a0) ∧ w1.cell? ⟨g7, 1, none⟩ = some (.int .i64 a1) ∧ w1.cell? ⟨g8, 0, none⟩ = some (.int .i64 b0) ∧ w1.cell? ⟨g8, 1, none⟩ = some (.int .i64 b1) := ⟨cell_below (cur) x0, cell_below (cur) x1, cell_below (cur) x2, cell_below (cur) x3⟩
                        refine norm_ (a' := ?_) ?_ ?_
                        rotate_left
                        · simp only [putAll, Act.put, List.setIfInBounds_toArray, List.set_cons_zero, List.set_cons_succ]
                          rfl
                        refine one_ (i := 3) (N := some 20) #[true, true, true, true, true, true, false, true, true, false, false] rfl rfl (by kernel_rfl) (by decide) (fun K hK => ?_)
                        refine goes_ Tryd.func15 (by kernel_rfl) rfl #[.agg #[.int .i64 a0, .int .i64 a1], .agg #[.int .i64 b0, .int .i64 b1], .slice ao l.length c] (by rfl) rfl rfl (by simp only [List.map_toArray, List.map_cons, List.map_nil]; rfl) ?_
                        with_reducible refine (widen_to a0 a1 b0 b1 l (.slice ao l.length c) u0 u1 (HLc.out.below (by first | exact cur | exact (Below.refl _ _).drew)) (by omega) HU.out).mono ?_
                        rintro e w3 ⟨rfl, hb⟩
                        refine ⟨_, rfl, ?_⟩
                        have cur3 := seq (cur) hb
                        have p3_7 := blk_below p7 hb
                        have p3_8 := blk_below p8 hb
                        refine hK.out _ _ ⟨cell_below (cur3) x0, cell_below (cur3) x1, cell_below (cur3) x2, cell_below (cur3) x3⟩ (fun hHeld => ?_)
                        clear hK K
                        refine norm_ (a' := ?_) ?_ ?_
                        rotate_left
                        · show Act.put _ (some 20) _ = _
                          simp only [Act.put, List.setIfInBounds_toArray, List.set_cons_zero, List.set_cons_succ, i64_w, i32_w]
                          rfl
                        exact norm_ (by first | (simp only [putAll, Act.put, List.setIfInBounds_toArray, List.set_cons_zero, List.set_cons_succ]; done) | (simp only [putAll, Act.put, List.setIfInBounds_toArray, List.set_cons_zero, List.set_cons_succ]; rfl)) (hJ3_7_8 (ga7, ga8) _ ⟨cur3, p3_7, q7, p3_8, q8, ne7_8⟩)
                    · skip
                      rintro ga8 w1 ⟨cur, p8, q8⟩
                      have hHeld : w1.cell? ⟨g7, 0, none⟩ = some (.int .i64 a0) ∧ w1.cell? ⟨g7, 1, none⟩ = some (.int .i64 a1) ∧ w1.cell? ⟨g8, 0, none⟩ = some (.int .i64 b0) ∧ w1.cell? ⟨g8, 1, none⟩ = some (.int .i64 b1) := ⟨cell_below (cur) x0, cell_below (cur) x1, cell_below (cur) x2, cell_below (cur) x3⟩
                      refine norm_ (a' := ?_) ?_ ?_
                      rotate_left
                      · simp only [putAll, Act.put, List.setIfInBounds_toArray, List.set_cons_zero, List.set_cons_succ]
                        rfl
                      refine two_ (i := 6) (j := 7) (Ni := some 23) (Nj := some 9) #[true, true, true, true, true, true, true, false, true, false, false] #[true, true, true, true, true, true, false, true, true, false, false] rfl rfl rfl rfl (by kernel_rfl) (by decide) (by decide) (fun K hK => ?_) (fun K hK => ?_)
                      · skip
                        refine goes_ Tryd.func16 (by kernel_rfl) rfl #[.agg #[.int .i64 a0, .int .i64 a1], .agg #[.int .i64 b0, .int .i64 b1]] (by rfl) rfl rfl (by simp only [List.map_toArray, List.map_cons, List.map_nil]; rfl) ?_
                        with_reducible refine (narrow_to a0 a1 b0 b1 n0 n1 HN.out _).mono ?_
                        rintro e w3 ⟨rfl, hb⟩
                        refine ⟨_, rfl, ?_⟩
                        have cur3 := seq (cur) hb
                        have p3_8 := blk_below p8 hb
                        refine hK.out _ _ ⟨cell_below (cur3) x0, cell_below (cur3) x1, cell_below (cur3) x2, cell_below (cur3) x3⟩ (fun hHeld => ?_)
                        clear hK K
                        refine norm_ (a' := ?_) ?_ ?_
                        rotate_left
                        · show Act.put _ (some 23) _ = _
                          simp only [Act.put, List.setIfInBounds_toArray, List.set_cons_zero, List.set_cons_succ, i64_w, i32_w]
                          rfl
                        exact norm_ (by first | (simp only [putAll, Act.put, List.setIfInBounds_toArray, List.set_cons_zero, List.set_cons_succ]; done) | (simp only [putAll, Act.put, List.setIfInBounds_toArray, List.set_cons_zero, List.set_cons_succ]; rfl)) (hJ3_6_8 ga8 _ ⟨cur3, p3_8, q8⟩)
                      · skip
                        refine value_ (w1 := ?_) (v := ?_) (by rfl) rfl ?_ ?_
                        rotate_left 2
                        · go_simp
                          constructor
                          · rfl
                          · rfl
                        have cur3 := Below.push (cur) (Nat.le_refl _) (.cells #[.int .i64 0, .int .i64 0] 24)
                        have p3_8 := blk_alloc p8 (.cells #[.int .i64 0, .int .i64 0] 24)
                        refine hK.out _ _ ⟨cell_below (cur3) x0, cell_below (cur3) x1, cell_below (cur3) x2, cell_below (cur3) x3⟩ (fun hHeld => ?_)
                        clear hK K
                        refine norm_ (a' := ?_) ?_ ?_
                        rotate_left
                        · show Act.put _ (some 9) _ = _
                          simp only [Act.put, List.setIfInBounds_toArray, List.set_cons_zero, List.set_cons_succ, i64_w, i32_w]
                          rfl
                        exact norm_ (by first | (simp only [putAll, Act.put, List.setIfInBounds_toArray, List.set_cons_zero, List.set_cons_succ]; done) | (simp only [putAll, Act.put, List.setIfInBounds_toArray, List.set_cons_zero, List.set_cons_succ]; rfl)) (hJ3_7_8 (w1.heap.size, ga8) _ ⟨cur3, blk_new _ _, (cur).size, p3_8, q8, (Nat.ne_of_gt (blk_lt p8))⟩)
                  · skip
                    rintro ga7 w1 ⟨cur, p7, q7⟩
                    have hHeld : w1.cell? ⟨g7, 0, none⟩ = some (.int .i64 a0) ∧ w1.cell? ⟨g7, 1, none⟩ = some (.int .i64 a1) ∧ w1.cell? ⟨g8, 0, none⟩ = some (.int .i64 b0) ∧ w1.cell? ⟨g8, 1, none⟩ = some (.int .i64 b1) := ⟨cell_below (cur) x0, cell_below (cur) x1, cell_below (cur) x2, cell_below (cur) x3⟩
                    refine norm_ (a' := ?_) ?_ ?_
                    rotate_left
                    · simp only [putAll, Act.put, List.setIfInBounds_toArray, List.set_cons_zero, List.set_cons_succ]
                      rfl
                    refine two_ (i := 6) (j := 8) (Ni := some 23) (Nj := some 10) #[true, true, true, true, true, true, true, true, false, false, false] #[true, true, true, true, true, true, false, true, true, false, false] rfl rfl rfl rfl (by kernel_rfl) (by decide) (by decide) (fun K hK => ?_) (fun K hK => ?_)
                    · skip
                      refine goes_ Tryd.func16 (by kernel_rfl) rfl #[.agg #[.int .i64 a0, .int .i64 a1], .agg #[.int .i64 b0, .int .i64 b1]] (by rfl) rfl rfl (by simp only [List.map_toArray, List.map_cons, List.map_nil]; rfl) ?_
                      with_reducible refine (narrow_to a0 a1 b0 b1 n0 n1 HN.out _).mono ?_
                      rintro e w3 ⟨rfl, hb⟩
                      refine ⟨_, rfl, ?_⟩
                      have cur3 := seq (cur) hb
                      have p3_7 := blk_below p7 hb
                      refine hK.out _ _ ⟨cell_below (cur3) x0, cell_below (cur3) x1, cell_below (cur3) x2, cell_below (cur3) x3⟩ (fun hHeld => ?_)
                      clear hK K
                      refine norm_ (a' := ?_) ?_ ?_
                      rotate_left
                      · show Act.put _ (some 23) _ = _
                        simp only [Act.put, List.setIfInBounds_toArray, List.set_cons_zero, List.set_cons_succ, i64_w, i32_w]
                        rfl
                      exact norm_ (by first | (simp only [putAll, Act.put, List.setIfInBounds_toArray, List.set_cons_zero, List.set_cons_succ]; done) | (simp only [putAll, Act.put, List.setIfInBounds_toArray, List.set_cons_zero, List.set_cons_succ]; rfl)) (hJ3_6_7 ga7 _ ⟨cur3, p3_7, q7⟩)
                    · skip
                      refine value_ (w1 := ?_) (v := ?_) (by rfl) rfl ?_ ?_
                      rotate_left 2
                      · go_simp
                        constructor
                        · rfl
                        · rfl
                      have cur3 := Below.push (cur) (Nat.le_refl _) (.cells #[.int .i64 0, .int .i64 0] 24)
                      have p3_7 := blk_alloc p7 (.cells #[.int .i64 0, .int .i64 0] 24)
                      refine hK.out _ _ ⟨cell_below (cur3) x0, cell_below (cur3) x1, cell_below (cur3) x2, cell_below (cur3) x3⟩ (fun hHeld => ?_)
                      clear hK K
                      refine norm_ (a' := ?_) ?_ ?_
                      rotate_left
                      · show Act.put _ (some 10) _ = _
                        simp only [Act.put, List.setIfInBounds_toArray, List.set_cons_zero, List.set_cons_succ, i64_w, i32_w]
                        rfl
                      exact norm_ (by first | (simp only [putAll, Act.put, List.setIfInBounds_toArray, List.set_cons_zero, List.set_cons_succ]; done) | (simp only [putAll, Act.put, List.setIfInBounds_toArray, List.set_cons_zero, List.set_cons_succ]; rfl)) (hJ3_7_8 (ga7, w1.heap.size) _ ⟨cur3, p3_7, q7, blk_new _ _, (cur).size, (Nat.ne_of_lt (blk_lt p7))⟩)
                · skip
                  rintro ⟨⟩ w1 cur
                  have hHeld : w1.cell? ⟨g7, 0, none⟩ = some (.int .i64 a0) ∧ w1.cell? ⟨g7, 1, none⟩ = some (.int .i64 a1) ∧ w1.cell? ⟨g8, 0, none⟩ = some (.int .i64 b0) ∧ w1.cell? ⟨g8, 1, none⟩ = some (.int .i64 b1) := ⟨cell_below (cur) x0, cell_below (cur) x1, cell_below (cur) x2, cell_below (cur) x3⟩
                  refine norm_ (a' := ?_) ?_ ?_
                  rotate_left
                  · simp only [putAll, Act.put, List.setIfInBounds_toArray, List.set_cons_zero, List.set_cons_succ]
                    rfl
                  refine two_ (i := 7) (j := 8) (Ni := some 9) (Nj := some 10) #[true, true, true, true, true, true, true, true, false, false, false] #[true, true, true, true, true, true, true, false, true, false, false] rfl rfl rfl rfl (by kernel_rfl) (by decide) (by decide) (fun K hK => ?_) (fun K hK => ?_)
                  · skip
                    refine value_ (w1 := ?_) (v := ?_) (by rfl) rfl ?_ ?_
                    rotate_left 2
                    · go_simp
                      constructor
                      · rfl
                      · rfl
                    have cur3 := Below.push (cur) (Nat.le_refl _) (.cells #[.int .i64 0, .int .i64 0] 24)
                    refine hK.out _ _ ⟨cell_below (cur3) x0, cell_below (cur3) x1, cell_below (cur3) x2, cell_below (cur3) x3⟩ (fun hHeld => ?_)
                    clear hK K
                    refine norm_ (a' := ?_) ?_ ?_
                    rotate_left
                    · show Act.put _ (some 9) _ = _
                      simp only [Act.put, List.setIfInBounds_toArray, List.set_cons_zero, List.set_cons_succ, i64_w, i32_w]
                      rfl
                    exact norm_ (by first | (simp only [putAll, Act.put, List.setIfInBounds_toArray, List.set_cons_zero, List.set_cons_succ]; done) | (simp only [putAll, Act.put, List.setIfInBounds_toArray, List.set_cons_zero, List.set_cons_succ]; rfl)) (hJ3_6_7 (w1.heap.size) _ ⟨cur3, blk_new _ _, (cur).size⟩)
                  · skip
                    refine value_ (w1 := ?_) (v := ?_) (by rfl) rfl ?_ ?_
                    rotate_left 2
                    · go_simp
                      constructor
                      · rfl
                      · rfl
                    have cur3 := Below.push (cur) (Nat.le_refl _) (.cells #[.int .i64 0, .int .i64 0] 24)
                    refine hK.out _ _ ⟨cell_below (cur3) x0, cell_below (cur3) x1, cell_below (cur3) x2, cell_below (cur3) x3⟩ (fun hHeld => ?_)
                    clear hK K
                    refine norm_ (a' := ?_) ?_ ?_
                    rotate_left
                    · show Act.put _ (some 10) _ = _
                      simp only [Act.put, List.setIfInBounds_toArray, List.set_cons_zero, List.set_cons_succ, i64_w, i32_w]
                      rfl
                    exact norm_ (by first | (simp only [putAll, Act.put, List.setIfInBounds_toArray, List.set_cons_zero, List.set_cons_succ]; done) | (simp only [putAll, Act.put, List.setIfInBounds_toArray, List.set_cons_zero, List.set_cons_succ]; rfl)) (hJ3_6_8 (w1.heap.size) _ ⟨cur3, blk_new _ _, (cur).size⟩)
              · skip
                rintro ⟨ga7, ga8⟩ w1 ⟨cur, p7, q7, p8, q8, ne7_8⟩
                dsimp only at p7 q7 p8 q8 ne7_8
                have hHeld : w1.cell? ⟨g7, 0, none⟩ = some (.int .i64 a0) ∧ w1.cell? ⟨g7, 1, none⟩ = some (.int .i64 a1) ∧ w1.cell? ⟨g8, 0, none⟩ = some (.int .i64 b0) ∧ w1.cell? ⟨g8, 1, none⟩ = some (.int .i64 b1) := ⟨cell_below (cur) x0, cell_below (cur) x1, cell_below (cur) x2, cell_below (cur) x3⟩
                refine norm_ (a' := ?_) ?_ ?_
                rotate_left
                · simp only [putAll, Act.put, List.setIfInBounds_toArray, List.set_cons_zero, List.set_cons_succ]
                  rfl
                refine one_ (i := 6) (N := some 23) #[true, true, true, true, true, true, true, true, true, false, false] rfl rfl (by kernel_rfl) (by decide) (fun K hK => ?_)
                refine goes_ Tryd.func16 (by kernel_rfl) rfl #[.agg #[.int .i64 a0, .int .i64 a1], .agg #[.int .i64 b0, .int .i64 b1]] (by rfl) rfl rfl (by simp only [List.map_toArray, List.map_cons, List.map_nil]; rfl) ?_
                with_reducible refine (narrow_to a0 a1 b0 b1 n0 n1 HN.out _).mono ?_
                rintro e w3 ⟨rfl, hb⟩
                refine ⟨_, rfl, ?_⟩
                have cur3 := seq (cur) hb
                have p3_7 := blk_below p7 hb
                have p3_8 := blk_below p8 hb
                refine hK.out _ _ ⟨cell_below (cur3) x0, cell_below (cur3) x1, cell_below (cur3) x2, cell_below (cur3) x3⟩ (fun hHeld => ?_)
                clear hK K
                refine norm_ (a' := ?_) ?_ ?_
                rotate_left
                · show Act.put _ (some 23) _ = _
                  simp only [Act.put, List.setIfInBounds_toArray, List.set_cons_zero, List.set_cons_succ, i64_w, i32_w]
                  rfl
                exact norm_ (by first | (simp only [putAll, Act.put, List.setIfInBounds_toArray, List.set_cons_zero, List.set_cons_succ]; done) | (simp only [putAll, Act.put, List.setIfInBounds_toArray, List.set_cons_zero, List.set_cons_succ]; rfl)) (hJ3_6_7_8 (ga7, ga8) _ ⟨cur3, p3_7, q7, p3_8, q8, ne7_8⟩)
            · skip
              rintro ga8 w1 ⟨cur, p8, q8⟩
              have hHeld : w1.cell? ⟨g7, 0, none⟩ = some (.int .i64 a0) ∧ w1.cell? ⟨g7, 1, none⟩ = some (.int .i64 a1) ∧ w1.cell? ⟨g8, 0, none⟩ = some (.int .i64 b0) ∧ w1.cell? ⟨g8, 1, none⟩ = some (.int .i64 b1) := ⟨cell_below (cur) x0, cell_below (cur) x1, cell_below (cur) x2, cell_below (cur) x3⟩
              refine norm_ (a' := ?_) ?_ ?_
              rotate_left
              · simp only [putAll, Act.put, List.setIfInBounds_toArray, List.set_cons_zero, List.set_cons_succ]
                rfl
              refine one_ (i := 7) (N := some 9) #[true, true, true, true, true, true, true, true, true, false, false] rfl rfl (by kernel_rfl) (by decide) (fun K hK => ?_)
              refine value_ (w1 := ?_) (v := ?_) (by rfl) rfl ?_ ?_
              rotate_left 2
              · go_simp
                constructor
                · rfl
                · rfl
              have cur3 := Below.push (cur) (Nat.le_refl _) (.cells #[.int .i64 0, .int .i64 0] 24)
              have p3_8 := blk_alloc p8 (.cells #[.int .i64 0, .int .i64 0] 24)
              refine hK.out _ _ ⟨cell_below (cur3) x0, cell_below (cur3) x1, cell_below (cur3) x2, cell_below (cur3) x3⟩ (fun hHeld => ?_)
              clear hK K
              refine norm_ (a' := ?_) ?_ ?_
              rotate_left
              · show Act.put _ (some 9) _ = _
                simp only [Act.put, List.setIfInBounds_toArray, List.set_cons_zero, List.set_cons_succ, i64_w, i32_w]
                rfl
              exact norm_ (by first | (simp only [putAll, Act.put, List.setIfInBounds_toArray, List.set_cons_zero, List.set_cons_succ]; done) | (simp only [putAll, Act.put, List.setIfInBounds_toArray, List.set_cons_zero, List.set_cons_succ]; rfl)) (hJ3_6_7_8 (w1.heap.size, ga8) _ ⟨cur3, blk_new _ _, (cur).size, p3_8, q8, (Nat.ne_of_gt (blk_lt p8))⟩)
          · skip
            rintro ga7 w1 ⟨cur, p7, q7⟩
            have hHeld : w1.cell? ⟨g7, 0, none⟩ = some (.int .i64 a0) ∧ w1.cell? ⟨g7, 1, none⟩ = some (.int .i64 a1) ∧ w1.cell? ⟨g8, 0, none⟩ = some (.int .i64 b0) ∧ w1.cell? ⟨g8, 1, none⟩ = some (.int .i64 b1) := ⟨cell_below (cur) x0, cell_below (cur) x1, cell_below (cur) x2, cell_below (cur) x3⟩
            refine norm_ (a' := ?_) ?_ ?_
            rotate_left
            · simp only [putAll, Act.put, List.setIfInBounds_toArray, List.set_cons_zero, List.set_cons_succ]
              rfl
            refine one_ (i := 8) (N := some 10) #[true, true, true, true, true, true, true, true, true, false, false] rfl rfl (by kernel_rfl) (by decide) (fun K hK => ?_)
            refine value_ (w1 := ?_) (v := ?_) (by rfl) rfl ?_ ?_
            rotate_left 2
            · go_simp
              constructor
              · rfl
              · rfl
            have cur3 := Below.push (cur) (Nat.le_refl _) (.cells #[.int .i64 0, .int .i64 0] 24)
            have p3_7 := blk_alloc p7 (.cells #[.int .i64 0, .int .i64 0] 24)
            refine hK.out _ _ ⟨cell_below (cur3) x0, cell_below (cur3) x1, cell_below (cur3) x2, cell_below (cur3) x3⟩ (fun hHeld => ?_)
            clear hK K
            refine norm_ (a' := ?_) ?_ ?_
            rotate_left
            · show Act.put _ (some 10) _ = _
              simp only [Act.put, List.setIfInBounds_toArray, List.set_cons_zero, List.set_cons_succ, i64_w, i32_w]
              rfl
            exact norm_ (by first | (simp only [putAll, Act.put, List.setIfInBounds_toArray, List.set_cons_zero, List.set_cons_succ]; done) | (simp only [putAll, Act.put, List.setIfInBounds_toArray, List.set_cons_zero, List.set_cons_succ]; rfl)) (hJ3_6_7_8 (ga7, w1.heap.size) _ ⟨cur3, p3_7, q7, blk_new _ _, (cur).size, (Nat.ne_of_lt (blk_lt p7))⟩)
        rintro ⟨ga7, ga8⟩ w1 ⟨cur, p7, q7, p8, q8, ne7_8⟩
        dsimp only at p7 q7 p8 q8 ne7_8
        have hHeld : w1.cell? ⟨g7, 0, none⟩ = some (.int .i64 a0) ∧ w1.cell? ⟨g7, 1, none⟩ = some (.int .i64 a1) ∧ w1.cell? ⟨g8, 0, none⟩ = some (.int .i64 b0) ∧ w1.cell? ⟨g8, 1, none⟩ = some (.int .i64 b1) := ⟨cell_below (cur) x0, cell_below (cur) x1, cell_below (cur) x2, cell_below (cur) x3⟩
        refine norm_ (a' := ?_) ?_ ?_
        rotate_left
        · simp only [putAll, Act.put, List.setIfInBounds_toArray, List.set_cons_zero, List.set_cons_succ]
          rfl
        refine last_ (i := 9) (N := none) #[true, true, true, true, true, true, true, true, true, true, false] rfl rfl (by kernel_rfl) (by decide) (fun K hK => ?_)
        obtain ⟨u7_0, u7_1, u7_2, u7_3⟩ := cells2 p7
        obtain ⟨u8_0, u8_1, u8_2, u8_3⟩ := cells2 p8
        refine skip_ (w1 := ?_) (by rfl) rfl ?_ ?_
        rotate_left
        · go_simp
          rfl
        refine hK.out _ _ ?_
        clear hK K
        refine last_ (i := 10) (N := none) #[true, true, true, true, true, true, true, true, true, true, true] rfl rfl (by kernel_rfl) (by decide) (fun K hK => ?_)
        refine skip_ (w1 := ?_) (by rfl) rfl ?_ ?_
        rotate_left
        · go_simp
          rfl
        refine hK.out _ _ ?_
        clear hK K
        refine done_ (by kernel_rfl) ?_
        go_wp2_with fail
        go_meet
        have BB := seq HB.out cur
        have z0 := HB.out.size
        have l7 := blk_lt K7.out
        have l8 := blk_lt K8.out
        have la := blk_lt KA2.out
        have lb := blk_lt KB2.out
        have n7_7 : g7 ≠ ga7 := by omega
        have n7_8 : g7 ≠ ga8 := by omega
        have n8_7 : g8 ≠ ga7 := by omega
        have n8_8 : g8 ≠ ga8 := by omega
        have na_7 : w.heap.size ≠ ga7 := by omega
        have na_8 : w.heap.size ≠ ga8 := by omega
        have nb_7 : w.heap.size + 1 ≠ ga7 := by omega
        have nb_8 : w.heap.size + 1 ≠ ga8 := by omega
        have E1 := Lib.hid (put2_below (.int .i64 u0) (.int .i64 u1) (.int .i64 n0) (.int .i64 n1) BB (show w.heap.size ≤ ga7 by omega) (show w.heap.size ≤ ga8 by omega))
        have E2 := Lib.hid (put2_far (.int .i64 u0) (.int .i64 u1) (.int .i64 n0) (.int .i64 n1) (blk_below KA2.out cur) na_7 na_8)
        have E3 := Lib.hid (put2_far (.int .i64 u0) (.int .i64 u1) (.int .i64 n0) (.int .i64 n1) (blk_below KB2.out cur) nb_7 nb_8)
        have E4 := Lib.hid (put2_far (.int .i64 u0) (.int .i64 u1) (.int .i64 n0) (.int .i64 n1) (blk_below K7.out cur) n7_7 n7_8)
        have E5 := Lib.hid (put2_far (.int .i64 u0) (.int .i64 u1) (.int .i64 n0) (.int .i64 n1) (blk_below K8.out cur) n8_7 n8_8)
        have E6 := Lib.hid (put2_a (.int .i64 u0) (.int .i64 u1) (.int .i64 n0) (.int .i64 n1) p7 ne7_8)
        have E7 := Lib.hid (put2_b (.int .i64 u0) (.int .i64 u1) (.int .i64 n0) (.int .i64 n1) p8 ne7_8)
        exact ⟨ga7, ga8, rfl, rfl, E1, E2, E3, E4, E5, E6, E7⟩
      case rest =>
        clear x0 x1 x2 x3 HB KA2 KB2 K7 K8 HLc
        obtain ⟨g9, g10, rfl, rfl, HB, KA2, KB2, K7, K8, K9, K10⟩ := hcut
        obtain ⟨x0, x1, -, -⟩ := cells2 KA2.out
        obtain ⟨x2, x3, -, -⟩ := cells2 KB2.out
        obtain ⟨x4, x5, -, -⟩ := cells2 K7.out
        obtain ⟨x6, x7, -, -⟩ := cells2 K8.out
        obtain ⟨x8, x9, -, -⟩ := cells2 K9.out
        obtain ⟨x10, x11, -, -⟩ := cells2 K10.out
        have HLd := Lib.hid (HL.out.below HB.out)
        clear KA2 KB2 K7 K8 K9 K10
        go_wp2_with fail
        skip
        cases hq : Sp.leq b0 b1 a0 a1
        · have HQ := Lib.hid hq
          clear hq
          refine wp_region_held_drew (S := fun w' => w'.cell? ⟨w.heap.size, 0, none⟩ = some (.int .i64 a0) ∧ w'.cell? ⟨w.heap.size, 1, none⟩ = some (.int .i64 a1) ∧ w'.cell? ⟨w.heap.size + 1, 0, none⟩ = some (.int .i64 b0) ∧ w'.cell? ⟨w.heap.size + 1, 1, none⟩ = some (.int .i64 b1) ∧ w'.cell? ⟨g7, 0, none⟩ = some (.int .i64 a0) ∧ w'.cell? ⟨g7, 1, none⟩ = some (.int .i64 a1) ∧ w'.cell? ⟨g8, 0, none⟩ = some (.int .i64 b0) ∧ w'.cell? ⟨g8, 1, none⟩ = some (.int .i64 b1) ∧ w'.cell? ⟨g9, 0, none⟩ = some (.int .i64 u0) ∧ w'.cell? ⟨g9, 1, none⟩ = some (.int .i64 u1) ∧ w'.cell? ⟨g10, 0, none⟩ = some (.int .i64 n0) ∧ w'.cell? ⟨g10, 1, none⟩ = some (.int .i64 n1)) (by kernel_rfl) ?_ (fun hHeld => ?_)
          focus ((try dsimp only); (first | done | (exact ⟨cell_below ((Below.refl wc.heap.size wc).drew) x0, cell_below ((Below.refl wc.heap.size wc).drew) x1, cell_below ((Below.refl wc.heap.size wc).drew) x2, cell_below ((Below.refl wc.heap.size wc).drew) x3, cell_below ((Below.refl wc.heap.size wc).drew) x4, cell_below ((Below.refl wc.heap.size wc).drew) x5, cell_below ((Below.refl wc.heap.size wc).drew) x6, cell_below ((Below.refl wc.heap.size wc).drew) x7, cell_below ((Below.refl wc.heap.size wc).drew) x8, cell_below ((Below.refl wc.heap.size wc).drew) x9, cell_below ((Below.refl wc.heap.size wc).drew) x10, cell_below ((Below.refl wc.heap.size wc).drew) x11⟩)); done)
          refine wpAnyH_ready (rs := [0]) (by kernel_rfl) (by simp) (AllReadyH.cons (o := ⟨some 24, _, _, _, _, _⟩) rfl (fun K hK => ?_) AllReadyH.nil)
          go_simp
          refine (alive02 (HT.out.below (seq HB.out ((Below.refl wc.heap.size wc).drew)))).mono ?_
          rintro e w3 ⟨rfl, hb⟩
          have cur := seq ((Below.refl wc.heap.size wc).drew) hb
          clear hb
          (try dsimp only)
          refine Shut.out hK _ _ (by (try dsimp only); (first | done | (exact ⟨cell_below (cur) x0, cell_below (cur) x1, cell_below (cur) x2, cell_below (cur) x3, cell_below (cur) x4, cell_below (cur) x5, cell_below (cur) x6, cell_below (cur) x7, cell_below (cur) x8, cell_below (cur) x9, cell_below (cur) x10, cell_below (cur) x11⟩))) (fun hHeld => ?_)
          clear hK K
          (first | (simp only [Act.put, List.setIfInBounds_toArray, List.set_cons_zero, List.set_cons_succ]) | (simp only [Act.put, List.setIfInBounds_toArray, List.set]) | (simp only [Act.put]) | skip)
          (refine wpAnyH_take (i := 1) (oi := ⟨some 25, _, _, _, _, _⟩) (v := ?_) rfl (by kernel_rfl) (by kernel_rfl) (by kernel_rfl) (fun _ _ _ h => h) (Or.inl ⟨by kernel_rfl, ?_⟩) hHeld ?_; rotate_left; focus (intro w hSw; (try dsimp only at hSw); go_simp; (try with_reducible rfl); done))
          (first | (simp only [Act.put, List.setIfInBounds_toArray, List.set_cons_zero, List.set_cons_succ]) | (simp only [Act.put, List.setIfInBounds_toArray, List.set]) | (simp only [Act.put]) | skip)
          (refine wpAnyH_take (i := 2) (oi := ⟨some 26, _, _, _, _, _⟩) (v := ?_) rfl (by kernel_rfl) (by kernel_rfl) (by kernel_rfl) (fun _ _ _ h => h) (Or.inl ⟨by kernel_rfl, ?_⟩) hHeld ?_; rotate_left; focus (intro w hSw; (try dsimp only at hSw); go_simp; (try with_reducible rfl); done))
          (first | (simp only [Act.put, List.setIfInBounds_toArray, List.set_cons_zero, List.set_cons_succ]) | (simp only [Act.put, List.setIfInBounds_toArray, List.set]) | (simp only [Act.put]) | skip)
          (refine wpAnyH_take (i := 3) (oi := ⟨some 27, _, _, _, _, _⟩) (v := ?_) rfl (by kernel_rfl) (by kernel_rfl) (by kernel_rfl) (fun _ _ _ h => h) (Or.inl ⟨by kernel_rfl, ?_⟩) hHeld ?_; rotate_left; focus (intro w hSw; (try dsimp only at hSw); go_simp; (try with_reducible rfl); done))
          (first | (simp only [Act.put, List.setIfInBounds_toArray, List.set_cons_zero, List.set_cons_succ]) | (simp only [Act.put, List.setIfInBounds_toArray, List.set]) | (simp only [Act.put]) | skip)
          (refine wpAnyH_take (i := 4) (oi := ⟨some 28, _, _, _, _, _⟩) (v := ?_) rfl (by kernel_rfl) (by kernel_rfl) (by kernel_rfl) (fun _ _ _ h => h) (Or.inl ⟨by kernel_rfl, ?_⟩) hHeld ?_; rotate_left; focus (intro w hSw; (try dsimp only at hSw); go_simp; (try with_reducible rfl); done))
          (first | (simp only [Act.put, List.setIfInBounds_toArray, List.set_cons_zero, List.set_cons_succ]) | (simp only [Act.put, List.setIfInBounds_toArray, List.set]) | (simp only [Act.put]) | skip)
          (refine wpAnyH_take (i := 5) (oi := ⟨some 29, _, _, _, _, _⟩) (v := ?_) rfl (by kernel_rfl) (by kernel_rfl) (by kernel_rfl) (fun _ _ _ h => h) (Or.inl ⟨by kernel_rfl, ?_⟩) hHeld ?_; rotate_left; focus (intro w hSw; (try dsimp only at hSw); go_simp; (try with_reducible rfl); done))
          (first | (simp only [Act.put, List.setIfInBounds_toArray, List.set_cons_zero, List.set_cons_succ]) | (simp only [Act.put, List.setIfInBounds_toArray, List.set]) | (simp only [Act.put]) | skip)
          refine wpAnyH_ready (rs := [6]) (by kernel_rfl) (by simp) (AllReadyH.cons (o := ⟨some 30, _, _, _, _, _⟩) rfl (fun K hK => ?_) AllReadyH.nil)
          go_simp
          refine (rwiden_to a0 a1 b0 b1 l (.slice ao l.length c) u0 u1 (HLd.out.below (cur)) (by omega) HU.out).mono ?_
          rintro e w3 ⟨rfl, hb⟩
          replace cur := seq cur hb
          clear hb
          (try dsimp only)
          refine Shut.out hK _ _ (by (try dsimp only); (first | done | (exact ⟨cell_below (cur) x0, cell_below (cur) x1, cell_below (cur) x2, cell_below (cur) x3, cell_below (cur) x4, cell_below (cur) x5, cell_below (cur) x6, cell_below (cur) x7, cell_below (cur) x8, cell_below (cur) x9, cell_below (cur) x10, cell_below (cur) x11⟩))) (fun hHeld => ?_)
          clear hK K
          (first | (simp only [Act.put, List.setIfInBounds_toArray, List.set_cons_zero, List.set_cons_succ]) | (simp only [Act.put, List.setIfInBounds_toArray, List.set]) | (simp only [Act.put]) | skip)
          (refine wpAnyH_take (i := 7) (oi := ⟨some 31, _, _, _, _, _⟩) (v := ?_) rfl (by kernel_rfl) (by kernel_rfl) (by kernel_rfl) (fun _ _ _ h => h) (Or.inl ⟨by kernel_rfl, ?_⟩) hHeld ?_; rotate_left; focus (intro w hSw; (try dsimp only at hSw); go_simp; (try with_reducible rfl); done))
          (first | (simp only [Act.put, List.setIfInBounds_toArray, List.set_cons_zero, List.set_cons_succ]) | (simp only [Act.put, List.setIfInBounds_toArray, List.set]) | (simp only [Act.put]) | skip)
          (refine wpAnyH_take (i := 8) (oi := ⟨some 32, _, _, _, _, _⟩) (v := ?_) rfl (by kernel_rfl) (by kernel_rfl) (by kernel_rfl) (fun _ _ _ h => h) (Or.inl ⟨by kernel_rfl, ?_⟩) hHeld ?_; rotate_left; focus (intro w hSw; (try dsimp only at hSw); go_simp; (try with_reducible rfl); done))
          (first | (simp only [Act.put, List.setIfInBounds_toArray, List.set_cons_zero, List.set_cons_succ]) | (simp only [Act.put, List.setIfInBounds_toArray, List.set]) | (simp only [Act.put]) | skip)
          (refine wpAnyH_take (i := 9) (oi := ⟨some 33, _, _, _, _, _⟩) (v := ?_) rfl (by kernel_rfl) (by kernel_rfl) (by kernel_rfl) (fun _ _ _ h => h) (Or.inl ⟨by kernel_rfl, ?_⟩) hHeld ?_; rotate_left; focus (intro w hSw; (try dsimp only at hSw); go_simp; (try with_reducible rfl); done))
          (first | (simp only [Act.put, List.setIfInBounds_toArray, List.set_cons_zero, List.set_cons_succ]) | (simp only [Act.put, List.setIfInBounds_toArray, List.set]) | (simp only [Act.put]) | skip)
          (refine wpAnyH_take (i := 10) (oi := ⟨some 34, _, _, _, _, _⟩) (v := ?_) rfl (by kernel_rfl) (by kernel_rfl) (by kernel_rfl) (fun _ _ _ h => h) (Or.inl ⟨by kernel_rfl, ?_⟩) hHeld ?_; rotate_left; focus (intro w hSw; (try dsimp only at hSw); go_simp; (try with_reducible rfl); done))
          (first | (simp only [Act.put, List.setIfInBounds_toArray, List.set_cons_zero, List.set_cons_succ]) | (simp only [Act.put, List.setIfInBounds_toArray, List.set]) | (simp only [Act.put]) | skip)
          (refine wpAnyH_take (i := 11) (oi := ⟨some 35, _, _, _, _, _⟩) (v := ?_) rfl (by kernel_rfl) (by kernel_rfl) (by kernel_rfl) (fun _ _ _ h => h) (Or.inl ⟨by kernel_rfl, ?_⟩) hHeld ?_; rotate_left; focus (intro w hSw; (try dsimp only at hSw); go_simp; (try with_reducible rfl); done))
          (first | (simp only [Act.put, List.setIfInBounds_toArray, List.set_cons_zero, List.set_cons_succ]) | (simp only [Act.put, List.setIfInBounds_toArray, List.set]) | (simp only [Act.put]) | skip)
          (refine wpAnyH_take (i := 12) (oi := ⟨some 36, _, _, _, _, _⟩) (v := ?_) rfl (by kernel_rfl) (by kernel_rfl) (by kernel_rfl) (fun _ _ _ h => h) (Or.inl ⟨by kernel_rfl, ?_⟩) hHeld ?_; rotate_left; focus (intro w hSw; (try dsimp only at hSw); go_simp; (try with_reducible rfl); done))
          (first | (simp only [Act.put, List.setIfInBounds_toArray, List.set_cons_zero, List.set_cons_succ]) | (simp only [Act.put, List.setIfInBounds_toArray, List.set]) | (simp only [Act.put]) | skip)
          refine wpAnyH_ready (rs := [13]) (by kernel_rfl) (by simp) (AllReadyH.cons (o := ⟨some 37, _, _, _, _, _⟩) rfl (fun K hK => ?_) AllReadyH.nil)
          go_simp
          refine (rnarrow_to a0 a1 b0 b1 n0 n1 HN.out _).mono ?_
          rintro e w3 ⟨rfl, hb⟩
          replace cur := seq cur hb
          clear hb
          (try dsimp only)
          refine Shut.out hK _ _ (by (try dsimp only); (first | done | (exact ⟨cell_below (cur) x0, cell_below (cur) x1, cell_below (cur) x2, cell_below (cur) x3, cell_below (cur) x4, cell_below (cur) x5, cell_below (cur) x6, cell_below (cur) x7, cell_below (cur) x8, cell_below (cur) x9, cell_below (cur) x10, cell_below (cur) x11⟩))) (fun hHeld => ?_)
          clear hK K
          (first | (simp only [Act.put, List.setIfInBounds_toArray, List.set_cons_zero, List.set_cons_succ]) | (simp only [Act.put, List.setIfInBounds_toArray, List.set]) | (simp only [Act.put]) | skip)
          (refine wpAnyH_take (i := 14) (oi := ⟨some 38, _, _, _, _, _⟩) (v := ?_) rfl (by kernel_rfl) (by kernel_rfl) (by kernel_rfl) (fun _ _ _ h => h) (Or.inl ⟨by kernel_rfl, ?_⟩) hHeld ?_; rotate_left; focus (intro w hSw; (try dsimp only at hSw); go_simp; (try with_reducible rfl); done))
          (first | (simp only [Act.put, List.setIfInBounds_toArray, List.set_cons_zero, List.set_cons_succ]) | (simp only [Act.put, List.setIfInBounds_toArray, List.set]) | (simp only [Act.put]) | skip)
          (refine wpAnyH_take (i := 15) (oi := ⟨some 39, _, _, _, _, _⟩) (v := ?_) rfl (by kernel_rfl) (by kernel_rfl) (by kernel_rfl) (fun _ _ _ h => h) (Or.inl ⟨by kernel_rfl, ?_⟩) hHeld ?_; rotate_left; focus (intro w hSw; (try dsimp only at hSw); go_simp; (try with_reducible rfl); done))
          (first | (simp only [Act.put, List.setIfInBounds_toArray, List.set_cons_zero, List.set_cons_succ]) | (simp only [Act.put, List.setIfInBounds_toArray, List.set]) | (simp only [Act.put]) | skip)
          (refine wpAnyH_take (i := 16) (oi := ⟨some 40, _, _, _, _, _⟩) (v := ?_) rfl (by kernel_rfl) (by kernel_rfl) (by kernel_rfl) (fun _ _ _ h => h) (Or.inl ⟨by kernel_rfl, ?_⟩) hHeld ?_; rotate_left; focus (intro w hSw; (try dsimp only at hSw); go_simp; (try with_reducible rfl); done))
          (first | (simp only [Act.put, List.setIfInBounds_toArray, List.set_cons_zero, List.set_cons_succ]) | (simp only [Act.put, List.setIfInBounds_toArray, List.set]) | (simp only [Act.put]) | skip)
          (refine wpAnyH_take (i := 17) (oi := ⟨some 41, _, _, _, _, _⟩) (v := ?_) rfl (by kernel_rfl) (by kernel_rfl) (by kernel_rfl) (fun _ _ _ h => h) (Or.inl ⟨by kernel_rfl, ?_⟩) hHeld ?_; rotate_left; focus (intro w hSw; (try dsimp only at hSw); go_simp; (try with_reducible rfl); done))
          (first | (simp only [Act.put, List.setIfInBounds_toArray, List.set_cons_zero, List.set_cons_succ]) | (simp only [Act.put, List.setIfInBounds_toArray, List.set]) | (simp only [Act.put]) | skip)
          (refine wpAnyH_take (i := 18) (oi := ⟨some 42, _, _, _, _, _⟩) (v := ?_) rfl (by kernel_rfl) (by kernel_rfl) (by kernel_rfl) (fun _ _ _ h => h) (Or.inl ⟨by kernel_rfl, ?_⟩) hHeld ?_; rotate_left; focus (intro w hSw; (try dsimp only at hSw); go_simp; (try with_reducible rfl); done))
          (first | (simp only [Act.put, List.setIfInBounds_toArray, List.set_cons_zero, List.set_cons_succ]) | (simp only [Act.put, List.setIfInBounds_toArray, List.set]) | (simp only [Act.put]) | skip)
          refine wpAnyH_ready (rs := [19]) (by kernel_rfl) (by simp) (AllReadyH.cons (o := ⟨some 43, _, _, _, _, _⟩) rfl (fun K hK => ?_) AllReadyH.nil)
          go_simp
          refine (leq_to a0 a1 u0 u1 true HU1.out.1 _).mono ?_
          rintro e w3 ⟨rfl, hb⟩
          replace cur := seq cur hb
          clear hb
          (try dsimp only)
          refine Shut.out hK _ _ (by (try dsimp only); (first | done | (exact ⟨cell_below (cur) x0, cell_below (cur) x1, cell_below (cur) x2, cell_below (cur) x3, cell_below (cur) x4, cell_below (cur) x5, cell_below (cur) x6, cell_below (cur) x7, cell_below (cur) x8, cell_below (cur) x9, cell_below (cur) x10, cell_below (cur) x11⟩))) (fun hHeld => ?_)
          clear hK K
          (first | (simp only [Act.put, List.setIfInBounds_toArray, List.set_cons_zero, List.set_cons_succ]) | (simp only [Act.put, List.setIfInBounds_toArray, List.set]) | (simp only [Act.put]) | skip)
          (refine wpAnyH_take (i := 20) (oi := ⟨some 44, _, _, _, _, _⟩) (v := ?_) rfl (by kernel_rfl) (by kernel_rfl) (by kernel_rfl) (fun _ _ _ h => h) (Or.inl ⟨by kernel_rfl, ?_⟩) hHeld ?_; rotate_left; focus (intro w hSw; (try dsimp only at hSw); go_simp; (try with_reducible rfl); done))
          (first | (simp only [Act.put, List.setIfInBounds_toArray, List.set_cons_zero, List.set_cons_succ]) | (simp only [Act.put, List.setIfInBounds_toArray, List.set]) | (simp only [Act.put]) | skip)
          (refine wpAnyH_take (i := 21) (oi := ⟨some 45, _, _, _, _, _⟩) (v := ?_) rfl (by kernel_rfl) (by kernel_rfl) (by kernel_rfl) (fun _ _ _ h => h) (Or.inl ⟨by kernel_rfl, ?_⟩) hHeld ?_; rotate_left; focus (intro w hSw; (try dsimp only at hSw); go_simp; (try with_reducible rfl); done))
          (first | (simp only [Act.put, List.setIfInBounds_toArray, List.set_cons_zero, List.set_cons_succ]) | (simp only [Act.put, List.setIfInBounds_toArray, List.set]) | (simp only [Act.put]) | skip)
          (refine wpAnyH_take (i := 22) (oi := ⟨some 46, _, _, _, _, _⟩) (v := ?_) rfl (by kernel_rfl) (by kernel_rfl) (by kernel_rfl) (fun _ _ _ h => h) (Or.inl ⟨by kernel_rfl, ?_⟩) hHeld ?_; rotate_left; focus (intro w hSw; (try dsimp only at hSw); go_simp; (try with_reducible rfl); done))
          (first | (simp only [Act.put, List.setIfInBounds_toArray, List.set_cons_zero, List.set_cons_succ]) | (simp only [Act.put, List.setIfInBounds_toArray, List.set]) | (simp only [Act.put]) | skip)
          (refine wpAnyH_take (i := 23) (oi := ⟨some 47, _, _, _, _, _⟩) (v := ?_) rfl (by kernel_rfl) (by kernel_rfl) (by kernel_rfl) (fun _ _ _ h => h) (Or.inl ⟨by kernel_rfl, ?_⟩) hHeld ?_; rotate_left; focus (intro w hSw; (try dsimp only at hSw); go_simp; (try with_reducible rfl); done))
          (first | (simp only [Act.put, List.setIfInBounds_toArray, List.set_cons_zero, List.set_cons_succ]) | (simp only [Act.put, List.setIfInBounds_toArray, List.set]) | (simp only [Act.put]) | skip)
          refine wpAnyH_ready (rs := [24]) (by kernel_rfl) (by simp) (AllReadyH.cons (o := ⟨some 48, _, _, _, _, _⟩) rfl (fun K hK => ?_) AllReadyH.nil)
          go_simp
          refine (leq_to b0 b1 u0 u1 true HU1.out.2 _).mono ?_
          rintro e w3 ⟨rfl, hb⟩
          replace cur := seq cur hb
          clear hb
          (try dsimp only)
          refine Shut.out hK _ _ (by (try dsimp only); (first | done | (exact ⟨cell_below (cur) x0, cell_below (cur) x1, cell_below (cur) x2, cell_below (cur) x3, cell_below (cur) x4, cell_below (cur) x5, cell_below (cur) x6, cell_below (cur) x7, cell_below (cur) x8, cell_below (cur) x9, cell_below (cur) x10, cell_below (cur) x11⟩))) (fun hHeld => ?_)
          clear hK K
          (first | (simp only [Act.put, List.setIfInBounds_toArray, List.set_cons_zero, List.set_cons_succ]) | (simp only [Act.put, List.setIfInBounds_toArray, List.set]) | (simp only [Act.put]) | skip)
          (refine wpAnyH_take (i := 25) (oi := ⟨some 49, _, _, _, _, _⟩) (v := ?_) rfl (by kernel_rfl) (by kernel_rfl) (by kernel_rfl) (fun _ _ _ h => h) (Or.inl ⟨by kernel_rfl, ?_⟩) hHeld ?_; rotate_left; focus (intro w hSw; (try dsimp only at hSw); go_simp; (try with_reducible rfl); done))
          (first | (simp only [Act.put, List.setIfInBounds_toArray, List.set_cons_zero, List.set_cons_succ]) | (simp only [Act.put, List.setIfInBounds_toArray, List.set]) | (simp only [Act.put]) | skip)
          (refine wpAnyH_take (i := 26) (oi := ⟨some 50, _, _, _, _, _⟩) (v := ?_) rfl (by kernel_rfl) (by kernel_rfl) (by kernel_rfl) (fun _ _ _ h => h) (Or.inl ⟨by kernel_rfl, ?_⟩) hHeld ?_; rotate_left; focus (intro w hSw; (try dsimp only at hSw); go_simp; (try with_reducible rfl); done))
          (first | (simp only [Act.put, List.setIfInBounds_toArray, List.set_cons_zero, List.set_cons_succ]) | (simp only [Act.put, List.setIfInBounds_toArray, List.set]) | (simp only [Act.put]) | skip)
          (refine wpAnyH_take (i := 27) (oi := ⟨some 51, _, _, _, _, _⟩) (v := ?_) rfl (by kernel_rfl) (by kernel_rfl) (by kernel_rfl) (fun _ _ _ h => h) (Or.inl ⟨by kernel_rfl, ?_⟩) hHeld ?_; rotate_left; focus (intro w hSw; (try dsimp only at hSw); go_simp; (try with_reducible rfl); done))
          (first | (simp only [Act.put, List.setIfInBounds_toArray, List.set_cons_zero, List.set_cons_succ]) | (simp only [Act.put, List.setIfInBounds_toArray, List.set]) | (simp only [Act.put]) | skip)
          (refine wpAnyH_take (i := 28) (oi := ⟨some 52, _, _, _, _, _⟩) (v := ?_) rfl (by kernel_rfl) (by kernel_rfl) (by kernel_rfl) (fun _ _ _ h => h) (Or.inl ⟨by kernel_rfl, ?_⟩) hHeld ?_; rotate_left; focus (intro w hSw; (try dsimp only at hSw); go_simp; (try with_reducible rfl); done))
          (first | (simp only [Act.put, List.setIfInBounds_toArray, List.set_cons_zero, List.set_cons_succ]) | (simp only [Act.put, List.setIfInBounds_toArray, List.set]) | (simp only [Act.put]) | skip)
          (refine wpAnyH_take (i := 30) (oi := ⟨some 54, _, _, _, _, _⟩) (v := ?_) rfl (by kernel_rfl) (by kernel_rfl) (by kernel_rfl) (fun _ _ _ h => h) (Or.inl ⟨by kernel_rfl, ?_⟩) hHeld ?_; rotate_left; focus (intro w hSw; (try dsimp only at hSw); go_simp; (try with_reducible rfl); done))
          (first | (simp only [Act.put, List.setIfInBounds_toArray, List.set_cons_zero, List.set_cons_succ]) | (simp only [Act.put, List.setIfInBounds_toArray, List.set]) | (simp only [Act.put]) | skip)
          refine wpAnyH_ready (rs := [29]) (by kernel_rfl) (by simp) (AllReadyH.cons (o := ⟨some 53, _, _, _, _, _⟩) rfl (fun K hK => ?_) AllReadyH.nil)
          go_simp
          refine (meet_to a0 a1 b0 b1 m0 m1 HM.out _).mono ?_
          rintro e w3 ⟨rfl, hb⟩
          replace cur := seq cur hb
          clear hb
          (try dsimp only)
          refine Shut.out hK _ _ (by (try dsimp only); (first | done | (exact ⟨cell_below (cur) x0, cell_below (cur) x1, cell_below (cur) x2, cell_below (cur) x3, cell_below (cur) x4, cell_below (cur) x5, cell_below (cur) x6, cell_below (cur) x7, cell_below (cur) x8, cell_below (cur) x9, cell_below (cur) x10, cell_below (cur) x11⟩))) (fun hHeld => ?_)
          clear hK K
          (first | (simp only [Act.put, List.setIfInBounds_toArray, List.set_cons_zero, List.set_cons_succ]) | (simp only [Act.put, List.setIfInBounds_toArray, List.set]) | (simp only [Act.put]) | skip)
          refine wpAnyH_ready (rs := [31]) (by kernel_rfl) (by simp) (AllReadyH.cons (o := ⟨some 55, _, _, _, _, _⟩) rfl (fun K hK => ?_) AllReadyH.nil)
          go_simp
          refine (leq_to m0 m1 n0 n1 true HN1.out _).mono ?_
          rintro e w3 ⟨rfl, hb⟩
          replace cur := seq cur hb
          clear hb
          (try dsimp only)
          refine Shut.out hK _ _ (by (try dsimp only); (first | done | (exact ⟨cell_below (cur) x0, cell_below (cur) x1, cell_below (cur) x2, cell_below (cur) x3, cell_below (cur) x4, cell_below (cur) x5, cell_below (cur) x6, cell_below (cur) x7, cell_below (cur) x8, cell_below (cur) x9, cell_below (cur) x10, cell_below (cur) x11⟩))) (fun hHeld => ?_)
          clear hK K
          (first | (simp only [Act.put, List.setIfInBounds_toArray, List.set_cons_zero, List.set_cons_succ]) | (simp only [Act.put, List.setIfInBounds_toArray, List.set]) | (simp only [Act.put]) | skip)
          (refine wpAnyH_take (i := 32) (oi := ⟨some 56, _, _, _, _, _⟩) (v := ?_) rfl (by kernel_rfl) (by kernel_rfl) (by kernel_rfl) (fun _ _ _ h => h) (Or.inl ⟨by kernel_rfl, ?_⟩) hHeld ?_; rotate_left; focus (intro w hSw; (try dsimp only at hSw); go_simp; (try with_reducible rfl); done))
          (first | (simp only [Act.put, List.setIfInBounds_toArray, List.set_cons_zero, List.set_cons_succ]) | (simp only [Act.put, List.setIfInBounds_toArray, List.set]) | (simp only [Act.put]) | skip)
          (refine wpAnyH_take (i := 33) (oi := ⟨some 57, _, _, _, _, _⟩) (v := ?_) rfl (by kernel_rfl) (by kernel_rfl) (by kernel_rfl) (fun _ _ _ h => h) (Or.inl ⟨by kernel_rfl, ?_⟩) hHeld ?_; rotate_left; focus (intro w hSw; (try dsimp only at hSw); go_simp; (try with_reducible rfl); done))
          (first | (simp only [Act.put, List.setIfInBounds_toArray, List.set_cons_zero, List.set_cons_succ]) | (simp only [Act.put, List.setIfInBounds_toArray, List.set]) | (simp only [Act.put]) | skip)
          (refine wpAnyH_take (i := 34) (oi := ⟨some 58, _, _, _, _, _⟩) (v := ?_) rfl (by kernel_rfl) (by kernel_rfl) (by kernel_rfl) (fun _ _ _ h => h) (Or.inl ⟨by kernel_rfl, ?_⟩) hHeld ?_; rotate_left; focus (intro w hSw; (try dsimp only at hSw); go_simp; (try with_reducible rfl); done))
          (first | (simp only [Act.put, List.setIfInBounds_toArray, List.set_cons_zero, List.set_cons_succ]) | (simp only [Act.put, List.setIfInBounds_toArray, List.set]) | (simp only [Act.put]) | skip)
          (refine wpAnyH_take (i := 35) (oi := ⟨some 59, _, _, _, _, _⟩) (v := ?_) rfl (by kernel_rfl) (by kernel_rfl) (by kernel_rfl) (fun _ _ _ h => h) (Or.inl ⟨by kernel_rfl, ?_⟩) hHeld ?_; rotate_left; focus (intro w hSw; (try dsimp only at hSw); go_simp; (try with_reducible rfl); done))
          (first | (simp only [Act.put, List.setIfInBounds_toArray, List.set_cons_zero, List.set_cons_succ]) | (simp only [Act.put, List.setIfInBounds_toArray, List.set]) | (simp only [Act.put]) | skip)
          refine wpAnyH_ready (rs := [36]) (by kernel_rfl) (by simp) (AllReadyH.cons (o := ⟨some 60, _, _, _, _, _⟩) rfl (fun K hK => ?_) AllReadyH.nil)
          go_simp
          refine (leq_to b0 b1 a0 a1 false HQ.out _).mono ?_
          rintro e w3 ⟨rfl, hb⟩
          replace cur := seq cur hb
          clear hb
          (try dsimp only)
          refine Shut.out hK _ _ (by (try dsimp only); (first | done | (exact ⟨cell_below (cur) x0, cell_below (cur) x1, cell_below (cur) x2, cell_below (cur) x3, cell_below (cur) x4, cell_below (cur) x5, cell_below (cur) x6, cell_below (cur) x7, cell_below (cur) x8, cell_below (cur) x9, cell_below (cur) x10, cell_below (cur) x11⟩))) (fun hHeld => ?_)
          clear hK K
          (first | (simp only [Act.put, List.setIfInBounds_toArray, List.set_cons_zero, List.set_cons_succ]) | (simp only [Act.put, List.setIfInBounds_toArray, List.set]) | (simp only [Act.put]) | skip)
          (refine wpAnyH_take (i := 37) (oi := ⟨some 61, _, _, _, _, _⟩) (v := ?_) rfl (by kernel_rfl) (by kernel_rfl) (by kernel_rfl) (fun _ _ _ h => h) (Or.inl ⟨by kernel_rfl, ?_⟩) hHeld ?_; rotate_left; focus (intro w hSw; (try dsimp only at hSw); go_simp; (try with_reducible rfl); done))
          (first | (simp only [Act.put, List.setIfInBounds_toArray, List.set_cons_zero, List.set_cons_succ]) | (simp only [Act.put, List.setIfInBounds_toArray, List.set]) | (simp only [Act.put]) | skip)
          (refine wpAnyH_take (i := 38) (oi := ⟨some 62, _, _, _, _, _⟩) (v := ?_) rfl (by kernel_rfl) (by kernel_rfl) (by kernel_rfl) (fun _ _ _ h => h) (Or.inl ⟨by kernel_rfl, ?_⟩) hHeld ?_; rotate_left; focus (intro w hSw; (try dsimp only at hSw); go_simp; (try with_reducible rfl); done))
          (first | (simp only [Act.put, List.setIfInBounds_toArray, List.set_cons_zero, List.set_cons_succ]) | (simp only [Act.put, List.setIfInBounds_toArray, List.set]) | (simp only [Act.put]) | skip)
          (refine wpAnyH_take (i := 39) (oi := ⟨some 63, _, _, _, _, _⟩) (v := undef) rfl (by kernel_rfl) (by kernel_rfl) (by kernel_rfl) (fun _ _ _ h => h) (Or.inr ⟨by kernel_rfl, rfl⟩) hHeld ?_)
          (first | (simp only [Act.put, List.setIfInBounds_toArray, List.set_cons_zero, List.set_cons_succ]) | (simp only [Act.put, List.setIfInBounds_toArray, List.set]) | (simp only [Act.put]) | skip)
          (refine wpAnyH_take (i := 40) (oi := ⟨some 64, _, _, _, _, _⟩) (v := undef) rfl (by kernel_rfl) (by kernel_rfl) (by kernel_rfl) (fun _ _ _ h => h) (Or.inr ⟨by kernel_rfl, rfl⟩) hHeld ?_)
          (first | (simp only [Act.put, List.setIfInBounds_toArray, List.set_cons_zero, List.set_cons_succ]) | (simp only [Act.put, List.setIfInBounds_toArray, List.set]) | (simp only [Act.put]) | skip)
          (refine wpAnyH_take (i := 41) (oi := ⟨some 65, _, _, _, _, _⟩) (v := undef) rfl (by kernel_rfl) (by kernel_rfl) (by kernel_rfl) (fun _ _ _ h => h) (Or.inr ⟨by kernel_rfl, rfl⟩) hHeld ?_)
          (first | (simp only [Act.put, List.setIfInBounds_toArray, List.set_cons_zero, List.set_cons_succ]) | (simp only [Act.put, List.setIfInBounds_toArray, List.set]) | (simp only [Act.put]) | skip)
          (refine wpAnyH_take (i := 42) (oi := ⟨some 66, _, _, _, _, _⟩) (v := undef) rfl (by kernel_rfl) (by kernel_rfl) (by kernel_rfl) (fun _ _ _ h => h) (Or.inr ⟨by kernel_rfl, rfl⟩) hHeld ?_)
          (first | (simp only [Act.put, List.setIfInBounds_toArray, List.set_cons_zero, List.set_cons_succ]) | (simp only [Act.put, List.setIfInBounds_toArray, List.set]) | (simp only [Act.put]) | skip)
          (refine wpAnyH_take (i := 43) (oi := ⟨some 67, _, _, _, _, _⟩) (v := undef) rfl (by kernel_rfl) (by kernel_rfl) (by kernel_rfl) (fun _ _ _ h => h) (Or.inr ⟨by kernel_rfl, rfl⟩) hHeld ?_)
          (first | (simp only [Act.put, List.setIfInBounds_toArray, List.set_cons_zero, List.set_cons_succ]) | (simp only [Act.put, List.setIfInBounds_toArray, List.set]) | (simp only [Act.put]) | skip)
          (refine wpAnyH_take (i := 44) (oi := ⟨some 68, _, _, _, _, _⟩) (v := undef) rfl (by kernel_rfl) (by kernel_rfl) (by kernel_rfl) (fun _ _ _ h => h) (Or.inr ⟨by kernel_rfl, rfl⟩) hHeld ?_)
          (first | (simp only [Act.put, List.setIfInBounds_toArray, List.set_cons_zero, List.set_cons_succ]) | (simp only [Act.put, List.setIfInBounds_toArray, List.set]) | (simp only [Act.put]) | skip)
          (refine wpAnyH_take (i := 45) (oi := ⟨some 69, _, _, _, _, _⟩) (v := undef) rfl (by kernel_rfl) (by kernel_rfl) (by kernel_rfl) (fun _ _ _ h => h) (Or.inr ⟨by kernel_rfl, rfl⟩) hHeld ?_)
          (first | (simp only [Act.put, List.setIfInBounds_toArray, List.set_cons_zero, List.set_cons_succ]) | (simp only [Act.put, List.setIfInBounds_toArray, List.set]) | (simp only [Act.put]) | skip)
          (refine wpAnyH_take (i := 46) (oi := ⟨some 70, _, _, _, _, _⟩) (v := undef) rfl (by kernel_rfl) (by kernel_rfl) (by kernel_rfl) (fun _ _ _ h => h) (Or.inr ⟨by kernel_rfl, rfl⟩) hHeld ?_)
          (first | (simp only [Act.put, List.setIfInBounds_toArray, List.set_cons_zero, List.set_cons_succ]) | (simp only [Act.put, List.setIfInBounds_toArray, List.set]) | (simp only [Act.put]) | skip)
          (refine wpAnyH_take (i := 47) (oi := ⟨some 71, _, _, _, _, _⟩) (v := ?_) rfl (by kernel_rfl) (by kernel_rfl) (by kernel_rfl) (fun _ _ _ h => h) (Or.inl ⟨by kernel_rfl, ?_⟩) hHeld ?_; rotate_left; focus (intro w hSw; (try dsimp only at hSw); go_simp; (try with_reducible rfl); done))
          (first | (simp only [Act.put, List.setIfInBounds_toArray, List.set_cons_zero, List.set_cons_succ]) | (simp only [Act.put, List.setIfInBounds_toArray, List.set]) | (simp only [Act.put]) | skip)
          (refine wpAnyH_take (i := 48) (oi := ⟨some 72, _, _, _, _, _⟩) (v := ?_) rfl (by kernel_rfl) (by kernel_rfl) (by kernel_rfl) (fun _ _ _ h => h) (Or.inl ⟨by kernel_rfl, ?_⟩) hHeld ?_; rotate_left; focus (intro w hSw; (try dsimp only at hSw); go_simp; (try with_reducible rfl); done))
          (first | (simp only [Act.put, List.setIfInBounds_toArray, List.set_cons_zero, List.set_cons_succ]) | (simp only [Act.put, List.setIfInBounds_toArray, List.set]) | (simp only [Act.put]) | skip)
          (refine wpAnyH_take (i := 49) (oi := ⟨some 6, _, _, _, _, _⟩) (v := ?_) rfl (by kernel_rfl) (by kernel_rfl) (by kernel_rfl) (fun _ _ _ h => h) (Or.inl ⟨by kernel_rfl, ?_⟩) hHeld ?_; rotate_left; focus (intro w hSw; (try dsimp only at hSw); go_simp; (try with_reducible rfl); done))
          (first | (simp only [Act.put, List.setIfInBounds_toArray, List.set_cons_zero, List.set_cons_succ]) | (simp only [Act.put, List.setIfInBounds_toArray, List.set]) | (simp only [Act.put]) | skip)
          refine wpAnyH_done (by kernel_rfl) ?_ _
          have HZ := Lib.hid (seq HB.out cur)
          clear cur
          go_wp2_with fail
          go_ret
          exact ⟨rfl, HZ.out⟩
        · have HQ := Lib.hid hq
          clear hq
          refine wp_region_held_drew (S := fun w' => w'.cell? ⟨w.heap.size, 0, none⟩ = some (.int .i64 a0) ∧ w'.cell? ⟨w.heap.size, 1, none⟩ = some (.int .i64 a1) ∧ w'.cell? ⟨w.heap.size + 1, 0, none⟩ = some (.int .i64 b0) ∧ w'.cell? ⟨w.heap.size + 1, 1, none⟩ = some (.int .i64 b1) ∧ w'.cell? ⟨g7, 0, none⟩ = some (.int .i64 a0) ∧ w'.cell? ⟨g7, 1, none⟩ = some (.int .i64 a1) ∧ w'.cell? ⟨g8, 0, none⟩ = some (.int .i64 b0) ∧ w'.cell? ⟨g8, 1, none⟩ = some (.int .i64 b1) ∧ w'.cell? ⟨g9, 0, none⟩ = some (.int .i64 u0) ∧ w'.cell? ⟨g9, 1, none⟩ = some (.int .i64 u1) ∧ w'.cell? ⟨g10, 0, none⟩ = some (.int .i64 n0) ∧ w'.cell? ⟨g10, 1, none⟩ = some (.int .i64 n1)) (by kernel_rfl) ?_ (fun hHeld => ?_)
          focus ((try dsimp only); (first | done | (exact ⟨cell_below ((Below.refl wc.heap.size wc).drew) x0, cell_below ((Below.refl wc.heap.size wc).drew) x1, cell_below ((Below.refl wc.heap.size wc).drew) x2, cell_below ((Below.refl wc.heap.size wc).drew) x3, cell_below ((Below.refl wc.heap.size wc).drew) x4, cell_below ((Below.refl wc.heap.size wc).drew) x5, cell_below ((Below.refl wc.heap.size wc).drew) x6, cell_below ((Below.refl wc.heap.size wc).drew) x7, cell_below ((Below.refl wc.heap.size wc).drew) x8, cell_below ((Below.refl wc.heap.size wc).drew) x9, cell_below ((Below.refl wc.heap.size wc).drew) x10, cell_below ((Below.refl wc.heap.size wc).drew) x11⟩)); done)
          refine wpAnyH_ready (rs := [0]) (by kernel_rfl) (by simp) (AllReadyH.cons (o := ⟨some 24, _, _, _, _, _⟩) rfl (fun K hK => ?_) AllReadyH.nil)
          go_simp
          refine (alive02 (HT.out.below (seq HB.out ((Below.refl wc.heap.size wc).drew)))).mono ?_
          rintro e w3 ⟨rfl, hb⟩
          have cur := seq ((Below.refl wc.heap.size wc).drew) hb
          clear hb
          (try dsimp only)
          refine Shut.out hK _ _ (by (try dsimp only); (first | done | (exact ⟨cell_below (cur) x0, cell_below (cur) x1, cell_below (cur) x2, cell_below (cur) x3, cell_below (cur) x4, cell_below (cur) x5, cell_below (cur) x6, cell_below (cur) x7, cell_below (cur) x8, cell_below (cur) x9, cell_below (cur) x10, cell_below (cur) x11⟩))) (fun hHeld => ?_)
          clear hK K
          (first | (simp only [Act.put, List.setIfInBounds_toArray, List.set_cons_zero, List.set_cons_succ]) | (simp only [Act.put, List.setIfInBounds_toArray, List.set]) | (simp only [Act.put]) | skip)
          (refine wpAnyH_take (i := 1) (oi := ⟨some 25, _, _, _, _, _⟩) (v := ?_) rfl (by kernel_rfl) (by kernel_rfl) (by kernel_rfl) (fun _ _ _ h => h) (Or.inl ⟨by kernel_rfl, ?_⟩) hHeld ?_; rotate_left; focus (intro w hSw; (try dsimp only at hSw); go_simp; (try with_reducible rfl); done))
          (first | (simp only [Act.put, List.setIfInBounds_toArray, List.set_cons_zero, List.set_cons_succ]) | (simp only [Act.put, List.setIfInBounds_toArray, List.set]) | (simp only [Act.put]) | skip)
          (refine wpAnyH_take (i := 2) (oi := ⟨some 26, _, _, _, _, _⟩) (v := ?_) rfl (by kernel_rfl) (by kernel_rfl) (by kernel_rfl) (fun _ _ _ h => h) (Or.inl ⟨by kernel_rfl, ?_⟩) hHeld ?_; rotate_left; focus (intro w hSw; (try dsimp only at hSw); go_simp; (try with_reducible rfl); done))
          (first | (simp only [Act.put, List.setIfInBounds_toArray, List.set_cons_zero, List.set_cons_succ]) | (simp only [Act.put, List.setIfInBounds_toArray, List.set]) | (simp only [Act.put]) | skip)
          (refine wpAnyH_take (i := 3) (oi := ⟨some 27, _, _, _, _, _⟩) (v := ?_) rfl (by kernel_rfl) (by kernel_rfl) (by kernel_rfl) (fun _ _ _ h => h) (Or.inl ⟨by kernel_rfl, ?_⟩) hHeld ?_; rotate_left; focus (intro w hSw; (try dsimp only at hSw); go_simp; (try with_reducible rfl); done))
          (first | (simp only [Act.put, List.setIfInBounds_toArray, List.set_cons_zero, List.set_cons_succ]) | (simp only [Act.put, List.setIfInBounds_toArray, List.set]) | (simp only [Act.put]) | skip)
          (refine wpAnyH_take (i := 4) (oi := ⟨some 28, _, _, _, _, _⟩) (v := ?_) rfl (by kernel_rfl) (by kernel_rfl) (by kernel_rfl) (fun _ _ _ h => h) (Or.inl ⟨by kernel_rfl, ?_⟩) hHeld ?_; rotate_left; focus (intro w hSw; (try dsimp only at hSw); go_simp; (try with_reducible rfl); done))
          (first | (simp only [Act.put, List.setIfInBounds_toArray, List.set_cons_zero, List.set_cons_succ]) | (simp only [Act.put, List.setIfInBounds_toArray, List.set]) | (simp only [Act.put]) | skip)
          (refine wpAnyH_take (i := 5) (oi := ⟨some 29, _, _, _, _, _⟩) (v := ?_) rfl (by kernel_rfl) (by kernel_rfl) (by kernel_rfl) (fun _ _ _ h => h) (Or.inl ⟨by kernel_rfl, ?_⟩) hHeld ?_; rotate_left; focus (intro w hSw; (try dsimp only at hSw); go_simp; (try with_reducible rfl); done))
          (first | (simp only [Act.put, List.setIfInBounds_toArray, List.set_cons_zero, List.set_cons_succ]) | (simp only [Act.put, List.setIfInBounds_toArray, List.set]) | (simp only [Act.put]) | skip)
          refine wpAnyH_ready (rs := [6]) (by kernel_rfl) (by simp) (AllReadyH.cons (o := ⟨some 30, _, _, _, _, _⟩) rfl (fun K hK => ?_) AllReadyH.nil)
          go_simp
          refine (rwiden_to a0 a1 b0 b1 l (.slice ao l.length c) u0 u1 (HLd.out.below (cur)) (by omega) HU.out).mono ?_
          rintro e w3 ⟨rfl, hb⟩
          replace cur := seq cur hb
          clear hb
          (try dsimp only)
          refine Shut.out hK _ _ (by (try dsimp only); (first | done | (exact ⟨cell_below (cur) x0, cell_below (cur) x1, cell_below (cur) x2, cell_below (cur) x3, cell_below (cur) x4, cell_below (cur) x5, cell_below (cur) x6, cell_below (cur) x7, cell_below (cur) x8, cell_below (cur) x9, cell_below (cur) x10, cell_below (cur) x11⟩))) (fun hHeld => ?_)
          clear hK K
          (first | (simp only [Act.put, List.setIfInBounds_toArray, List.set_cons_zero, List.set_cons_succ]) | (simp only [Act.put, List.setIfInBounds_toArray, List.set]) | (simp only [Act.put]) | skip)
          (refine wpAnyH_take (i := 7) (oi := ⟨some 31, _, _, _, _, _⟩) (v := ?_) rfl (by kernel_rfl) (by kernel_rfl) (by kernel_rfl) (fun _ _ _ h => h) (Or.inl ⟨by kernel_rfl, ?_⟩) hHeld ?_; rotate_left; focus (intro w hSw; (try dsimp only at hSw); go_simp; (try with_reducible rfl); done))
          (first | (simp only [Act.put, List.setIfInBounds_toArray, List.set_cons_zero, List.set_cons_succ]) | (simp only [Act.put, List.setIfInBounds_toArray, List.set]) | (simp only [Act.put]) | skip)
          (refine wpAnyH_take (i := 8) (oi := ⟨some 32, _, _, _, _, _⟩) (v := ?_) rfl (by kernel_rfl) (by kernel_rfl) (by kernel_rfl) (fun _ _ _ h => h) (Or.inl ⟨by kernel_rfl, ?_⟩) hHeld ?_; rotate_left; focus (intro w hSw; (try dsimp only at hSw); go_simp; (try with_reducible rfl); done))
          (first | (simp only [Act.put, List.setIfInBounds_toArray, List.set_cons_zero, List.set_cons_succ]) | (simp only [Act.put, List.setIfInBounds_toArray, List.set]) | (simp only [Act.put]) | skip)
          (refine wpAnyH_take (i := 9) (oi := ⟨some 33, _, _, _, _, _⟩) (v := ?_) rfl (by kernel_rfl) (by kernel_rfl) (by kernel_rfl) (fun _ _ _ h => h) (Or.inl ⟨by kernel_rfl, ?_⟩) hHeld ?_; rotate_left; focus (intro w hSw; (try dsimp only at hSw); go_simp; (try with_reducible rfl); done))
          (first | (simp only [Act.put, List.setIfInBounds_toArray, List.set_cons_zero, List.set_cons_succ]) | (simp only [Act.put, List.setIfInBounds_toArray, List.set]) | (simp only [Act.put]) | skip)
          (refine wpAnyH_take (i := 10) (oi := ⟨some 34, _, _, _, _, _⟩) (v := ?_) rfl (by kernel_rfl) (by kernel_rfl) (by kernel_rfl) (fun _ _ _ h => h) (Or.inl ⟨by kernel_rfl, ?_⟩) hHeld ?_; rotate_left; focus (intro w hSw; (try dsimp only at hSw); go_simp; (try with_reducible rfl); done))
          (first | (simp only [Act.put, List.setIfInBounds_toArray, List.set_cons_zero, List.set_cons_succ]) | (simp only [Act.put, List.setIfInBounds_toArray, List.set]) | (simp only [Act.put]) | skip)
          (refine wpAnyH_take (i := 11) (oi := ⟨some 35, _, _, _, _, _⟩) (v := ?_) rfl (by kernel_rfl) (by kernel_rfl) (by kernel_rfl) (fun _ _ _ h => h) (Or.inl ⟨by kernel_rfl, ?_⟩) hHeld ?_; rotate_left; focus (intro w hSw; (try dsimp only at hSw); go_simp; (try with_reducible rfl); done))
          (first | (simp only [Act.put, List.setIfInBounds_toArray, List.set_cons_zero, List.set_cons_succ]) | (simp only [Act.put, List.setIfInBounds_toArray, List.set]) | (simp only [Act.put]) | skip)
          (refine wpAnyH_take (i := 12) (oi := ⟨some 36, _, _, _, _, _⟩) (v := ?_) rfl (by kernel_rfl) (by kernel_rfl) (by kernel_rfl) (fun _ _ _ h => h) (Or.inl ⟨by kernel_rfl, ?_⟩) hHeld ?_; rotate_left; focus (intro w hSw; (try dsimp only at hSw); go_simp; (try with_reducible rfl); done))
          (first | (simp only [Act.put, List.setIfInBounds_toArray, List.set_cons_zero, List.set_cons_succ]) | (simp only [Act.put, List.setIfInBounds_toArray, List.set]) | (simp only [Act.put]) | skip)
          refine wpAnyH_ready (rs := [13]) (by kernel_rfl) (by simp) (AllReadyH.cons (o := ⟨some 37, _, _, _, _, _⟩) rfl (fun K hK => ?_) AllReadyH.nil)
          go_simp
          refine (rnarrow_to a0 a1 b0 b1 n0 n1 HN.out _).mono ?_
          rintro e w3 ⟨rfl, hb⟩
          replace cur := seq cur hb
          clear hb
          (try dsimp only)
          refine Shut.out hK _ _ (by (try dsimp only); (first | done | (exact ⟨cell_below (cur) x0, cell_below (cur) x1, cell_below (cur) x2, cell_below (cur) x3, cell_below (cur) x4, cell_below (cur) x5, cell_below (cur) x6, cell_below (cur) x7, cell_below (cur) x8, cell_below (cur) x9, cell_below (cur) x10, cell_below (cur) x11⟩))) (fun hHeld => ?_)
          clear hK K
          (first | (simp only [Act.put, List.setIfInBounds_toArray, List.set_cons_zero, List.set_cons_succ]) | (simp only [Act.put, List.setIfInBounds_toArray, List.set]) | (simp only [Act.put]) | skip)
          (refine wpAnyH_take (i := 14) (oi := ⟨some 38, _, _, _, _, _⟩) (v := ?_) rfl (by kernel_rfl) (by kernel_rfl) (by kernel_rfl) (fun _ _ _ h => h) (Or.inl ⟨by kernel_rfl, ?_⟩) hHeld ?_; rotate_left; focus (intro w hSw; (try dsimp only at hSw); go_simp; (try with_reducible rfl); done))
          (first | (simp only [Act.put, List.setIfInBounds_toArray, List.set_cons_zero, List.set_cons_succ]) | (simp only [Act.put, List.setIfInBounds_toArray, List.set]) | (simp only [Act.put]) | skip)
          (refine wpAnyH_take (i := 15) (oi := ⟨some 39, _, _, _, _, _⟩) (v := ?_) rfl (by kernel_rfl) (by kernel_rfl) (by kernel_rfl) (fun _ _ _ h => h) (Or.inl ⟨by kernel_rfl, ?_⟩) hHeld ?_; rotate_left; focus (intro w hSw; (try dsimp only at hSw); go_simp; (try with_reducible rfl); done))
          (first | (simp only [Act.put, List.setIfInBounds_toArray, List.set_cons_zero, List.set_cons_succ]) | (simp only [Act.put, List.setIfInBounds_toArray, List.set]) | (simp only [Act.put]) | skip)
          (refine wpAnyH_take (i := 16) (oi := ⟨some 40, _, _, _, _, _⟩) (v := ?_) rfl (by kernel_rfl) (by kernel_rfl) (by kernel_rfl) (fun _ _ _ h => h) (Or.inl ⟨by kernel_rfl, ?_⟩) hHeld ?_; rotate_left; focus (intro w hSw; (try dsimp only at hSw); go_simp; (try with_reducible rfl); done))
          (first | (simp only [Act.put, List.setIfInBounds_toArray, List.set_cons_zero, List.set_cons_succ]) | (simp only [Act.put, List.setIfInBounds_toArray, List.set]) | (simp only [Act.put]) | skip)
          (refine wpAnyH_take (i := 17) (oi := ⟨some 41, _, _, _, _, _⟩) (v := ?_) rfl (by kernel_rfl) (by kernel_rfl) (by kernel_rfl) (fun _ _ _ h => h) (Or.inl ⟨by kernel_rfl, ?_⟩) hHeld ?_; rotate_left; focus (intro w hSw; (try dsimp only at hSw); go_simp; (try with_reducible rfl); done))
          (first | (simp only [Act.put, List.setIfInBounds_toArray, List.set_cons_zero, List.set_cons_succ]) | (simp only [Act.put, List.setIfInBounds_toArray, List.set]) | (simp only [Act.put]) | skip)
          (refine wpAnyH_take (i := 18) (oi := ⟨some 42, _, _, _, _, _⟩) (v := ?_) rfl (by kernel_rfl) (by kernel_rfl) (by kernel_rfl) (fun _ _ _ h => h) (Or.inl ⟨by kernel_rfl, ?_⟩) hHeld ?_; rotate_left; focus (intro w hSw; (try dsimp only at hSw); go_simp; (try with_reducible rfl); done))
          (first | (simp only [Act.put, List.setIfInBounds_toArray, List.set_cons_zero, List.set_cons_succ]) | (simp only [Act.put, List.setIfInBounds_toArray, List.set]) | (simp only [Act.put]) | skip)
          refine wpAnyH_ready (rs := [19]) (by kernel_rfl) (by simp) (AllReadyH.cons (o := ⟨some 43, _, _, _, _, _⟩) rfl (fun K hK => ?_) AllReadyH.nil)
          go_simp
          refine (leq_to a0 a1 u0 u1 true HU1.out.1 _).mono ?_
          rintro e w3 ⟨rfl, hb⟩
          replace cur := seq cur hb
          clear hb
          (try dsimp only)
          refine Shut.out hK _ _ (by (try dsimp only); (first | done | (exact ⟨cell_below (cur) x0, cell_below (cur) x1, cell_below (cur) x2, cell_below (cur) x3, cell_below (cur) x4, cell_below (cur) x5, cell_below (cur) x6, cell_below (cur) x7, cell_below (cur) x8, cell_below (cur) x9, cell_below (cur) x10, cell_below (cur) x11⟩))) (fun hHeld => ?_)
          clear hK K
          (first | (simp only [Act.put, List.setIfInBounds_toArray, List.set_cons_zero, List.set_cons_succ]) | (simp only [Act.put, List.setIfInBounds_toArray, List.set]) | (simp only [Act.put]) | skip)
          (refine wpAnyH_take (i := 20) (oi := ⟨some 44, _, _, _, _, _⟩) (v := ?_) rfl (by kernel_rfl) (by kernel_rfl) (by kernel_rfl) (fun _ _ _ h => h) (Or.inl ⟨by kernel_rfl, ?_⟩) hHeld ?_; rotate_left; focus (intro w hSw; (try dsimp only at hSw); go_simp; (try with_reducible rfl); done))
          (first | (simp only [Act.put, List.setIfInBounds_toArray, List.set_cons_zero, List.set_cons_succ]) | (simp only [Act.put, List.setIfInBounds_toArray, List.set]) | (simp only [Act.put]) | skip)
          (refine wpAnyH_take (i := 21) (oi := ⟨some 45, _, _, _, _, _⟩) (v := ?_) rfl (by kernel_rfl) (by kernel_rfl) (by kernel_rfl) (fun _ _ _ h => h) (Or.inl ⟨by kernel_rfl, ?_⟩) hHeld ?_; rotate_left; focus (intro w hSw; (try dsimp only at hSw); go_simp; (try with_reducible rfl); done))
          (first | (simp only [Act.put, List.setIfInBounds_toArray, List.set_cons_zero, List.set_cons_succ]) | (simp only [Act.put, List.setIfInBounds_toArray, List.set]) | (simp only [Act.put]) | skip)
          (refine wpAnyH_take (i := 22) (oi := ⟨some 46, _, _, _, _, _⟩) (v := ?_) rfl (by kernel_rfl) (by kernel_rfl) (by kernel_rfl) (fun _ _ _ h => h) (Or.inl ⟨by kernel_rfl, ?_⟩) hHeld ?_; rotate_left; focus (intro w hSw; (try dsimp only at hSw); go_simp; (try with_reducible rfl); done))
          (first | (simp only [Act.put, List.setIfInBounds_toArray, List.set_cons_zero, List.set_cons_succ]) | (simp only [Act.put, List.setIfInBounds_toArray, List.set]) | (simp only [Act.put]) | skip)
          (refine wpAnyH_take (i := 23) (oi := ⟨some 47, _, _, _, _, _⟩) (v := ?_) rfl (by kernel_rfl) (by kernel_rfl) (by kernel_rfl) (fun _ _ _ h => h) (Or.inl ⟨by kernel_rfl, ?_⟩) hHeld ?_; rotate_left; focus (intro w hSw; (try dsimp only at hSw); go_simp; (try with_reducible rfl); done))
          (first | (simp only [Act.put, List.setIfInBounds_toArray, List.set_cons_zero, List.set_cons_succ]) | (simp only [Act.put, List.setIfInBounds_toArray, List.set]) | (simp only [Act.put]) | skip)
          refine wpAnyH_ready (rs := [24]) (by kernel_rfl) (by simp) (AllReadyH.cons (o := ⟨some 48, _, _, _, _, _⟩) rfl (fun K hK => ?_) AllReadyH.nil)
          go_simp
          refine (leq_to b0 b1 u0 u1 true HU1.out.2 _).mono ?_
          rintro e w3 ⟨rfl, hb⟩
          replace cur := seq cur hb
          clear hb
          (try dsimp only)
          refine Shut.out hK _ _ (by (try dsimp only); (first | done | (exact ⟨cell_below (cur) x0, cell_below (cur) x1, cell_below (cur) x2, cell_below (cur) x3, cell_below (cur) x4, cell_below (cur) x5, cell_below (cur) x6, cell_below (cur) x7, cell_below (cur) x8, cell_below (cur) x9, cell_below (cur) x10, cell_below (cur) x11⟩))) (fun hHeld => ?_)
          clear hK K
          (first | (simp only [Act.put, List.setIfInBounds_toArray, List.set_cons_zero, List.set_cons_succ]) | (simp only [Act.put, List.setIfInBounds_toArray, List.set]) | (simp only [Act.put]) | skip)
          (refine wpAnyH_take (i := 25) (oi := ⟨some 49, _, _, _, _, _⟩) (v := ?_) rfl (by kernel_rfl) (by kernel_rfl) (by kernel_rfl) (fun _ _ _ h => h) (Or.inl ⟨by kernel_rfl, ?_⟩) hHeld ?_; rotate_left; focus (intro w hSw; (try dsimp only at hSw); go_simp; (try with_reducible rfl); done))
          (first | (simp only [Act.put, List.setIfInBounds_toArray, List.set_cons_zero, List.set_cons_succ]) | (simp only [Act.put, List.setIfInBounds_toArray, List.set]) | (simp only [Act.put]) | skip)
          (refine wpAnyH_take (i := 26) (oi := ⟨some 50, _, _, _, _, _⟩) (v := ?_) rfl (by kernel_rfl) (by kernel_rfl) (by kernel_rfl) (fun _ _ _ h => h) (Or.inl ⟨by kernel_rfl, ?_⟩) hHeld ?_; rotate_left; focus (intro w hSw; (try dsimp only at hSw); go_simp; (try with_reducible rfl); done))
          (first | (simp only [Act.put, List.setIfInBounds_toArray, List.set_cons_zero, List.set_cons_succ]) | (simp only [Act.put, List.setIfInBounds_toArray, List.set]) | (simp only [Act.put]) | skip)
          (refine wpAnyH_take (i := 27) (oi := ⟨some 51, _, _, _, _, _⟩) (v := ?_) rfl (by kernel_rfl) (by kernel_rfl) (by kernel_rfl) (fun _ _ _ h => h) (Or.inl ⟨by kernel_rfl, ?_⟩) hHeld ?_; rotate_left; focus (intro w hSw; (try dsimp only at hSw); go_simp; (try with_reducible rfl); done))
          (first | (simp only [Act.put, List.setIfInBounds_toArray, List.set_cons_zero, List.set_cons_succ]) | (simp only [Act.put, List.setIfInBounds_toArray, List.set]) | (simp only [Act.put]) | skip)
          (refine wpAnyH_take (i := 28) (oi := ⟨some 52, _, _, _, _, _⟩) (v := ?_) rfl (by kernel_rfl) (by kernel_rfl) (by kernel_rfl) (fun _ _ _ h => h) (Or.inl ⟨by kernel_rfl, ?_⟩) hHeld ?_; rotate_left; focus (intro w hSw; (try dsimp only at hSw); go_simp; (try with_reducible rfl); done))
          (first | (simp only [Act.put, List.setIfInBounds_toArray, List.set_cons_zero, List.set_cons_succ]) | (simp only [Act.put, List.setIfInBounds_toArray, List.set]) | (simp only [Act.put]) | skip)
          (refine wpAnyH_take (i := 30) (oi := ⟨some 54, _, _, _, _, _⟩) (v := ?_) rfl (by kernel_rfl) (by kernel_rfl) (by kernel_rfl) (fun _ _ _ h => h) (Or.inl ⟨by kernel_rfl, ?_⟩) hHeld ?_; rotate_left; focus (intro w hSw; (try dsimp only at hSw); go_simp; (try with_reducible rfl); done))
          (first | (simp only [Act.put, List.setIfInBounds_toArray, List.set_cons_zero, List.set_cons_succ]) | (simp only [Act.put, List.setIfInBounds_toArray, List.set]) | (simp only [Act.put]) | skip)
          refine wpAnyH_ready (rs := [29]) (by kernel_rfl) (by simp) (AllReadyH.cons (o := ⟨some 53, _, _, _, _, _⟩) rfl (fun K hK => ?_) AllReadyH.nil)
          go_simp
          refine (meet_to a0 a1 b0 b1 m0 m1 HM.out _).mono ?_
          rintro e w3 ⟨rfl, hb⟩
          replace cur := seq cur hb
          clear hb
          (try dsimp only)
          refine Shut.out hK _ _ (by (try dsimp only); (first | done | (exact ⟨cell_below (cur) x0, cell_below (cur) x1, cell_below (cur) x2, cell_below (cur) x3, cell_below (cur) x4, cell_below (cur) x5, cell_below (cur) x6, cell_below (cur) x7, cell_below (cur) x8, cell_below (cur) x9, cell_below (cur) x10, cell_below (cur) x11⟩))) (fun hHeld => ?_)
          clear hK K
          (first | (simp only [Act.put, List.setIfInBounds_toArray, List.set_cons_zero, List.set_cons_succ]) | (simp only [Act.put, List.setIfInBounds_toArray, List.set]) | (simp only [Act.put]) | skip)
          refine wpAnyH_ready (rs := [31]) (by kernel_rfl) (by simp) (AllReadyH.cons (o := ⟨some 55, _, _, _, _, _⟩) rfl (fun K hK => ?_) AllReadyH.nil)
          go_simp
          refine (leq_to m0 m1 n0 n1 true HN1.out _).mono ?_
          rintro e w3 ⟨rfl, hb⟩
          replace cur := seq cur hb
          clear hb
          (try dsimp only)
          refine Shut.out hK _ _ (by (try dsimp only); (first | done | (exact ⟨cell_below (cur) x0, cell_below (cur) x1, cell_below (cur) x2, cell_below (cur) x3, cell_below (cur) x4, cell_below (cur) x5, cell_below (cur) x6, cell_below (cur) x7, cell_below (cur) x8, cell_below (cur) x9, cell_below (cur) x10, cell_below (cur) x11⟩))) (fun hHeld => ?_)
          clear hK K
          (first | (simp only [Act.put, List.setIfInBounds_toArray, List.set_cons_zero, List.set_cons_succ]) | (simp only [Act.put, List.setIfInBounds_toArray, List.set]) | (simp only [Act.put]) | skip)
          (refine wpAnyH_take (i := 32) (oi := ⟨some 56, _, _, _, _, _⟩) (v := ?_) rfl (by kernel_rfl) (by kernel_rfl) (by kernel_rfl) (fun _ _ _ h => h) (Or.inl ⟨by kernel_rfl, ?_⟩) hHeld ?_; rotate_left; focus (intro w hSw; (try dsimp only at hSw); go_simp; (try with_reducible rfl); done))
          (first | (simp only [Act.put, List.setIfInBounds_toArray, List.set_cons_zero, List.set_cons_succ]) | (simp only [Act.put, List.setIfInBounds_toArray, List.set]) | (simp only [Act.put]) | skip)
          (refine wpAnyH_take (i := 33) (oi := ⟨some 57, _, _, _, _, _⟩) (v := ?_) rfl (by kernel_rfl) (by kernel_rfl) (by kernel_rfl) (fun _ _ _ h => h) (Or.inl ⟨by kernel_rfl, ?_⟩) hHeld ?_; rotate_left; focus (intro w hSw; (try dsimp only at hSw); go_simp; (try with_reducible rfl); done))
          (first | (simp only [Act.put, List.setIfInBounds_toArray, List.set_cons_zero, List.set_cons_succ]) | (simp only [Act.put, List.setIfInBounds_toArray, List.set]) | (simp only [Act.put]) | skip)
          (refine wpAnyH_take (i := 34) (oi := ⟨some 58, _, _, _, _, _⟩) (v := ?_) rfl (by kernel_rfl) (by kernel_rfl) (by kernel_rfl) (fun _ _ _ h => h) (Or.inl ⟨by kernel_rfl, ?_⟩) hHeld ?_; rotate_left; focus (intro w hSw; (try dsimp only at hSw); go_simp; (try with_reducible rfl); done))
          (first | (simp only [Act.put, List.setIfInBounds_toArray, List.set_cons_zero, List.set_cons_succ]) | (simp only [Act.put, List.setIfInBounds_toArray, List.set]) | (simp only [Act.put]) | skip)
          (refine wpAnyH_take (i := 35) (oi := ⟨some 59, _, _, _, _, _⟩) (v := ?_) rfl (by kernel_rfl) (by kernel_rfl) (by kernel_rfl) (fun _ _ _ h => h) (Or.inl ⟨by kernel_rfl, ?_⟩) hHeld ?_; rotate_left; focus (intro w hSw; (try dsimp only at hSw); go_simp; (try with_reducible rfl); done))
          (first | (simp only [Act.put, List.setIfInBounds_toArray, List.set_cons_zero, List.set_cons_succ]) | (simp only [Act.put, List.setIfInBounds_toArray, List.set]) | (simp only [Act.put]) | skip)
          refine wpAnyH_ready (rs := [36]) (by kernel_rfl) (by simp) (AllReadyH.cons (o := ⟨some 60, _, _, _, _, _⟩) rfl (fun K hK => ?_) AllReadyH.nil)
          go_simp
          refine (leq_to b0 b1 a0 a1 true HQ.out _).mono ?_
          rintro e w3 ⟨rfl, hb⟩
          replace cur := seq cur hb
          clear hb
          (try dsimp only)
          refine Shut.out hK _ _ (by (try dsimp only); (first | done | (exact ⟨cell_below (cur) x0, cell_below (cur) x1, cell_below (cur) x2, cell_below (cur) x3, cell_below (cur) x4, cell_below (cur) x5, cell_below (cur) x6, cell_below (cur) x7, cell_below (cur) x8, cell_below (cur) x9, cell_below (cur) x10, cell_below (cur) x11⟩))) (fun hHeld => ?_)
          clear hK K
          (first | (simp only [Act.put, List.setIfInBounds_toArray, List.set_cons_zero, List.set_cons_succ]) | (simp only [Act.put, List.setIfInBounds_toArray, List.set]) | (simp only [Act.put]) | skip)
          (refine wpAnyH_take (i := 37) (oi := ⟨some 61, _, _, _, _, _⟩) (v := ?_) rfl (by kernel_rfl) (by kernel_rfl) (by kernel_rfl) (fun _ _ _ h => h) (Or.inl ⟨by kernel_rfl, ?_⟩) hHeld ?_; rotate_left; focus (intro w hSw; (try dsimp only at hSw); go_simp; (try with_reducible rfl); done))
          (first | (simp only [Act.put, List.setIfInBounds_toArray, List.set_cons_zero, List.set_cons_succ]) | (simp only [Act.put, List.setIfInBounds_toArray, List.set]) | (simp only [Act.put]) | skip)
          (refine wpAnyH_take (i := 38) (oi := ⟨some 62, _, _, _, _, _⟩) (v := ?_) rfl (by kernel_rfl) (by kernel_rfl) (by kernel_rfl) (fun _ _ _ h => h) (Or.inl ⟨by kernel_rfl, ?_⟩) hHeld ?_; rotate_left; focus (intro w hSw; (try dsimp only at hSw); go_simp; (try with_reducible rfl); done))
          (first | (simp only [Act.put, List.setIfInBounds_toArray, List.set_cons_zero, List.set_cons_succ]) | (simp only [Act.put, List.setIfInBounds_toArray, List.set]) | (simp only [Act.put]) | skip)
          (refine wpAnyH_take (i := 39) (oi := ⟨some 63, _, _, _, _, _⟩) (v := ?_) rfl (by kernel_rfl) (by kernel_rfl) (by kernel_rfl) (fun _ _ _ h => h) (Or.inl ⟨by kernel_rfl, ?_⟩) hHeld ?_; rotate_left; focus (intro w hSw; (try dsimp only at hSw); go_simp; (try with_reducible rfl); done))
          (first | (simp only [Act.put, List.setIfInBounds_toArray, List.set_cons_zero, List.set_cons_succ]) | (simp only [Act.put, List.setIfInBounds_toArray, List.set]) | (simp only [Act.put]) | skip)
          (refine wpAnyH_take (i := 40) (oi := ⟨some 64, _, _, _, _, _⟩) (v := ?_) rfl (by kernel_rfl) (by kernel_rfl) (by kernel_rfl) (fun _ _ _ h => h) (Or.inl ⟨by kernel_rfl, ?_⟩) hHeld ?_; rotate_left; focus (intro w hSw; (try dsimp only at hSw); go_simp; (try with_reducible rfl); done))
          (first | (simp only [Act.put, List.setIfInBounds_toArray, List.set_cons_zero, List.set_cons_succ]) | (simp only [Act.put, List.setIfInBounds_toArray, List.set]) | (simp only [Act.put]) | skip)
          refine wpAnyH_ready (rs := [41]) (by kernel_rfl) (by simp) (AllReadyH.cons (o := ⟨some 65, _, _, _, _, _⟩) rfl (fun K hK => ?_) AllReadyH.nil)
          go_simp
          refine (leq_to b0 b1 n0 n1 true (HN2.out HQ.out).1 _).mono ?_
          rintro e w3 ⟨rfl, hb⟩
          replace cur := seq cur hb
          clear hb
          (try dsimp only)
          refine Shut.out hK _ _ (by (try dsimp only); (first | done | (exact ⟨cell_below (cur) x0, cell_below (cur) x1, cell_below (cur) x2, cell_below (cur) x3, cell_below (cur) x4, cell_below (cur) x5, cell_below (cur) x6, cell_below (cur) x7, cell_below (cur) x8, cell_below (cur) x9, cell_below (cur) x10, cell_below (cur) x11⟩))) (fun hHeld => ?_)
          clear hK K
          (first | (simp only [Act.put, List.setIfInBounds_toArray, List.set_cons_zero, List.set_cons_succ]) | (simp only [Act.put, List.setIfInBounds_toArray, List.set]) | (simp only [Act.put]) | skip)
          (refine wpAnyH_take (i := 42) (oi := ⟨some 66, _, _, _, _, _⟩) (v := ?_) rfl (by kernel_rfl) (by kernel_rfl) (by kernel_rfl) (fun _ _ _ h => h) (Or.inl ⟨by kernel_rfl, ?_⟩) hHeld ?_; rotate_left; focus (intro w hSw; (try dsimp only at hSw); go_simp; (try with_reducible rfl); done))
          (first | (simp only [Act.put, List.setIfInBounds_toArray, List.set_cons_zero, List.set_cons_succ]) | (simp only [Act.put, List.setIfInBounds_toArray, List.set]) | (simp only [Act.put]) | skip)
          (refine wpAnyH_take (i := 43) (oi := ⟨some 67, _, _, _, _, _⟩) (v := ?_) rfl (by kernel_rfl) (by kernel_rfl) (by kernel_rfl) (fun _ _ _ h => h) (Or.inl ⟨by kernel_rfl, ?_⟩) hHeld ?_; rotate_left; focus (intro w hSw; (try dsimp only at hSw); go_simp; (try with_reducible rfl); done))
          (first | (simp only [Act.put, List.setIfInBounds_toArray, List.set_cons_zero, List.set_cons_succ]) | (simp only [Act.put, List.setIfInBounds_toArray, List.set]) | (simp only [Act.put]) | skip)
          (refine wpAnyH_take (i := 44) (oi := ⟨some 68, _, _, _, _, _⟩) (v := ?_) rfl (by kernel_rfl) (by kernel_rfl) (by kernel_rfl) (fun _ _ _ h => h) (Or.inl ⟨by kernel_rfl, ?_⟩) hHeld ?_; rotate_left; focus (intro w hSw; (try dsimp only at hSw); go_simp; (try with_reducible rfl); done))
          (first | (simp only [Act.put, List.setIfInBounds_toArray, List.set_cons_zero, List.set_cons_succ]) | (simp only [Act.put, List.setIfInBounds_toArray, List.set]) | (simp only [Act.put]) | skip)
          refine wpAnyH_ready (rs := [45]) (by kernel_rfl) (by simp) (AllReadyH.cons (o := ⟨some 69, _, _, _, _, _⟩) rfl (fun K hK => ?_) AllReadyH.nil)
          go_simp
          refine (leq_to n0 n1 a0 a1 true (HN2.out HQ.out).2 _).mono ?_
          rintro e w3 ⟨rfl, hb⟩
          replace cur := seq cur hb
          clear hb
          (try dsimp only)
          refine Shut.out hK _ _ (by (try dsimp only); (first | done | (exact ⟨cell_below (cur) x0, cell_below (cur) x1, cell_below (cur) x2, cell_below (cur) x3, cell_below (cur) x4, cell_below (cur) x5, cell_below (cur) x6, cell_below (cur) x7, cell_below (cur) x8, cell_below (cur) x9, cell_below (cur) x10, cell_below (cur) x11⟩))) (fun hHeld => ?_)
          clear hK K
          (first | (simp only [Act.put, List.setIfInBounds_toArray, List.set_cons_zero, List.set_cons_succ]) | (simp only [Act.put, List.setIfInBounds_toArray, List.set]) | (simp only [Act.put]) | skip)
          (refine wpAnyH_take (i := 46) (oi := ⟨some 70, _, _, _, _, _⟩) (v := ?_) rfl (by kernel_rfl) (by kernel_rfl) (by kernel_rfl) (fun _ _ _ h => h) (Or.inl ⟨by kernel_rfl, ?_⟩) hHeld ?_; rotate_left; focus (intro w hSw; (try dsimp only at hSw); go_simp; (try with_reducible rfl); done))
          (first | (simp only [Act.put, List.setIfInBounds_toArray, List.set_cons_zero, List.set_cons_succ]) | (simp only [Act.put, List.setIfInBounds_toArray, List.set]) | (simp only [Act.put]) | skip)
          (refine wpAnyH_take (i := 47) (oi := ⟨some 71, _, _, _, _, _⟩) (v := ?_) rfl (by kernel_rfl) (by kernel_rfl) (by kernel_rfl) (fun _ _ _ h => h) (Or.inl ⟨by kernel_rfl, ?_⟩) hHeld ?_; rotate_left; focus (intro w hSw; (try dsimp only at hSw); go_simp; (try with_reducible rfl); done))
          (first | (simp only [Act.put, List.setIfInBounds_toArray, List.set_cons_zero, List.set_cons_succ]) | (simp only [Act.put, List.setIfInBounds_toArray, List.set]) | (simp only [Act.put]) | skip)
          (refine wpAnyH_take (i := 48) (oi := ⟨some 72, _, _, _, _, _⟩) (v := ?_) rfl (by kernel_rfl) (by kernel_rfl) (by kernel_rfl) (fun _ _ _ h => h) (Or.inl ⟨by kernel_rfl, ?_⟩) hHeld ?_; rotate_left; focus (intro w hSw; (try dsimp only at hSw); go_simp; (try with_reducible rfl); done))
          (first | (simp only [Act.put, List.setIfInBounds_toArray, List.set_cons_zero, List.set_cons_succ]) | (simp only [Act.put, List.setIfInBounds_toArray, List.set]) | (simp only [Act.put]) | skip)
          (refine wpAnyH_take (i := 49) (oi := ⟨some 6, _, _, _, _, _⟩) (v := ?_) rfl (by kernel_rfl) (by kernel_rfl) (by kernel_rfl) (fun _ _ _ h => h) (Or.inl ⟨by kernel_rfl, ?_⟩) hHeld ?_; rotate_left; focus (intro w hSw; (try dsimp only at hSw); go_simp; (try with_reducible rfl); done))
          (first | (simp only [Act.put, List.setIfInBounds_toArray, List.set_cons_zero, List.set_cons_succ]) | (simp only [Act.put, List.setIfInBounds_toArray, List.set]) | (simp only [Act.put]) | skip)
          refine wpAnyH_done (by kernel_rfl) ?_ _
          have HZ := Lib.hid (seq HB.out cur)
          clear cur
          go_wp2_with fail
          go_ret
          exact ⟨rfl, HZ.out⟩
end Go.Proofs.YtjddafaaplhnfaaDoor.PSpanWidens

set_option linter.unusedVariables false
namespace Go.Proofs.YtjddafaaplhnfaaDoor.SpanWidens
open Go Go.ChangeShapes Go.WideShapes Go.ChangeAt Go.RowKit PSpanWidens
theorem own : ownKnob Tryd.prog.godebug = none := by kernel_rfl
theorem laidOut : laidOutB Tryd.prog = true := by kernel_rfl
theorem tabs_of_laid {W : World} (h : laidMetH Tryd.prog Rows.spanWidensRow.laid W) : Tabs W := by
  have h' : laidMet Tryd.prog [("math/bits.deBruijn32tab", Rows.laid_math_bits_deBruijn32tab), ("math/bits.deBruijn64tab", Rows.laid_math_bits_deBruijn64tab), ("internal/strconv.uint64pow10", Rows.laid_internal_strconv_uint64pow10)] W := h
  have hp := Lib.tabIs_of_head (zs := Lib.pow10Tab) tab_pow tab_powT Tryd.underlying87 Tryd.underlying75 tab_cellsU64 tab_cellsTab h'.tail.tail
  exact ⟨hp⟩
/-- A world that meets the condition. -/
noncomputable def laidWorld (os : Os) : World := World.laidAll Tryd.prog os Rows.spanWidensRow.laid
theorem laidWorld_met (os : Os) (args : Array Value) : laidMetH Tryd.prog Rows.spanWidensRow.laid ((laidWorld os).forCall (fun _ _ => 0) ⟨#[], args, []⟩).memory :=
  laidMetH_of_parts (laidMet_of_run' 8 (by kernel_rfl) (by kernel_rfl)) (by kernel_rfl)
set_option maxRecDepth 100000 in
theorem lifted (os : Os) (started : os.Started) (H : Type) (enc : TypeId × Value → H) :
    ReturnsInHanded {} Tryd.checked os 4 .any (fun w args => (Rows.spanWidensSpec.pre enc Tryd.prog Tryd.f4 [] false w args ∧ laidMetH Tryd.prog Rows.spanWidensRow.laid w) ∧ sizedMet enc Tryd.prog Tryd.f4 (OpenSpec.ofChange Rows.spanWidensSpec) false w args)
      (Rows.spanWidensSpec.post enc Tryd.prog Tryd.f4 false true false false) := by
  refine returnsInHanded_of_change_and (C := Tryd.checked) (X := fun w _ => laidMetH Tryd.prog Rows.spanWidensRow.laid w) (fun _ _ _ hh h => h.of_heap hh) own started (by kernel_rfl) Tryd.func4
    (ChangeSpec.witness_at (enc := enc) (C := Tryd.checked) (os := os) (X := fun w _ => laidMetH Tryd.prog Rows.spanWidensRow.laid w) false (laidWorld os) #[.agg #[.int .i64 0, .int .i64 0], .agg #[.int .i64 0, .int .i64 0], .slice none 0 0] 8 (World.laidAll_os _ _ _) (by kernel_rfl) (by kernel_rfl) (by kernel_rfl) (by kernel_rfl) (by kernel_rfl) (laidWorld_met os _)) ?_
  intro W base args ds gs before hval0 hW hcnd0 hsz0 hL hx0
  have hval : ∀ (j : Nat) t v, Tryd.f4.params[j]? = some t → args[j]? = some v → Value.okWide Tryd.prog W .any base t v := hval0
  have hW' := hW
  obtain ⟨p, q, hA0, hV, rfl, hfz, hnd⟩ := hW
  have hT := tabs_of_laid hL
  have hA : DataW.TrodAll enc Tryd.prog W 0 (fun _ => true) true Tryd.f4.params.toList args.toList ds p := hA0
  rw [Tryd.params4] at hA hval
  obtain ⟨v0, vs0, d0, ds0, p0, q0, hargs, rfl, rfl, h0, r0⟩ := trodAll_cons hA
  obtain ⟨v1, vs1, d1, ds1, p1, q1, rfl, rfl, rfl, h1, r1⟩ := trodAll_cons r0
  obtain ⟨v2, vs2, d2, ds2, p2, q2, rfl, rfl, rfl, h2, r2⟩ := trodAll_cons r1
  obtain ⟨rfl, rfl, rfl⟩ := trodAll_nil r2
  obtain rfl : args = #[v0, v1, v2] := by cases args; simp_all
  obtain ⟨rfl, rfl⟩ := trodVars_none hV
  obtain ⟨a0, b0, rfl, rfl, rfl, wa0, wb0⟩ := open_two' Tryd.underlying23 (by kernel_rfl) (by kernel_rfl) Tryd.underlying3 Tryd.underlying3 (hval 0 23 v0 rfl rfl) h0
  obtain ⟨a1, b1, rfl, rfl, rfl, wa1, wb1⟩ := open_two' Tryd.underlying23 (by kernel_rfl) (by kernel_rfl) Tryd.underlying3 Tryd.underlying3 (hval 1 23 v1 rfl rfl) h1
  obtain ⟨a2, len2, cap2, rfl⟩ := okWide_slice Tryd.underlying32 (hval 2 32 v2 rfl rfl)
  have k2 := h2
  have lt2 : ∀ x ∈ p2, x.block < W.heap.size := by obtain ⟨m, hm⟩ := k2; exact DataW.trod_lt m _ _ _ hm
  obtain ⟨z2, y2⟩ := open_ints' h2
  clear hA0 hval0 hsz0 hcnd0 hx0
  refine (PSpanWidens.SpanWidens_walk a0 b0 a1 b1 _ z2 hT y2).mono fun e W' ⟨he, bel⟩ => ?_
  subst he
  exact ⟨_, rfl, _, _, _, [], _, [], hW', trodAll_mk1 (shut_bool Tryd.underlying4 _), (trodAll_cons_mk (shut_two' Tryd.underlying23 (by kernel_rfl) (by kernel_rfl) Tryd.underlying3 Tryd.underlying3 wa0 wb0) (trodAll_cons_mk (shut_two' Tryd.underlying23 (by kernel_rfl) (by kernel_rfl) Tryd.underlying3 Tryd.underlying3 wa1 wb1) (trodAll_cons_mk (Below.trod laidOut (by kernel_rfl) (of_decide_eq_true (by kernel_rfl)) k2 bel lt2) trodAll_mk0))), rfl, bel.frame _, fun h => by cases h⟩
theorem over : Rows.SpanWidensSaid :=
  OpenClaim.holds_of_wide 4 Tryd.f4 rfl rfl rfl rfl rfl rfl rfl ⟨rfl, rfl, rfl, rfl, rfl⟩ rfl rfl rfl rfl rfl (by kernel_rfl) Tryd.func4 (by kernel_rfl)
    (of_decide_eq_true (by kernel_rfl)) (by unfold Func.isWrapper; first | (rw [if_pos (by decide +kernel)]; kernel_rfl) | (rw [if_neg (by decide +kernel)]; exact ⟨rfl, rfl⟩))
    (fun os started H enc _ => lifted os started H enc)
theorem proved : Rows.SpanWidensCardSaid :=
  Claim7.holds_tied_plain_at .later [] [.data, .data, .data] true (true, "dd4255569846f32772da1bc8f9ad4daf2d0e0abb43648cb154e52fabfac71cc0") false
    over (fun _ h => by cases h) (by kernel_rfl) (fun _ h => by cases h) spanWidens_row_tie rfl ⟨rfl, rfl⟩ (by kernel_rfl) rfl
    (fun f fn hf hfn => by
      obtain rfl : f = 4 := Option.some.inj ((show Tryd.prog.funcNamed "helmsman/helmsmanlaw02.SpanWidens" = some 4 by kernel_rfl).symm.trans hf) |>.symm
      obtain rfl : fn = Tryd.f4 := (Option.some.inj (Tryd.func4.symm.trans hfn)).symm
      exact ⟨by kernel_rfl, fun j t ht => by
        rw [Tryd.params4] at ht
        have hts : t ∈ [23, 23, 32] := by
          rcases j with _ | _ | _ | j
          · simp at ht; simp [ht]
          · simp at ht; simp [ht]
          · simp at ht; simp [ht]
          · simp at ht
        simp only [List.mem_cons, List.not_mem_nil, or_false] at hts
        rcases hts with rfl | rfl | rfl <;> exact (show Tryd.prog.wantsStandIn _ = false by kernel_rfl)⟩)
    (by kernel_rfl)
#print axioms proved
end Go.Proofs.YtjddafaaplhnfaaDoor.SpanWidens
namespace Go.Proofs.YtjddafaaplhnfaaDoor
/-- The card, under a short name, for the claim. -/
theorem spanWidens_holds : Rows.SpanWidensCardSaid := SpanWidens.proved
end Go.Proofs.YtjddafaaplhnfaaDoor
