/- What the printed functions of the document's packages 01 and 02 come to: Of, Hull. -/
import Derived.Test.YtjddafaaplhnfaaDoorPSpanHullsx44
import Derived.Test.YtjddafaaplhnfaaDoorSpanHullsSm
set_option linter.unusedVariables false
set_option linter.unusedSimpArgs false
namespace Go.Proofs.YtjddafaaplhnfaaDoor.PSpanHulls
open Go Go.RowKit Go.Proofs.YtjddafaaplhnfaaDoorW.PrintWords Go.Proofs.YtjddafaaplhnfaaDoorW.PrintLast Go.Proofs.YtjddafaaplhnfaaDoorW.PrintMore

theorem rTop : helmsmanref01_Top.f = some 1152921504606846976 := rfl
theorem rOf_f (k : Nat) (l h : Int) : helmsmanref02_Of.f (k + 1) l h = some (Sp.of l h) := by
  unfold helmsmanref02_Of.f Sp.of
  rw [rTop]
  simp only [Option.bind_some]
  rw [w64 (by omega)]
  have j0 : ∀ x, -1152921504606846976 ≤ x → helmsmanref02_Of.j0 (k + 1) x h = some (if x ≤ min h 1152921504606846976 then (x, min h 1152921504606846976) else (1, 0)) := by
    intro x hx
    simp only [helmsmanref02_Of.j0]
    have rTop : helmsmanref01_Top.f = some 1152921504606846976 := rfl
    rw [rTop]
    simp only [Option.bind_some]
    by_cases c1 : h > 1152921504606846976
    · rw [if_pos c1, show min h 1152921504606846976 = 1152921504606846976 by omega]
      by_cases c2 : x > 1152921504606846976
      · rw [if_pos c2, if_neg (by omega)]
      · rw [if_neg c2, if_pos (by omega)]
    · rw [if_neg c1, show min h 1152921504606846976 = h by omega]
      by_cases c2 : x > h
      · rw [if_pos c2, if_neg (by omega)]
      · rw [if_neg c2, if_pos (by omega)]
  by_cases c : l < -1152921504606846976
  · rw [if_pos c, j0 _ (by omega), show max l (-1152921504606846976) = -1152921504606846976 by omega]
  · rw [if_neg c, j0 _ (by omega), show max l (-1152921504606846976) = l by omega]

theorem rHull_go (l : List Int) (hl : l.length ≤ 1000000) : ∀ (d i k : Nat) (lo hi : Int), l.length - i = d → i ≤ l.length → d + 1 < k → lo ≤ hi →
    helmsmanref02_Hull.l0 k l lo hi i = some (Sp.of ((l.drop i).foldl min lo) ((l.drop i).foldl max hi)) := by
  intro d
  induction d with
  | zero =>
    intro i k lo hi hd hi2 hk hle
    obtain ⟨k, rfl⟩ : ∃ m, k = m + 2 := ⟨k - 2, by omega⟩
    have : l.drop i = [] := by rw [List.drop_eq_nil_iff]; omega
    rw [this]
    simp only [helmsmanref02_Hull.l0]
    rw [if_neg (by omega), rOf_f]; rfl
  | succ d ih =>
    intro i k lo hi hd hi2 hk hle
    obtain ⟨k, rfl⟩ : ∃ m, k = m + 1 := ⟨k - 1, by omega⟩
    have hlt : i < l.length := by omega
    have hr : rd l (i : Int) = l[i] := by unfold rd; simp [List.getD, hlt]
    have hw : wrap64 ((i : Int) + 1) = ((i + 1 : Nat) : Int) := by rw [w64 (by omega)]; omega
    rw [List.drop_eq_getElem_cons hlt]
    simp only [helmsmanref02_Hull.l0, List.foldl_cons]
    rw [if_pos (by omega), if_pos (by omega), hr, hw]
    by_cases c1 : l[i] < lo
    · rw [if_pos c1, if_neg (by omega), ih (i + 1) k _ _ (by omega) (by omega) (by omega) (by omega), show min lo l[i] = l[i] by omega, show max hi l[i] = hi by omega]
    · rw [if_neg c1]
      by_cases c2 : l[i] > hi
      · rw [if_pos c2, ih (i + 1) k _ _ (by omega) (by omega) (by omega) (by omega), show min lo l[i] = lo by omega, show max hi l[i] = l[i] by omega]
      · rw [if_neg c2, ih (i + 1) k _ _ (by omega) (by omega) (by omega) (by omega), show min lo l[i] = lo by omega, show max hi l[i] = hi by omega]
theorem rHull_f (l : List Int) (hl : l.length ≤ 1000000) (k : Nat) (hk : l.length + 1 < k) : helmsmanref02_Hull.f k l = some (Sp.hull l) := by
  unfold helmsmanref02_Hull.f Sp.hull
  cases l with
  | nil => rfl
  | cons x r =>
    rw [if_neg (by simp; omega), if_pos (by simp), if_neg (by simp)]
    have h0 : rd (x :: r) 0 = x := rfl
    rw [h0]
    have := rHull_go (x :: r) hl (x :: r).length 0 k x x rfl (by omega) (by omega) (by omega)
    rw [List.drop_zero] at this
    have e : ((0 : Nat) : Int) = 0 := rfl
    rw [e] at this
    rw [this]
    simp only [List.foldl_cons, Sp.minL, Sp.maxL]
    rw [show min x x = x by omega, show max x x = x by omega]
end Go.Proofs.YtjddafaaplhnfaaDoor.PSpanHulls
