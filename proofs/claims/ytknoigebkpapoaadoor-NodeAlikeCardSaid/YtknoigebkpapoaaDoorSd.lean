/- Walks of package sweep: Dead. -/
import Derived.Test.YtknoigebkpapoaaDoorSw
set_option linter.unusedVariables false
set_option linter.unusedSimpArgs false
namespace Go.Proofs.YtknoigebkpapoaaDoor
open Go.RowKit Go.Deep
variable {w : World} {b : Nat} {lim : Int} {L : List Nd} {S : Nat → Prop}

/-- The marks of what can be reached. -/
def Marks (L : List Nd) (roots : List Int) (out : List Bool) : Prop := out.length = L.length ∧ ∀ k, k < L.length → (out.getD k false = true ↔ Ar.Reach L roots (k : Int))
theorem Marks.unique {roots : List Int} {o1 o2 : List Bool} (h1 : Marks L roots o1) (h2 : Marks L roots o2) : o1 = o2 := by
  apply List.ext_getElem
  · rw [h1.1, h2.1]
  · intro i ha hb
    have e1 := h1.2 i (by rw [← h1.1]; exact ha)
    have e2 := h2.2 i (by rw [← h1.1]; exact ha)
    simp only [List.getD, List.getElem?_eq_getElem ha, Option.getD_some] at e1
    simp only [List.getD, List.getElem?_eq_getElem hb, Option.getD_some] at e2
    exact Bool.eq_iff_iff.2 (e1.trans e2.symm)

theorem free_take_succ {out : List Bool} {k : Nat} (h : k < out.length) : Ar.free (out.take (k + 1)) = Ar.free (out.take k) + (if out.getD k false = true then 0 else 1) := by
  unfold Ar.free
  rw [List.take_succ_eq_append_getElem h, List.countP_append]
  simp only [List.getD, List.getElem?_eq_getElem h, Option.getD_some]
  cases out[k] <;> simp

set_option maxRecDepth 100000 in
set_option maxHeartbeats 1000000 in
theorem dead_any (A : Arena w b lim L S) (v : Value) (roots : List Int) (hr : Ints w v roots) (hrl : roots.length + 3 * L.length ≤ 1000000000000) :
    Calls Tryd.prog 43 #[.pointer (some ⟨b, 0, none⟩), v] w fun e w' => Hid (∃ out, Marks L roots out ∧ e = .returned (.int .i64 (Ar.free out : Nat)) ∧ Below w.heap.size w w') := by
  go_enter Tryd.func43, Tryd.ntmps43
  go_wp2_with fail
  refine (mark_any A v roots hr hrl).mono ?_
  rintro e w1 ⟨v1, out, rfl, hb, hol, hm, hbe, hnew⟩
  have A1 := A.below hbe
  obtain ⟨g, rfl, hg⟩ := hb
  have HG := Lib.hid hg
  have HM : Hid (Marks L roots out) := ⟨hol, hm⟩
  clear hg hm hr hnew
  go_wp2_with fail
  refine (len_any A1).mono ?_
  rintro e w' ⟨rfl, rfl⟩
  go_wp2_with fail
  go_loopg [6, 7, 13] L.length (fun gk n q i wr => ∃ k : Nat, k + gk = L.length ∧ i = .int .i64 k ∧ n = .int .i64 (Ar.free (out.take k) : Nat) ∧ w1 = wr)
  case atStart => exact ⟨0, by omega, rfl, by simp [Ar.free], rfl⟩
  case round =>
    obtain ⟨k, hk, rfl, rfl, rfl⟩ := hrel
    have hle : Ar.free (out.take k) ≤ k := Nat.le_trans (List.countP_le_length) (List.length_take_le _ _)
    by_cases hlt : k < L.length
    · have hlt' : k < out.length := by omega
      have kc : w1.cell? ⟨g, k, none⟩ = some (.bool (out.getD k false)) := cell_at HG.out k (by simp [List.getD, hlt'])
      have hs := free_take_succ hlt'
      have hkl : k < out.length := hlt'
      cases hb : out.getD k false
      · rw [hb] at kc hs
        have HS := Lib.hid hs
        clear hs hb
        go_wp2_with fail
        go_roundg (gk - 1)
        case measure => omega
        case rel => exact ⟨k + 1, by omega, by go_num, by rw [HS.out]; go_num, rfl⟩
      · rw [hb] at kc hs
        have HS := Lib.hid hs
        clear hs hb
        go_wp2_with fail
        go_roundg (gk - 1)
        case measure => omega
        case rel => exact ⟨k + 1, by omega, by go_num, by rw [HS.out]; go_num, rfl⟩
    · have hkl : k = out.length := by omega
      have ht : out.take k = out := by rw [hkl, List.take_length]
      have HT := Lib.hid ht
      clear ht hkl
      go_wp2_with fail
      go_ret
      exact ⟨out, HM.out, ret_eq (show Value.int .i64 (Ar.free (out.take k) : Nat) = _ from by rw [HT.out]), hbe⟩
end Go.Proofs.YtknoigebkpapoaaDoor
