/- Walks of the document's arena of nodes: New, lowest, Has, Var, Mk. -/
import Derived.Test.YtknoigebkpapoaaDoorNk
set_option linter.unusedVariables false
set_option linter.unusedSimpArgs false
namespace Go.Proofs.YtknoigebkpapoaaDoor
open Go.RowKit Go.Deep
variable {w : World} {lim : Int} {L : List Nd} {vl : Value}

/-- The document's row of nodes. -/
def Row (w : World) (vl : Value) (L : List Nd) : Prop := w.ownsRow 0 56 3 vl L.length (cellsOf L)
theorem Row.below {w' : World} (h : Row w vl L) (t : Below w.heap.size w w') : Row w' vl L := ownsRow_touch h (Touch.of_below t (fun _ => False)) (fun _ _ c => c)
theorem Row.nil (w : World) : Row w (.slice none 0 0) [] := World.ownsRow_nil _ _ _ _
theorem Row.shape (h : Row w vl L) : (∃ ao cap, vl = .slice ao L.length cap) ∧ L.length ≤ 9223372036854775807 := by
  rcases h.2 with ⟨rfl, h'⟩ | ⟨g, cap, cur, rfl, _, _, h1, h2, _⟩
  · exact ⟨⟨none, 0, by rw [h']⟩, by omega⟩
  · unfold maxLen at h2; exact ⟨⟨_, _, rfl⟩, by omega⟩

theorem Below.push {B : Nat} {a w : World} (h : Below B a w) (h0 : B ≤ a.heap.size) (o : Obj) : Below B a (w.alloc o) := h.alloc (Nat.le_trans h0 h.size) o
theorem Below.drewN' {B : Nat} {a w : World} (h : Below B a w) (n : Nat) : Below B a (w.drewN n) := ⟨h.os, h.tape, h.output, h.size, h.block⟩
theorem Below.seq {B : Nat} {a w w' : World} (h : Below B a w) (h0 : B ≤ a.heap.size) (k : Below w.heap.size w w') : Below B a w' := h.trans (k.mono (Nat.le_trans h0 h.size))


theorem ref_new (n : Int) (w : World) : Calls Tryd.prog 23 #[.int .i64 n] w fun e w' => e = .returned (.agg #[.int .i64 (max n 0), .slice none 0 0]) ∧ Below w.heap.size w w' := by
  go_enter Tryd.func23, Tryd.ntmps23
  by_cases h : n < 0
  · rw [show max n 0 = 0 from by omega]
    go_wp2
    exact bodyPost_ret (v := .agg #[.int .i64 0, .slice none 0 0]) (by simp [results, Tryd.results23, go_sem]) rfl ⟨rfl, by (repeat (with_reducible first | exact Below.refl _ _ | assumption | refine Below.push ?_ (Nat.le_refl _) _ | refine Below.drewN' ?_ _ | refine Below.drew ?_ | refine Below.setCell ?_ (by simp; done) _))⟩
  · rw [show max n 0 = n from by omega]
    go_wp2
    exact bodyPost_ret (v := .agg #[.int .i64 n, .slice none 0 0]) (by simp [results, Tryd.results23, go_sem]) rfl ⟨rfl, by (repeat (with_reducible first | exact Below.refl _ _ | assumption | refine Below.push ?_ (Nat.le_refl _) _ | refine Below.drewN' ?_ _ | refine Below.drew ?_ | refine Below.setCell ?_ (by simp; done) _))⟩

theorem ref_lowest (w : World) : Calls Tryd.prog 46 #[] w fun e w' => e = .returned (.int .i64 (-1099511627777)) ∧ w = w' := by
  go_enter Tryd.func46, Tryd.ntmps46
  go_wp2
  go_ret
  exact ⟨rfl, rfl⟩

set_option maxHeartbeats 400000 in
theorem ref_has (h : Row w vl L) (r : Int) (d : Bool) (hd : decide (Ar.has L r) = d) :
    Calls Tryd.prog 18 #[.agg #[.int .i64 lim, vl], .int .i64 r] w fun e w' => e = .returned (.bool d) ∧ Below w.heap.size w w' := by
  subst hd
  obtain ⟨⟨ao, cap, rfl⟩, hn⟩ := h.shape
  clear h
  by_cases h0 : r < -1099511627777
  · go_enter Tryd.func18, Tryd.ntmps18
    go_wp2_with (go_at_call 46; refine (ref_lowest _).mono ?_; rintro e w' ⟨rfl, rfl⟩)
    go_ret
    exact ⟨ret_eq (show Value.bool false = _ by congr 1; exact (decide_eq_false (by unfold Ar.has Ar.low; omega)).symm), by (repeat (with_reducible first | exact Below.refl _ _ | assumption | refine Below.push ?_ (Nat.le_refl _) _ | refine Below.drewN' ?_ _ | refine Below.drew ?_ | refine Below.setCell ?_ (by simp; done) _))⟩
  · have h0' : -1099511627777 ≤ r := by omega
    clear h0
    go_enter Tryd.func18, Tryd.ntmps18
    go_wp2_with (go_at_call 46; refine (ref_lowest _).mono ?_; rintro e w' ⟨rfl, rfl⟩)
    go_ret
    exact ⟨ret_eq (show Value.bool (decide (r < (L.length : Int))) = _ by congr 1; simp [Ar.has, Ar.low, h0']), by (repeat (with_reducible first | exact Below.refl _ _ | assumption | refine Below.push ?_ (Nat.le_refl _) _ | refine Below.drewN' ?_ _ | refine Below.drew ?_ | refine Below.setCell ?_ (by simp; done) _))⟩

set_option maxHeartbeats 400000 in
theorem ref_var (h : Row w vl L) (r x : Int) (hx : Ar.var L r = x) :
    Calls Tryd.prog 32 #[.agg #[.int .i64 lim, vl], .int .i64 r] w fun e w' => e = .returned (.int .i64 x) ∧ Below w.heap.size w w' := by
  subst hx
  by_cases hi : Ar.isN L r
  · have hv : Ar.var L r = (Ar.nd L r).v := by simp [Ar.var, hi]
    rw [hv]
    obtain ⟨k, rfl⟩ : ∃ k : Nat, r = k := ⟨r.toNat, by unfold Ar.isN at hi; omega⟩
    have hk : k < L.length := by unfold Ar.isN at hi; omega
    rw [Ar.nd_at hk]
    obtain ⟨bl, cap, rfl, hbl, hn, e0, e1, e2⟩ := row_node h k hk
    have hg : ∀ o, (w.alloc o).cell? ⟨bl, k * 3, none⟩ = some (.int .i64 L[k].v) := fun o => (World.cell?_of_block (w := w) (Below.heap_alloc w o bl hbl)).trans e0
    have hne : bl ≠ w.heap.size := by omega
    clear h hv hi e1 e2
    go_enter Tryd.func32, Tryd.ntmps32
    go_wp2
    go_ret
    exact ⟨rfl, by (repeat (with_reducible first | exact Below.refl _ _ | assumption | refine Below.push ?_ (Nat.le_refl _) _ | refine Below.drewN' ?_ _ | refine Below.drew ?_ | refine Below.setCell ?_ (by simp; done) _))⟩
  · have hv : Ar.var L r = 12 := by simp [Ar.var, hi]
    rw [hv]
    obtain ⟨⟨ao, cap, rfl⟩, hn⟩ := h.shape
    unfold Ar.isN at hi
    clear h hv
    go_enter Tryd.func32, Tryd.ntmps32
    by_cases h0 : r < 0
    · clear hi
      go_wp2
      go_ret
      exact ⟨rfl, by (repeat (with_reducible first | exact Below.refl _ _ | assumption | refine Below.push ?_ (Nat.le_refl _) _ | refine Below.drewN' ?_ _ | refine Below.drew ?_ | refine Below.setCell ?_ (by simp; done) _))⟩
    · have h1 : (L.length : Int) ≤ r := by omega
      clear hi
      go_wp2
      go_ret
      exact ⟨rfl, by (repeat (with_reducible first | exact Below.refl _ _ | assumption | refine Below.push ?_ (Nat.le_refl _) _ | refine Below.drewN' ?_ _ | refine Below.drew ?_ | refine Below.setCell ?_ (by simp; done) _))⟩
end Go.Proofs.YtknoigebkpapoaaDoor
