/- Walks of the law's number (an error's number) and nodes (has an arena the document's nodes). -/
import Derived.Test.YtknoigebkpapoaaDoorAs
import Derived.Test.YtknoigebkpapoaaDoorSc
import Derived.Test.YtknoigebkpapoaaDoorRg
set_option linter.unusedVariables false
set_option linter.unusedSimpArgs false
namespace Go.Proofs.YtknoigebkpapoaaDoor
open Go.RowKit Go.Deep
variable {w : World}

theorem number09_nil (w : World) : Calls Tryd.prog 15 #[.nilIface] w fun e w' => e = .returned (.int .i64 0) ∧ Below w.heap.size w w' := by
  go_enter Tryd.func15, Tryd.ntmps15
  go_wp2_with fail
  go_ret
  exact ⟨rfl, Below.push (Below.refl _ w) (Nat.le_refl _) _⟩

/-- A cell of the call's own that As has filled. -/
theorem as_kept {w0 : World} {c v : Value} {T : TypeId} (h : Below (w.heap.size + 1) (w.alloc (.cells #[c] T)) w0) :
    (w0.setCell ⟨w.heap.size, 0, none⟩ v).cell? ⟨w.heap.size, 0, none⟩ = some v ∧ Below w.heap.size w (w0.setCell ⟨w.heap.size, 0, none⟩ v) := by
  have h0 := (h.block w.heap.size (by omega)).trans (heap_alloc_new w (.cells #[c] T))
  refine ⟨?_, ((Below.push (Below.refl _ w) (Nat.le_refl _) _).trans (h.mono (by omega))).setCell (p := ⟨w.heap.size, 0, none⟩) (Nat.le_refl _) v⟩
  exact cell_at (heap_setCell_same (j := 0) h0 v) 0 (by simp)

set_option maxHeartbeats 1000000 in
theorem number09_errno (n : Int) (hg : ErrT w) : Calls Tryd.prog 15 #[.iface 35 (.int .i64 n)] w fun e w' => e = .returned (.int .i64 n) ∧ Below w.heap.size w w' := by
  have HG := Lib.hid (hg.below (Below.push (Below.refl _ w) (Nat.le_refl _) (.cells #[.int .i64 0] 35)) hg.lt)
  clear hg
  go_enter Tryd.func15, Tryd.ntmps15
  go_wp2_with fail
  refine (as_errno n _ (.int .i64 0) _ HG.out (by simp) (by simp)).mono ?_
  rintro e w1 ⟨rfl, w0, hb0, rfl⟩
  simp only [World.size_alloc] at hb0
  obtain ⟨hc, hb⟩ := as_kept (v := .int .i64 n) hb0
  have HB := Lib.hid hb
  clear hb hb0
  go_wp2_with fail
  go_ret
  exact ⟨rfl, HB.out⟩

set_option maxHeartbeats 1000000 in
theorem number09_fault (n v : Int) (fb : Nat) (hg : ErrT w) (hf : FaultAt w fb v n) : Calls Tryd.prog 15 #[.iface 94 (.pointer (some ⟨fb, 0, none⟩))] w fun e w' => e = .returned (.int .i64 n) ∧ Below w.heap.size w w' := by
  have HG := Lib.hid (hg.below (Below.push (Below.refl _ w) (Nat.le_refl _) (.cells #[.int .i64 0] 35)) hg.lt)
  have HF : Hid (FaultAt (w.alloc (.cells #[.int .i64 0] 35)) fb v n) := heap_alloc_lt _ hf
  clear hg hf
  go_enter Tryd.func15, Tryd.ntmps15
  go_wp2_with fail
  refine (as_fault n fb v _ (.int .i64 0) _ HG.out (by simp) (by simp) HF.out).mono ?_
  rintro e w1 ⟨rfl, w0, hb0, rfl⟩
  simp only [World.size_alloc] at hb0
  obtain ⟨hc, hb⟩ := as_kept (v := .int .i64 n) hb0
  have HB := Lib.hid hb
  clear hb hb0
  go_wp2_with fail
  go_ret
  exact ⟨rfl, HB.out⟩

/-- An error that has a number. -/
def ErrV (w : World) (n : Int) (ev : Value) : Prop := ErrIs w n ev ∨ ev = .iface 35 (.int .i64 n)
theorem number09_any {n : Int} {ev : Value} (hg : ErrT w) (h : ErrV w n ev) : Calls Tryd.prog 15 #[ev] w fun e w' => e = .returned (.int .i64 n) ∧ Below w.heap.size w w' := by
  rcases h with (⟨rfl, rfl⟩ | ⟨_, fb, v, rfl, hf⟩) | rfl
  · exact number09_nil w
  · exact number09_fault n v fb hg hf
  · exact number09_errno n hg

theorem quiet_left {P : Program} {f : FuncId} {args : Array Value} {w : World} {n : Nat} {v : Value}
    (h : Calls P f args (w.drewN n) fun e w' => e = .returned v ∧ w.drewN n = w') : Calls P f args (w.drewN n) fun e w'' => e = .returned v ∧ ∃ m, w'' = w.drewN m :=
  h.mono fun _ _ ⟨he, hm⟩ => ⟨he, n, hm.symm⟩
theorem Below.drawn (w : World) (n : Nat) : Below w.heap.size w (w.drewN n) := ⟨rfl, rfl, rfl, Nat.le_refl _, fun _ _ => rfl⟩
theorem Arena.drewN {b : Nat} {lim : Int} {L : List Nd} {S : Nat → Prop} (A : Arena w b lim L S) (n : Nat) : Arena (w.drewN n) b lim L S := A.below (Below.drawn w n)

attribute [local go_sem high] eq_rnd
set_option maxRecDepth 100000 in
set_option maxHeartbeats 1000000 in
theorem nodes_same {b : Nat} {lim limr : Int} {L : List Nd} {S : Nat → Prop} {vl : Value} (A : Arena w b lim L S) (R : Row w vl L) :
    Calls Tryd.prog 16 #[.pointer (some ⟨b, 0, none⟩), .agg #[.int .i64 limr, vl]] w fun e w' => e = .returned (.bool true) ∧ Below w.heap.size w w' := by
  obtain ⟨⟨ao, cap, rfl⟩, hn⟩ := R.shape
  have hb0 := Below.push (Below.refl _ w) (Nat.le_refl _) (.cells #[.int .i64 limr, .slice ao L.length cap] 27)
  have hx0 := Lib.hid (heap_alloc_new w (.cells #[.int .i64 limr, .slice ao L.length cap] 27))
  have HA := Lib.hid A
  have HA0 := Lib.hid (A.below hb0)
  have HR := Lib.hid R
  have HB0 := Lib.hid hb0
  have hlt := A.lt
  clear A R hb0
  go_enter Tryd.func16, Tryd.ntmps16
  go_wp2
  go_quiet ((go_at_call 27; exact quiet_left (len_any (HA0.out.drewN _))))
  have HA1 := Lib.hid (HA0.out.drewN nq)
  have HB1 := Lib.hid (Below.seq HB0.out (Nat.le_refl _) (Below.drawn _ nq))
  clear HA0 HB0 HA1 hx0
  go_wp2
  go_loopg [22] L.length (fun gk i wr => ∃ k : Nat, i = .int .i64 k ∧ k + gk = L.length ∧ Hid (Below w.heap.size w wr))
  case atStart => exact ⟨0, rfl, by omega, HB1⟩
  case round =>
    clear HB1
    obtain ⟨k, rfl, hk, HB⟩ := hrel
    by_cases hlt' : k < L.length
    · obtain ⟨bl, cap', hsl, hbl, _, c0, c1, c2⟩ := row_node HR.out k hlt'
      simp only [Value.slice.injEq, true_and] at hsl
      obtain ⟨rfl, rfl⟩ := hsl
      replace c0 := (HB.out.cell (p := ⟨bl, k * 3, none⟩) hbl).trans c0
      replace c1 := (HB.out.cell (p := ⟨bl, k * 3 + 1, none⟩) hbl).trans c1
      replace c2 := (HB.out.cell (p := ⟨bl, k * 3 + 2, none⟩) hbl).trans c2
      have hbw : bl < wr.heap.size := Nat.lt_of_lt_of_le hbl HB.out.size
      have HX := Lib.hid (heap_alloc_new wr (.cells #[.int .i64 L[k].v, .int .i64 L[k].l, .int .i64 L[k].h] 56))
      have HW := Lib.hid (Below.push (Below.refl _ wr) (Nat.le_refl _) (.cells #[.int .i64 L[k].v, .int .i64 L[k].l, .int .i64 L[k].h] 56))
      have hE : ndEq L[k].v L[k].l L[k].h L[k].v L[k].l L[k].h = true := (ndEq_iff _ _).2 rfl
      go_wp2_with fail
      refine (get_in ((HA.out.below HB.out).below HW.out) k hlt').mono ?_
      rintro e w2 ⟨rfl, hb2⟩
      have X2 := (hb2.block _ (lt_of_heap HX.out)).trans HX.out
      have hs2 := hb2.size
      simp only [World.size_alloc] at hs2
      have x0 := cell_at X2 0 (v := .int .i64 L[k].v) rfl
      have x1 := cell_at X2 1 (v := .int .i64 L[k].l) rfl
      have x2 := cell_at X2 2 (v := .int .i64 L[k].h) rfl
      have hlx : wr.heap.size < w2.heap.size := by omega
      have HB2 := Lib.hid (Below.seq (Below.seq HB.out (Nat.le_refl _) HW.out) (Nat.le_refl _) hb2)
      clear X2 hb2 HX HW c0 c1 c2 HB
      go_wp2_with fail
      go_roundg (gk - 1)
      case measure => omega
      case rel => exact ⟨k + 1, by go_num, by omega, Below.push HB2.out (Nat.le_refl _) _⟩
    · obtain rfl : k = L.length := by omega
      go_wp2_with fail
      go_ret
      exact ⟨rfl, HB.out⟩
end Go.Proofs.YtknoigebkpapoaaDoor
