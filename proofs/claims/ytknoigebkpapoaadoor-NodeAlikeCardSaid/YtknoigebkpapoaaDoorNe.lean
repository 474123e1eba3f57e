/- Walks of the errors' texts, and of the node laws' number: an error's number. -/
import Derived.Test.YtknoigebkpapoaaDoorNu
import Derived.Deep.RegionWith
import Derived.Deep.DeepCutAuto
set_option linter.unusedVariables false
set_option linter.unusedSimpArgs false
namespace Go.Proofs.YtknoigebkpapoaaDoor
open Go.RowKit Go.Deep
variable {w : World}

/-- The text of an arena's error. -/
def errTxt (n : Int) : ByteArray := if n = 50 then ⟨#[104, 101, 108, 109, 115, 109, 97, 110, 58, 32, 53, 48]⟩ else if n = 51 then ⟨#[104, 101, 108, 109, 115, 109, 97, 110, 58, 32, 53, 49]⟩ else ⟨#[104, 101, 108, 109, 115, 109, 97, 110, 58, 32, 53, 50]⟩
set_option maxRecDepth 100000 in
set_option maxHeartbeats 4000000 in
theorem errno_50 (w : World) : Calls Tryd.prog 54 #[.int .i64 50] w fun e w' => e = .returned (.string ⟨#[104, 101, 108, 109, 115, 109, 97, 110, 58, 32, 53, 48]⟩) ∧ w = w' := by
  go_enter Tryd.func54, Tryd.ntmps54
  go_wp2
  go_ret
  exact ⟨rfl, rfl⟩
set_option maxRecDepth 100000 in
set_option maxHeartbeats 4000000 in
theorem errno_51 (w : World) : Calls Tryd.prog 54 #[.int .i64 51] w fun e w' => e = .returned (.string ⟨#[104, 101, 108, 109, 115, 109, 97, 110, 58, 32, 53, 49]⟩) ∧ w = w' := by
  go_enter Tryd.func54, Tryd.ntmps54
  go_wp2
  go_ret
  exact ⟨rfl, rfl⟩
set_option maxRecDepth 100000 in
set_option maxHeartbeats 4000000 in
theorem errno_52 (w : World) : Calls Tryd.prog 54 #[.int .i64 52] w fun e w' => e = .returned (.string ⟨#[104, 101, 108, 109, 115, 109, 97, 110, 58, 32, 53, 50]⟩) ∧ w = w' := by
  go_enter Tryd.func54, Tryd.ntmps54
  go_wp2
  go_ret
  exact ⟨rfl, rfl⟩
theorem errno_text (n : Int) (hn : n = 50 ∨ n = 51 ∨ n = 52) (w : World) : Calls Tryd.prog 54 #[.int .i64 n] w fun e w' => e = .returned (.string (errTxt n)) ∧ w = w' := by
  rcases hn with rfl | rfl | rfl
  · exact errno_50 w
  · exact errno_51 w
  · exact errno_52 w
theorem errTxt_size (n : Int) : (errTxt n).size = 12 := by
  unfold errTxt
  split
  · rfl
  · split <;> rfl
def faultTxt (n : Int) : ByteArray := ⟨#[110, 111, 100, 101, 32, 109, 107, 32]⟩ ++ errTxt n
theorem ne_methodError (v : Value) (w : World) : (Go.method 272 35 v "Error").run Tryd.prog w = .ok (54, v) w := by kernel_rfl
theorem fault_unwrap (fb : Nat) (v n : Int) (w : World) (hf : FaultAt w fb v n) : Calls Tryd.prog 52 #[.pointer (some ⟨fb, 0, none⟩)] w fun e w' => e = .returned (.iface 35 (.int .i64 n)) ∧ w = w' := by
  have h2 : w.cell? ⟨fb, 2, none⟩ = some (.iface 35 (.int .i64 n)) := cell_at hf 2 rfl
  clear hf
  go_enter Tryd.func52, Tryd.ntmps52
  go_wp2
  go_ret
  exact ⟨rfl, rfl⟩
set_option maxRecDepth 100000 in
set_option maxHeartbeats 1000000 in
theorem fault_error (fb : Nat) (v n : Int) (hn : n = 50 ∨ n = 51 ∨ n = 52) (w : World) (hf : FaultAt w fb v n) : Calls Tryd.prog 53 #[.pointer (some ⟨fb, 0, none⟩)] w fun e w' => e = .returned (.string (faultTxt n)) ∧ ∃ k, w' = w.drewN k := by
  have h0 : w.cell? ⟨fb, 0, none⟩ = some (.string ⟨#[109, 107]⟩) := cell_at hf 0 rfl
  have h2 : w.cell? ⟨fb, 2, none⟩ = some (.iface 35 (.int .i64 n)) := cell_at hf 2 rfl
  have HN := Lib.hid hn
  have mE := ne_methodError
  have hz := errTxt_size n
  clear hf hn
  go_enter Tryd.func53, Tryd.ntmps53
  go_wp2_with fail
  go_quiet ((go_at_call 54; exact quiet_left (errno_text n HN.out _)))
  go_wp2_with fail
  go_ret
  exact ⟨rfl, _, rfl⟩

theorem number05_nil (w : World) : Calls Tryd.prog 26 #[.nilIface] w fun e w' => e = .returned (.int .i64 0) ∧ Below w.heap.size w w' := by
  go_enter Tryd.func26, Tryd.ntmps26
  go_wp2_with fail
  go_ret
  exact ⟨rfl, Below.refl _ w⟩

/-- What number has on its way: the two cells that As fills. -/
structure NumI (w W : World) (fb : Nat) (v n : Int) (a b : Value) : Prop where
  a3 : W.heap[w.heap.size]? = some (.cells #[a] 94 (0, 0))
  b4 : W.heap[w.heap.size + 1]? = some (.cells #[b] 35 (0, 0))
  ft : FaultAt W fb v n
  fl : fb < w.heap.size
  et : ErrT W
  bel : Below w.heap.size w W
section
variable {W W' x : World} {fb : Nat} {v n : Int} {a b : Value}
theorem NumI.start (hg : ErrT w) (hf : FaultAt w fb v n) : NumI w ((w.alloc (.cells #[.pointer none] 94)).alloc (.cells #[.int .i64 0] 35)) fb v n (.pointer none) (.int .i64 0) := by
  have hb := Below.push (Below.push (Below.refl _ w) (Nat.le_refl _) (.cells #[.pointer none] 94)) (Nat.le_refl _) (.cells #[.int .i64 0] 35)
  exact ⟨heap_alloc_lt _ (heap_alloc_new _ _), alloc2 _ _ _, (hb.block fb (lt_of_heap hf)).trans hf, lt_of_heap hf, hg.below hb hg.lt, hb⟩
theorem NumI.step (I : NumI w W fb v n a b) (h : Below W.heap.size W W') : NumI w W' fb v n a b :=
  ⟨(h.block _ (lt_of_heap I.a3)).trans I.a3, (h.block _ (lt_of_heap I.b4)).trans I.b4, (h.block fb (lt_of_heap I.ft)).trans I.ft, I.fl, I.et.below h I.et.lt, Below.seq I.bel (Nat.le_refl _) h⟩
theorem errT_set (h : ErrT W) {p : Addr} (hp : 0 ≠ p.block) (u : Value) : ErrT (W.setCell p u) := (cell_set_ne (q := ⟨0, 0, none⟩) u hp).trans h
theorem NumI.set3 (I : NumI w W fb v n a b) (hlt : 0 < w.heap.size) (h : Below W.heap.size W x) (u : Value) : NumI w (x.setCell ⟨w.heap.size, 0, none⟩ u) fb v n u b := by
  have J := I.step h
  have hfl := I.fl
  refine ⟨?_, heap_setCell_other (b := w.heap.size) _ J.b4 rfl (by omega) _, heap_setCell_other (b := w.heap.size) _ J.ft rfl (by omega) _, I.fl, errT_set J.et (by simp <;> omega) _, J.bel.setCell (p := ⟨w.heap.size, 0, none⟩) (Nat.le_refl _) _⟩
  have := heap_setCell_same (j := 0) J.a3 u
  simpa using this
theorem NumI.set4 (I : NumI w W fb v n a b) (hlt : 0 < w.heap.size) (h : Below W.heap.size W x) (u : Value) : NumI w (x.setCell ⟨w.heap.size + 1, 0, none⟩ u) fb v n a u := by
  have J := I.step h
  have hfl := I.fl
  refine ⟨heap_setCell_other (b := w.heap.size + 1) _ J.a3 rfl (by omega) _, ?_, heap_setCell_other (b := w.heap.size + 1) _ J.ft rfl (by omega) _, I.fl, errT_set J.et (by simp <;> omega) _, J.bel.setCell (p := ⟨w.heap.size + 1, 0, none⟩) (by simp) _⟩
  have := heap_setCell_same (j := 0) J.b4 u
  simpa using this
end
theorem run_neq_errno {P : Program} (w : World) {ti tn : TypeId} {ms : Array (String × TypeId)} {i : TypeInfo} {k : IntKind} (a : Int)
    (hi : P.underlying ti = some (.interface ms)) (hn : P.underlying tn = some (.int k)) (hinfo : P.info? tn = some i) (hcomp : i.comparable = true) :
    (binOp .neq ti (.iface tn (.int k a)) (.iface tn (.int k a))).run P w = .ok (.bool false) w := by
  simp only [binOp]
  simp [Op.equal, Op.maxDepth, run_equalIn_errno w 9998 a a hi hn hinfo hcomp]

set_option maxRecDepth 100000 in
set_option maxHeartbeats 8000000 in
theorem number05_fault (n v : Int) (fb : Nat) (hn : n = 50 ∨ n = 51 ∨ n = 52) (hg : ErrT w) (hf : FaultAt w fb v n) :
    Calls Tryd.prog 26 #[.iface 94 (.pointer (some ⟨fb, 0, none⟩))] w fun e w' => e = .returned (.int .i64 n) ∧ Below w.heap.size w w' := by
  obtain ⟨i, hi, hcmp⟩ := Option.map_eq_some_iff.1 ei_comp
  have hne := fun W => run_neq_errno (P := Tryd.prog) W n Tryd.underlying32 Tryd.underlying35 hi hcmp
  have I0 := Lib.hid (NumI.start hg hf)
  have hlt := hg.lt
  have HN := Lib.hid hn
  have hz := errTxt_size n
  have hfl := lt_of_heap hf
  clear hg hf hn
  go_enter Tryd.func26, Tryd.ntmps26
  go_wp2_with fail
  generalize (w.alloc (.cells #[.pointer none] 94)).alloc (.cells #[.int .i64 0] 35) = W0 at *
  have J0 := Lib.hid (I0.out.step (Below.drew (Below.refl _ W0)))
  have tok1 : True := trivial
  go_cut [45] (fun v45 wx => v45 = .bool false ∧ Hid (NumI w wx fb v n (.pointer (some ⟨fb, 0, none⟩)) (.int .i64 n)))
  case first =>
    go_region_with (first
      | (go_at_call 45; have _t := tok1; refine (as_itself ⟨fb, 0, none⟩ ⟨w.heap.size, 0, none⟩ (.pointer none) _ J0.out.et (cell_at J0.out.a3 0 rfl) (free_at J0.out.a3 0)).mono ?_; rintro e w1 ⟨rfl, x1, hx1, hw1⟩; have J1 : Hid (NumI w w1 fb v n (.pointer (some ⟨fb, 0, none⟩)) (.int .i64 0)) := (by rw [hw1]; exact J0.out.set3 hlt hx1 _); clear hx1 hw1 _t tok1; have d3 := cell_at J1.out.a3 0 (v := .pointer (some ⟨fb, 0, none⟩)) rfl)
      | (go_at_call 45; have _t := J1; refine (as_fault n fb v ⟨w.heap.size + 1, 0, none⟩ (.int .i64 0) _ J1.out.et (cell_at J1.out.b4 0 rfl) (free_at J1.out.b4 0) J1.out.ft).mono ?_; rintro e w2 ⟨rfl, x2, hx2, hw2⟩; have J2 : Hid (NumI w w2 fb v n (.pointer (some ⟨fb, 0, none⟩)) (.int .i64 n)) := (by rw [hw2]; exact J1.out.set4 hlt hx2 _); clear hx2 hw2 d3 _t; have d3 := cell_at J2.out.a3 0 (v := .pointer (some ⟨fb, 0, none⟩)) rfl; have d4 := cell_at J2.out.b4 0 (v := .int .i64 n) rfl; have e0 : w2.cell? ⟨fb, 0, none⟩ = some (.string ⟨#[109, 107]⟩) := cell_at J2.out.ft 0 rfl)
      | (go_at_call 52; refine (fault_unwrap fb v n _ J2.out.ft).mono ?_; rintro e w' ⟨rfl, rfl⟩)
      | (go_at_call 19; refine (is_fault fb v n n true (by simp) _ J2.out.ft).mono ?_; rintro e w' ⟨rfl, rfl⟩)
      | (go_at_call 53; refine (fault_error fb v n HN.out _ J2.out.ft).mono ?_; rintro e w' ⟨rfl, k3, rfl⟩)
      | (go_at_call 54; refine (errno_text n HN.out _).mono ?_; rintro e w' ⟨rfl, rfl⟩))
    all_goals (go_wp2_with fail; go_meet; exact ⟨by simp [faultTxt], Lib.hid (J2.out.step (Below.drawn _ _))⟩)
  case rest =>
    obtain ⟨rfl, hI⟩ := hcut
    have d4 := cell_at hI.out.b4 0 (v := .int .i64 n) rfl
    have HB := Lib.hid hI.out.bel
    go_wp2_with fail
    go_ret
    exact ⟨rfl, HB.out⟩
end Go.Proofs.YtknoigebkpapoaaDoor
