/- Walk of the document's Mk. -/
import Derived.Test.YtknoigebkpapoaaDoorRn
import Derived.Deep.RegionHeld3
set_option linter.unusedVariables false
set_option linter.unusedSimpArgs false
namespace Go.Proofs.YtknoigebkpapoaaDoor
open Go.RowKit Go.Deep
variable {w : World} {lim : Int} {L : List Nd} {vl : Value}

theorem results_ctt {P : Program} {fn : Func} {p u v : Tmp} {ty : TypeId} (h : fn.results = #[.cell p ty, .tmp u, .tmp v]) (tmps : Array Value) (w : World) (g : Nat) (t : TypeId) (cs : Array Value) (fr : Nat × Nat) (d : TypeDesc)
    (hp : tmps.getD p undef = .pointer (some ⟨g, 0, none⟩)) (hg : w.heap[g]? = some (.cells cs t fr))
    (hu : P.underlying ty = some d) (hd : (match d with | .struct _ | .array _ _ => true | _ => false) = true) (hi : (P.info? ty).map (·.size) = some cs.size) :
    (results fn tmps).run P w = .ok (.tuple #[.agg cs, tmps.getD u undef, tmps.getD v undef]) w := by
  have hp' : tmps[p]?.getD undef = .pointer (some ⟨g, 0, none⟩) := by simpa using hp
  simp [results, h, hp', asAddr, run_loadVar_row w g t ty cs fr d hg hu hd hi]

/-- What the document's Mk leaves. -/
def RMk (w : World) (lim : Int) (vl : Value) (L' : List Nd) (x en : Int) (e : Ending) (w' : World) : Prop :=
  ∃ vl', e = .returned (.tuple #[.agg #[.int .i64 lim, vl'], .int .i64 x, .int .i64 en]) ∧ Row w' vl' L' ∧ Below w.heap.size w w' ∧ ∀ k, vl'.ownBlock = some k → vl.ownBlock = some k ∨ w.heap.size ≤ k

/-- The boxes of Mk: the argument's, the result's. -/
def Boxes (w0 wr : World) (lim : Int) (vl : Value) : Prop :=
  wr.heap[w0.heap.size]? = some (.cells #[.int .i64 lim, vl] 27 (0, 0)) ∧ wr.heap[w0.heap.size + 1]? = some (.cells #[.int .i64 0, .slice none 0 0] 27 (0, 0)) ∧ Below w0.heap.size w0 wr
theorem Boxes.start (w0 : World) (lim : Int) (vl : Value) : Boxes w0 ((w0.alloc (.cells #[.int .i64 lim, vl] 27)).alloc (.cells #[.int .i64 0, .slice none 0 0] 27)) lim vl := by
  refine ⟨heap_alloc_lt _ (heap_alloc_new w0 _), ?_, by (repeat (with_reducible first | exact Below.refl _ _ | assumption | refine Below.push ?_ (Nat.le_refl _) _ | refine Below.drewN' ?_ _ | refine Below.drew ?_ | refine Below.setCell ?_ (by simp; done) _))⟩
  have := heap_alloc_new (w0.alloc (.cells #[.int .i64 lim, vl] 27)) (.cells #[.int .i64 0, .slice none 0 0] 27)
  simpa using this
theorem Boxes.step {w0 wr wr' : World} (h : Boxes w0 wr lim vl) (t : Below wr.heap.size wr wr') : Boxes w0 wr' lim vl :=
  ⟨(t.block _ (lt_of_heap h.1)).trans h.1, (t.block _ (lt_of_heap h.2.1)).trans h.2.1, Below.seq h.2.2 (Nat.le_refl _) t⟩
theorem Boxes.c0 {w0 wr : World} (h : Boxes w0 wr lim vl) : wr.cell? ⟨w0.heap.size, 0, none⟩ = some (.int .i64 lim) := cell_at h.1 0 rfl
theorem Boxes.c1 {w0 wr : World} (h : Boxes w0 wr lim vl) : wr.cell? ⟨w0.heap.size, 1, none⟩ = some vl := cell_at h.1 1 rfl
theorem Boxes.d0 {w0 wr : World} (h : Boxes w0 wr lim vl) : wr.cell? ⟨w0.heap.size + 1, 0, none⟩ = some (.int .i64 0) := cell_at h.2.1 0 rfl
theorem Boxes.d1 {w0 wr : World} (h : Boxes w0 wr lim vl) : wr.cell? ⟨w0.heap.size + 1, 1, none⟩ = some (.slice none 0 0) := cell_at h.2.1 1 rfl
theorem Boxes.f0 {w0 wr : World} (h : Boxes w0 wr lim vl) : wr.frozen? ⟨w0.heap.size + 1, 0, none⟩ = false := free_at h.2.1 0
theorem Boxes.f1 {w0 wr : World} (h : Boxes w0 wr lim vl) : wr.frozen? ⟨w0.heap.size + 1, 1, none⟩ = false := free_at h.2.1 1
/-- What is stored into the result's box. -/
theorem Boxes.out {w0 wr : World} (h : Boxes w0 wr lim vl) : ((wr.setCell ⟨w0.heap.size + 1, 0, none⟩ (.int .i64 lim)).setCell ⟨w0.heap.size + 1, 1, none⟩ vl).heap[w0.heap.size + 1]? = some (.cells #[.int .i64 lim, vl] 27 (0, 0)) := by
  have h1 := heap_setCell_same (j := 0) h.2.1 (.int .i64 lim)
  have h2 := heap_setCell_same (j := 1) h1 vl
  simpa using h2
theorem Boxes.end_ {w0 wr : World} (h : Boxes w0 wr lim vl) : Below w0.heap.size w0 ((wr.setCell ⟨w0.heap.size + 1, 0, none⟩ (.int .i64 lim)).setCell ⟨w0.heap.size + 1, 1, none⟩ vl) :=
  (h.2.2.setCell (by simp) _).setCell (by simp) _

theorem info_ref : (Tryd.prog.info? 27).map (·.size) = some 2 := by kernel_rfl
/-- The boxes as they stand where all of it is still one term. -/
theorem out_alloc (w0 : World) (lim : Int) (vl : Value) : ((w0.alloc (.cells #[.int .i64 lim, vl] 27)).alloc (.cells #[.int .i64 lim, vl] 27)).heap[w0.heap.size + 1]? = some (.cells #[.int .i64 lim, vl] 27 (0, 0)) := by
  have := heap_alloc_new (w0.alloc (.cells #[.int .i64 lim, vl] 27)) (.cells #[.int .i64 lim, vl] 27)
  simpa using this
set_option maxHeartbeats 1000000 in
theorem ref_mk_var (h : Row w vl L) (v lo hi : Int) (hv : v < 0 ∨ 12 ≤ v) :
    Calls Tryd.prog 25 #[.agg #[.int .i64 lim, vl], .int .i64 v, .int .i64 lo, .int .i64 hi] w (RMk w lim vl L 0 52) := by
  obtain ⟨⟨ao, cap, rfl⟩, hn⟩ := h.shape
  have HR := Lib.hid h
  clear h
  by_cases h0 : v < 0
  · clear hv
    go_enter Tryd.func25, Tryd.ntmps25
    go_wp2
    refine bodyPost_ret (results_ctt rfl _ _ (w.heap.size + 1) 27 _ (0, 0) _ rfl (out_alloc w lim _) Tryd.underlying27 rfl info_ref) rfl ?_
    exact ⟨_, rfl, HR.out.below (by (repeat (with_reducible first | exact Below.refl _ _ | assumption | refine Below.push ?_ (Nat.le_refl _) _ | refine Below.drewN' ?_ _ | refine Below.drew ?_ | refine Below.setCell ?_ (by simp; done) _))), by (repeat (with_reducible first | exact Below.refl _ _ | assumption | refine Below.push ?_ (Nat.le_refl _) _ | refine Below.drewN' ?_ _ | refine Below.drew ?_ | refine Below.setCell ?_ (by simp; done) _)), fun _ h => .inl h⟩
  · have h1 : 11 < v := by omega
    clear hv
    go_enter Tryd.func25, Tryd.ntmps25
    go_wp2
    refine bodyPost_ret (results_ctt rfl _ _ (w.heap.size + 1) 27 _ (0, 0) _ rfl (out_alloc w lim _) Tryd.underlying27 rfl info_ref) rfl ?_
    exact ⟨_, rfl, HR.out.below (by (repeat (with_reducible first | exact Below.refl _ _ | assumption | refine Below.push ?_ (Nat.le_refl _) _ | refine Below.drewN' ?_ _ | refine Below.drew ?_ | refine Below.setCell ?_ (by simp; done) _))), by (repeat (with_reducible first | exact Below.refl _ _ | assumption | refine Below.push ?_ (Nat.le_refl _) _ | refine Below.drewN' ?_ _ | refine Below.drew ?_ | refine Below.setCell ?_ (by simp; done) _)), fun _ h => .inl h⟩

set_option maxHeartbeats 2000000 in
theorem ref_mk_order (h : Row w vl L) (v lo hi : Int) (hv0 : 0 ≤ v) (hv1 : v < 12) (ho : ¬ Ar.ordered L v lo hi) :
    Calls Tryd.prog 25 #[.agg #[.int .i64 lim, vl], .int .i64 v, .int .i64 lo, .int .i64 hi] w (RMk w lim vl L 0 51) := by
  obtain ⟨⟨ao, cap, rfl⟩, hn⟩ := h.shape
  have B0 := Boxes.start w lim (.slice ao L.length cap)
  have HB := Lib.hid B0
  have HR := Lib.hid h
  have HR0 := Lib.hid (h.below B0.2.2)
  clear h B0
  by_cases hl : Ar.has L lo
  · go_enter Tryd.func25, Tryd.ntmps25
    go_wp2_with fail
    refine (ref_has HR0.out lo true (decide_eq_true hl)).mono ?_
    rintro e w1 ⟨rfl, hb1⟩
    have B1 := HB.out.step hb1
    have c0 := B1.c0
    have c1 := B1.c1
    have HR1 := Lib.hid (HR0.out.below hb1)
    have HB1 := Lib.hid B1
    clear HB HR0 hb1 B1
    by_cases hh : Ar.has L hi
    · go_wp2_with fail
      refine (ref_has HR1.out hi true (decide_eq_true hh)).mono ?_
      rintro e w2 ⟨rfl, hb2⟩
      have B2 := HB1.out.step hb2
      clear c0 c1
      have c0 := B2.c0
      have c1 := B2.c1
      have HR2 := Lib.hid (HR1.out.below hb2)
      have HB2 := Lib.hid B2
      clear HB1 HR1 hb2 B2
      by_cases hlv : Ar.var L lo ≤ v
      · go_wp2_with fail
        refine (ref_var HR2.out lo _ rfl).mono ?_
        rintro e w3 ⟨rfl, hb3⟩
        have B3 := HB2.out.step hb3
        clear c0 c1
        have c0 := B3.c0
        have c1 := B3.c1
        have d0 := B3.d0
        have d1 := B3.d1
        have f0 := B3.f0
        have f1 := B3.f1
        have HB3 := Lib.hid B3
        clear HB2 HR2 hb3 B3
        go_wp2_with fail
        refine bodyPost_ret (results_ctt rfl _ _ (w.heap.size + 1) 27 _ (0, 0) _ rfl HB3.out.out Tryd.underlying27 rfl info_ref) rfl ?_
        exact ⟨_, rfl, HR.out.below HB3.out.end_, HB3.out.end_, fun _ h => .inl h⟩
      · have hhv : Ar.var L hi ≤ v := by
          by_cases c : v < Ar.var L hi
          · exact absurd ⟨hl, hh, by omega, c⟩ ho
          · omega
        go_wp2_with fail
        refine (ref_var HR2.out lo _ rfl).mono ?_
        rintro e w3 ⟨rfl, hb3⟩
        have B3 := HB2.out.step hb3
        clear c0 c1
        have c0 := B3.c0
        have c1 := B3.c1
        have HR3 := Lib.hid (HR2.out.below hb3)
        have HB3 := Lib.hid B3
        clear HB2 HR2 hb3 B3
        go_wp2_with fail
        refine (ref_var HR3.out hi _ rfl).mono ?_
        rintro e w4 ⟨rfl, hb4⟩
        have B4 := HB3.out.step hb4
        clear c0 c1
        have c0 := B4.c0
        have c1 := B4.c1
        have d0 := B4.d0
        have d1 := B4.d1
        have f0 := B4.f0
        have f1 := B4.f1
        have HB4 := Lib.hid B4
        clear HB3 HR3 hb4 B4
        go_wp2_with fail
        refine bodyPost_ret (results_ctt rfl _ _ (w.heap.size + 1) 27 _ (0, 0) _ rfl HB4.out.out Tryd.underlying27 rfl info_ref) rfl ?_
        exact ⟨_, rfl, HR.out.below HB4.out.end_, HB4.out.end_, fun _ h => .inl h⟩
    · go_wp2_with fail
      refine (ref_has HR1.out hi false (decide_eq_false hh)).mono ?_
      rintro e w2 ⟨rfl, hb2⟩
      have B2 := HB1.out.step hb2
      clear c0 c1
      have c0 := B2.c0
      have c1 := B2.c1
      have d0 := B2.d0
      have d1 := B2.d1
      have f0 := B2.f0
      have f1 := B2.f1
      have HB2 := Lib.hid B2
      clear HB1 HR1 hb2 B2
      go_wp2_with fail
      refine bodyPost_ret (results_ctt rfl _ _ (w.heap.size + 1) 27 _ (0, 0) _ rfl HB2.out.out Tryd.underlying27 rfl info_ref) rfl ?_
      exact ⟨_, rfl, HR.out.below HB2.out.end_, HB2.out.end_, fun _ h => .inl h⟩
  · go_enter Tryd.func25, Tryd.ntmps25
    go_wp2_with fail
    refine (ref_has HR0.out lo false (decide_eq_false hl)).mono ?_
    rintro e w1 ⟨rfl, hb1⟩
    have B1 := HB.out.step hb1
    have c0 := B1.c0
    have c1 := B1.c1
    have d0 := B1.d0
    have d1 := B1.d1
    have f0 := B1.f0
    have f1 := B1.f1
    have HB1 := Lib.hid B1
    clear HB HR0 hb1 B1
    go_wp2_with fail
    refine bodyPost_ret (results_ctt rfl _ _ (w.heap.size + 1) 27 _ (0, 0) _ rfl HB1.out.out Tryd.underlying27 rfl info_ref) rfl ?_
    exact ⟨_, rfl, HR.out.below HB1.out.end_, HB1.out.end_, fun _ h => .inl h⟩
end Go.Proofs.YtknoigebkpapoaaDoor
