/- Walk of the laws' build: the arena and the document's, side by side. -/
import Derived.Test.YtknoigebkpapoaaDoorRg
import Derived.Test.YtknoigebkpapoaaDoorSv
set_option linter.unusedVariables false
set_option linter.unusedSimpArgs false
namespace Go.Proofs.YtknoigebkpapoaaDoor
open Go.RowKit Go.Deep
variable {w : World} {lim : Int} {L : List Nd} {vl : Value}

theorem results_tct {P : Program} {fn : Func} {p u v : Tmp} {ty : TypeId} (h : fn.results = #[.tmp u, .cell p ty, .tmp v]) (tmps : Array Value) (w : World) (g : Nat) (t : TypeId) (cs : Array Value) (fr : Nat × Nat) (d : TypeDesc)
    (hp : tmps.getD p undef = .pointer (some ⟨g, 0, none⟩)) (hg : w.heap[g]? = some (.cells cs t fr))
    (hu : P.underlying ty = some d) (hd : (match d with | .struct _ | .array _ _ => true | _ => false) = true) (hi : (P.info? ty).map (·.size) = some cs.size) :
    (results fn tmps).run P w = .ok (.tuple #[tmps.getD u undef, .agg cs, tmps.getD v undef]) w := by
  have hp' : tmps[p]?.getD undef = .pointer (some ⟨g, 0, none⟩) := by simpa using hp
  simp [results, h, hp', asAddr, run_loadVar_row w g t ty cs fr d hg hu hd hi]

theorem row_ne {w : World} {vl : Value} {L : List Nd} (h : Row w vl L) {g : Nat} (hg : vl.ownBlock = some g) {cs : Array Value} (hc : w.heap[g]? = some (.cells cs 27 (0, 0))) : False := by
  rcases h.2 with ⟨rfl, _⟩ | ⟨g', cap, cur, rfl, _, hg', _⟩
  · simp [Value.ownBlock] at hg
  · simp [Value.ownBlock] at hg
    subst hg
    rw [hg'] at hc
    simp at hc
/-- Two cells of a block are stored. -/
theorem put2 {w : World} {g : Nat} {x0 x1 : Value} {T : TypeId} (h : w.heap[g]? = some (.cells #[x0, x1] T (0, 0))) (v0 v1 : Value) : ((w.setCell ⟨g, 0, none⟩ v0).setCell ⟨g, 1, none⟩ v1).heap[g]? = some (.cells #[v0, v1] T (0, 0)) := by
  have h1 := heap_setCell_same (j := 0) h v0
  have h2 := heap_setCell_same (j := 1) h1 v1
  simpa using h2
/-- A value that reads as a slice of ops. -/
def Ops (w : World) (v : Value) (xs : List Nd) : Prop :=
  ∃ ao c, v = .slice ao xs.length c ∧ xs.length ≤ c ∧ c ≤ maxLen ∧ ∀ i (h : i < xs.length), ∃ b o, ao = some ⟨b, o, none⟩ ∧ b < w.heap.size ∧
    w.cell? ⟨b, o + i * 3, none⟩ = some (.int .i64 xs[i].v) ∧ w.cell? ⟨b, o + i * 3 + 1, none⟩ = some (.int .i64 xs[i].l) ∧ w.cell? ⟨b, o + i * 3 + 2, none⟩ = some (.int .i64 xs[i].h)
theorem Ops.below {w w' : World} {v : Value} {xs : List Nd} (h : Ops w v xs) (t : Below w.heap.size w w') : Ops w' v xs := by
  obtain ⟨ao, c, rfl, h1, h2, h3⟩ := h
  refine ⟨ao, c, rfl, h1, h2, fun i hi => ?_⟩
  obtain ⟨b, o, rfl, hb, c0, c1, c2⟩ := h3 i hi
  exact ⟨b, o, rfl, Nat.lt_of_lt_of_le hb t.size, (t.cell hb).trans c0, (t.cell hb).trans c1, (t.cell hb).trans c2⟩

/-- The nodes that are made of ops. -/
def Ar.bld (lim : Int) (L : List Nd) (xs : List Nd) : List Nd := xs.foldl (fun L o => (Ar.mk lim L o.v o.l o.h).1) L
theorem Ar.mk_len (lim : Int) (L : List Nd) (v lo hi : Int) : (Ar.mk lim L v lo hi).1.length ≤ L.length + 1 := by
  unfold Ar.mk
  repeat (split; · simp)
  simp
theorem Ar.bld_len (lim : Int) (xs : List Nd) : ∀ L, (Ar.bld lim L xs).length ≤ L.length + xs.length := by
  induction xs with
  | nil => intro L; simp [Ar.bld]
  | cons x xs ih =>
    intro L
    have h1 := ih (Ar.mk lim L x.v x.l x.h).1
    have h2 := Ar.mk_len lim L x.v x.l x.h
    show (Ar.bld lim (Ar.mk lim L x.v x.l x.h).1 xs).length ≤ _
    simp only [List.length_cons]
    omega
theorem Ar.bld_take {lim : Int} {xs : List Nd} {k : Nat} (h : k < xs.length) : Ar.bld lim [] (xs.take (k + 1)) = (Ar.mk lim (Ar.bld lim [] (xs.take k)) xs[k].v xs[k].l xs[k].h).1 := by
  rw [List.take_succ_eq_append_getElem h]
  unfold Ar.bld
  rw [List.foldl_append]
  rfl

/-- What build leaves. -/
def BuildPost (w : World) (xs : List Nd) (e : Ending) (w' : World) : Prop :=
  Below w.heap.size w w' ∧
  ((40 < xs.length ∧ e = .returned (.tuple #[.pointer none, .agg #[.int .i64 60, .slice none 0 0], .bool false])) ∨
   (xs.length ≤ 40 ∧ ∃ b vl S, e = .returned (.tuple #[.pointer (some ⟨b, 0, none⟩), .agg #[.int .i64 60, vl], .bool true]) ∧ Arena w' b 60 (Ar.bld 60 [] xs) S ∧ (∀ k, S k → w.heap.size ≤ k ∧ k < w'.heap.size) ∧ Row w' vl (Ar.bld 60 [] xs)))

/-- What stands at each round's head. -/
def BI (w wr : World) (b p q : Nat) (L : List Nd) : Prop :=
  ∃ vl S, Arena wr b 60 L S ∧ (∀ k, S k → w.heap.size ≤ k ∧ k < wr.heap.size) ∧ Row wr vl L ∧ (∀ k, vl.ownBlock = some k → ¬ S k) ∧ ¬ S p ∧ ¬ S q ∧ p ≠ q ∧ w.heap.size ≤ p ∧ w.heap.size ≤ q ∧
    wr.heap[p]? = some (.cells #[.int .i64 0, .slice none 0 0] 27 (0, 0)) ∧ wr.heap[q]? = some (.cells #[.int .i64 60, vl] 27 (0, 0)) ∧ Below w.heap.size w wr

set_option maxRecDepth 100000 in
set_option maxHeartbeats 2000000 in
theorem build_any (v : Value) (xs : List Nd) (h : Ops w v xs) :
    Calls Tryd.prog 11 #[v] w (BuildPost w xs) := by
  obtain ⟨ao, c, rfl, hc, hc2, hcell⟩ := h
  unfold maxLen at hc2
  have HC := Lib.hid hcell
  clear hcell
  go_enter Tryd.func11, Tryd.ntmps11
  go_wp2_with fail
  refine (new_any 60).mono ?_
  rintro e w1 ⟨b, rfl, A1, hb1⟩
  go_wp2_with fail
  refine (ref_new 60 _).mono ?_
  rintro e w2 ⟨rfl, hb2⟩
  rw [show max (60 : Int) 0 = 60 from rfl] at *
  have hp1 := heap_alloc_new w (.cells #[.int .i64 0, .slice none 0 0] 27)
  have hs1 : w.heap.size + 1 ≤ w1.heap.size := by have := hb1.size; simpa using this
  have hp3 := heap_alloc_lt (.cells #[.int .i64 60, .slice none 0 0] 27) ((hb2.block w.heap.size (by omega)).trans ((hb1.block w.heap.size (by simp)).trans hp1))
  have hq3 := heap_alloc_new w2 (.cells #[.int .i64 60, .slice none 0 0] 27)
  have A3 := (A1.below hb2).below (Below.push (Below.refl _ w2) (Nat.le_refl _) (.cells #[.int .i64 60, .slice none 0 0] 27))
  have b3 : Below w.heap.size w (w2.alloc (.cells #[.int .i64 60, .slice none 0 0] 27)) :=
    Below.push (Below.seq (Below.seq (Below.push (Below.refl _ w) (Nat.le_refl _) _) (Nat.le_refl _) hb1) (Nat.le_refl _) hb2) (Nat.le_refl _) _
  have hs2 := hb2.size
  have H3 := Lib.hid hp3
  have G3 := Lib.hid hq3
  have HA3 := Lib.hid A3
  have HB3 := Lib.hid b3
  clear hp1 hp3 hq3 A3 b3 A1 hb1 hb2
  by_cases hl : 40 < xs.length
  · have hl' : (40 : Int) < xs.length := by omega
    go_wp2_with fail
    generalize w2.alloc (.cells #[.int .i64 60, .slice none 0 0] 27) = w3 at *
    have q0 := cell_at G3.out 0 (v := .int .i64 60) rfl
    have q1 := cell_at G3.out 1 (v := .slice none 0 0) rfl
    have p0 := cell_at H3.out 0 (v := .int .i64 0) rfl
    have p1 := cell_at H3.out 1 (v := .slice none 0 0) rfl
    have g0 := free_at H3.out 0
    have g1 := free_at H3.out 1
    have hne : w2.heap.size ≠ w.heap.size := by omega
    have hout := Lib.hid (put2 H3.out (.int .i64 60) (.slice none 0 0))
    have hend := Lib.hid ((HB3.out.setCell (p := ⟨w.heap.size, 0, none⟩) (Nat.le_refl _) (.int .i64 60)).setCell (p := ⟨w.heap.size, 1, none⟩) (Nat.le_refl _) (.slice none 0 0))
    go_region
    all_goals (
      go_wp2_with fail
      refine bodyPost_ret (results_tct rfl _ _ w.heap.size 27 #[.int .i64 60, .slice none 0 0] (0, 0) _ rfl hout.out Tryd.underlying27 rfl info_ref) rfl ?_
      exact ⟨Below.drew hend.out, .inl ⟨hl, rfl⟩⟩)
  · have hl' : (xs.length : Int) ≤ 40 := by omega
    go_wp2_with fail
    generalize w2.alloc (.cells #[.int .i64 60, .slice none 0 0] 27) = w3 at *
    have hlt3 := lt_of_heap G3.out
    have HI0 : Hid (BI w w3 b w.heap.size w2.heap.size []) :=
      ⟨.slice none 0 0, _, HA3.out, fun k h => by have h1 := h.1; have h2 := h.2; simp at h1; omega, Row.nil _, fun k h => by simp [Value.ownBlock] at h, fun h => Nat.not_succ_le_self w.heap.size (by simpa using h.1), fun h => by have h2 := h.2; omega, by omega, Nat.le_refl _, by omega, H3.out, G3.out, HB3.out⟩
    clear HA3 HB3 H3 G3
    go_loopg [26] xs.length (fun gk i wr => ∃ k : Nat, i = .int .i64 k ∧ k + gk = xs.length ∧ Hid (BI w wr b w.heap.size w2.heap.size (Ar.bld 60 [] (xs.take k))))
    case atStart => exact ⟨0, rfl, by omega, HI0⟩
    case round =>
      clear HI0
      obtain ⟨k, rfl, hk, HI⟩ := hrel
      obtain ⟨vl, S, A, hS, R, hSR, hSp, hSq, hpq, hp, hq, P, Q, Bw⟩ := HI.out
      obtain ⟨⟨ao', cap', rfl⟩, hn⟩ := R.shape
      have q0 := cell_at Q 0 (v := .int .i64 60) rfl
      have q1 := cell_at Q 1 (v := .slice ao' (Ar.bld 60 [] (xs.take k)).length cap') rfl
      by_cases hlt : k < xs.length
      · have hlen : (Ar.bld 60 [] (xs.take k)).length ≤ 40 := by
          have := Ar.bld_len 60 (xs.take k) []
          simp only [List.length_take, List.length_nil] at this
          omega
        have hnext := Ar.bld_take (lim := 60) hlt
        obtain ⟨bx, o, rfl, hbx, c0, c1, c2⟩ := HC.out k hlt
        replace c0 := (Bw.cell (p := ⟨bx, o + k * 3, none⟩) hbx).trans c0
        replace c1 := (Bw.cell (p := ⟨bx, o + k * 3 + 1, none⟩) hbx).trans c1
        replace c2 := (Bw.cell (p := ⟨bx, o + k * 3 + 2, none⟩) hbx).trans c2
        generalize Ar.bld 60 [] (xs.take k) = L at *
        generalize hL2 : Ar.bld 60 [] (xs.take (k + 1)) = L2 at *
        obtain ⟨L', x, en, hmk⟩ : ∃ L' x en, Ar.mk 60 L xs[k].v xs[k].l xs[k].h = (L', x, en) := ⟨_, _, _, rfl⟩
        rw [hmk] at hnext
        obtain rfl : L2 = L' := hnext
        have R1 := R.below (Below.push (Below.refl _ wr) (Nat.le_refl _) (.cells #[.int .i64 xs[k].v, .int .i64 xs[k].l, .int .i64 xs[k].h] 76))
        have HMK := Lib.hid hmk
        have Rc := ref_mk (lim := 60) R1 xs[k].v xs[k].l xs[k].h (by omega)
        rw [hmk] at Rc
        have HRc := Lib.hid Rc
        have HA := Lib.hid A
        have HP := Lib.hid P
        have HQ := Lib.hid Q
        have HBw := Lib.hid Bw
        have q0' := cell_push q0 (.cells #[.int .i64 xs[k].v, .int .i64 xs[k].l, .int .i64 xs[k].h] 76)
        have q1' := cell_push q1 (.cells #[.int .i64 xs[k].v, .int .i64 xs[k].l, .int .i64 xs[k].h] 76)
        clear R1 Rc A P Q Bw R HI hmk
        go_wp2_with fail
        refine HRc.out.mono ?_
        rintro e w4 ⟨vl4, rfl, R4, hb4, hO4⟩
        have hs4 := hb4.size
        have hs0 := heap_alloc_new wr (.cells #[.int .i64 xs[k].v, .int .i64 xs[k].l, .int .i64 xs[k].h] 76)
        have hws : wr.heap.size + 1 ≤ w4.heap.size := by simpa using hs4
        have X4 := (hb4.block wr.heap.size (by simp)).trans hs0
        have B4 : Below wr.heap.size wr w4 := Below.seq (Below.push (Below.refl _ wr) (Nat.le_refl _) _) (Nat.le_refl _) hb4
        have Q4 := (B4.block _ (lt_of_heap HQ.out)).trans HQ.out
        have P4 := (B4.block _ (lt_of_heap HP.out)).trans HP.out
        have hqw := lt_of_heap HQ.out
        have hpw := lt_of_heap HP.out
        obtain ⟨⟨ao4, cap4, rfl⟩, hn4⟩ := R4.shape
        have x0 := cell_push (cell_at X4 0 (v := .int .i64 xs[k].v) rfl) (.cells #[.int .i64 60, .slice ao4 L2.length cap4] 27)
        have x1 := cell_push (cell_at X4 1 (v := .int .i64 xs[k].l) rfl) (.cells #[.int .i64 60, .slice ao4 L2.length cap4] 27)
        have x2 := cell_push (cell_at X4 2 (v := .int .i64 xs[k].h) rfl) (.cells #[.int .i64 60, .slice ao4 L2.length cap4] 27)
        have Q5 := heap_alloc_lt (.cells #[.int .i64 60, .slice ao4 L2.length cap4] 27) Q4
        have P5 := heap_alloc_lt (.cells #[.int .i64 60, .slice ao4 L2.length cap4] 27) P4
        have y0 := cell_at Q5 0 (v := .int .i64 60) rfl
        have y1 := cell_at Q5 1 (v := .slice ao' L.length cap') rfl
        have f0 := free_at Q5 0
        have f1 := free_at Q5 1
        have hne1 : wr.heap.size ≠ w2.heap.size := by omega
        have hne2 : w2.heap.size ≠ w4.heap.size := by omega
        have B5 : Below wr.heap.size wr (w4.alloc (.cells #[.int .i64 60, .slice ao4 L2.length cap4] 27)) := Below.push B4 (Nat.le_refl _) _
        have R5 := R4.below (Below.push (Below.refl _ w4) (Nat.le_refl _) (.cells #[.int .i64 60, .slice ao4 L2.length cap4] 27))
        have hR4 : ∀ g, (Value.slice ao4 L2.length cap4).ownBlock = some g → g < w4.heap.size ∧ ¬ S g ∧ g ≠ w2.heap.size := fun g h => by
          refine ⟨(R4.lt g h).2, ?_, ?_⟩
          · rcases hO4 g h with h1 | h1
            · exact hSR g h1
            · intro c; have := (hS g c).2; simp at h1; omega
          · intro e
            subst e
            exact row_ne R4 h Q4
        have HX5 := Lib.hid Q5
        have HP5 := Lib.hid P5
        have HB5 := Lib.hid B5
        have HR5 := Lib.hid R5
        clear hb4 hs0 X4 Q4 P4 Q5 P5 B4 B5 R4 R5 q0 q1 q0' q1' c0 c1 c2 hO4 HRc
        go_wp2_with fail
        have T5 : Touch wr (((w4.alloc (.cells #[.int .i64 60, .slice ao4 L2.length cap4] 27)).setCell ⟨w2.heap.size, 0, none⟩ (.int .i64 60)).setCell ⟨w2.heap.size, 1, none⟩ (.slice ao4 L2.length cap4)) (fun i => i = w2.heap.size) :=
          Touch.setCell (S := fun i => i = w2.heap.size) (p := ⟨w2.heap.size, 1, none⟩) (Touch.setCell (S := fun i => i = w2.heap.size) (p := ⟨w2.heap.size, 0, none⟩) (Touch.of_below HB5.out _) (.inl rfl) _) (.inl rfl) _
        have T6 : Touch (w4.alloc (.cells #[.int .i64 60, .slice ao4 L2.length cap4] 27)) (((w4.alloc (.cells #[.int .i64 60, .slice ao4 L2.length cap4] 27)).setCell ⟨w2.heap.size, 0, none⟩ (.int .i64 60)).setCell ⟨w2.heap.size, 1, none⟩ (.slice ao4 L2.length cap4)) (fun i => i = w2.heap.size) :=
          Touch.setCell (S := fun i => i = w2.heap.size) (p := ⟨w2.heap.size, 1, none⟩) (Touch.setCell (S := fun i => i = w2.heap.size) (p := ⟨w2.heap.size, 0, none⟩) (Touch.refl _ _) (.inl rfl) _) (.inl rfl) _
        have Q6 := put2 HX5.out (.int .i64 60) (.slice ao4 L2.length cap4)
        have P6 := T6.heap HP5.out hpq
        have R6 : Row _ _ _ := ownsRow_touch HR5.out T6 (fun g h => (hR4 g h).2.2)
        have A6 := HA.out.touch T5 (fun i _ hi e => hSq (e ▸ hi))
        have hz6 : w4.heap.size + 1 = (((w4.alloc (.cells #[.int .i64 60, .slice ao4 L2.length cap4] 27)).setCell ⟨w2.heap.size, 0, none⟩ (.int .i64 60)).setCell ⟨w2.heap.size, 1, none⟩ (.slice ao4 L2.length cap4)).heap.size := by simp [World.setCell]
        have B6 : Below w.heap.size w (((w4.alloc (.cells #[.int .i64 60, .slice ao4 L2.length cap4] 27)).setCell ⟨w2.heap.size, 0, none⟩ (.int .i64 60)).setCell ⟨w2.heap.size, 1, none⟩ (.slice ao4 L2.length cap4)) :=
          HBw.out.trans (T5.below HBw.out.size (fun i hi e => by omega))
        clear x0 x1 x2 y0 y1 f0 f1 T5 T6
        generalize (((w4.alloc (.cells #[.int .i64 60, .slice ao4 L2.length cap4] 27)).setCell ⟨w2.heap.size, 0, none⟩ (.int .i64 60)).setCell ⟨w2.heap.size, 1, none⟩ (.slice ao4 L2.length cap4)) = w6 at *
        refine (mk_any A6 xs[k].v xs[k].l xs[k].h (by omega)).mono ?_
        rintro e w7 hpost
        obtain ⟨ev, rfl, A7, T7, _⟩ := hpost.out HMK.out
        have hs7 := T7.out.size
        have HI7 : Hid (BI w w7 b w.heap.size w2.heap.size L2) := by
          refine ⟨.slice ao4 L2.length cap4, fun i => S i ∨ (w6.heap.size ≤ i ∧ i < w7.heap.size), A7.out.clip.mono (fun i h => h.1.imp id (fun c => ⟨c, h.2⟩)), fun i h => ?_, ?_, fun g h c => ?_, fun c => ?_, fun c => ?_, hpq, hp, hq, T7.out.heap P6 hSp, T7.out.heap Q6 hSq, ?_⟩
          · rcases h with h | h
            · have := hS i h; omega
            · exact ⟨by omega, h.2⟩
          · exact ownsRow_touch R6 T7.out (fun g h => (hR4 g h).2.1)
          · rcases c with c | c
            · exact (hR4 g h).2.1 c
            · have := (hR4 g h).1; omega
          · rcases c with c | c
            · exact hSp c
            · omega
          · rcases c with c | c
            · exact hSq c
            · omega
          · exact B6.trans (T7.out.below (by omega) (fun i hi c => by have := (hS i c).1; omega))
        clear A7 T7 P6 Q6 R6 A6 B6 HX5 HP5 HB5 HR5 HP HQ HA HBw
        go_wp2_with fail
        go_roundg (gk - 1)
        case measure => omega
        case rel => exact ⟨k + 1, by go_num, by omega, by rw [hL2]; exact HI7⟩
      · obtain rfl : k = xs.length := by omega
        rw [List.take_length] at *
        have p0 := cell_at P 0 (v := .int .i64 0) rfl
        have p1 := cell_at P 1 (v := .slice none 0 0) rfl
        have g0 := free_at P 0
        have g1 := free_at P 1
        have hpq' := Ne.symm hpq
        have T8 : Touch wr ((wr.setCell ⟨w.heap.size, 0, none⟩ (.int .i64 60)).setCell ⟨w.heap.size, 1, none⟩ (.slice ao' (Ar.bld 60 [] xs).length cap')) (fun i => i = w.heap.size) :=
          Touch.setCell (S := fun i => i = w.heap.size) (p := ⟨w.heap.size, 1, none⟩) (Touch.setCell (S := fun i => i = w.heap.size) (p := ⟨w.heap.size, 0, none⟩) (Touch.refl _ _) (.inl rfl) _) (.inl rfl) _
        have P8 := Lib.hid (put2 P (.int .i64 60) (.slice ao' (Ar.bld 60 [] xs).length cap'))
        have A8 := Lib.hid (A.touch T8 (fun i _ hi e => hSp (e ▸ hi)))
        have R8 : Hid (Row _ _ _) := Lib.hid (ownsRow_touch R T8 (fun g h e => row_ne R h (e ▸ P)))
        have B8 := Lib.hid ((Bw.setCell (p := ⟨w.heap.size, 0, none⟩) (Nat.le_refl _) (.int .i64 60)).setCell (p := ⟨w.heap.size, 1, none⟩) (Nat.le_refl _) (.slice ao' (Ar.bld 60 [] xs).length cap'))
        have hsz8 := T8.size
        have HS8 : Hid (∀ i, S i → w.heap.size ≤ i ∧ i < ((wr.setCell ⟨w.heap.size, 0, none⟩ (.int .i64 60)).setCell ⟨w.heap.size, 1, none⟩ (.slice ao' (Ar.bld 60 [] xs).length cap')).heap.size) := fun i h => by have := hS i h; omega
        clear T8 P Q A R Bw HI hS hSR hSp hSq hsz8
        go_wp2_with fail
        go_region
        all_goals (
          go_wp2_with fail
          refine bodyPost_ret (results_tct rfl _ _ w.heap.size 27 #[.int .i64 60, .slice ao' (Ar.bld 60 [] xs).length cap'] (0, 0) _ rfl P8.out Tryd.underlying27 rfl info_ref) rfl ?_
          exact ⟨Below.drew B8.out, .inr ⟨by omega, b, _, S, rfl, A8.out.below ⟨rfl, rfl, rfl, Nat.le_refl _, fun _ _ => rfl⟩, HS8.out, R8.out⟩⟩)
end Go.Proofs.YtknoigebkpapoaaDoor
