/- Walk of the document's Compact: it answers as the plain law of moving all roots does. -/
import Derived.Test.YtknoigebkpapoaaDoorRv
import Derived.Test.YtknoigebkpapoaaDoorNu
import Derived.Deep.RegionHeld3
set_option linter.unusedVariables false
set_option linter.unusedSimpArgs false
namespace Go.Proofs.YtknoigebkpapoaaDoor
open Go.RowKit Go.Deep
variable {w : World}

structure Rc1 (w0 wr : World) (lima : Int) (vla : Value) : Prop where
  b0 : wr.heap[w0.heap.size]? = some (.cells #[.int .i64 lima, vla] 27 (0, 0))
  b1 : wr.heap[w0.heap.size + 1]? = some (.cells #[.int .i64 0, .slice none 0 0] 27 (0, 0))
  bel : Below w0.heap.size w0 wr
theorem Rc1.start (w : World) (lima : Int) (vla : Value) : Rc1 w ((w.alloc (.cells #[.int .i64 lima, vla] 27)).alloc (.cells #[.int .i64 0, .slice none 0 0] 27)) lima vla :=
  ⟨heap_alloc_lt _ (heap_alloc_new _ _), alloc2 _ _ _, Below.push (Below.push (Below.refl _ w) (Nat.le_refl _) _) (Nat.le_refl _) _⟩
theorem Rc1.step {w0 wr w' : World} {lima : Int} {vla : Value} (h : Rc1 w0 wr lima vla) (t : Below wr.heap.size wr w') : Rc1 w0 w' lima vla :=
  ⟨(t.block _ (lt_of_heap h.b0)).trans h.b0, (t.block _ (lt_of_heap h.b1)).trans h.b1, Below.seq h.bel (Nat.le_refl _) t⟩
def RCompPost (w : World) (lim : Int) (La : List Nd) (roots : List Int) (e : Ending) (w' : World) : Prop :=
  Below w.heap.size w w' ∧
  ((¬ (∀ r ∈ roots, Ar.has La r) ∧ e = .returned (.tuple #[.agg #[.int .i64 0, .slice none 0 0], .slice none 0 0, .int .i64 1])) ∨
   ((∀ r ∈ roots, Ar.has La r) ∧ (Ar.mvAll lim La roots [] []).2.2 ≠ 0 ∧ e = .returned (.tuple #[.agg #[.int .i64 0, .slice none 0 0], .slice none 0 0, .int .i64 (Ar.mvAll lim La roots [] []).2.2])) ∨
   ((∀ r ∈ roots, Ar.has La r) ∧ (Ar.mvAll lim La roots [] []).2.2 = 0 ∧ ∃ vl v, e = .returned (.tuple #[.agg #[.int .i64 lim, vl], v, .int .i64 0]) ∧
      Row w' vl (Ar.mvAll lim La roots [] []).1 ∧ OwnInts w' w.heap.size v (Ar.mvAll lim La roots [] []).2.1))
theorem Rc1.out {w0 wr : World} {lima : Int} {vla : Value} (h : Rc1 w0 wr lima vla) (x : Int) (v : Value) :
    ((wr.setCell ⟨w0.heap.size + 1, 0, none⟩ (.int .i64 x)).setCell ⟨w0.heap.size + 1, 1, none⟩ v).heap[w0.heap.size + 1]? = some (.cells #[.int .i64 x, v] 27 (0, 0)) ∧
    Below w0.heap.size w0 ((wr.setCell ⟨w0.heap.size + 1, 0, none⟩ (.int .i64 x)).setCell ⟨w0.heap.size + 1, 1, none⟩ v) :=
  ⟨put2 h.b1 _ _, (h.bel.setCell (p := ⟨w0.heap.size + 1, 0, none⟩) (by simp) _).setCell (p := ⟨w0.heap.size + 1, 1, none⟩) (by simp) _⟩

set_option maxRecDepth 100000 in
set_option maxHeartbeats 2000000 in
theorem ref_compact_odd {lima : Int} {vla : Value} {La : List Nd} (hA : Row w vla La) (v : Value) (roots : List Int) (hr : Ints w v roots) (hbad : ¬ ∀ r ∈ roots, Ar.has La r) (limit lim : Int) :
    Calls Tryd.prog 14 #[.agg #[.int .i64 lima, vla], v, .int .i64 limit] w (RCompPost w lim La roots) := by
  obtain ⟨ao, c, rfl, hc, hc2, hcell⟩ := hr
  unfold maxLen at hc2
  have HB := Lib.hid hbad
  have HC := Lib.hid hcell
  have HI := Lib.hid (Rc1.start w lima vla)
  have HA := Lib.hid hA
  obtain ⟨⟨aa, ca, rfl⟩, hna⟩ := hA.shape
  clear hbad hcell hA
  go_enter Tryd.func14, Tryd.ntmps14
  go_wp2_with fail
  go_loopg [9] roots.length (fun gk i wr => ∃ k : Nat, k + gk = roots.length ∧ i = .int .i64 k ∧ Hid (∀ j (h : j < k) (h' : j < roots.length), Ar.has La roots[j]) ∧ Hid (Rc1 w wr lima (.slice aa La.length ca)))
  case atStart => exact ⟨0, by omega, rfl, fun j h => by omega, HI⟩
  case round =>
    clear HI
    obtain ⟨k, hk, rfl, HH, HR⟩ := hrel
    have hlt : k < roots.length := by
      apply Classical.byContradiction
      intro hge
      refine HB.out (fun r hr => ?_)
      obtain ⟨j, hj, rfl⟩ := List.mem_iff_getElem.1 hr
      exact HH.out j (by omega) hj
    obtain ⟨bx, o, rfl, kc⟩ := HC.out k hlt
    have c0 := cell_at HR.out.b0 0 (v := .int .i64 lima) rfl
    have c1 := cell_at HR.out.b0 1 (v := .slice aa La.length ca) rfl
    have hbx := World.block_lt_of_cell? w _ kc
    have kr := (HR.out.bel.cell (p := ⟨bx, o + k, none⟩) hbx).trans kc
    have hbw : bx < wr.heap.size := Nat.lt_of_lt_of_le hbx HR.out.bel.size
    have hpw := lt_of_heap HR.out.b0
    have HRd := Lib.hid (HA.out.below (Below.drew HR.out.bel))
    have hk0 : (0 : Int) ≤ k := by omega
    have hk1 : (k : Int) < roots.length := by omega
    clear kc
    by_cases hh : Ar.has La roots[k]
    · have HH2 : Hid (∀ j (h : j < k + 1) (h' : j < roots.length), Ar.has La roots[j]) := fun j h h' => by
        by_cases e : j = k
        · subst e; exact hh
        · exact HH.out j (by omega) h'
      go_wp2_with fail
      go_region_held3 (fun wx => wx.cell? ⟨w.heap.size, 0, none⟩ = some (.int .i64 lima) ∧ wx.cell? ⟨w.heap.size, 1, none⟩ = some (.slice aa La.length ca) ∧ wx.cell? ⟨bx, o + k, none⟩ = some (.int .i64 roots[k]))
        (first | exact ⟨c0, c1, kr⟩ | exact ⟨x0, x1, xr⟩)
        ((go_at_call 18; refine (ref_has HRd.out roots[k] true (decide_eq_true hh)).mono ?_; rintro e w4 ⟨rfl, hb4⟩; have x0 := (hb4.cell (p := ⟨w.heap.size, 0, none⟩) hpw).trans c0; have x1 := (hb4.cell (p := ⟨w.heap.size, 1, none⟩) hpw).trans c1; have xr := (hb4.cell (p := ⟨bx, o + k, none⟩) hbw).trans kr))
      have HR4 := Lib.hid (HR.out.step (Below.seq (Below.drew (Below.refl _ wr)) (Nat.le_refl _) hb4))
      clear hb4 HR c0 c1 kr x0 x1 xr HRd
      go_wp2_with fail
      go_roundg (gk - 1)
      case measure => omega
      case rel => exact ⟨k + 1, by omega, by go_num, HH2, HR4⟩
    · go_wp2_with fail
      go_region_held3 (fun wx => wx.cell? ⟨w.heap.size, 0, none⟩ = some (.int .i64 lima) ∧ wx.cell? ⟨w.heap.size, 1, none⟩ = some (.slice aa La.length ca) ∧ wx.cell? ⟨bx, o + k, none⟩ = some (.int .i64 roots[k]))
        (first | exact ⟨c0, c1, kr⟩ | exact ⟨x0, x1, xr⟩)
        ((go_at_call 18; refine (ref_has HRd.out roots[k] false (decide_eq_false hh)).mono ?_; rintro e w4 ⟨rfl, hb4⟩; have x0 := (hb4.cell (p := ⟨w.heap.size, 0, none⟩) hpw).trans c0; have x1 := (hb4.cell (p := ⟨w.heap.size, 1, none⟩) hpw).trans c1; have xr := (hb4.cell (p := ⟨bx, o + k, none⟩) hbw).trans kr))
      have HR4 := HR.out.step (Below.seq (Below.drew (Below.refl _ wr)) (Nat.le_refl _) hb4)
      have HQ := Lib.hid (HR4.out 0 (.slice none 0 0))
      have z0 := cell_at HR4.b1 0 (v := .int .i64 0) rfl
      have z1 := cell_at HR4.b1 1 (v := .slice none 0 0) rfl
      have g0 := free_at HR4.b1 0
      have g1 := free_at HR4.b1 1
      clear hb4 HR c0 c1 kr x0 x1 xr HRd HR4
      go_wp2_with fail
      refine bodyPost_ret (results_ctt rfl _ _ (w.heap.size + 1) 27 #[.int .i64 0, .slice none 0 0] (0, 0) _ rfl HQ.out.1 Tryd.underlying27 rfl info_ref) rfl ?_
      exact ⟨HQ.out.2, .inl ⟨HB.out, rfl⟩⟩

def Rc2 (w wr : World) (lima lim : Int) (vla : Value) (La : List Nd) (r : Nat) (roots : List Int) (k : Nat) (v : Value) : Prop :=
  ∃ L xs vl, Rc1 w wr lima vla ∧ wr.heap[r]? = some (.cells #[.int .i64 lim, vl] 27 (0, 0)) ∧ w.heap.size ≤ r ∧ Row wr vl L ∧ OwnInts wr w.heap.size v xs ∧
    Ar.mvAll lim La (roots.drop k) L xs = Ar.mvAll lim La roots [] [] ∧ L.length ≤ 4095 * k ∧ xs.length = k
/-- Behind a root's Move. -/
def McPost (wr : World) (lim : Int) (L' : List Nd) (x en : Int) (v13 v14 v15 : Value) (wx : World) : Prop :=
  ∃ g vl', v13 = .pointer (some ⟨g, 0, none⟩) ∧ v14 = .int .i64 x ∧ v15 = .int .i64 en ∧ wx.heap[g]? = some (.cells #[.int .i64 lim, vl'] 27 (0, 0)) ∧ Row wx vl' L' ∧ Below wr.heap.size wr wx ∧ wr.heap.size ≤ g

theorem ints_ne {w : World} {B : Nat} {v : Value} {xs : List Int} (h : OwnInts w B v xs) {g : Nat} (hg : v.ownBlock = some g) {cs : Array Value} (hc : w.heap[g]? = some (.cells cs 27 (0, 0))) : False := by
  rcases h.2 with ⟨rfl, _⟩ | ⟨g', cap, cur, rfl, _, hh, _⟩
  · simp [Value.ownBlock] at hg
  · have : g' = g := by simpa [Value.ownBlock] using hg
    subst this
    rw [hc] at hh
    injection hh with hh
    injection hh with _ ht
    exact absurd ht (by decide)
theorem ints_row_ne {w : World} {B : Nat} {v vl : Value} {xs : List Int} {L : List Nd} (h : OwnInts w B v xs) (hr : Row w vl L) {g : Nat} (hg : v.ownBlock = some g) (hg' : vl.ownBlock = some g) : False := by
  rcases h.2 with ⟨rfl, _⟩ | ⟨g1, cap, cur, rfl, _, hh, _⟩
  · simp [Value.ownBlock] at hg
  · rcases hr.2 with ⟨rfl, _⟩ | ⟨g2, cap2, cur2, rfl, _, hh2, _⟩
    · simp [Value.ownBlock] at hg'
    · have e1 : g1 = g := by simpa [Value.ownBlock] using hg
      have e2 : g2 = g := by simpa [Value.ownBlock] using hg'
      subst e1
      subst e2
      rw [hh] at hh2
      injection hh2 with hh2
      injection hh2 with _ ht
      exact absurd ht (by decide)
/-- The row's box has the new row. -/
theorem Rc2.next {w wc : World} {lima lim : Int} {vla vo vl' v : Value} {r : Nat} {L' : List Nd} {xs : List Int} (R4 : Rc1 w wc lima vla) (hr4 : wc.heap[r]? = some (.cells #[.int .i64 lim, vo] 27 (0, 0))) (hlt : w.heap.size + 1 < r)
    (hT' : Row wc vl' L') (hO4 : OwnInts wc w.heap.size v xs) :
    Rc1 w ((wc.setCell ⟨r, 0, none⟩ (.int .i64 lim)).setCell ⟨r, 1, none⟩ vl') lima vla ∧ ((wc.setCell ⟨r, 0, none⟩ (.int .i64 lim)).setCell ⟨r, 1, none⟩ vl').heap[r]? = some (.cells #[.int .i64 lim, vl'] 27 (0, 0)) ∧
    Row ((wc.setCell ⟨r, 0, none⟩ (.int .i64 lim)).setCell ⟨r, 1, none⟩ vl') vl' L' ∧ OwnInts ((wc.setCell ⟨r, 0, none⟩ (.int .i64 lim)).setCell ⟨r, 1, none⟩ vl') w.heap.size v xs := by
  have T : Touch wc ((wc.setCell ⟨r, 0, none⟩ (.int .i64 lim)).setCell ⟨r, 1, none⟩ vl') (fun i => i = r) :=
    Touch.setCell (S := fun i => i = r) (p := ⟨r, 1, none⟩) (Touch.setCell (S := fun i => i = r) (p := ⟨r, 0, none⟩) (Touch.refl _ _) (.inl rfl) _) (.inl rfl) _
  refine ⟨⟨T.heap R4.b0 (by omega), T.heap R4.b1 (by omega), (R4.bel.setCell (p := ⟨r, 0, none⟩) (by simp; omega) _).setCell (p := ⟨r, 1, none⟩) (by simp; omega) _⟩, put2 hr4 _ _, ownsRow_touch hT' T (fun g hg e => row_ne hT' hg (e ▸ hr4)), hO4.touch T (fun g hg e => ints_ne hO4 hg (e ▸ hr4))⟩
theorem Rc2.grown {w W w5 : World} {lima lim : Int} {vla vl' v v' : Value} {La L' : List Nd} {r : Nat} {roots xs : List Int} {k : Nat} {x : Int} {o : Obj} (R : Rc1 w W lima vla) (hr : W.heap[r]? = some (.cells #[.int .i64 lim, vl'] 27 (0, 0))) (hwr : w.heap.size ≤ r)
    (hT : Row W vl' L') (hO : OwnInts W w.heap.size v xs) (hown : OwnInts w5 w.heap.size v' (xs ++ [x])) (hg : (W.alloc o).grownBy w5 v.ownBlock) (hmv : Ar.mvAll lim La (roots.drop (k + 1)) L' (xs ++ [x]) = Ar.mvAll lim La roots [] [])
    (hl : L'.length ≤ 4095 * (k + 1)) (hx : xs.length = k) : Rc2 w w5 lima lim vla La r roots (k + 1) v' := by
  have T : Touch W w5 (fun i => v.ownBlock = some i) := ((Touch.refl W _).alloc _).grown hg (fun i h => .inl h)
  have hvl : ∀ i, v.ownBlock = some i → w.heap.size ≤ i := fun i h => (ownsRow_block hO h).1
  exact ⟨L', xs ++ [x], vl', ⟨T.heap R.b0 (fun c => ints_ne hO c R.b0), T.heap R.b1 (fun c => ints_ne hO c R.b1), R.bel.trans (T.below R.bel.size (fun i hi c => by have := hvl i c; omega))⟩, T.heap hr (fun c => ints_ne hO c hr), hwr,
    ownsRow_touch hT T (fun g h c => ints_row_ne hO hT c h), hown, hmv, hl, by simp [hx]⟩
theorem mvAll_go {lim : Int} {La : List Nd} {roots : List Int} {k : Nat} (hk : k < roots.length) {L L' : List Nd} {xs : List Int} {x en : Int} (h : Ar.mvAll lim La (roots.drop k) L xs = Ar.mvAll lim La roots [] [])
    (hm : Ar.mv lim La (roots[k].toNat + 1) L roots[k] = (L', x, en)) :
    (en ≠ 0 → Ar.mvAll lim La roots [] [] = (L', [], en)) ∧ (en = 0 → Ar.mvAll lim La (roots.drop (k + 1)) L' (xs ++ [x]) = Ar.mvAll lim La roots [] []) := by
  have := CompI.go hk h
  rw [hm] at this
  exact this
theorem McPost.of1 {wr w4 : World} {lim x en : Int} {L' : List Nd} {vl' : Value} (R : Row w4 vl' L') (hb : Below wr.drew.heap.size wr.drew w4) :
    McPost wr lim L' x en (.pointer (some ⟨w4.heap.size, 0, none⟩)) (.int .i64 x) (.int .i64 en) (w4.alloc (.cells #[.int .i64 lim, vl'] 27)) :=
  ⟨_, vl', rfl, rfl, rfl, heap_alloc_new _ _, R.below (Below.push (Below.refl _ w4) (Nat.le_refl _) _), Below.push (Below.seq (Below.drew (Below.refl _ wr)) (Nat.le_refl _) hb) (Nat.le_refl _) _, hb.size⟩
theorem McPost.of2 {wr w4 : World} {lim x en : Int} {L' : List Nd} {vl' : Value} (R : Row w4 vl' L')
    (hb : Below (wr.alloc (.cells #[.int .i64 0, .slice none 0 0] 27)).drew.heap.size (wr.alloc (.cells #[.int .i64 0, .slice none 0 0] 27)).drew w4) :
    McPost wr lim L' x en (.pointer (some ⟨wr.heap.size, 0, none⟩)) (.int .i64 x) (.int .i64 en) ((w4.setCell ⟨wr.heap.size, 0, none⟩ (.int .i64 lim)).setCell ⟨wr.heap.size, 1, none⟩ vl') := by
  have zz := (hb.block wr.heap.size (by simp)).trans (heap_alloc_new wr (.cells #[.int .i64 0, .slice none 0 0] 27))
  refine ⟨_, vl', rfl, rfl, rfl, put2 zz _ _, ownsRow_touch R (Touch.setCell (S := fun i => i = wr.heap.size) (p := ⟨wr.heap.size, 1, none⟩) (Touch.setCell (S := fun i => i = wr.heap.size) (p := ⟨wr.heap.size, 0, none⟩) (Touch.refl _ _) (.inl rfl) _) (.inl rfl) _) (fun g hg e => row_ne R hg (e ▸ zz)), ?_, Nat.le_refl _⟩
  exact ((Below.seq (Below.drew (Below.push (Below.refl _ wr) (Nat.le_refl _) _)) (Nat.le_refl _) hb).setCell (p := ⟨wr.heap.size, 0, none⟩) (Nat.le_refl _) _).setCell (p := ⟨wr.heap.size, 1, none⟩) (Nat.le_refl _) _

set_option maxRecDepth 100000 in
set_option maxHeartbeats 4000000 in
theorem ref_compact_good {lima : Int} {vla : Value} {La : List Nd} (hA : Row w vla La) (ok : Ar.Ok La) (v : Value) (roots : List Int) (hr : Ints w v roots) (hgood : ∀ r ∈ roots, Ar.has La r) (limit : Int) (hlen : roots.length ≤ 100000) :
    Calls Tryd.prog 14 #[.agg #[.int .i64 lima, vla], v, .int .i64 limit] w (RCompPost w (max limit 0) La roots) := by
  obtain ⟨ao, c, rfl, hc, hc2, hcell⟩ := hr
  unfold maxLen at hc2
  obtain ⟨i0, hi0, hz0, hz1, hz2⟩ := info_parts info_int
  have HB := Lib.hid hgood
  have HC := Lib.hid hcell
  have HI := Lib.hid (Rc1.start w lima vla)
  have HA := Lib.hid hA
  have HOK := Lib.hid ok
  obtain ⟨⟨aa, ca, rfl⟩, hna⟩ := hA.shape
  clear hgood hcell hA ok
  go_enter Tryd.func14, Tryd.ntmps14
  go_wp2_with fail
  go_loopg [9] roots.length (fun gk i wr => ∃ k : Nat, k + gk = roots.length ∧ i = .int .i64 k ∧ Hid (Rc1 w wr lima (.slice aa La.length ca)))
  case atStart => exact ⟨0, by omega, rfl, HI⟩
  case round =>
    clear HI
    obtain ⟨k, hk, rfl, HR⟩ := hrel
    by_cases hlt : k < roots.length
    · obtain ⟨bx, o, rfl, kc⟩ := HC.out k hlt
      have c0 := cell_at HR.out.b0 0 (v := .int .i64 lima) rfl
      have c1 := cell_at HR.out.b0 1 (v := .slice aa La.length ca) rfl
      have hbx := World.block_lt_of_cell? w _ kc
      have kr := (HR.out.bel.cell (p := ⟨bx, o + k, none⟩) hbx).trans kc
      have hbw : bx < wr.heap.size := Nat.lt_of_lt_of_le hbx HR.out.bel.size
      have hpw := lt_of_heap HR.out.b0
      have HRd := Lib.hid (HA.out.below (Below.drew HR.out.bel))
      have hk0 : (0 : Int) ≤ k := by omega
      have hk1 : (k : Int) < roots.length := by omega
      have hh := HB.out roots[k] (List.getElem_mem hlt)
      clear kc
      go_wp2_with fail
      go_region_held3 (fun wx => wx.cell? ⟨w.heap.size, 0, none⟩ = some (.int .i64 lima) ∧ wx.cell? ⟨w.heap.size, 1, none⟩ = some (.slice aa La.length ca) ∧ wx.cell? ⟨bx, o + k, none⟩ = some (.int .i64 roots[k]))
        (first | exact ⟨c0, c1, kr⟩ | exact ⟨x0, x1, xr⟩)
        ((go_at_call 18; refine (ref_has HRd.out roots[k] true (decide_eq_true hh)).mono ?_; rintro e w4 ⟨rfl, hb4⟩; have x0 := (hb4.cell (p := ⟨w.heap.size, 0, none⟩) hpw).trans c0; have x1 := (hb4.cell (p := ⟨w.heap.size, 1, none⟩) hpw).trans c1; have xr := (hb4.cell (p := ⟨bx, o + k, none⟩) hbw).trans kr))
      have HR4 := Lib.hid (HR.out.step (Below.seq (Below.drew (Below.refl _ wr)) (Nat.le_refl _) hb4))
      clear hb4 HR c0 c1 kr x0 x1 xr HRd hh
      go_wp2_with fail
      go_roundg (gk - 1)
      case measure => omega
      case rel => exact ⟨k + 1, by omega, by go_num, HR4⟩
    · obtain rfl : k = roots.length := by omega
      go_wp2_with fail
      refine (ref_new limit _).mono ?_
      rintro e w2 ⟨rfl, hb2⟩
      have HR2 := HR.out.step hb2
      have hs2 := HR2.bel.size
      have hs3 := lt_of_heap HR2.b1
      have HR3 : Hid (Rc2 w (w2.alloc (.cells #[.int .i64 (max limit 0), .slice none 0 0] 27)) lima (max limit 0) (.slice aa La.length ca) La w2.heap.size roots 0 (.slice none 0 0)) :=
        ⟨[], [], _, HR2.step (Below.push (Below.refl _ w2) (Nat.le_refl _) _), heap_alloc_new _ _, by omega, Row.nil _, World.ownsRow_nil _ _ _ _, by simp, by simp, rfl⟩
      clear HR2 HR hb2
      go_wp2_with fail
      generalize w2.alloc (.cells #[.int .i64 (max limit 0), .slice none 0 0] 27) = w3 at *
      generalize max limit 0 = lim at *
      go_loopg [11, 12] roots.length (fun gk v i wr => ∃ k : Nat, k + gk = roots.length ∧ i = .int .i64 k ∧ Hid (Rc2 w wr lima lim (.slice aa La.length ca) La w2.heap.size roots k v))
      case atStart => exact ⟨0, by omega, rfl, HR3⟩
      case round =>
        clear HR3
        obtain ⟨k, hk, rfl, HI⟩ := hrel
        obtain ⟨L, xs, vl, R1, hr, hwr, hT, hO, hmv, hLl, hxl⟩ := HI.out
        obtain ⟨⟨al, cl, rfl⟩, hnl⟩ := hT.shape
        have d0 := cell_at hr 0 (v := .int .i64 lim) rfl
        have d1 := cell_at hr 1 (v := .slice al L.length cl) rfl
        have hrw := lt_of_heap hr
        by_cases hlt : k < roots.length
        · obtain ⟨bx, o, rfl, kc⟩ := HC.out k hlt
          have c0 := cell_at R1.b0 0 (v := .int .i64 lima) rfl
          have c1 := cell_at R1.b0 1 (v := .slice aa La.length ca) rfl
          have hbx := World.block_lt_of_cell? w _ kc
          have kr := (R1.bel.cell (p := ⟨bx, o + k, none⟩) hbx).trans kc
          have hbw : bx < wr.heap.size := Nat.lt_of_lt_of_le hbx R1.bel.size
          have hpw := lt_of_heap R1.b0
          have hk0 : (0 : Int) ≤ k := by omega
          have hk1 : (k : Int) < roots.length := by omega
          rcases hm : Ar.mv lim La (roots[k].toNat + 1) L roots[k] with ⟨L', x, en⟩
          have hcost := Ar.cost_le La roots[k]
          have HRc : Hid (∀ W, Below wr.heap.size wr W → Calls Tryd.prog 20 #[.agg #[.int .i64 lima, .slice aa La.length ca], .agg #[.int .i64 lim, .slice al L.length cl], .int .i64 roots[k]] W (RMk W lim (.slice al L.length cl) L' x en)) := fun W hW => by
            have Rc := ref_move (roots[k].toNat + 1) W (lima := lima) (lim := lim) (.slice al L.length cl) L (HA.out.below (Below.seq R1.bel (Nat.le_refl _) hW)) HOK.out (hT.below hW) roots[k] (by omega) (by omega)
            rw [hm] at Rc
            exact Rc
          have HM := Lib.hid hm
          have HR1 := Lib.hid R1
          have HT := Lib.hid hT
          have HO := Lib.hid hO
          have HMV := Lib.hid hmv
          have HXL := Lib.hid hxl
          have Hr := Lib.hid hr
          clear kc hm R1 hT hO hmv hxl hr HI
          go_wp2_with fail
          go_cut [13, 14, 15] (fun v13 v14 v15 wx => Hid (McPost wr lim L' x en v13 v14 v15 wx))
          case first =>
            go_region_held3 (fun wx => wx.cell? ⟨w.heap.size, 0, none⟩ = some (.int .i64 lima) ∧ wx.cell? ⟨w.heap.size, 1, none⟩ = some (.slice aa La.length ca) ∧ wx.cell? ⟨w2.heap.size, 0, none⟩ = some (.int .i64 lim) ∧ wx.cell? ⟨w2.heap.size, 1, none⟩ = some (.slice al L.length cl) ∧ wx.cell? ⟨bx, o + k, none⟩ = some (.int .i64 roots[k]))
              (first | exact ⟨c0, c1, d0, d1, kr⟩ | (refine ⟨?_, ?_, ?_, ?_, ?_⟩ <;> (first | (rw [cell_set_ne _ (by assumption)]; assumption) | (rw [cell_set_ne _ (by assumption), cell_set_ne _ (by assumption)]; assumption))) | exact ⟨x0, x1, y0, y1, xr⟩ | exact ⟨cell_push x0 _, cell_push x1 _, cell_push y0 _, cell_push y1 _, cell_push xr _⟩ | exact ⟨cell_push c0 _, cell_push c1 _, cell_push d0 _, cell_push d1 _, cell_push kr _⟩)
              (first | (go_at_call 20; refine (HRc.out _ (Below.drew (Below.refl _ wr))).mono ?_; rintro e w4 ⟨vl4, rfl, R4, hb4, ho4⟩; obtain ⟨⟨ao4, cap4, rfl⟩, hn4⟩ := R4.shape; have HR4 := Lib.hid R4; have x0 := (hb4.cell (p := ⟨w.heap.size, 0, none⟩) hpw).trans c0; have x1 := (hb4.cell (p := ⟨w.heap.size, 1, none⟩) hpw).trans c1; have y0 := (hb4.cell (p := ⟨w2.heap.size, 0, none⟩) hrw).trans d0; have y1 := (hb4.cell (p := ⟨w2.heap.size, 1, none⟩) hrw).trans d1; have xr := (hb4.cell (p := ⟨bx, o + k, none⟩) hbw).trans kr; have HH := Lib.hid (McPost.of1 (lim := lim) (x := x) (en := en) R4 hb4)) | (go_at_call 20; refine (HRc.out _ (Below.drew (Below.push (Below.refl _ wr) (Nat.le_refl _) (.cells #[.int .i64 0, .slice none 0 0] 27)))).mono ?_; rintro e w4 ⟨vl4, rfl, R4, hb4, ho4⟩; obtain ⟨⟨ao4, cap4, rfl⟩, hn4⟩ := R4.shape; have HR4 := Lib.hid R4; have x0 := (hb4.cell (p := ⟨w.heap.size, 0, none⟩) (by simp <;> omega)).trans (cell_push c0 _); have x1 := (hb4.cell (p := ⟨w.heap.size, 1, none⟩) (by simp <;> omega)).trans (cell_push c1 _); have y0 := (hb4.cell (p := ⟨w2.heap.size, 0, none⟩) (by simp <;> omega)).trans (cell_push d0 _); have y1 := (hb4.cell (p := ⟨w2.heap.size, 1, none⟩) (by simp <;> omega)).trans (cell_push d1 _); have xr := (hb4.cell (p := ⟨bx, o + k, none⟩) (by simp <;> omega)).trans (cell_push kr _); have zz := (hb4.block wr.heap.size (by simp)).trans (heap_alloc_new wr (.cells #[.int .i64 0, .slice none 0 0] 27)); have z0 := cell_at zz 0 (v := .int .i64 0) rfl; have z1 := cell_at zz 1 (v := .slice none 0 0) rfl; have g0 := free_at zz 0; have g1 := free_at zz 1; have hz := hb4.size; have hne1 : w.heap.size ≠ wr.heap.size := (by omega); have hne2 : w2.heap.size ≠ wr.heap.size := (by omega); have hne3 : bx ≠ wr.heap.size := (by omega); have HH := Lib.hid (McPost.of2 (lim := lim) (x := x) (en := en) R4 hb4)))
            all_goals (go_wp2_with fail; go_meet; exact HH)
          case rest =>
            obtain ⟨g, vl', rfl, rfl, rfl, hg, hT', hb, hgw⟩ := hcut.out
            obtain ⟨⟨al', cl', rfl⟩, hnl'⟩ := hT'.shape
            have R4 := HR1.out.step hb
            have hr4 := (hb.block _ hrw).trans Hr.out
            have hO4 : OwnInts wc w.heap.size u11 xs := HO.out.touch (Touch.of_below hb (fun _ => False)) (fun _ _ c => c)
            have hgo := mvAll_go hlt HMV.out HM.out
            have hLn := Ar.mv_length (lim := lim) HOK.out (roots[k].toNat + 1) L roots[k]
            rw [HM.out] at hLn
            replace hLn : L'.length ≤ L.length + Ar.cost La roots[k] := hLn
            have m0 := cell_at hg 0 (v := .int .i64 lim) rfl
            have m1 := cell_at hg 1 (v := .slice al' L'.length cl') rfl
            have e0 := cell_at hr4 0 (v := .int .i64 lim) rfl
            have e1 := cell_at hr4 1 (v := .slice al L.length cl) rfl
            have q0 := free_at hr4 0
            have q1 := free_at hr4 1
            have z0 := cell_at R4.b1 0 (v := .int .i64 0) rfl
            have z1 := cell_at R4.b1 1 (v := .slice none 0 0) rfl
            have g0 := free_at R4.b1 0
            have g1 := free_at R4.b1 1
            have HQ := Lib.hid (R4.out 0 (.slice none 0 0))
            have HN := Lib.hid (Rc2.next R4 hr4 hs3 hT' hO4)
            have HGO := Lib.hid hgo
            have hsz := hb.size
            clear hcut hg hT' hb R4 hr4 hO4 hgo c0 c1 d0 d1 kr HRc HR1 HT
            by_cases he : en = 0
            · subst he
              clear HQ z0 z1 g0 g1
              go_wp2_with (at_builtin; refine wpList_append_src rfl (.tmp 54) (.tmp 56) 23 rfl w.heap.size 3 i0 (.int .i64 0) 1 8 Tryd.underlying23 hi0 hz0 hz1 hz2 rfl (by decide) u11 xs.length (xs.map (Value.int .i64)) rfl (HN.out.2.2.2.alloc _) _ 1 [.int .i64 x] rfl ?c2 ?c3 ?c4 ?c5 ?c6 ?_)
              case c2 =>
                refine .inr ⟨_, _, rfl, rfl, World.news_of_block (cs := #[.int .i64 x]) (t := 3) (fr := (0, 0)) ?_⟩
                have := heap_alloc_new ((wc.setCell ⟨w2.heap.size, 0, none⟩ (.int .i64 lim)).setCell ⟨w2.heap.size, 1, none⟩ (.slice al' L'.length cl')) (.cells #[.int .i64 x] 3)
                simpa using this
              case c3 => first | rfl | (intro u hu; simp at hu; subst hu; rfl)
              case c4 => rw [HXL.out]; unfold maxLen; omega
              case c5 => rw [HXL.out]; omega
              case c6 => first | omega | (simp; omega)
              intro v' w5 hown hgrow hnil hblk
              have HST := Lib.hid (Rc2.grown (x := x) (roots := roots) (k := k) HN.out.1 HN.out.2.1 (by omega) HN.out.2.2.1 HN.out.2.2.2 (by simpa [OwnInts] using hown) hgrow (HGO.out.2 (by first | trivial | rfl)) (by omega) HXL.out)
              clear hown hgrow hnil hblk
              go_wp2_with fail
              go_roundg (gk - 1)
              case measure => omega
              case rel => exact ⟨k + 1, by omega, by go_num, HST⟩
            · have hne : (en != 0) = true := by simpa using he
              have HE := Lib.hid he
              clear he
              go_wp2_with fail
              refine bodyPost_ret (results_ctt rfl _ _ (w.heap.size + 1) 27 #[.int .i64 0, .slice none 0 0] (0, 0) _ rfl HQ.out.1 Tryd.underlying27 rfl info_ref) rfl ?_
              refine ⟨HQ.out.2, .inr (.inl ⟨HB.out, ?_, ?_⟩)⟩
              · rw [HGO.out.1 HE.out]; exact HE.out
              · rw [HGO.out.1 HE.out]; rfl
        · have hkk : roots.drop k = [] := List.drop_of_length_le (by omega)
          have hres : Ar.mvAll lim La roots [] [] = (L, xs, 0) := by rw [← hmv, hkk]; rfl
          have z0 := cell_at R1.b1 0 (v := .int .i64 0) rfl
          have z1 := cell_at R1.b1 1 (v := .slice none 0 0) rfl
          have g0 := free_at R1.b1 0
          have g1 := free_at R1.b1 1
          have HQ := Lib.hid (R1.out lim (.slice al L.length cl))
          have T : Touch wr ((wr.setCell ⟨w.heap.size + 1, 0, none⟩ (.int .i64 lim)).setCell ⟨w.heap.size + 1, 1, none⟩ (.slice al L.length cl)) (fun i => i = w.heap.size + 1) :=
            Touch.setCell (S := fun i => i = w.heap.size + 1) (p := ⟨w.heap.size + 1, 1, none⟩) (Touch.setCell (S := fun i => i = w.heap.size + 1) (p := ⟨w.heap.size + 1, 0, none⟩) (Touch.refl _ _) (.inl rfl) _) (.inl rfl) _
          have HT8 := Lib.hid (show Row _ _ _ from ownsRow_touch hT T (fun g hg e => row_ne hT hg (e ▸ R1.b1)))
          have HO8 := Lib.hid (hO.touch T (fun g hg e => ints_ne hO hg (e ▸ R1.b1)))
          have HRES := Lib.hid hres
          clear hkk hres T hT hO R1 hr hmv HI
          go_wp2_with fail
          refine bodyPost_ret (results_ctt rfl _ _ (w.heap.size + 1) 27 #[.int .i64 lim, .slice al L.length cl] (0, 0) _ rfl HQ.out.1 Tryd.underlying27 rfl info_ref) rfl ?_
          refine ⟨HQ.out.2, .inr (.inr ⟨HB.out, ?_, .slice al L.length cl, u11, rfl, ?_, ?_⟩)⟩
          · rw [HRES.out]
          · rw [HRES.out]; exact HT8.out
          · rw [HRES.out]; exact HO8.out

theorem ref_compact {lima : Int} {vla : Value} {La : List Nd} (hA : Row w vla La) (ok : Ar.Ok La) (v : Value) (roots : List Int) (hr : Ints w v roots) (limit : Int) (hlen : roots.length ≤ 100000) :
    Calls Tryd.prog 14 #[.agg #[.int .i64 lima, vla], v, .int .i64 limit] w (RCompPost w (max limit 0) La roots) := by
  by_cases h : ∀ r ∈ roots, Ar.has La r
  · exact ref_compact_good hA ok v roots hr h limit hlen
  · exact ref_compact_odd hA v roots hr h limit _
end Go.Proofs.YtknoigebkpapoaaDoor
