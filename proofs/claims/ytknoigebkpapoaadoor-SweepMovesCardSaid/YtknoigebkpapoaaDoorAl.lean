/- Walk of the laws' alive: it answers true. -/
import Derived.Test.YtknoigebkpapoaaDoorRb
import Derived.Test.YtknoigebkpapoaaDoorSc
import Derived.Test.YtknoigebkpapoaaDoorSd
import Derived.Test.YtknoigebkpapoaaDoorEi
set_option linter.unusedVariables false
set_option linter.unusedSimpArgs false
namespace Go.Proofs.YtknoigebkpapoaaDoor
open Go.RowKit Go.Deep
variable {w : World}

theorem ops_of_heap {w : World} {g : Nat} {T : TypeId} (xs : List Nd) (cs : Array Value) (hcs : (cellsOf xs).toArray = cs) (h : w.heap[g]? = some (.cells cs T (0, 0))) (hl : xs.length ≤ maxLen) : Ops w (.slice (some ⟨g, 0, none⟩) xs.length xs.length) xs := by
  subst hcs
  refine ⟨_, _, rfl, Nat.le_refl _, hl, fun i hi => ⟨g, 0, rfl, lt_of_heap h, ?_, ?_, ?_⟩⟩
  · exact (by simpa using cell_at h (i * 3) (v := .int .i64 xs[i].v) (by rw [List.getElem?_toArray]; exact (cellsOf_get xs i hi).1))
  · exact (by simpa using cell_at h (i * 3 + 1) (v := .int .i64 xs[i].l) (by rw [List.getElem?_toArray]; exact (cellsOf_get xs i hi).2.1))
  · exact (by simpa using cell_at h (i * 3 + 2) (v := .int .i64 xs[i].h) (by rw [List.getElem?_toArray]; exact (cellsOf_get xs i hi).2.2))
theorem ints_one {w : World} {g : Nat} {T : TypeId} {x : Int} (h : w.heap[g]? = some (.cells #[.int .i64 x] T (0, 0))) : Ints w (.slice (some ⟨g, 0, none⟩) 1 1) [x] :=
  ⟨_, _, rfl, by simp, by decide, fun i hi => by
    have : i = 0 := by simpa using hi
    subst this
    exact ⟨g, 0, rfl, cell_at h 0 rfl⟩⟩

def aliveOps : List Nd := [⟨2, -1, -2⟩, ⟨3, -1, -4⟩, ⟨0, -1, 0⟩]
theorem alive_bld : Ar.bld 60 [] aliveOps = aliveOps := by decide +kernel
theorem alive_compact : Ar.mvAll (max 9 0) aliveOps [2] [] [] = ([⟨2, -1, -2⟩, ⟨0, -1, 0⟩], [1], 0) := by decide +kernel
theorem alive_move : (Ar.mv (max 1 0) aliveOps ((2 : Int).toNat + 1) [] 2).2.2 = 50 := by decide +kernel
theorem alive_marks {out : List Bool} (h : Marks aliveOps [2] out) : out = [true, false, true] := by
  have h0 : Ar.markF aliveOps 20 [2] [false, false, false] = some [true, false, true] := by decide +kernel
  exact h.unique (Ar.markF_right aliveOps [2] _ _ _ _ (Ar.MI.start aliveOps [2]) h0)

set_option maxRecDepth 100000 in
set_option maxHeartbeats 2000000 in
theorem alive_any : Calls Tryd.prog 12 #[] w fun e w' => e = .returned (.bool true) ∧ Below w.heap.size w w' := by
  have hops := Lib.hid (ops_of_heap aliveOps #[.int .i64 2, .int .i64 (-1), .int .i64 (-2), .int .i64 3, .int .i64 (-1), .int .i64 (-4), .int .i64 0, .int .i64 (-1), .int .i64 0] rfl (heap_alloc_new w (.cells #[.int .i64 2, .int .i64 (-1), .int .i64 (-2), .int .i64 3, .int .i64 (-1), .int .i64 (-4), .int .i64 0, .int .i64 (-1), .int .i64 0] 76)) (by decide))
  go_enter Tryd.func12, Tryd.ntmps12
  go_wp2_with fail
  refine (build_any _ aliveOps hops.out).mono ?_
  rintro e w1 ⟨hb1, ⟨h, _⟩ | ⟨_, b, vl, S, rfl, A, hS, R⟩⟩
  · exact absurd h (by decide)
  rw [alive_bld] at A R
  have hb1' : Below w.heap.size w w1 := Below.seq (Below.push (Below.refl _ w) (Nat.le_refl _) _) (Nat.le_refl _) hb1
  obtain ⟨⟨ao, cap, rfl⟩, hn⟩ := R.shape
  have hla : ∀ k, S k → k < w1.heap.size := fun k h => (hS k h).2
  have hga : ∀ k, S k → w.heap.size ≤ k := fun k h => by have := (hS k h).1; simp at this; omega
  have HA := Lib.hid A
  have HB1 := Lib.hid hb1'
  clear A R hops hb1 hb1' hS
  go_wp2_with fail
  have b2 : Below w1.heap.size w1 ((w1.alloc (.cells #[.int .i64 60, .slice ao aliveOps.length cap] 27)).alloc (.cells #[.int .i64 2] 3)) := Below.push (Below.push (Below.refl _ w1) (Nat.le_refl _) _) (Nat.le_refl _) _
  have A2 := HA.out.below b2
  refine (compact_any A2 (fun k h => Nat.lt_of_lt_of_le (hla k h) b2.size) _ [2] (ints_one (alloc2 w1 _ _)) 9 (by decide)).mono ?_
  rintro e w2 ⟨hb2, h⟩
  rw [alive_compact] at h
  rcases h with ⟨h, _⟩ | ⟨_, h, _⟩ | ⟨_, _, bb, v2, rfl, C2, O2⟩
  · exact absurd (by decide) h
  · exact absurd rfl h
  have c2 : Below w1.heap.size w1 w2 := Below.seq b2 (Nat.le_refl _) hb2
  have HC2 := Lib.hid (C2.mono (S' := fun k => w1.heap.size ≤ k) (fun k h => by have := h.1; have := b2.size; omega))
  have HI2 := Lib.hid O2.ints
  have HD2 := Lib.hid c2
  clear A2 C2 O2 hb2 b2 c2
  go_wp2_with fail
  have b3 : Below w2.heap.size w2 (w2.alloc (.cells #[.int .i64 2] 3)) := Below.push (Below.refl _ w2) (Nat.le_refl _) _
  refine (mark_any ((HA.out.below HD2.out).below b3) _ [2] (ints_one (heap_alloc_new w2 _)) (by decide)).mono ?_
  rintro e w3 ⟨v3, out, rfl, M3, hol, hm, hb3, _⟩
  obtain rfl := alive_marks ⟨hol, hm⟩
  have c3 : Below w2.heap.size w2 w3 := Below.seq b3 (Nat.le_refl _) hb3
  obtain ⟨g3, rfl, hg3⟩ := M3
  have HG3 := Lib.hid hg3
  have HC3 := Lib.hid c3
  clear hol hm hb3 b3 c3 hg3
  go_wp2_with fail
  have b4 : Below w3.heap.size w3 (w3.alloc (.cells #[.int .i64 7] 3)) := Below.push (Below.refl _ w3) (Nat.le_refl _) _
  have A4 := ((HA.out.below HD2.out).below HC3.out).below b4
  refine (compact_odd A4 _ [7] (ints_one (heap_alloc_new w3 _)) (by decide) 9 9).mono ?_
  rintro e w4 ⟨hb4, h⟩
  have hbad : ¬ ∀ r ∈ ([7] : List Int), Ar.has aliveOps r := by decide
  rcases h with ⟨_, rfl⟩ | ⟨h, _⟩ | ⟨h, _⟩
  · have c4 : Below w3.heap.size w3 w4 := Below.seq b4 (Nat.le_refl _) hb4
    have HC4 := Lib.hid c4
    clear hb4 b4 c4 A4 hbad
    go_wp2_with fail
    refine (new_any 1).mono ?_
    rintro e w5 ⟨bt, rfl, T5, hb5⟩
    have HT5 := Lib.hid T5
    have HC5 := Lib.hid hb5
    clear T5 hb5
    go_wp2_with fail
    have A5 := (((HA.out.below HD2.out).below HC3.out).below HC4.out).below HC5.out
    have hd2 := HD2.out.size
    have hd3 := HC3.out.size
    have hd4 := HC4.out.size
    have hd5 := HC5.out.size
    refine (sweep_Move_any A5 HT5.out (fun k h c => by have := hla k h; have := c.1; omega) (fun k h => by have := hla k h; omega) (fun k h => h.2) 2 (by decide) (by decide)).mono ?_
    rintro e w6 ⟨ev, rfl, hev, T6, t6⟩
    rw [alive_move] at hev
    have hc6 := t6.out.below (B := w4.heap.size) hd5 (fun k h c => by have := c.1; omega)
    rcases hev.out with ⟨h, _⟩ | ⟨_, fb, fv, rfl, hf⟩
    · exact absurd h (by decide)
    have HF := Lib.hid hf
    have HC6 := Lib.hid hc6
    clear hev T6 t6 hf hc6 HT5 A5
    have d56 : Below w4.heap.size w4 w6 := Below.trans (HC5.out.mono (Nat.le_refl _)) HC6.out
    have e36 : Below w3.heap.size w3 w6 := Below.seq HC4.out (Nat.le_refl _) d56
    have e26 : Below w2.heap.size w2 w6 := Below.seq HC3.out (Nat.le_refl _) e36
    have e16 : Below w1.heap.size w1 w6 := Below.seq HD2.out (Nat.le_refl _) e26
    have e06 : Below w.heap.size w w6 := Below.trans HB1.out (e16.mono HB1.out.size)
    have HA6 := Lib.hid (HA.out.below e16)
    have HC7 := Lib.hid (HC2.out.below e26)
    have HE := Lib.hid e06
    obtain ⟨ai, ci, rfl, hci, hci2, hce⟩ := HI2.out.below e26
    obtain ⟨bi, oi, rfl, hcell⟩ := hce 0 (by simp)
    have k0 : w6.cell? ⟨bi, oi, none⟩ = some (.int .i64 1) := by simpa using hcell
    have hg6 := (e36.block g3 (lt_of_heap HG3.out)).trans HG3.out
    have m0 := cell_at hg6 0 (v := .bool true) rfl
    have m1 := cell_at hg6 1 (v := .bool false) rfl
    have hci3 : (1 : Int) ≤ ci := by simp at hci; omega
    unfold maxLen at hci2
    clear e36 e26 e16 e06 hcell hce hg6 HG3 HI2 HC2 HA HC3 HC4 HC5 HC6 d56 HB1 HD2 hd2 hd3 hd4 hd5
    go_wp2_with fail
    refine (len_any HC7.out).mono ?_
    rintro e w' ⟨rfl, rfl⟩
    go_wp2_with fail
    have b7 : Below w6.heap.size w6 (w6.alloc (.cells #[.int .i64 2] 3)) := Below.push (Below.refl _ w6) (Nat.le_refl _) _
    refine (dead_any (HA6.out.below b7) _ [2] (ints_one (heap_alloc_new w6 _)) (by decide)).mono ?_
    rintro e w7 ⟨out, hmarks, rfl, hb7⟩
    obtain rfl := alive_marks hmarks
    have c7 : Below w6.heap.size w6 w7 := Below.seq b7 (Nat.le_refl _) hb7
    have HF7 := Lib.hid (show FaultAt w7 fb fv 50 from (c7.block fb (lt_of_heap HF.out)).trans HF.out)
    have HE7 := Lib.hid (Below.trans HE.out (c7.mono HE.out.size))
    clear k0 m0 m1 HA6 HC7 hmarks hb7 b7 c7 HF HE
    have hfree : (Ar.free [true, false, true] : Nat) = 1 := by decide
    rw [hfree]
    go_wp2_with fail
    refine (is_errno 1 1 true rfl w7).mono ?_
    rintro e w' ⟨rfl, rfl⟩
    go_wp2_with fail
    refine (is_fault fb fv 50 50 true rfl w7 HF7.out).mono ?_
    rintro e w' ⟨rfl, rfl⟩
    go_wp2_with fail
    go_ret
    exact ⟨rfl, HE7.out⟩
  · exact absurd h hbad
  · exact absurd h hbad
end Go.Proofs.YtknoigebkpapoaaDoor
