/- zone.both, Leq, each, Join, Meet. -/
import Derived.Test.YtjhccmjgfngkcaaDoorZoneSameZe
set_option linter.unusedVariables false
set_option linter.unusedSimpArgs false
namespace Go.Proofs.YtjhccmjgfngkcaaDoor.PZoneSame
open Go Go.RowKit Go.Shelf Go.Deep Go.Proofs.YtjhccmjgfngkcaaDoorW.PrintWords Go.Proofs.YtjhccmjgfngkcaaDoorW.PrintLast Go.Proofs.YtjhccmjgfngkcaaDoorW.PrintMore
open Zn (botN wholeB wholeB_iff nearZ upd)
variable {w : World}
attribute [local go_sem] Oper.semAt_some
theorem nsame {s : Nat} {W0 W1 : World} {k : Nat} (h : Below s W0 W1) (hk : k < s) : W1.heap[k]? = W0.heap[k]? := h.block k hk
theorem ZNew.set {B : Nat} {W : World} {v : Value} {N : Int} {L : List Int} (h : ZNew B W v N L) (p : Addr) (hp : p.block < B) (u : Value) : ZNew B (W.setCell p u) v N L := by
  obtain ⟨A, c, rfl, h1, h2⟩ := h
  exact ⟨A, c, rfl, h1.set p u (fun a e hn => by have := h2 a e hn; omega), h2⟩
structure Both (w : World) (pa pb : Nat) (z1 z2 : Int × List Int) (w' : World) : Prop where
  a : ∃ A c, w'.heap[pa]? = some (.cells #[.int .i64 z1.1, .slice A z1.2.length c] 27 (0, 0)) ∧ ZNew w.heap.size w' (.agg #[.int .i64 z1.1, .slice A z1.2.length c]) z1.1 z1.2
  b : ∃ A c, w'.heap[pb]? = some (.cells #[.int .i64 z2.1, .slice A z2.2.length c] 27 (0, 0)) ∧ ZNew w.heap.size w' (.agg #[.int .i64 z2.1, .slice A z2.2.length c]) z2.1 z2.2
  os : w'.os = w.os
  tape : w'.tape = w.tape
  output : w'.output = w.output
  size : w.heap.size ≤ w'.heap.size
  block : ∀ k, k < w.heap.size → k ≠ pa → k ≠ pb → w'.heap[k]? = w.heap[k]?
theorem Both.step {w w' w2 : World} {pa pb : Nat} {z1 z2 : Int × List Int} (h : Both w pa pb z1 z2 w') (hb : Below w'.heap.size w' w2) : Both w pa pb z1 z2 w2 := by
  obtain ⟨⟨A, c, h1, h2⟩, ⟨B, d, h3, h4⟩, h5, h6, h7, h8, h9⟩ := h
  exact ⟨⟨A, c, blk_below h1 hb, h2.below hb⟩, ⟨B, d, blk_below h3 hb, h4.below hb⟩, hb.os.trans h5, hb.tape.trans h6, hb.output.trans h7, Nat.le_trans h8 hb.size, fun k hk e1 e2 => (hb.block k (Nat.lt_of_lt_of_le hk h8)).trans (h9 k hk e1 e2)⟩
theorem Both.bel {s : Nat} {w0 w w' : World} {pa pb : Nat} {z1 z2 : Int × List Int} (h : Both w pa pb z1 z2 w') (hb : Below s w0 w) (ha : s ≤ pa) (hb' : s ≤ pb) (hs : s ≤ w.heap.size) : Below s w0 w' :=
  ⟨h.os.trans hb.os, h.tape.trans hb.tape, h.output.trans hb.output, Nat.le_trans hb.size h.size, fun k hk => (h.block k (by omega) (by omega) (by omega)).trans (hb.block k hk)⟩
set_option maxRecDepth 100000 in
set_option maxHeartbeats 4000000 in
theorem both_any {pa pb : Nat} {N M : Int} {L L2 : List Int} {A B : Option Addr} {c d : Nat} (ha : w.heap[pa]? = some (.cells #[.int .i64 N, .slice A L.length c] 27 (0, 0))) (hb : w.heap[pb]? = some (.cells #[.int .i64 M, .slice B L2.length d] 27 (0, 0))) (hne : pa ≠ pb)
    (hA : IntsAt w (.slice A L.length c) L) (hB : IntsAt w (.slice B L2.length d) L2) :
    Calls Tryd.prog 76 #[.pointer (some ⟨pa, 0, none⟩), .pointer (some ⟨pb, 0, none⟩)] w fun e w' => e = .returned (.bool (decide ((Zn.cleanP N L).1 = (Zn.cleanP M L2).1))) ∧ Both w pa pb (Zn.cleanP N L) (Zn.cleanP M L2) w' := by
  have C1 : ∀ W', Below w.heap.size w W' → Calls Tryd.prog 67 #[.agg #[.int .i64 N, .slice A L.length c]] W' (ZPost W' (Zn.cleanP N L)) := fun W' hb => clean_any (ZAt.below ⟨_, rfl, hA⟩ hb)
  have C2 : ∀ W', Below w.heap.size w W' → Calls Tryd.prog 67 #[.agg #[.int .i64 M, .slice B L2.length d]] W' (ZPost W' (Zn.cleanP M L2)) := fun W' hb => clean_any (ZAt.below ⟨_, rfl, hB⟩ hb)
  obtain ⟨z1, hz1⟩ : ∃ z, Zn.cleanP N L = z := ⟨_, rfl⟩
  obtain ⟨z2, hz2⟩ : ∃ z, Zn.cleanP M L2 = z := ⟨_, rfl⟩
  rw [hz1] at C1 ⊢
  rw [hz2] at C2 ⊢
  obtain ⟨n1, l1⟩ := z1
  obtain ⟨n2, l2⟩ := z2
  have H1 := Lib.hid C1
  have H2 := Lib.hid C2
  clear C1 C2 hz1 hz2 hA hB
  obtain ⟨x0, x1, x2, x3⟩ := cells2 ha
  obtain ⟨y0, y1, y2, y3⟩ := cells2 hb
  have hla := hp_lt ha
  have hlb := hp_lt hb
  dsimp only
  go_enter Tryd.func76, Tryd.ntmps76
  go_wp2_with fail
  refine start_ (n := 14) (S := fun w' => w'.cell? ⟨pa, 0, none⟩ = some (.int .i64 N) ∧ w'.cell? ⟨pa, 1, none⟩ = some (.slice A L.length c) ∧ w'.cell? ⟨pb, 0, none⟩ = some (.int .i64 M) ∧ w'.cell? ⟨pb, 1, none⟩ = some (.slice B L2.length d)) (ds := [11, 13]) #[false, false, false, false, false, false, false, false, false, false, false, false, false, false] (by kernel_rfl) rfl rfl ⟨cell_below ((Below.refl w.heap.size w).drew) x0, cell_below ((Below.refl w.heap.size w).drew) x1, cell_below ((Below.refl w.heap.size w).drew) y0, cell_below ((Below.refl w.heap.size w).drew) y1⟩ (fun hHeld => ?_)
  refine pure_ (i := 0) (N := some 5) (v := ?_) (a' := ?_) #[true, false, false, false, false, false, false, false, false, false, false, false, false, false] rfl rfl (by kernel_rfl) (fun _ _ _ h => h) (Or.inl ⟨by rfl, ?_⟩) ?_ ?_
  rotate_left
  · intro w'
    go_simp
    with_reducible rfl
  rotate_left
  · simp only [Act.put, List.setIfInBounds_toArray, List.set_cons_zero, List.set_cons_succ, i64_w, i32_w]
    rfl
  refine pure_ (i := 1) (N := some 6) (v := ?_) (a' := ?_) #[true, true, false, false, false, false, false, false, false, false, false, false, false, false] rfl rfl (by kernel_rfl) (fun _ _ _ h => h) (Or.inl ⟨by rfl, ?_⟩) ?_ ?_
  rotate_left
  · intro w'
    go_simp
    with_reducible rfl
  rotate_left
  · simp only [Act.put, List.setIfInBounds_toArray, List.set_cons_zero, List.set_cons_succ, i64_w, i32_w]
    rfl
  refine pure_ (i := 2) (N := some 7) (v := ?_) (a' := ?_) #[true, true, true, false, false, false, false, false, false, false, false, false, false, false] rfl rfl (by kernel_rfl) (fun _ _ _ h => h) (Or.inl ⟨by rfl, ?_⟩) ?_ ?_
  rotate_left
  · intro w'
    go_simp
    with_reducible rfl
  rotate_left
  · simp only [Act.put, List.setIfInBounds_toArray, List.set_cons_zero, List.set_cons_succ, i64_w, i32_w]
    rfl
  refine pure_ (i := 3) (N := some 8) (v := ?_) (a' := ?_) #[true, true, true, true, false, false, false, false, false, false, false, false, false, false] rfl rfl (by kernel_rfl) (fun _ _ _ h => h) (Or.inl ⟨by rfl, ?_⟩) ?_ ?_
  rotate_left
  · intro w'
    go_simp
    with_reducible rfl
  rotate_left
  · simp only [Act.put, List.setIfInBounds_toArray, List.set_cons_zero, List.set_cons_succ, i64_w, i32_w]
    rfl
  refine pure_ (i := 6) (N := some 11) (v := ?_) (a' := ?_) #[true, true, true, true, false, false, true, false, false, false, false, false, false, false] rfl rfl (by kernel_rfl) (fun _ _ _ h => h) (Or.inl ⟨by rfl, ?_⟩) ?_ ?_
  rotate_left
  · intro w'
    go_simp
    with_reducible rfl
  rotate_left
  · simp only [Act.put, List.setIfInBounds_toArray, List.set_cons_zero, List.set_cons_succ, i64_w, i32_w]
    rfl
  refine pure_ (i := 7) (N := some 12) (v := ?_) (a' := ?_) #[true, true, true, true, false, false, true, true, false, false, false, false, false, false] rfl rfl (by kernel_rfl) (fun _ _ _ h => h) (Or.inl ⟨by rfl, ?_⟩) ?_ ?_
  rotate_left
  · intro w'
    go_simp
    with_reducible rfl
  rotate_left
  · simp only [Act.put, List.setIfInBounds_toArray, List.set_cons_zero, List.set_cons_succ, i64_w, i32_w]
    rfl
  refine take_ (i := 4) (N := some 9) (v := ?_) (a' := ?_) #[true, true, true, true, true, false, true, true, false, false, false, false, false, false] rfl rfl (by kernel_rfl) (fun _ _ _ h => h) (Or.inl ⟨by rfl, ?_⟩) hHeld ?_ ?_
  rotate_left
  · rintro w' ⟨s0, s1, s2, s3⟩
    go_simp
    with_reducible rfl
  rotate_left
  · simp only [Act.put, List.setIfInBounds_toArray, List.set_cons_zero, List.set_cons_succ, i64_w, i32_w]
    rfl
  refine take_ (i := 8) (N := some 13) (v := ?_) (a' := ?_) #[true, true, true, true, true, false, true, true, true, false, false, false, false, false] rfl rfl (by kernel_rfl) (fun _ _ _ h => h) (Or.inl ⟨by rfl, ?_⟩) hHeld ?_ ?_
  rotate_left
  · rintro w' ⟨s0, s1, s2, s3⟩
    go_simp
    with_reducible rfl
  rotate_left
  · simp only [Act.put, List.setIfInBounds_toArray, List.set_cons_zero, List.set_cons_succ, i64_w, i32_w]
    rfl
  refine one_ (i := 5) (N := some 10) #[true, true, true, true, true, true, true, true, true, false, false, false, false, false] rfl rfl (by kernel_rfl) (by decide) (fun K hK => ?_)
  refine goes_ Tryd.func67 (by kernel_rfl) rfl #[.agg #[.int .i64 N, .slice A L.length c]] (by rfl) rfl rfl (by simp only [List.map_toArray, List.map_cons, List.map_nil]; rfl) ?_
  with_reducible refine (H1.out _ ((Below.refl w.heap.size w).drew)).mono ?_
  rintro e w3a ⟨v1, rfl, hz1, hb3⟩
  dsimp only at hz1
  obtain ⟨A1, c1, rfl⟩ := hz1.form
  refine ⟨_, rfl, ?_⟩
  have cur := seq ((Below.refl w.heap.size w).drew) hb3
  refine hK.out _ _ ⟨cell_below cur x0, cell_below cur x1, cell_below cur y0, cell_below cur y1⟩ (fun hHeld => ?_)
  clear hK K
  refine norm_ (a' := ?_) ?_ ?_
  rotate_left
  · show Act.put _ (some 10) _ = _
    simp only [Act.put, List.setIfInBounds_toArray, List.set_cons_zero, List.set_cons_succ, i64_w, i32_w]
    rfl
  refine one_ (i := 9) (N := some 14) #[true, true, true, true, true, true, true, true, true, true, false, false, false, false] rfl rfl (by kernel_rfl) (by decide) (fun K hK => ?_)
  refine goes_ Tryd.func67 (by kernel_rfl) rfl #[.agg #[.int .i64 M, .slice B L2.length d]] (by rfl) rfl rfl (by simp only [List.map_toArray, List.map_cons, List.map_nil]; rfl) ?_
  with_reducible refine (H2.out _ (cur)).mono ?_
  rintro e w3 ⟨v2, rfl, hz2, hb4⟩
  dsimp only at hz2
  obtain ⟨A2, c2, rfl⟩ := hz2.form
  have hz1 := hz1.below hb4
  refine ⟨_, rfl, ?_⟩
  have cura := cur
  replace cur := seq cur hb4
  refine hK.out _ _ ⟨cell_below cur x0, cell_below cur x1, cell_below cur y0, cell_below cur y1⟩ (fun hHeld => ?_)
  clear hK K
  refine norm_ (a' := ?_) ?_ ?_
  rotate_left
  · show Act.put _ (some 14) _ = _
    simp only [Act.put, List.setIfInBounds_toArray, List.set_cons_zero, List.set_cons_succ, i64_w, i32_w]
    rfl
  refine pure_ (i := 10) (N := some 15) (v := ?_) (a' := ?_) #[true, true, true, true, true, true, true, true, true, true, true, false, false, false] rfl rfl (by kernel_rfl) (fun _ _ _ h => h) (Or.inl ⟨by rfl, ?_⟩) ?_ ?_
  rotate_left
  · intro w'
    go_simp
    with_reducible rfl
  rotate_left
  · simp only [Act.put, List.setIfInBounds_toArray, List.set_cons_zero, List.set_cons_succ, i64_w, i32_w]
    rfl
  refine last_ (i := 11) (N := none) #[true, true, true, true, true, true, true, true, true, true, true, true, false, false] rfl rfl (by kernel_rfl) (by decide) (fun K hK => ?_)
  have ga := blk_below ha cur
  have gb := blk_below hb cur
  obtain ⟨a0, a1, a2, a3⟩ := cells2 ga
  refine skip_ (w1 := ?_) (by rfl) rfl ?_ ?_
  rotate_left
  · go_simp
    rfl
  refine hK.out _ _ ?_
  clear hK K
  refine pure_ (i := 12) (N := some 16) (v := ?_) (a' := ?_) #[true, true, true, true, true, true, true, true, true, true, true, true, true, false] rfl rfl (by kernel_rfl) (fun _ _ _ h => h) (Or.inl ⟨by rfl, ?_⟩) ?_ ?_
  rotate_left
  · intro w'
    go_simp
    with_reducible rfl
  rotate_left
  · simp only [Act.put, List.setIfInBounds_toArray, List.set_cons_zero, List.set_cons_succ, i64_w, i32_w]
    rfl
  have gb2 := blk_far (p := ⟨pa, 1, none⟩) (blk_far (p := ⟨pa, 0, none⟩) gb (fun e => hne e.symm) (.int .i64 n1)) (fun e => hne e.symm) (.slice A1 l1.length c1)
  obtain ⟨b0, b1, b2, b3⟩ := cells2 gb2
  refine last_ (i := 13) (N := none) #[true, true, true, true, true, true, true, true, true, true, true, true, true, true] rfl rfl (by kernel_rfl) (by decide) (fun K hK => ?_)
  refine skip_ (w1 := ?_) (by rfl) rfl ?_ ?_
  rotate_left
  · go_simp
    rfl
  refine hK.out _ _ ?_
  clear hK K
  refine done_ (by kernel_rfl) ?_
  have fa := blk_far (p := ⟨pb, 1, none⟩) (blk_far (p := ⟨pb, 0, none⟩) (zput ga (.int .i64 n1) (.slice A1 l1.length c1)) hne (.int .i64 n2)) hne (.slice A2 l2.length c2)
  have fb := zput gb2 (.int .i64 n2) (.slice A2 l2.length c2)
  have hs3 := cura.size
  have e1 := Lib.hid (((((hz1.lower (B' := w.heap.size) (Nat.le_refl _)).set ⟨pa, 0, none⟩ hla (.int .i64 n1)).set ⟨pa, 1, none⟩ hla (.slice A1 l1.length c1)).set ⟨pb, 0, none⟩ hlb (.int .i64 n2)).set ⟨pb, 1, none⟩ hlb (.slice A2 l2.length c2))
  have e2 := Lib.hid (((((hz2.lower (B' := w.heap.size) hs3).set ⟨pa, 0, none⟩ hla (.int .i64 n1)).set ⟨pa, 1, none⟩ hla (.slice A1 l1.length c1)).set ⟨pb, 0, none⟩ hlb (.int .i64 n2)).set ⟨pb, 1, none⟩ hlb (.slice A2 l2.length c2))
  have e3 : w.heap.size ≤ ((((w3.setCell ⟨pa, 0, none⟩ (.int .i64 n1)).setCell ⟨pa, 1, none⟩ (.slice A1 l1.length c1)).setCell ⟨pb, 0, none⟩ (.int .i64 n2)).setCell ⟨pb, 1, none⟩ (.slice A2 l2.length c2)).heap.size := by simpa using cur.size
  have e4 : ∀ k, k < w.heap.size → k ≠ pa → k ≠ pb → ((((w3.setCell ⟨pa, 0, none⟩ (.int .i64 n1)).setCell ⟨pa, 1, none⟩ (.slice A1 l1.length c1)).setCell ⟨pb, 0, none⟩ (.int .i64 n2)).setCell ⟨pb, 1, none⟩ (.slice A2 l2.length c2)).heap[k]? = w.heap[k]? := fun k hk h1 h2 => by
    rw [Below.heap_setCell _ ⟨pb, 1, none⟩ _ k h2, Below.heap_setCell _ ⟨pb, 0, none⟩ _ k h2, Below.heap_setCell _ ⟨pa, 1, none⟩ _ k h1, Below.heap_setCell _ ⟨pa, 0, none⟩ _ k h1]
    exact cur.block k hk
  have HBo : Both w pa pb (n1, l1) (n2, l2) ((((w3.setCell ⟨pa, 0, none⟩ (.int .i64 n1)).setCell ⟨pa, 1, none⟩ (.slice A1 l1.length c1)).setCell ⟨pb, 0, none⟩ (.int .i64 n2)).setCell ⟨pb, 1, none⟩ (.slice A2 l2.length c2)) :=
    ⟨⟨A1, c1, fa, e1.out⟩, ⟨A2, c2, fb, e2.out⟩, cur.os, cur.tape, cur.output, e3, e4⟩
  have HB2 := Lib.hid HBo
  clear hz1 hz2 e1 e2 e3 e4 HBo hHeld b0 b1 b2 b3 a0 a1 a2 a3 gb2 ga gb cura cur
  obtain ⟨WF, hWF⟩ : ∃ WF, ((((w3.setCell ⟨pa, 0, none⟩ (.int .i64 n1)).setCell ⟨pa, 1, none⟩ (.slice A1 l1.length c1)).setCell ⟨pb, 0, none⟩ (.int .i64 n2)).setCell ⟨pb, 1, none⟩ (.slice A2 l2.length c2)) = WF := ⟨_, rfl⟩
  simp only [hWF] at fa fb HB2 ⊢
  clear hWF
  obtain ⟨a0, a1, -, -⟩ := cells2 fa
  obtain ⟨b0, b1, -, -⟩ := cells2 fb
  go_wp2_with fail
  refine wp_region_held_drew (S := fun w' => w'.cell? ⟨pa, 0, none⟩ = some (.int .i64 n1) ∧ w'.cell? ⟨pb, 0, none⟩ = some (.int .i64 n2)) (by kernel_rfl) ?_ (fun hHeld => ?_)
  focus ((try dsimp only); (first | done | (exact ⟨cell_below ((Below.refl WF.heap.size WF).drew) a0, cell_below ((Below.refl WF.heap.size WF).drew) b0⟩)); done)
  (refine wpAnyH_take (i := 0) (oi := ⟨some 17, _, _, _, _, _⟩) (v := ?_) rfl (by kernel_rfl) (by kernel_rfl) (by kernel_rfl) (fun _ _ _ h => h) (Or.inl ⟨by kernel_rfl, ?_⟩) hHeld ?_; rotate_left; focus (intro w hSw; (try dsimp only at hSw); go_simp; (try with_reducible rfl); done))
  (first | (simp only [Act.put, List.setIfInBounds_toArray, List.set_cons_zero, List.set_cons_succ]) | (simp only [Act.put, List.setIfInBounds_toArray, List.set]) | (simp only [Act.put]) | skip)
  (refine wpAnyH_take (i := 1) (oi := ⟨some 18, _, _, _, _, _⟩) (v := ?_) rfl (by kernel_rfl) (by kernel_rfl) (by kernel_rfl) (fun _ _ _ h => h) (Or.inl ⟨by kernel_rfl, ?_⟩) hHeld ?_; rotate_left; focus (intro w hSw; (try dsimp only at hSw); go_simp; (try with_reducible rfl); done))
  (first | (simp only [Act.put, List.setIfInBounds_toArray, List.set_cons_zero, List.set_cons_succ]) | (simp only [Act.put, List.setIfInBounds_toArray, List.set]) | (simp only [Act.put]) | skip)
  (refine wpAnyH_take (i := 2) (oi := ⟨some 19, _, _, _, _, _⟩) (v := ?_) rfl (by kernel_rfl) (by kernel_rfl) (by kernel_rfl) (fun _ _ _ h => h) (Or.inl ⟨by kernel_rfl, ?_⟩) hHeld ?_; rotate_left; focus (intro w hSw; (try dsimp only at hSw); go_simp; (try with_reducible rfl); done))
  (first | (simp only [Act.put, List.setIfInBounds_toArray, List.set_cons_zero, List.set_cons_succ]) | (simp only [Act.put, List.setIfInBounds_toArray, List.set]) | (simp only [Act.put]) | skip)
  (refine wpAnyH_take (i := 3) (oi := ⟨some 20, _, _, _, _, _⟩) (v := ?_) rfl (by kernel_rfl) (by kernel_rfl) (by kernel_rfl) (fun _ _ _ h => h) (Or.inl ⟨by kernel_rfl, ?_⟩) hHeld ?_; rotate_left; focus (intro w hSw; (try dsimp only at hSw); go_simp; (try with_reducible rfl); done))
  (first | (simp only [Act.put, List.setIfInBounds_toArray, List.set_cons_zero, List.set_cons_succ]) | (simp only [Act.put, List.setIfInBounds_toArray, List.set]) | (simp only [Act.put]) | skip)
  (refine wpAnyH_take (i := 4) (oi := ⟨some 21, _, _, _, _, _⟩) (v := ?_) rfl (by kernel_rfl) (by kernel_rfl) (by kernel_rfl) (fun _ _ _ h => h) (Or.inl ⟨by kernel_rfl, ?_⟩) hHeld ?_; rotate_left; focus (intro w hSw; (try dsimp only at hSw); go_simp; (try with_reducible rfl); done))
  (first | (simp only [Act.put, List.setIfInBounds_toArray, List.set_cons_zero, List.set_cons_succ]) | (simp only [Act.put, List.setIfInBounds_toArray, List.set]) | (simp only [Act.put]) | skip)
  (refine wpAnyH_take (i := 5) (oi := ⟨some 22, _, _, _, _, _⟩) (v := ?_) rfl (by kernel_rfl) (by kernel_rfl) (by kernel_rfl) (fun _ _ _ h => h) (Or.inl ⟨by kernel_rfl, ?_⟩) hHeld ?_; rotate_left; focus (intro w hSw; (try dsimp only at hSw); go_simp; (try with_reducible rfl); done))
  (first | (simp only [Act.put, List.setIfInBounds_toArray, List.set_cons_zero, List.set_cons_succ]) | (simp only [Act.put, List.setIfInBounds_toArray, List.set]) | (simp only [Act.put]) | skip)
  (refine wpAnyH_take (i := 6) (oi := ⟨some 23, _, _, _, _, _⟩) (v := ?_) rfl (by kernel_rfl) (by kernel_rfl) (by kernel_rfl) (fun _ _ _ h => h) (Or.inl ⟨by kernel_rfl, ?_⟩) hHeld ?_; rotate_left; focus (intro w hSw; (try dsimp only at hSw); go_simp; (try with_reducible rfl); done))
  (first | (simp only [Act.put, List.setIfInBounds_toArray, List.set_cons_zero, List.set_cons_succ]) | (simp only [Act.put, List.setIfInBounds_toArray, List.set]) | (simp only [Act.put]) | skip)
  (refine wpAnyH_take (i := 7) (oi := ⟨some 24, _, _, _, _, _⟩) (v := ?_) rfl (by kernel_rfl) (by kernel_rfl) (by kernel_rfl) (fun _ _ _ h => h) (Or.inl ⟨by kernel_rfl, ?_⟩) hHeld ?_; rotate_left; focus (intro w hSw; (try dsimp only at hSw); go_simp; (try with_reducible rfl); done))
  (first | (simp only [Act.put, List.setIfInBounds_toArray, List.set_cons_zero, List.set_cons_succ]) | (simp only [Act.put, List.setIfInBounds_toArray, List.set]) | (simp only [Act.put]) | skip)
  (refine wpAnyH_take (i := 8) (oi := ⟨some 25, _, _, _, _, _⟩) (v := ?_) rfl (by kernel_rfl) (by kernel_rfl) (by kernel_rfl) (fun _ _ _ h => h) (Or.inl ⟨by kernel_rfl, ?_⟩) hHeld ?_; rotate_left; focus (intro w hSw; (try dsimp only at hSw); go_simp; (try with_reducible rfl); done))
  (first | (simp only [Act.put, List.setIfInBounds_toArray, List.set_cons_zero, List.set_cons_succ]) | (simp only [Act.put, List.setIfInBounds_toArray, List.set]) | (simp only [Act.put]) | skip)
  (refine wpAnyH_take (i := 9) (oi := ⟨some 4, _, _, _, _, _⟩) (v := ?_) rfl (by kernel_rfl) (by kernel_rfl) (by kernel_rfl) (fun _ _ _ h => h) (Or.inl ⟨by kernel_rfl, ?_⟩) hHeld ?_; rotate_left; focus (intro w hSw; (try dsimp only at hSw); go_simp; (try with_reducible rfl); done))
  (first | (simp only [Act.put, List.setIfInBounds_toArray, List.set_cons_zero, List.set_cons_succ]) | (simp only [Act.put, List.setIfInBounds_toArray, List.set]) | (simp only [Act.put]) | skip)
  refine wpAnyH_done (by kernel_rfl) ?_ _
  go_wp2_with fail
  go_ret
  exact ⟨rfl, HB2.out.step ((Below.refl _ _).drew)⟩
/-- Two cleaned zones in their boxes. -/
structure TZ (w : World) (s Bz : Nat) (n1 n2 : Int) (l1 l2 : List Int) (A1 B1 : Option Addr) (c1 d1 : Nat) (W : World) : Prop where
  f1 : W.heap[s]? = some (.cells #[.int .i64 n1, .slice A1 l1.length c1] 27 (0, 0))
  f2 : W.heap[s + 1]? = some (.cells #[.int .i64 n2, .slice B1 l2.length d1] 27 (0, 0))
  z1 : ZNew Bz W (.agg #[.int .i64 n1, .slice A1 l1.length c1]) n1 l1
  z2 : ZNew Bz W (.agg #[.int .i64 n2, .slice B1 l2.length d1]) n2 l2
  cur : Below s w W
theorem TZ.step {w : World} {s Bz : Nat} {n1 n2 : Int} {l1 l2 : List Int} {A1 B1 : Option Addr} {c1 d1 : Nat} {W W' : World} (h : TZ w s Bz n1 n2 l1 l2 A1 B1 c1 d1 W) (hb : Below W.heap.size W W') : TZ w s Bz n1 n2 l1 l2 A1 B1 c1 d1 W' :=
  ⟨blk_below h.f1 hb, blk_below h.f2 hb, h.z1.below hb, h.z2.below hb, h.cur.trans (hb.mono (by have := hp_lt h.f1; omega))⟩
theorem ZNew.cellk {B : Nat} {W : World} {N : Int} {A : Option Addr} {c : Nat} {L : List Int} (h : ZNew B W (.agg #[.int .i64 N, .slice A L.length c]) N L) (hn : L ≠ []) : ∃ b o, A = some ⟨b, o, none⟩ ∧ L.length ≤ c ∧ ∀ k, k < L.length → W.cell? ⟨b, o + k, none⟩ = some (.int .i64 (L.getD k 0)) := by
  obtain ⟨A', c', e, ⟨ao, c2, e2, h0, h1, h2⟩, _⟩ := h
  injection e with e
  simp at e
  obtain ⟨rfl, rfl⟩ := e
  injection e2 with e3 e4 e5
  subst e3 e5
  obtain ⟨b, o, h3, _, h4⟩ := h2 hn
  exact ⟨b, o, h3, h0, h4⟩

set_option maxRecDepth 100000 in
set_option maxHeartbeats 4000000 in
theorem Leq_any {va vb : Value} {N M : Int} {L L2 : List Int} (ha : ZAt w va N L) (hb : ZAt w vb M L2) : Calls Tryd.prog 35 #[va, vb] w fun e w' => e = .returned (.bool (Zn.leqP (N, L) (M, L2))) ∧ Below w.heap.size w w' := by
  obtain ⟨A, c, rfl⟩ := ha.form
  obtain ⟨B, d, rfl⟩ := hb.form
  obtain ⟨va, hva, hA⟩ := ha
  obtain ⟨vb, hvb, hB⟩ := hb
  injection hva with hva
  injection hvb with hvb
  simp at hva hvb
  subst hva hvb
  have hsh1 := Zn.cleanP_shape N L
  have hsh2 := Zn.cleanP_shape M L2
  have hbo : ∀ (W : World) (pa pb : Nat), Below w.heap.size w W → W.heap[pa]? = some (.cells #[.int .i64 N, .slice A L.length c] 27 (0, 0)) → W.heap[pb]? = some (.cells #[.int .i64 M, .slice B L2.length d] 27 (0, 0)) → pa ≠ pb →
      Calls Tryd.prog 76 #[.pointer (some ⟨pa, 0, none⟩), .pointer (some ⟨pb, 0, none⟩)] W fun e w' => e = .returned (.bool (decide ((Zn.cleanP N L).1 = (Zn.cleanP M L2).1))) ∧ Both W pa pb (Zn.cleanP N L) (Zn.cleanP M L2) w' := fun W pa pb hbw h1 h2 h3 => both_any h1 h2 h3 (hA.below hbw) (hB.below hbw)
  obtain ⟨z1, hz1⟩ : ∃ z, Zn.cleanP N L = z := ⟨_, rfl⟩
  obtain ⟨z2, hz2⟩ : ∃ z, Zn.cleanP M L2 = z := ⟨_, rfl⟩
  rw [hz1] at hbo hsh1
  rw [hz2] at hbo hsh2
  obtain ⟨n1, l1⟩ := z1
  obtain ⟨n2, l2⟩ := z2
  have HBO := Lib.hid hbo
  have hn0 := hsh1.n0
  have hn6 := hsh1.n6
  have HS1 := Lib.hid hsh1.len
  have HS2 := Lib.hid hsh2.len
  dsimp only at hn0 hn6 HS1 HS2
  clear hsh1 hsh2 hbo hA hB
  have hr : Zn.leqP (N, L) (M, L2) = if n1 = n2 then Zn.leqC l1 l2 else false := by unfold Zn.leqP; rw [hz1, hz2]
  rw [hr]
  clear hz1 hz2 hr
  obtain ⟨r, hr⟩ : ∃ r, (if n1 = n2 then Zn.leqC l1 l2 else false) = r := ⟨_, rfl⟩
  rw [hr]
  have HR := Lib.hid hr
  clear hr
  go_enter Tryd.func35, Tryd.ntmps35
  go_wp2_with fail
  have bA := blk_alloc (blk_new w (.cells #[.int .i64 N, .slice A L.length c] 27)) (.cells #[.int .i64 M, .slice B L2.length d] 27)
  have bB := blk_new (w.alloc (.cells #[.int .i64 N, .slice A L.length c] 27)) (.cells #[.int .i64 M, .slice B L2.length d] 27)
  have cur : Below w.heap.size w ((w.alloc (.cells #[.int .i64 N, .slice A L.length c] 27)).alloc (.cells #[.int .i64 M, .slice B L2.length d] 27)) := psh (psh (Below.refl _ _) (Nat.le_refl _) (.cells #[.int .i64 N, .slice A L.length c] 27)) (Nat.le_refl _) (.cells #[.int .i64 M, .slice B L2.length d] 27)
  have hsz : ((w.alloc (.cells #[.int .i64 N, .slice A L.length c] 27)).alloc (.cells #[.int .i64 M, .slice B L2.length d] 27)).heap.size = w.heap.size + 2 := by simp
  simp only [World.size_alloc] at bB
  obtain ⟨W0, hW0⟩ : ∃ W0, ((w.alloc (.cells #[.int .i64 N, .slice A L.length c] 27)).alloc (.cells #[.int .i64 M, .slice B L2.length d] 27)) = W0 := ⟨_, rfl⟩
  rw [hW0] at bA bB cur hsz ⊢
  clear hW0
  obtain ⟨s, hs⟩ : ∃ s, w.heap.size = s := ⟨_, rfl⟩
  rw [hs] at bA bB cur hsz
  simp only [hs]
  refine (HBO.out W0 s (s + 1) (by rw [hs]; exact cur) bA bB (by omega)).mono ?_
  rintro e W2 ⟨rfl, hBo⟩
  have cur2 := hBo.bel cur (by omega) (by omega) (by omega)
  obtain ⟨⟨A1, c1, f1, i1⟩, ⟨B1, d1, f2, i2⟩, -, -, -, -, hblk⟩ := hBo
  dsimp only at f1 f2 i1 i2
  have T : Hid (TZ w s W0.heap.size n1 n2 l1 l2 A1 B1 c1 d1 W2) := Lib.hid ⟨f1, f2, i1, i2, cur2⟩
  obtain ⟨x0, x1, -, -⟩ := cells2 f1
  obtain ⟨y0, y1, -, -⟩ := cells2 f2
  clear i1 i2 bA bB cur HBO
  obtain ⟨e1, hd1⟩ : ∃ e1, decide (l1 = []) = e1 := ⟨_, rfl⟩
  obtain ⟨e2, hd2⟩ : ∃ e2, decide (l2 = []) = e2 := ⟨_, rfl⟩
  by_cases hnn : n1 = n2
  · subst hnn
    have hr0 : Zn.leqC l1 l2 = r := by have := HR.out; rw [if_pos rfl] at this; exact this
    clear HR
    cases e1
    · have h1 : l1 ≠ [] := of_decide_eq_false hd1
      cases e2
      · have h2 : l2 ≠ [] := of_decide_eq_false hd2
        have hl1 := HS1.out h1
        have hl2 := HS2.out h2
        have HR0 := Lib.hid hr0
        have HLE : Hid (l1.length = l2.length) := Lib.hid (by rw [hl1, hl2])
        have h49 : l1.length ≤ 49 := by rw [hl1]; exact Nat.mul_le_mul (by omega : n1.toNat + 1 ≤ 7) (by omega : n1.toNat + 1 ≤ 7)
        clear hr0 hblk f1 f2 cur2 hl1 hl2 HS1 HS2
        go_wp2_with first | (go_at_call 68; refine (none_any T.out.z1.zat).mono ?_; rw [hd1]; rintro e w3 ⟨rfl, hb3⟩; have T := Lib.hid (T.out.step hb3); obtain ⟨x0, x1, -, -⟩ := cells2 T.out.f1; obtain ⟨y0, y1, -, -⟩ := cells2 T.out.f2; clear hb3) | (go_at_call 68; refine (none_any T.out.z2.zat).mono ?_; rw [hd2]; rintro e w3 ⟨rfl, hb3⟩; have T := Lib.hid (T.out.step hb3); obtain ⟨x0, x1, -, -⟩ := cells2 T.out.f1; obtain ⟨y0, y1, -, -⟩ := cells2 T.out.f2; clear hb3)
        obtain ⟨b1, o1, rfl, hc1, hk1⟩ := T.out.z1.cellk h1
        obtain ⟨b2, o2, rfl, hc2, hk2⟩ := T.out.z2.cellk h2
        clear hk1 hk2 x0 x1 y0 y1
        go_loopg [19] l1.length (fun gk i wr => ∃ k : Nat, i = .int .i64 k ∧ k + gk = l1.length ∧ Hid (∀ j, j < k → l1.getD j 0 ≤ l2.getD j 0) ∧ Hid (TZ w s W0.heap.size n1 n1 l1 l2 (some ⟨b1, o1, none⟩) (some ⟨b2, o2, none⟩) c1 d1 wr))
        case atStart => exact ⟨0, rfl, by omega, Lib.hid (fun j hj => by omega), T⟩
        case round =>
          obtain ⟨k, rfl, hk, HA, T⟩ := hrel
          by_cases hlt : k < l1.length
          · have hlt2 : k < l2.length := by have := HLE.out; omega
            obtain ⟨b1', o1', e, _, hk1⟩ := T.out.z1.cellk h1
            cases e
            obtain ⟨b2', o2', e, _, hk2⟩ := T.out.z2.cellk h2
            cases e
            have q1 := hk1 k hlt
            have q2 := hk2 k hlt2
            obtain ⟨x, hx⟩ : ∃ x, l1.getD k 0 = x := ⟨_, rfl⟩
            obtain ⟨y, hy⟩ : ∃ y, l2.getD k 0 = y := ⟨_, rfl⟩
            rw [hx] at q1
            rw [hy] at q2
            obtain ⟨x0, x1, -, -⟩ := cells2 T.out.f1
            obtain ⟨y0, y1, -, -⟩ := cells2 T.out.f2
            have HX := Lib.hid hx
            have HY := Lib.hid hy
            have hi0 : (0 : Int) ≤ (k : Int) := by omega
            have hi1 : (k : Int) < (l1.length : Int) := by omega
            have hi2 : (k : Int) < (l2.length : Int) := by omega
            clear hk1 hk2 hx hy
            go_wp2_with fail
            refine wp_region_held_drew (S := fun w' => w'.cell? ⟨s, 1, none⟩ = some (.slice (some ⟨b1, o1, none⟩) l1.length c1) ∧ w'.cell? ⟨s + 1, 1, none⟩ = some (.slice (some ⟨b2, o2, none⟩) l2.length d1) ∧ w'.cell? ⟨b1, o1 + k, none⟩ = some (.int .i64 x) ∧ w'.cell? ⟨b2, o2 + k, none⟩ = some (.int .i64 y)) (by kernel_rfl) ?_ (fun hHeld => ?_)
            focus ((try dsimp only); (first | done | (exact ⟨cell_below ((Below.refl wr.heap.size wr).drew) x1, cell_below ((Below.refl wr.heap.size wr).drew) y1, cell_below ((Below.refl wr.heap.size wr).drew) q1, cell_below ((Below.refl wr.heap.size wr).drew) q2⟩)); done)
            (refine wpAnyH_take (i := 0) (oi := ⟨some 22, _, _, _, _, _⟩) (v := ?_) rfl (by kernel_rfl) (by kernel_rfl) (by kernel_rfl) (fun _ _ _ h => h) (Or.inl ⟨by kernel_rfl, ?_⟩) hHeld ?_; rotate_left; focus (intro w hSw; (try dsimp only at hSw); go_simp; (try with_reducible rfl); done))
            (first | (simp only [Act.put, List.setIfInBounds_toArray, List.set_cons_zero, List.set_cons_succ]) | (simp only [Act.put, List.setIfInBounds_toArray, List.set]) | (simp only [Act.put]) | skip)
            (refine wpAnyH_take (i := 1) (oi := ⟨some 23, _, _, _, _, _⟩) (v := ?_) rfl (by kernel_rfl) (by kernel_rfl) (by kernel_rfl) (fun _ _ _ h => h) (Or.inl ⟨by kernel_rfl, ?_⟩) hHeld ?_; rotate_left; focus (intro w hSw; (try dsimp only at hSw); go_simp; (try with_reducible rfl); done))
            (first | (simp only [Act.put, List.setIfInBounds_toArray, List.set_cons_zero, List.set_cons_succ]) | (simp only [Act.put, List.setIfInBounds_toArray, List.set]) | (simp only [Act.put]) | skip)
            (refine wpAnyH_take (i := 2) (oi := ⟨some 24, _, _, _, _, _⟩) (v := ?_) rfl (by kernel_rfl) (by kernel_rfl) (by kernel_rfl) (fun _ _ _ h => h) (Or.inl ⟨by kernel_rfl, ?_⟩) hHeld ?_; rotate_left; focus (intro w hSw; (try dsimp only at hSw); go_simp; (try with_reducible rfl); done))
            (first | (simp only [Act.put, List.setIfInBounds_toArray, List.set_cons_zero, List.set_cons_succ]) | (simp only [Act.put, List.setIfInBounds_toArray, List.set]) | (simp only [Act.put]) | skip)
            (refine wpAnyH_take (i := 3) (oi := ⟨some 25, _, _, _, _, _⟩) (v := ?_) rfl (by kernel_rfl) (by kernel_rfl) (by kernel_rfl) (fun _ _ _ h => h) (Or.inl ⟨by kernel_rfl, ?_⟩) hHeld ?_; rotate_left; focus (intro w hSw; (try dsimp only at hSw); go_simp; (try with_reducible rfl); done))
            (first | (simp only [Act.put, List.setIfInBounds_toArray, List.set_cons_zero, List.set_cons_succ]) | (simp only [Act.put, List.setIfInBounds_toArray, List.set]) | (simp only [Act.put]) | skip)
            (refine wpAnyH_take (i := 4) (oi := ⟨some 26, _, _, _, _, _⟩) (v := ?_) rfl (by kernel_rfl) (by kernel_rfl) (by kernel_rfl) (fun _ _ _ h => h) (Or.inl ⟨by kernel_rfl, ?_⟩) hHeld ?_; rotate_left; focus (intro w hSw; (try dsimp only at hSw); go_simp; (try with_reducible rfl); done))
            (first | (simp only [Act.put, List.setIfInBounds_toArray, List.set_cons_zero, List.set_cons_succ]) | (simp only [Act.put, List.setIfInBounds_toArray, List.set]) | (simp only [Act.put]) | skip)
            (refine wpAnyH_take (i := 5) (oi := ⟨some 27, _, _, _, _, _⟩) (v := ?_) rfl (by kernel_rfl) (by kernel_rfl) (by kernel_rfl) (fun _ _ _ h => h) (Or.inl ⟨by kernel_rfl, ?_⟩) hHeld ?_; rotate_left; focus (intro w hSw; (try dsimp only at hSw); go_simp; (try with_reducible rfl); done))
            (first | (simp only [Act.put, List.setIfInBounds_toArray, List.set_cons_zero, List.set_cons_succ]) | (simp only [Act.put, List.setIfInBounds_toArray, List.set]) | (simp only [Act.put]) | skip)
            (refine wpAnyH_take (i := 6) (oi := ⟨some 28, _, _, _, _, _⟩) (v := ?_) rfl (by kernel_rfl) (by kernel_rfl) (by kernel_rfl) (fun _ _ _ h => h) (Or.inl ⟨by kernel_rfl, ?_⟩) hHeld ?_; rotate_left; focus (intro w hSw; (try dsimp only at hSw); go_simp; (try with_reducible rfl); done))
            (first | (simp only [Act.put, List.setIfInBounds_toArray, List.set_cons_zero, List.set_cons_succ]) | (simp only [Act.put, List.setIfInBounds_toArray, List.set]) | (simp only [Act.put]) | skip)
            (refine wpAnyH_take (i := 7) (oi := ⟨some 29, _, _, _, _, _⟩) (v := ?_) rfl (by kernel_rfl) (by kernel_rfl) (by kernel_rfl) (fun _ _ _ h => h) (Or.inl ⟨by kernel_rfl, ?_⟩) hHeld ?_; rotate_left; focus (intro w hSw; (try dsimp only at hSw); go_simp; (try with_reducible rfl); done))
            (first | (simp only [Act.put, List.setIfInBounds_toArray, List.set_cons_zero, List.set_cons_succ]) | (simp only [Act.put, List.setIfInBounds_toArray, List.set]) | (simp only [Act.put]) | skip)
            (refine wpAnyH_take (i := 8) (oi := ⟨some 30, _, _, _, _, _⟩) (v := ?_) rfl (by kernel_rfl) (by kernel_rfl) (by kernel_rfl) (fun _ _ _ h => h) (Or.inl ⟨by kernel_rfl, ?_⟩) hHeld ?_; rotate_left; focus (intro w hSw; (try dsimp only at hSw); go_simp; (try with_reducible rfl); done))
            (first | (simp only [Act.put, List.setIfInBounds_toArray, List.set_cons_zero, List.set_cons_succ]) | (simp only [Act.put, List.setIfInBounds_toArray, List.set]) | (simp only [Act.put]) | skip)
            (refine wpAnyH_take (i := 9) (oi := ⟨some 31, _, _, _, _, _⟩) (v := ?_) rfl (by kernel_rfl) (by kernel_rfl) (by kernel_rfl) (fun _ _ _ h => h) (Or.inl ⟨by kernel_rfl, ?_⟩) hHeld ?_; rotate_left; focus (intro w hSw; (try dsimp only at hSw); go_simp; (try with_reducible rfl); done))
            (first | (simp only [Act.put, List.setIfInBounds_toArray, List.set_cons_zero, List.set_cons_succ]) | (simp only [Act.put, List.setIfInBounds_toArray, List.set]) | (simp only [Act.put]) | skip)
            (refine wpAnyH_take (i := 10) (oi := ⟨some 32, _, _, _, _, _⟩) (v := ?_) rfl (by kernel_rfl) (by kernel_rfl) (by kernel_rfl) (fun _ _ _ h => h) (Or.inl ⟨by kernel_rfl, ?_⟩) hHeld ?_; rotate_left; focus (intro w hSw; (try dsimp only at hSw); go_simp; (try with_reducible rfl); done))
            (first | (simp only [Act.put, List.setIfInBounds_toArray, List.set_cons_zero, List.set_cons_succ]) | (simp only [Act.put, List.setIfInBounds_toArray, List.set]) | (simp only [Act.put]) | skip)
            refine wpAnyH_done (by kernel_rfl) ?_ _
            have T2 := Lib.hid (T.out.step ((Below.refl wr.heap.size wr).drew))
            clear T hHeld x0 x1 y0 y1 q1 q2
            by_cases hxy : y < x
            · obtain rfl : r = false := by rw [← HR0.out]; exact Zn.leqC_false h1 h2 hlt (by rw [HX.out, HY.out]; omega)
              clear HR0
              go_wp2_with fail
              go_ret
              exact ⟨rfl, by first | exact T2.out.cur | (rw [hs]; exact T2.out.cur)⟩
            · go_wp2_with fail
              go_roundg (gk - 1)
              case measure => omega
              case rel => exact ⟨k + 1, by go_num, by omega, Lib.hid (fun j hj => by
                by_cases e : j = k
                · rw [e, HX.out, HY.out]; omega
                · exact HA.out j (by omega)), T2⟩
          · obtain rfl : k = l1.length := by omega
            obtain rfl : r = true := by rw [← HR0.out]; exact Zn.leqC_true h1 h2 HA.out
            clear HR0
            go_wp2_with fail
            go_ret
            exact ⟨rfl, by first | exact T.out.cur | (rw [hs]; exact T.out.cur)⟩
      · have h2 : l2 = [] := of_decide_eq_true hd2
        obtain rfl : r = false := by rw [← hr0, h2]; unfold Zn.leqC; simp [h1]
        clear hr0 hblk f1 f2 cur2 h1 h2
        go_wp2_with first | (go_at_call 68; refine (none_any T.out.z1.zat).mono ?_; rw [hd1]; rintro e w3 ⟨rfl, hb3⟩; have T := Lib.hid (T.out.step hb3); obtain ⟨x0, x1, -, -⟩ := cells2 T.out.f1; obtain ⟨y0, y1, -, -⟩ := cells2 T.out.f2; clear hb3) | (go_at_call 68; refine (none_any T.out.z2.zat).mono ?_; rw [hd2]; rintro e w3 ⟨rfl, hb3⟩; have T := Lib.hid (T.out.step hb3); obtain ⟨x0, x1, -, -⟩ := cells2 T.out.f1; obtain ⟨y0, y1, -, -⟩ := cells2 T.out.f2; clear hb3)
        go_ret
        exact ⟨rfl, by first | exact T.out.cur | (rw [hs]; exact T.out.cur)⟩
    · have h1 : l1 = [] := of_decide_eq_true hd1
      obtain rfl : r = true := by rw [← hr0, h1]; unfold Zn.leqC; simp
      clear hr0 hblk f1 f2 cur2 h1
      go_wp2_with first | (go_at_call 68; refine (none_any T.out.z1.zat).mono ?_; rw [hd1]; rintro e w3 ⟨rfl, hb3⟩; have T := Lib.hid (T.out.step hb3); obtain ⟨x0, x1, -, -⟩ := cells2 T.out.f1; obtain ⟨y0, y1, -, -⟩ := cells2 T.out.f2; clear hb3) | (go_at_call 68; refine (none_any T.out.z2.zat).mono ?_; rw [hd2]; rintro e w3 ⟨rfl, hb3⟩; have T := Lib.hid (T.out.step hb3); obtain ⟨x0, x1, -, -⟩ := cells2 T.out.f1; obtain ⟨y0, y1, -, -⟩ := cells2 T.out.f2; clear hb3)
      go_ret
      exact ⟨rfl, by first | exact T.out.cur | (rw [hs]; exact T.out.cur)⟩
  · obtain rfl : r = false := by rw [← HR.out, if_neg hnn]
    clear HR
    go_wp2_with fail
    go_ret
    exact ⟨rfl, by first | exact cur2 | (rw [hs]; exact cur2)⟩
end Go.Proofs.YtjhccmjgfngkcaaDoor.PZoneSame
