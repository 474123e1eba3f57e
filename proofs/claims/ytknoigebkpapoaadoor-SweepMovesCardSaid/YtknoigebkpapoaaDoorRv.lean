/- Walk of the document's Move: it answers as the plain law of moving does. -/
import Derived.Test.YtknoigebkpapoaaDoorRb
set_option linter.unusedVariables false
set_option linter.unusedSimpArgs false
namespace Go.Proofs.YtknoigebkpapoaaDoor
open Go.RowKit Go.Deep
variable {w : World}

/-- The boxes of a call of Move. -/
structure Mb (w0 wr : World) (lima : Int) (vla : Value) (lim : Int) (vlt : Value) (n : Nd) : Prop where
  b0 : wr.heap[w0.heap.size]? = some (.cells #[.int .i64 lima, vla] 27 (0, 0))
  b1 : wr.heap[w0.heap.size + 1]? = some (.cells #[.int .i64 lim, vlt] 27 (0, 0))
  b2 : wr.heap[w0.heap.size + 1 + 1]? = some (.cells #[.int .i64 0, .slice none 0 0] 27 (0, 0))
  b3 : wr.heap[w0.heap.size + 1 + 1 + 1]? = some (.cells #[.int .i64 n.v, .int .i64 n.l, .int .i64 n.h] 56 (0, 0))
  bel : Below w0.heap.size w0 wr

section
variable {w0 wr w' : World} {lima lim : Int} {vla vlt : Value} {n : Nd}
theorem Mb.step (h : Mb w0 wr lima vla lim vlt n) (t : Below wr.heap.size wr w') : Mb w0 w' lima vla lim vlt n :=
  ⟨(t.block _ (lt_of_heap h.b0)).trans h.b0, (t.block _ (lt_of_heap h.b1)).trans h.b1, (t.block _ (lt_of_heap h.b2)).trans h.b2, (t.block _ (lt_of_heap h.b3)).trans h.b3, Below.seq h.bel (Nat.le_refl _) t⟩
theorem Mb.put (h : Mb w0 wr lima vla lim vlt n) (vl' : Value) : Mb w0 ((wr.setCell ⟨w0.heap.size + 1, 0, none⟩ (.int .i64 lim)).setCell ⟨w0.heap.size + 1, 1, none⟩ vl') lima vla lim vl' n := by
  have T : Touch wr ((wr.setCell ⟨w0.heap.size + 1, 0, none⟩ (.int .i64 lim)).setCell ⟨w0.heap.size + 1, 1, none⟩ vl') (fun i => i = w0.heap.size + 1) :=
    Touch.setCell (S := fun i => i = w0.heap.size + 1) (p := ⟨w0.heap.size + 1, 1, none⟩) (Touch.setCell (S := fun i => i = w0.heap.size + 1) (p := ⟨w0.heap.size + 1, 0, none⟩) (Touch.refl _ _) (.inl rfl) _) (.inl rfl) _
  exact ⟨T.heap h.b0 (by omega), put2 h.b1 _ _, T.heap h.b2 (by omega), T.heap h.b3 (by omega), (h.bel.setCell (p := ⟨w0.heap.size + 1, 0, none⟩) (by simp) _).setCell (p := ⟨w0.heap.size + 1, 1, none⟩) (by simp) _⟩
theorem Mb.row (h : Mb w0 wr lima vla lim vlt n) {vl' : Value} {L : List Nd} (R : Row wr vl' L) (u : Value) : Row ((wr.setCell ⟨w0.heap.size + 1, 0, none⟩ (.int .i64 lim)).setCell ⟨w0.heap.size + 1, 1, none⟩ u) vl' L :=
  ownsRow_touch R (Touch.setCell (S := fun i => i = w0.heap.size + 1) (p := ⟨w0.heap.size + 1, 1, none⟩) (Touch.setCell (S := fun i => i = w0.heap.size + 1) (p := ⟨w0.heap.size + 1, 0, none⟩) (Touch.refl _ _) (.inl rfl) _) (.inl rfl) _)
    (fun g hg e => row_ne R hg (e ▸ h.b1))
/-- The end: the result's box is filled. -/
theorem mb_out (b2 : wr.heap[w0.heap.size + 1 + 1]? = some (.cells #[.int .i64 0, .slice none 0 0] 27 (0, 0))) (bel : Below w0.heap.size w0 wr) {vl' : Value} {L : List Nd} (R : Row wr vl' L) {x en : Int}
    (ho : ∀ k, vl'.ownBlock = some k → vlt.ownBlock = some k ∨ w0.heap.size ≤ k) :
    ((wr.setCell ⟨w0.heap.size + 1 + 1, 0, none⟩ (.int .i64 lim)).setCell ⟨w0.heap.size + 1 + 1, 1, none⟩ vl').heap[w0.heap.size + 1 + 1]? = some (.cells #[.int .i64 lim, vl'] 27 (0, 0)) ∧
    RMk w0 lim vlt L x en (.returned (.tuple #[.agg #[.int .i64 lim, vl'], .int .i64 x, .int .i64 en])) ((wr.setCell ⟨w0.heap.size + 1 + 1, 0, none⟩ (.int .i64 lim)).setCell ⟨w0.heap.size + 1 + 1, 1, none⟩ vl') :=
  ⟨put2 b2 _ _, vl', rfl, ownsRow_touch R (Touch.setCell (S := fun i => i = w0.heap.size + 1 + 1) (p := ⟨w0.heap.size + 1 + 1, 1, none⟩) (Touch.setCell (S := fun i => i = w0.heap.size + 1 + 1) (p := ⟨w0.heap.size + 1 + 1, 0, none⟩) (Touch.refl _ _) (.inl rfl) _) (.inl rfl) _)
    (fun g hg e => row_ne R hg (e ▸ b2)), (bel.setCell (p := ⟨w0.heap.size + 1 + 1, 0, none⟩) (by simp; omega) _).setCell (p := ⟨w0.heap.size + 1 + 1, 1, none⟩) (by simp; omega) _, ho⟩
theorem Mb.out (h : Mb w0 wr lima vla lim vlt n) {v0 vl' : Value} {L : List Nd} (R : Row wr vl' L) {x en : Int} (ho : ∀ k, vl'.ownBlock = some k → v0.ownBlock = some k ∨ w0.heap.size ≤ k) :
    ((wr.setCell ⟨w0.heap.size + 1 + 1, 0, none⟩ (.int .i64 lim)).setCell ⟨w0.heap.size + 1 + 1, 1, none⟩ vl').heap[w0.heap.size + 1 + 1]? = some (.cells #[.int .i64 lim, vl'] 27 (0, 0)) ∧
    RMk w0 lim v0 L x en (.returned (.tuple #[.agg #[.int .i64 lim, vl'], .int .i64 x, .int .i64 en])) ((wr.setCell ⟨w0.heap.size + 1 + 1, 0, none⟩ (.int .i64 lim)).setCell ⟨w0.heap.size + 1 + 1, 1, none⟩ vl') :=
  mb_out h.b2 h.bel R ho
end

def mb3 (w : World) (lima lim : Int) (vla vlt : Value) : World :=
  ((w.alloc (.cells #[.int .i64 lima, vla] 27)).alloc (.cells #[.int .i64 lim, vlt] 27)).alloc (.cells #[.int .i64 0, .slice none 0 0] 27)
theorem mb3_below (w : World) (lima lim : Int) (vla vlt : Value) : Below w.heap.size w (mb3 w lima lim vla vlt) :=
  Below.push (Below.push (Below.push (Below.refl _ w) (Nat.le_refl _) _) (Nat.le_refl _) _) (Nat.le_refl _) _
theorem mb3_b2 (w : World) (lima lim : Int) (vla vlt : Value) : (mb3 w lima lim vla vlt).heap[w.heap.size + 1 + 1]? = some (.cells #[.int .i64 0, .slice none 0 0] 27 (0, 0)) := by
  have := heap_alloc_new ((w.alloc (.cells #[.int .i64 lima, vla] 27)).alloc (.cells #[.int .i64 lim, vlt] 27)) (.cells #[.int .i64 0, .slice none 0 0] 27)
  simpa [mb3] using this
theorem mb_start (w : World) (lima lim : Int) (vla vlt : Value) (n : Nd) : Mb w ((mb3 w lima lim vla vlt).alloc (.cells #[.int .i64 n.v, .int .i64 n.l, .int .i64 n.h] 56)) lima vla lim vlt n := by
  have h0 := heap_alloc_new w (.cells #[.int .i64 lima, vla] 27)
  have h1 := heap_alloc_new (w.alloc (.cells #[.int .i64 lima, vla] 27)) (.cells #[.int .i64 lim, vlt] 27)
  have h3 := heap_alloc_new (mb3 w lima lim vla vlt) (.cells #[.int .i64 n.v, .int .i64 n.l, .int .i64 n.h] 56)
  have e1 : (w.alloc (.cells #[.int .i64 lima, vla] 27)).heap.size = w.heap.size + 1 := by simp
  have e3 : (mb3 w lima lim vla vlt).heap.size = w.heap.size + 1 + 1 + 1 := by simp [mb3]
  rw [e1] at h1
  rw [e3] at h3
  exact ⟨heap_alloc_lt _ (heap_alloc_lt _ (heap_alloc_lt _ h0)), heap_alloc_lt _ (heap_alloc_lt _ h1), heap_alloc_lt _ (mb3_b2 w lima lim vla vlt), h3, Below.push (mb3_below w lima lim vla vlt) (Nat.le_refl _) _⟩

theorem mv_same {lima lim : Int} {vla vlt : Value} {Lt : List Nd} {f : Int} (hT : Row w vlt Lt) :
    (((w.alloc (.cells #[.int .i64 lima, vla] 27)).alloc (.cells #[.int .i64 lim, vlt] 27)).alloc (.cells #[.int .i64 lim, vlt] 27)).heap[w.heap.size + 1 + 1]? = some (.cells #[.int .i64 lim, vlt] 27 (0, 0)) ∧
    RMk w lim vlt Lt f 0 (.returned (.tuple #[.agg #[.int .i64 lim, vlt], .int .i64 f, .int .i64 0])) (((w.alloc (.cells #[.int .i64 lima, vla] 27)).alloc (.cells #[.int .i64 lim, vlt] 27)).alloc (.cells #[.int .i64 lim, vlt] 27)) := by
  have hb : Below w.heap.size w (((w.alloc (.cells #[.int .i64 lima, vla] 27)).alloc (.cells #[.int .i64 lim, vlt] 27)).alloc (.cells #[.int .i64 lim, vlt] 27)) :=
    Below.push (Below.push (Below.push (Below.refl _ w) (Nat.le_refl _) _) (Nat.le_refl _) _) (Nat.le_refl _) _
  refine ⟨?_, vlt, rfl, hT.below hb, hb, fun _ h => .inl h⟩
  have := heap_alloc_new ((w.alloc (.cells #[.int .i64 lima, vla] 27)).alloc (.cells #[.int .i64 lim, vlt] 27)) (.cells #[.int .i64 lim, vlt] 27)
  simpa using this

set_option maxRecDepth 100000 in
set_option maxHeartbeats 1000000 in
theorem ref_move_not {lima lim : Int} {vla vlt : Value} {La Lt : List Nd} (hA : Row w vla La) (hT : Row w vlt Lt) (f : Int) (hf : ¬ Ar.isN La f) :
    Calls Tryd.prog 20 #[.agg #[.int .i64 lima, vla], .agg #[.int .i64 lim, vlt], .int .i64 f] w (RMk w lim vlt Lt f 0) := by
  obtain ⟨⟨ao, cap, rfl⟩, hn⟩ := hA.shape
  obtain ⟨⟨at_, capt, rfl⟩, hnt⟩ := hT.shape
  have H := Lib.hid (mv_same (lima := lima) (lim := lim) (vla := .slice ao La.length cap) (f := f) hT)
  clear hA hT
  unfold Ar.isN at hf
  by_cases h0 : f < 0
  · clear hf
    go_enter Tryd.func20, Tryd.ntmps20
    go_wp2_with fail
    refine bodyPost_ret (results_ctt rfl _ _ (w.heap.size + 1 + 1) 27 #[.int .i64 lim, .slice at_ Lt.length capt] (0, 0) _ rfl H.out.1 Tryd.underlying27 rfl info_ref) rfl ?_
    exact H.out.2
  · have h1 : (La.length : Int) ≤ f := by omega
    clear hf
    go_enter Tryd.func20, Tryd.ntmps20
    go_wp2_with fail
    refine bodyPost_ret (results_ctt rfl _ _ (w.heap.size + 1 + 1) 27 #[.int .i64 lim, .slice at_ Lt.length capt] (0, 0) _ rfl H.out.1 Tryd.underlying27 rfl info_ref) rfl ?_
    exact H.out.2

set_option maxRecDepth 100000 in
set_option maxHeartbeats 4000000 in
theorem ref_move_node {lima lim : Int} {vla vlt : Value} {La Lt : List Nd} (hA : Row w vla La) (ok : Ar.Ok La) (hT : Row w vlt Lt) (k : Nat) (hk : k < La.length) (hs : Lt.length + Ar.cost La k ≤ 1000000000000)
    (ih : ∀ (w : World) (vlt : Value) (Lt : List Nd) (hA : Row w vla La) (hT : Row w vlt Lt) (j : Int) (hj : j < k) (hs : Lt.length + Ar.cost La j ≤ 1000000000000),
      Calls Tryd.prog 20 #[.agg #[.int .i64 lima, vla], .agg #[.int .i64 lim, vlt], .int .i64 j] w (RMk w lim vlt (Ar.mv lim La (j.toNat + 1) Lt j).1 (Ar.mv lim La (j.toNat + 1) Lt j).2.1 (Ar.mv lim La (j.toNat + 1) Lt j).2.2)) :
    Calls Tryd.prog 20 #[.agg #[.int .i64 lima, vla], .agg #[.int .i64 lim, vlt], .int .i64 k] w (RMk w lim vlt (Ar.mv lim La (k + 1) Lt k).1 (Ar.mv lim La (k + 1) Lt k).2.1 (Ar.mv lim La (k + 1) Lt k).2.2) := by
  have hn : Ar.isN La k := ⟨by omega, by omega⟩
  have hc := Ar.cost_node ok hn
  have hch := Ar.ok_child ok hn
  rw [Ar.nd_at hk] at hc hch
  have B0 := mb_start w lima lim vla vlt La[k]
  have HA0 := Lib.hid (hA.below B0.bel)
  have HT0 := Lib.hid (hT.below B0.bel)
  have IH := Lib.hid ih
  obtain ⟨⟨at_, capt, rfl⟩, hnt⟩ := hT.shape
  obtain ⟨bl, cap, rfl, hbl, hnn, c0, c1, c2⟩ := row_node hA k hk
  have hkd : decide ((k : Int) < 0) = false := decide_eq_false (by omega)
  have hbl1 : bl < w.heap.size + 1 := by omega
  have hbl2 : bl < w.heap.size + 1 + 1 := by omega
  have HB0 := Lib.hid B0
  have HC := Lib.hid hch
  have HOK := Lib.hid ok
  unfold mb3 at HA0 HT0 HB0
  clear hA hT ih B0 hch hn ok
  rcases hr1 : Ar.mv lim La (La[k].l.toNat + 1) Lt La[k].l with ⟨L1, x1, e1⟩
  have hL1 := Ar.mv_length (lim := lim) HOK.out (La[k].l.toNat + 1) Lt La[k].l
  rw [hr1] at hL1
  have HR1 := Lib.hid hr1
  have HF := Lib.hid (show Ar.mv lim La k Lt (Ar.nd La k).l = (L1, x1, e1) by rw [Ar.nd_at hk, ← hr1]; exact Ar.mv_stable HOK.out _ _ _ _ HC.out.2.2.2.2.1 (by have := HC.out.2.2.2.2.1; omega))
  have Rc := IH.out _ _ Lt HA0.out HT0.out La[k].l HC.out.2.2.2.2.1 (by omega)
  rw [hr1] at Rc
  have HRc := Lib.hid Rc
  clear hr1 Rc HT0
  go_enter Tryd.func20, Tryd.ntmps20
  go_wp2_with fail
  refine HRc.out.mono ?_
  rintro e w1 ⟨vl1, rfl, R1, hb1, ho1⟩
  have B1 := HB0.out.step hb1
  have HA1 := Lib.hid (HA0.out.below hb1)
  have hs1 := hb1.size
  simp only [World.size_alloc] at hs1
  have HO1 : Hid (∀ i, vl1.ownBlock = some i → (Value.slice at_ Lt.length capt).ownBlock = some i ∨ w.heap.size ≤ i) := fun i h => (ho1 i h).imp id (fun c => by simp at c; omega)
  obtain ⟨⟨ao1, cap1, rfl⟩, hn1⟩ := R1.shape
  have HR1' := Lib.hid R1
  have HB1 := Lib.hid B1
  have y0 := cell_at B1.b1 0 (v := .int .i64 lim) rfl
  have y1 := cell_at B1.b1 1 (v := .slice at_ Lt.length capt) rfl
  have f0 := free_at B1.b1 0
  have f1 := free_at B1.b1 1
  have z0 := cell_at B1.b2 0 (v := .int .i64 0) rfl
  have z1 := cell_at B1.b2 1 (v := .slice none 0 0) rfl
  have g0 := free_at B1.b2 0
  have g1 := free_at B1.b2 1
  have x0 := cell_at B1.b0 0 (v := .int .i64 lima) rfl
  have x1' := cell_at B1.b0 1 (v := .slice (some ⟨bl, 0, none⟩) La.length cap) rfl
  have n2 := cell_at B1.b3 2 (v := .int .i64 La[k].h) rfl
  clear HRc HB0 HA0 R1 B1 hb1 ho1 c0 c1 c2
  by_cases he : e1 = 0
  · subst he
    have B2 := HB1.out.put (.slice ao1 L1.length cap1)
    have RA2 := HB1.out.row HA1.out (.slice ao1 L1.length cap1)
    have RT2 := HB1.out.row HR1'.out (.slice ao1 L1.length cap1)
    rcases hr2 : Ar.mv lim La (La[k].h.toNat + 1) L1 La[k].h with ⟨L2, x2, e2⟩
    have hL2 := Ar.mv_length (lim := lim) HOK.out (La[k].h.toNat + 1) L1 La[k].h
    rw [hr2] at hL2
    have HG := Lib.hid (show Ar.mv lim La k L1 (Ar.nd La k).h = (L2, x2, e2) by rw [Ar.nd_at hk, ← hr2]; exact Ar.mv_stable HOK.out _ _ _ _ HC.out.2.2.2.2.2.2.1 (by have := HC.out.2.2.2.2.2.2.1; omega))
    have Rc := IH.out _ _ L1 RA2 RT2 La[k].h HC.out.2.2.2.2.2.2.1 (by omega)
    rw [hr2] at Rc
    have HRc := Lib.hid Rc
    have HB2 := Lib.hid B2
    have HA2 := Lib.hid RA2
    clear hr2 Rc B2 RA2 RT2
    go_wp2_with fail
    refine HRc.out.mono ?_
    rintro e w3 ⟨vl2, rfl, R3, hb3, ho3⟩
    have B3 := HB2.out.step hb3
    have HA3 := Lib.hid (HA2.out.below hb3)
    have hs3 := hb3.size
    have HS2 := HB2.out.bel.size
    have HO3 : Hid (∀ i, vl2.ownBlock = some i → (Value.slice at_ Lt.length capt).ownBlock = some i ∨ w.heap.size ≤ i) := fun i h => by
      rcases ho3 i h with c | c
      · exact HO1.out i c
      · exact .inr (Nat.le_trans HS2 c)
    obtain ⟨⟨ao2, cap2, rfl⟩, hn2⟩ := R3.shape
    have HR3 := Lib.hid R3
    have HB3 := Lib.hid B3
    have y0 := cell_at B3.b1 0 (v := .int .i64 lim) rfl
    have y1 := cell_at B3.b1 1 (v := .slice ao1 L1.length cap1) rfl
    have f0 := free_at B3.b1 0
    have f1 := free_at B3.b1 1
    have z0 := cell_at B3.b2 0 (v := .int .i64 0) rfl
    have z1 := cell_at B3.b2 1 (v := .slice none 0 0) rfl
    have g0 := free_at B3.b2 0
    have g1 := free_at B3.b2 1
    have n0 := cell_at B3.b3 0 (v := .int .i64 La[k].v) rfl
    clear HRc HB2 HA2 R3 B3 hb3 ho3 HR1' HB1
    by_cases he : e2 = 0
    · subst he
      have RT4 := HB3.out.row HR3.out (.slice ao2 L2.length cap2)
      have B4 := HB3.out.put (.slice ao2 L2.length cap2)
      rcases hr3 : Ar.mk lim L2 La[k].v x1 x2 with ⟨L3, x3, e3⟩
      have HV := Lib.hid (show Ar.mv lim La (k + 1) Lt k = (L3, x3, e3) by rw [Ar.mv_node (n := k) ⟨by omega, by omega⟩ HF.out HG.out, Ar.nd_at hk]; exact hr3)
      have Rc := ref_mk (lim := lim) RT4 La[k].v x1 x2 (by omega)
      rw [hr3] at Rc
      have HRc := Lib.hid Rc
      have HB4 := Lib.hid B4
      clear hr3 Rc B4 RT4
      go_wp2_with fail
      refine HRc.out.mono ?_
      rintro e w5 ⟨vl3, rfl, R5, hb5, ho5⟩
      have B5 := HB4.out.step hb5
      have HS4 := HB4.out.bel.size
      have HO5 : Hid (∀ i, vl3.ownBlock = some i → (Value.slice at_ Lt.length capt).ownBlock = some i ∨ w.heap.size ≤ i) := fun i h => by
        rcases ho5 i h with c | c
        · exact HO3.out i c
        · exact .inr (Nat.le_trans HS4 c)
      obtain ⟨⟨ao3, cap3, rfl⟩, hn3⟩ := R5.shape
      have HQ := Lib.hid (B5.out R5 (x := x3) (en := e3) HO5.out)
      have z0 := cell_at B5.b2 0 (v := .int .i64 0) rfl
      have z1 := cell_at B5.b2 1 (v := .slice none 0 0) rfl
      have g0 := free_at B5.b2 0
      have g1 := free_at B5.b2 1
      clear HRc HB4 R5 B5 hb5 ho5 HR3 HB3 y0 y1 f0 f1
      go_wp2_with fail
      refine bodyPost_ret (results_ctt rfl _ _ (w.heap.size + 1 + 1) 27 #[.int .i64 lim, .slice ao3 L3.length cap3] (0, 0) _ rfl HQ.out.1 Tryd.underlying27 rfl info_ref) rfl ?_
      rw [HV.out]
      exact HQ.out.2
    · have hne : (e2 != 0) = true := by simpa using he
      have HQ := Lib.hid ((HB3.out.put (.slice ao2 L2.length cap2)).out (HB3.out.row HR3.out (.slice ao2 L2.length cap2)) (x := 0) (en := e2) HO3.out)
      have HV := Lib.hid (Ar.mv_high (lim := lim) (La := La) (n := k) (Lt := Lt) (f := k) ⟨by omega, by omega⟩ HF.out HG.out he)
      clear he
      go_wp2_with fail
      refine bodyPost_ret (results_ctt rfl _ _ (w.heap.size + 1 + 1) 27 #[.int .i64 lim, .slice ao2 L2.length cap2] (0, 0) _ rfl HQ.out.1 Tryd.underlying27 rfl info_ref) rfl ?_
      rw [HV.out]
      exact HQ.out.2
  · have hne : (e1 != 0) = true := by simpa using he
    have HE := Lib.hid he
    have HQ := Lib.hid ((HB1.out.put (.slice ao1 L1.length cap1)).out (HB1.out.row HR1'.out (.slice ao1 L1.length cap1)) (x := 0) (en := e1) HO1.out)
    have HV := Lib.hid (Ar.mv_low (lim := lim) (La := La) (n := k) (Lt := Lt) (f := k) ⟨by omega, by omega⟩ HF.out he)
    clear he
    go_wp2_with fail
    refine bodyPost_ret (results_ctt rfl _ _ (w.heap.size + 1 + 1) 27 #[.int .i64 lim, .slice ao1 L1.length cap1] (0, 0) _ rfl HQ.out.1 Tryd.underlying27 rfl info_ref) rfl ?_
    rw [HV.out]
    exact HQ.out.2

/-- The document's Move is the plain law of moving. -/
theorem ref_move (d : Nat) : ∀ (w : World) {lima lim : Int} {vla : Value} (vlt : Value) {La : List Nd} (Lt : List Nd) (hA : Row w vla La) (ok : Ar.Ok La) (hT : Row w vlt Lt) (j : Int) (hd : j < d) (hs : Lt.length + Ar.cost La j ≤ 1000000000000),
    Calls Tryd.prog 20 #[.agg #[.int .i64 lima, vla], .agg #[.int .i64 lim, vlt], .int .i64 j] w (RMk w lim vlt (Ar.mv lim La (j.toNat + 1) Lt j).1 (Ar.mv lim La (j.toNat + 1) Lt j).2.1 (Ar.mv lim La (j.toNat + 1) Lt j).2.2) := by
  induction d with
  | zero =>
    intro w lima lim vla vlt La Lt hA ok hT j hd hs
    have hn : ¬ Ar.isN La j := fun c => by have := c.1; omega
    rw [Ar.mv_not hn]
    exact ref_move_not hA hT j hn
  | succ d ih =>
    intro w lima lim vla vlt La Lt hA ok hT j hd hs
    by_cases hn : Ar.isN La j
    · obtain ⟨k, rfl⟩ : ∃ k : Nat, j = k := ⟨j.toNat, by have := hn.1; omega⟩
      exact ref_move_node hA ok hT k (by have := hn.2; omega) hs (fun w vlt Lt hA hT i hi hs => ih w vlt Lt hA ok hT i (by omega) hs)
    · rw [Ar.mv_not hn]
      exact ref_move_not hA hT j hn
end Go.Proofs.YtknoigebkpapoaaDoor
