/- Walks of package node: Mk: the node that is held, or a new one, or a fault. -/
import Derived.Test.YtknoigebkpapoaaDoorNm
import Derived.Deep.AppendLies
import Derived.Deep.RegionLaw
import Derived.Deep.DeepCutAuto
set_option linter.unusedVariables false
set_option linter.unusedSimpArgs false
namespace Go.Proofs.YtknoigebkpapoaaDoor
open Go.RowKit Go.Deep
variable {w : World} {b : Nat} {lim : Int} {L : List Nd} {S : Nat → Prop}

theorem ArenaAt.below {w' : World} {vl : Value} {bp : Nat} {PL : List Nat} {cp : Nat} {tl : List Value} (A : ArenaAt w b lim L vl bp PL cp tl) (h : Below w.heap.size w w') : ArenaAt w' b lim L vl bp PL cp tl :=
  A.touch (Touch.of_below h (fun _ => False)) (fun _ _ c => c)
theorem ArenaAt.alloc {vl : Value} {bp : Nat} {PL : List Nat} {cp : Nat} {tl : List Value} (A : ArenaAt w b lim L vl bp PL cp tl) (o : Obj) : ArenaAt (w.alloc o) b lim L vl bp PL cp tl :=
  A.below ((Below.refl _ _).alloc (Nat.le_refl _) o)

set_option maxHeartbeats 1000000 in
theorem mk_bad (A : Arena w b lim L S) (v lo hi : Int) (n : Int) (hn : n ≠ 0) (hm : Ar.mk lim L v lo hi = (L, 0, n)) (hw : ∀ w0, Below w.heap.size w w0 → Calls Tryd.prog 49 #[.pointer (some ⟨b, 0, none⟩), .int .i64 v, .int .i64 lo, .int .i64 hi] w0 (Faulty w0 v n)) :
    Calls Tryd.prog 24 #[.pointer (some ⟨b, 0, none⟩), .int .i64 v, .int .i64 lo, .int .i64 hi] w (MkPost w b lim L S v lo hi) := by
  have HW := Lib.hid hw
  have HM := Lib.hid hm
  clear hw hm
  go_enter Tryd.func24, Tryd.ntmps24
  go_wp2_with fail
  refine (HW.out _ (Below.refl _ _)).mono ?_
  rintro e w' ⟨fb, rfl, h1, h2, h3⟩
  have H2 := Lib.hid h2
  clear h2
  go_wp2_with fail
  go_ret2
  exact MkPost.bad HM.out hn A ⟨fb, h1, H2.out, rfl⟩ h3

theorem MkPost.fine {w w' : World} {x : Int} {v lo hi : Int} {L' : List Nd} (hm : Ar.mk lim L v lo hi = (L', x, 0)) (A : Arena w' b lim L' (fun k => S k ∨ w.heap.size ≤ k)) (ht : Touch w w' S) :
    MkPost w b lim L S v lo hi (.returned (.tuple #[.int .i64 x, .nilIface])) w' := by
  refine ⟨.nilIface, by rw [hm], by rw [hm]; exact A, ht, fun _ => rfl, ?_⟩
  rw [hm]; intro h; exact absurd rfl h

set_option maxHeartbeats 1000000 in
theorem mk_alike (A : Arena w b lim L S) (v lo : Int) (hv0 : 0 ≤ v) (hv1 : v < 12) (ho : Ar.ordered L v lo lo) :
    Calls Tryd.prog 24 #[.pointer (some ⟨b, 0, none⟩), .int .i64 v, .int .i64 lo, .int .i64 lo] w (MkPost w b lim L S v lo lo) := by
  have hm : Ar.mk lim L v lo lo = (L, lo, 0) := by unfold Ar.mk; rw [if_neg (by omega), if_neg (fun h => h ho), if_pos rfl]
  have HM := Lib.hid hm
  clear hm
  go_enter Tryd.func24, Tryd.ntmps24
  go_wp2_with fail
  refine (wrong_none A _ _ _ hv0 hv1 ho).mono ?_
  rintro e w' ⟨rfl, hb⟩
  go_wp2_with fail
  go_ret2
  exact MkPost.fine HM.out ((A.below hb).mono (fun k h => .inl h)) (Touch.of_below hb S)

set_option maxHeartbeats 1000000 in
theorem mk_held (A : Arena w b lim L S) (v lo hi : Int) (hv0 : 0 ≤ v) (hv1 : v < 12) (ho : Ar.ordered L v lo hi) (hne : lo ≠ hi) (hmem : (⟨v, lo, hi⟩ : Nd) ∈ L) :
    Calls Tryd.prog 24 #[.pointer (some ⟨b, 0, none⟩), .int .i64 v, .int .i64 lo, .int .i64 hi] w (MkPost w b lim L S v lo hi) := by
  have hm : Ar.mk lim L v lo hi = (L, ((L.idxOf (⟨v, lo, hi⟩ : Nd) : Nat) : Int), 0) := by unfold Ar.mk; rw [if_neg (by omega), if_neg (fun h => h ho), if_neg hne, if_pos hmem]
  have HM := Lib.hid hm
  clear hm
  have hq : (lo == hi) = false := by rw [beq_eq_false_iff_ne]; exact hne
  have AR := A
  obtain ⟨vl, bp, PL, cp, tl, A0, hf⟩ := A
  obtain ⟨r, hr, hrk⟩ := A0.tab.held rfl hmem A0.ok.nodup
  have hrl := (Ar.probe_lt _ _ _ (hsh_lt _ _ A0.tab.pos) hr).1
  have hpl : PL.length ≤ 1000000000000 := by have := A0.small; have := A0.few; omega
  have hri := Ar.getD_at hrl
  obtain ⟨k, hk⟩ : ∃ k, L.idxOf (⟨v, lo, hi⟩ : Nd) = k := ⟨_, rfl⟩
  rw [hk] at hrk HM
  have hkl : k < L.length := by rw [← hk]; exact List.idxOf_lt_length_of_mem hmem
  have hln := A0.few
  have hk2 : PL[r] = k + 1 := hri.symm.trans hrk
  have HR := Lib.hid hr
  have HK := Lib.hid hk2
  have HA := Lib.hid A0
  clear hr hrk hri hk hk2 hmem hne A0
  go_enter Tryd.func24, Tryd.ntmps24
  go_wp2_with fail
  refine (wrong_none AR _ _ _ hv0 hv1 ho).mono ?_
  rintro e w1 ⟨rfl, hb1⟩
  go_wp2_with fail
  have A1 := (HA.out.below hb1).alloc (.cells #[.int .i64 v, .int .i64 lo, .int .i64 hi] 57)
  refine (place_to A1.box A1.row A1.plc A1.tab hpl ⟨v, lo, hi⟩ hv0 hv1 r HR.out).mono ?_
  rintro e w2 ⟨rfl, hb2⟩
  have A2 := A1.below hb2
  have k2 := A2.c2
  have kr : w2.cell? ⟨bp, r, none⟩ = some (.int .i64 ((k : Int) + 1)) := (place_cell A2.plc r hrl).trans (by rw [HK.out]; simp)
  have hb3 : Below w.heap.size w w2 := (hb1.alloc hb1.size _).trans (hb2.mono (by simp; have := hb1.size; omega))
  clear A1 A2 hb1 hb2
  go_wp2_with fail
  go_ret2
  exact MkPost.fine HM.out (by simpa using (AR.below hb3).mono (fun k h => .inl h)) (Touch.of_below hb3 S)

set_option maxHeartbeats 1000000 in
theorem mk_full (A : Arena w b lim L S) (v lo hi : Int) (hv0 : 0 ≤ v) (hv1 : v < 12) (ho : Ar.ordered L v lo hi) (hne : lo ≠ hi) (hmem : (⟨v, lo, hi⟩ : Nd) ∉ L) (hle : lim ≤ L.length) :
    Calls Tryd.prog 24 #[.pointer (some ⟨b, 0, none⟩), .int .i64 v, .int .i64 lo, .int .i64 hi] w (MkPost w b lim L S v lo hi) := by
  have hm : Ar.mk lim L v lo hi = (L, 0, 50) := by unfold Ar.mk; rw [if_neg (by omega), if_neg (fun h => h ho), if_neg hne, if_neg hmem, if_pos hle]
  have HM := Lib.hid hm
  clear hm
  have hq : (lo == hi) = false := by rw [beq_eq_false_iff_ne]; exact hne
  have AR := A
  obtain ⟨vl, bp, PL, cp, tl, A0, hf⟩ := A
  have hpl : PL.length ≤ 1000000000000 := by have := A0.small; have := A0.few; omega
  obtain ⟨r, hr⟩ := A0.tab.total (by have := A0.half; omega) ⟨v, lo, hi⟩ (hsh_lt ⟨v, lo, hi⟩ _ A0.tab.pos)
  obtain ⟨hrl, hr0⟩ := A0.tab.not rfl hmem (hsh_lt ⟨v, lo, hi⟩ _ A0.tab.pos) hr
  have hk2 : PL[r] = 0 := (Ar.getD_at hrl).symm.trans hr0
  have HR := Lib.hid hr
  have HK := Lib.hid hk2
  have HA := Lib.hid A0
  clear hr hr0 hk2 hmem hne A0
  have hd : decide (lim ≤ (L.length : Int)) = true := decide_eq_true hle
  go_enter Tryd.func24, Tryd.ntmps24
  go_wp2_with fail
  refine (wrong_none AR _ _ _ hv0 hv1 ho).mono ?_
  rintro e w1 ⟨rfl, hb1⟩
  go_wp2_with fail
  have A1 := (HA.out.below hb1).alloc (.cells #[.int .i64 v, .int .i64 lo, .int .i64 hi] 57)
  refine (place_to A1.box A1.row A1.plc A1.tab hpl ⟨v, lo, hi⟩ hv0 hv1 r HR.out).mono ?_
  rintro e w2 ⟨rfl, hb2⟩
  have A2 := A1.below hb2
  have k2 := A2.c2
  have kr : w2.cell? ⟨bp, r, none⟩ = some (.int .i64 0) := (place_cell A2.plc r hrl).trans (by rw [HK.out]; simp)
  have hb3 : Below w.heap.size w w2 := (hb1.alloc hb1.size _).trans (hb2.mono (by simp; have := hb1.size; omega))
  have k0 := A2.c0
  obtain ⟨⟨ao, cap, rfl⟩, hn⟩ := A2.shape
  have k1 := A2.c1
  clear A1 A2 hb1 hb2 HA
  go_wp2_with fail
  go_quiet (fail)
  have hb4 : ∀ nq, Below w.heap.size w (w2.drewN nq) := fun nq => hb3.trans ⟨rfl, rfl, rfl, Nat.le_refl _, fun _ _ => rfl⟩
  go_wp2_with fail
  go_ret2
  exact MkPost.bad HM.out (by decide) AR ⟨_, (hb4 _).size, heap_alloc_new _ _, rfl⟩ ((hb4 _).alloc (hb4 _).size _)

theorem info_node : (Tryd.prog.info? 57).map (fun i => (i.zero, i.size, i.bytes)) = some (some (.agg #[.int .i64 0, .int .i64 0, .int .i64 0]), 3, 24) := by kernel_rfl

/-- What stands behind the append of a node and its store into the box. -/
def Added (w3 : World) (b : Nat) (lim : Int) (L : List Nd) (vl : Value) (bp : Nat) (PL : List Nat) (cp : Nat) (tl : List Value) (n : Nd) (w5 : World) : Prop :=
  ∃ gg cap', BoxTo w5 b lim (.slice (some ⟨gg, 0, none⟩) (L.length + 1) cap') bp PL.length cp ∧ PlacesTo w5 bp PL tl ∧
    w5.ownsRow 0 57 3 (.slice (some ⟨gg, 0, none⟩) (L.length + 1) cap') (L.length + 1) (cellsOf (L ++ [n])) ∧
    Touch w3 w5 (foot b vl bp) ∧ gg ≠ b ∧ gg ≠ bp ∧ (vl.ownBlock = some gg ∨ w3.heap.size ≤ gg)

theorem Added.of {w3 w4 : World} {o : Obj} {vl : Value} {bp gg cap' : Nat} {PL : List Nat} {cp : Nat} {tl : List Value} {n : Nd} (A : ArenaAt w3 b lim L vl bp PL cp tl) (hown : w4.ownsRow 0 57 3 (.slice (some ⟨gg, 0, none⟩) (L.length + 1) cap') (L.length + 1) (cellsOf L ++ [.int .i64 n.v, .int .i64 n.l, .int .i64 n.h]))
    (hgrow : (w3.drew.alloc o).grownBy w4 vl.ownBlock) (hat : vl.ownBlock = some gg ∨ gg = w3.heap.size + 1) :
    Hid (Added w3 b lim L vl bp PL cp tl n (w4.setCell ⟨b, 1, none⟩ (.slice (some ⟨gg, 0, none⟩) (L.length + 1) cap'))) := by
  have hlb := lt_of_heap A.box
  have hlp := lt_of_heap A.plc
  have e1 := (hgrow.block b (by simp; omega) (fun e => A.ap1 e.symm)).trans (heap_alloc_lt (w := w3.drew) _ A.box)
  have e2 := (hgrow.block bp (by simp; omega) (fun e => A.ap2 e.symm)).trans (heap_alloc_lt (w := w3.drew) _ A.plc)
  have hgt : Touch w3 w4 (fun k => vl.ownBlock = some k) := (((Touch.refl w3 _).drew).alloc _).grown hgrow (fun k h => .inl h)
  rw [← cellsOf_append L n] at hown
  have hgb : gg ≠ b := by
    rcases hat with h | h
    · exact fun e => A.ap1 (by rw [h, e])
    · omega
  have hgbp : gg ≠ bp := by
    rcases hat with h | h
    · exact fun e => A.ap2 (by rw [h, e])
    · omega
  refine ⟨gg, cap', ?_, heap_setCell_other (b := b) _ e2 rfl (Ne.symm A.ap3) _, ?_, ?_, hgb, hgbp, ?_⟩
  · have := heap_setCell_same (j := 1) e1 (.slice (some ⟨gg, 0, none⟩) (L.length + 1) cap')
    simpa [BoxTo] using this
  · exact ownsRow_touch (S := fun k => k = b) hown (Touch.setCell (S := fun k => k = b) (p := ⟨b, 1, none⟩) (Touch.refl _ _) (.inl rfl) _) (fun k h => by cases h; exact hgb)
  · exact Touch.setCell (p := ⟨b, 1, none⟩) (hgt.mono (fun k _ h => .inr (.inl h))) (.inl (.inl rfl)) _
  · rcases hat with h | h
    · exact .inl h
    · exact .inr (by omega)

/-- What stands when the new node's number stands in its place. -/
def Stood (w0 : World) (b : Nat) (lim : Int) (L' : List Nd) (vl : Value) (bp : Nat) (PL' : List Nat) (cp : Nat) (tl : List Value) (wx : World) : Prop :=
  ∃ gg cap', BoxTo wx b lim (.slice (some ⟨gg, 0, none⟩) L'.length cap') bp PL'.length cp ∧ PlacesTo wx bp PL' tl ∧
    wx.ownsRow 0 57 3 (.slice (some ⟨gg, 0, none⟩) L'.length cap') L'.length (cellsOf L') ∧
    Touch w0 wx (foot b vl bp) ∧ gg ≠ b ∧ gg ≠ bp ∧ (vl.ownBlock = some gg ∨ w0.heap.size ≤ gg)

theorem Stood.of {w3 wc : World} {vl : Value} {bp r cp : Nat} {PL : List Nat} {tl : List Value} {n : Nd} {x : Int} (hrl : r < PL.length) (hx : x = L.length + 1) (h : Hid (Added w3 b lim L vl bp PL cp tl n wc)) (hbb : b ≠ bp) :
    Hid (Stood w3 b lim (L ++ [n]) vl bp (PL.set r (L.length + 1)) cp tl (wc.drew.setCell ⟨bp, r, none⟩ (.int .i64 x))) := by
  obtain ⟨gg, cap', B5, P5, R5, T5, h1, h2, h3⟩ := h.out
  have hl : (L ++ [n]).length = L.length + 1 := by simp
  subst hx
  refine ⟨gg, cap', ?_, ?_, ?_, ?_, h1, h2, h3⟩
  · rw [hl, List.length_set]
    exact heap_setCell_other (w := wc.drew) (b := bp) _ B5 rfl hbb _
  · have := heap_setCell_same (w := wc.drew) (j := r) P5 (.int .i64 ((L.length : Int) + 1))
    unfold PlacesTo
    rw [this]
    simp only [List.setIfInBounds_toArray, List.map_set]
    rw [List.set_append_left _ _ (by simpa using hrl)]
    simp
  · rw [hl]
    exact ownsRow_touch (S := fun k => k = bp) R5.drew (Touch.setCell (w := wc.drew) (S := fun k => k = bp) (p := ⟨bp, r, none⟩) (Touch.refl _ _) (.inl rfl) _) (fun k h => by cases h; exact h2)
  · exact Touch.setCell (p := ⟨bp, r, none⟩) T5.drew (.inl (.inr (.inr rfl))) _

/-- The arena behind a new node. -/
theorem Stood.arena {w w0 wx w' : World} {vl : Value} {bp : Nat} {PL PL' : List Nat} {cp : Nat} {tl : List Value} {n : Nd} (A : ArenaAt w0 b lim L vl bp PL cp tl) (hf : ∀ k, foot b vl bp k → S k) (hb0 : Below w.heap.size w w0)
    (hs : Hid (Stood w0 b lim (L ++ [n]) vl bp PL' cp tl wx)) (hb : Below wx.heap.size wx w') (tab : Ar.Tab hsh PL' (L ++ [n]) (L ++ [n]).length) (half : 2 * (L ++ [n]).length < PL'.length) (small : PL'.length ≤ 16 + 4 * (L ++ [n]).length)
    (few : L.length < 100000000000) (big : 16 ≤ PL'.length) (ok : Ar.Ok (L ++ [n])) : Arena w' b lim (L ++ [n]) (fun k => S k ∨ w.heap.size ≤ k) ∧ Touch w w' S := by
  obtain ⟨gg, cap', B, P, R, T, h1, h2, h3⟩ := hs.out
  refine ⟨⟨_, bp, PL', cp, tl, ⟨(hb.block b (lt_of_heap B)).trans B, ownsRow_touch R (Touch.of_below hb (fun _ => False)) (fun _ _ c => c), (hb.block bp (lt_of_heap P)).trans P, tab, half, small, by simp; omega, big, ?_, ?_, A.ap3, ok⟩, ?_⟩, ?_⟩
  · intro h; cases h; exact h1 rfl
  · intro h; cases h; exact h2 rfl
  · rintro k (rfl | h | rfl)
    · exact .inl (hf _ (.inl rfl))
    · cases h
      rcases h3 with h3 | h3
      · exact .inl (hf _ (.inr (.inl h3)))
      · exact .inr (Nat.le_trans hb0.size h3)
    · exact .inl (hf _ (.inr (.inr rfl)))
  · exact ((Touch.of_below hb0 S).trans T (fun k _ h => hf k h)).trans (Touch.of_below hb (fun _ => False)) (fun _ _ c => c.elim)

theorem Stood.grown {w w0 wx w' : World} {vl : Value} {bp gg cap' n2 cp : Nat} {PL' : List Nat} {n : Nd} (A : ∀ k, foot b vl bp k → S k) (hb0 : Below w.heap.size w w0)
    (hs : BoxTo wx b lim (.slice (some ⟨gg, 0, none⟩) (L ++ [n]).length cap') bp PL'.length cp) (R : wx.ownsRow 0 57 3 (.slice (some ⟨gg, 0, none⟩) (L ++ [n]).length cap') (L ++ [n]).length (cellsOf (L ++ [n]))) (T : Touch w0 wx (foot b vl bp)) (h1 : gg ≠ b)
    (h3 : vl.ownBlock = some gg ∨ w0.heap.size ≤ gg) (hg : Hid (GrowI wx w' b lim (.slice (some ⟨gg, 0, none⟩) (L ++ [n]).length cap') n2 (L ++ [n]) (L ++ [n]).length))
    (half : 2 * (L ++ [n]).length < n2) (small : n2 ≤ 16 + 4 * (L ++ [n]).length)
    (few : L.length < 100000000000) (big : 16 ≤ n2) (ok : Ar.Ok (L ++ [n])) : Arena w' b lim (L ++ [n]) (fun k => S k ∨ w.heap.size ≤ k) ∧ Touch w w' S := by
  obtain ⟨PL2, B2, P2, tab, hl, T2⟩ := hg.out
  have hT : Touch w w' S := ((Touch.of_below hb0 S).trans T (fun k _ h => A k h)).trans T2 (fun k _ c => by subst c; exact A _ (.inl rfl))
  have hsz : w0.heap.size ≤ wx.heap.size := T.size
  have hgw : gg < wx.heap.size := (R.lt gg rfl).2
  refine ⟨⟨_, wx.heap.size, PL2, PL2.length, [], ⟨B2, ownsRow_touch R T2 (fun k h c => by cases h; exact h1 c), by rw [List.append_nil]; exact P2, tab, by rw [hl]; exact half, by rw [hl]; exact small, by simp; omega, by rw [hl]; exact big, ?_, ?_, ?_, ok⟩, ?_⟩, hT⟩
  · intro h; cases h; exact h1 rfl
  · intro h
    have hgx : gg = wx.heap.size := by simpa [Value.ownBlock] using h
    omega
  · have hlt : b < wx.heap.size := lt_of_heap hs
    omega
  · rintro k (rfl | h | rfl)
    · exact .inl (A _ (.inl rfl))
    · cases h
      rcases h3 with h3 | h3
      · exact .inl (A _ (.inr (.inl h3)))
      · exact .inr (Nat.le_trans hb0.size h3)
    · exact .inr (Nat.le_trans hb0.size hsz)

theorem ok_add {v lo hi : Int} (ok : Ar.Ok L) (hv0 : 0 ≤ v) (hv1 : v < 12) (ho : Ar.ordered L v lo hi) (hne : lo ≠ hi) (hmem : (⟨v, lo, hi⟩ : Nd) ∉ L) : Ar.Ok (L ++ [⟨v, lo, hi⟩]) := by
  have hvar : ∀ r : Int, r < L.length → Ar.var (L ++ [⟨v, lo, hi⟩]) r = Ar.var L r := by
    intro r hr
    unfold Ar.var
    by_cases h : 0 ≤ r
    · have hr' : r.toNat < L.length := by omega
      rw [if_pos (show Ar.isN (L ++ [⟨v, lo, hi⟩]) r from ⟨h, by simp; omega⟩), if_pos (show Ar.isN L r from ⟨h, hr⟩)]
      unfold Ar.nd
      rw [if_pos h, if_pos h]
      simp [List.getD, List.getElem?_append_left hr']
    · rw [if_neg (show ¬ Ar.isN _ r from fun c => h c.1), if_neg (show ¬ Ar.isN _ r from fun c => h c.1)]
  refine ⟨?_, ?_⟩
  · rw [List.nodup_append]
    refine ⟨ok.nodup, by simp, ?_⟩
    intro a ha c hc
    simp at hc
    subst hc
    exact fun e => hmem (e ▸ ha)
  · intro i h
    by_cases hi' : i < L.length
    · have := ok.each i hi'
      rw [List.getElem_append_left hi', hvar _ (by omega), hvar _ (by omega)]
      exact this
    · have : i = L.length := by simp at h; omega
      subst this
      obtain ⟨⟨h1, h2⟩, ⟨h3, h4⟩, h5, h6⟩ := ho
      rw [List.getElem_append_right (by omega)]
      simp only [Nat.sub_self, List.getElem_cons_zero]
      rw [hvar _ h2, hvar _ h4]
      exact ⟨hv0, hv1, hne, h1, h2, h3, h4, h5, h6⟩

set_option maxRecDepth 100000 in
set_option maxHeartbeats 4000000 in
theorem mk_add (A : Arena w b lim L S) (v lo hi : Int) (hv0 : 0 ≤ v) (hv1 : v < 12) (ho : Ar.ordered L v lo hi) (hne : lo ≠ hi) (hmem : (⟨v, lo, hi⟩ : Nd) ∉ L) (hle : L.length < lim) (hfew : L.length < 100000000000) :
    Calls Tryd.prog 24 #[.pointer (some ⟨b, 0, none⟩), .int .i64 v, .int .i64 lo, .int .i64 hi] w (MkPost w b lim L S v lo hi) := by
  have hm : Ar.mk lim L v lo hi = (L ++ [⟨v, lo, hi⟩], ((L.length : Nat) : Int), 0) := by unfold Ar.mk; rw [if_neg (by omega), if_neg (fun h => h ho), if_neg hne, if_neg hmem, if_neg (by omega)]
  have HM := Lib.hid hm
  clear hm
  have hq : (lo == hi) = false := by rw [beq_eq_false_iff_ne]; exact hne
  have AR := A
  obtain ⟨vl, bp, PL, cp, tl, A0, hf⟩ := A
  have hpl : PL.length ≤ 1000000000000 := by have := A0.small; have := A0.few; omega
  obtain ⟨r, hr⟩ := A0.tab.total (by have := A0.half; omega) ⟨v, lo, hi⟩ (hsh_lt ⟨v, lo, hi⟩ _ A0.tab.pos)
  obtain ⟨hrl, hr0⟩ := A0.tab.not rfl hmem (hsh_lt ⟨v, lo, hi⟩ _ A0.tab.pos) hr
  have hk2 : PL[r] = 0 := (Ar.getD_at hrl).symm.trans hr0
  have HR := Lib.hid hr
  have HK := Lib.hid hk2
  have HA := Lib.hid A0
  have HN := Lib.hid hmem
  have HNE := Lib.hid hne
  clear hr hr0 hk2 hmem hne A0
  have hd : decide (lim ≤ (L.length : Int)) = false := decide_eq_false (by omega)
  obtain ⟨i0, hi0, hz0, hz1, hz2⟩ := info_parts info_node
  go_enter Tryd.func24, Tryd.ntmps24
  go_wp2_with fail
  refine (wrong_none AR _ _ _ hv0 hv1 ho).mono ?_
  rintro e w1 ⟨rfl, hb1⟩
  go_wp2_with fail
  have A1 := (HA.out.below hb1).alloc (.cells #[.int .i64 v, .int .i64 lo, .int .i64 hi] 57)
  refine (place_to A1.box A1.row A1.plc A1.tab hpl ⟨v, lo, hi⟩ hv0 hv1 r HR.out).mono ?_
  rintro e w2 ⟨rfl, hb2⟩
  have A2 := A1.below hb2
  have k2 := A2.c2
  have kr : w2.cell? ⟨bp, r, none⟩ = some (.int .i64 0) := (place_cell A2.plc r hrl).trans (by rw [HK.out]; simp)
  have hb3 : Below w.heap.size w w2 := (hb1.alloc hb1.size _).trans (hb2.mono (by simp; have := hb1.size; omega))
  have k0 := A2.c0
  obtain ⟨⟨ao, cap, rfl⟩, hn⟩ := A2.shape
  have k1 := A2.c1
  have hnb := (hb2.block w1.heap.size (by simp)).trans (heap_alloc_new w1 (.cells #[.int .i64 v, .int .i64 lo, .int .i64 hi] 57))
  have HA2 := Lib.hid A2
  have HNB := Lib.hid hnb
  clear A1 A2 hb1 hb2 hnb HA
  go_wp2_with fail
  go_quiet (fail)
  clear k0 k1 k2 kr hd hn
  go_wp2_with fail
  have A3 : ArenaAt (w2.drewN nq) b lim L (.slice ao L.length cap) bp PL cp tl := HA2.out.below ⟨rfl, rfl, rfl, Nat.le_refl _, fun _ _ => rfl⟩
  have hnb3 : (w2.drewN nq).heap[w1.heap.size]? = some (.cells #[.int .i64 v, .int .i64 lo, .int .i64 hi] 57 (0, 0)) := HNB.out
  have hb4 : Below w.heap.size w (w2.drewN nq) := hb3.trans ⟨rfl, rfl, rfl, Nat.le_refl _, fun _ _ => rfl⟩
  clear HA2 HNB hb3
  generalize w2.drewN nq = w3 at *
  have q1 := A3.c1
  have n0 := cell_at hnb3 0 (v := .int .i64 v) rfl
  have n1 := cell_at hnb3 1 (v := .int .i64 lo) rfl
  have n2 := cell_at hnb3 2 (v := .int .i64 hi) rfl
  have hlb := lt_of_heap A3.box
  have hln := lt_of_heap hnb3
  have HA3 := Lib.hid A3
  have HR3 := Lib.hid A3.row
  have hap := A3.ap1
  have hl3 : L.length ≤ 100000000000 := by omega
  have h63 : L.length + 1 ≤ maxLen := by unfold maxLen; omega
  have h24 : (L.length + 1) * 24 ≤ 140737488355328 := by omega
  clear A3 hnb3
  go_cut [] (fun wx => Hid (Added w3 b lim L (.slice ao L.length cap) bp PL cp tl ⟨v, lo, hi⟩ wx))
  case first =>
    go_region_law (first | (refine step_append_lies _ (by rfl) _ _ _ (by rfl) 0 57 i0 _ 3 24 Tryd.underlying72 hi0 hz0 hz1 hz2 rfl (by omega) (.slice ao L.length cap) L.length (cellsOf L) (by rfl) (HR3.out.drew.alloc _) ⟨w3.heap.size, 0, none⟩ 1 1 [.int .i64 v, .int .i64 lo, .int .i64 hi] (by rfl) (by rfl) (World.news_of_block (cs := #[.int .i64 v, .int .i64 lo, .int .i64 hi]) (t := 57) (fr := (0, 0)) (heap_alloc_new w3.drew _)) (by simp [Value.oneCell']) (by omega) h63 h24 (by simp) (w3.heap.size + 1) (by simp) ?_; intro gg cap' w4 hown4 hgrow hat hlt4; have e1 := (hgrow.block b (by simp; omega) (fun e => hap e.symm)).trans (heap_alloc_lt (w := w3.drew) _ HA3.out.box); have kb := cell_at e1 1 (v := .slice ao L.length cap) rfl; have fb := free_at e1 1; have E1 := Lib.hid e1; clear e1))
    all_goals (go_wp2_with fail; go_meet; exact Added.of HA3.out hown4 hgrow hat)
  case rest =>
    clear q1 n0 n1 n2
    obtain ⟨gg, cap', B5, P5, R5, T5, hgb, hgbp, hat⟩ := hcut.out
    have k1 : wc.cell? ⟨b, 1, none⟩ = some (.slice (some ⟨gg, 0, none⟩) (L.length + 1) cap') := cell_at B5 1 rfl
    have k2 : wc.cell? ⟨b, 2, none⟩ = some (.slice (some ⟨bp, 0, none⟩) PL.length cp) := cell_at B5 2 rfl
    have kr : wc.cell? ⟨bp, r, none⟩ = some (.int .i64 0) := (place_cell P5 r hrl).trans (by rw [HK.out]; simp)
    have fr : wc.frozen? ⟨bp, r, none⟩ = false := free_at P5 r
    clear B5 P5 R5 T5 hgb hgbp hat
    go_wp2_with fail
    go_cut [] (fun wx => Hid (Stood w3 b lim (L ++ [⟨v, lo, hi⟩]) (.slice ao L.length cap) bp (PL.set r (L.length + 1)) cp tl wx))
    case first =>
      go_region
      all_goals (go_wp2_with fail; go_meet; exact Stood.of hrl (by simp) hcut HA3.out.ap3)
    case rest =>
      have HC := hcut
      clear k1 k2 kr fr hcut
      have hmem := HN.out
      have hok := ok_add HA3.out.ok hv0 hv1 ho HNE.out hmem
      have htab := HA3.out.tab.add rfl hsh_lt hmem HR.out
      have hfit := HA3.out.small
      have hln' : (L ++ [(⟨v, lo, hi⟩ : Nd)]).length = L.length + 1 := by simp
      have hhalf := HA3.out.half
      have hbig := HA3.out.big
      obtain ⟨gg, cap', B6, P6, R6, T6, hgb, hgbp, hat⟩ := HC.out
      have HB6 := Lib.hid B6
      have HR6 := Lib.hid R6
      have HT6 := Lib.hid T6
      have HAT := Lib.hid hat
      have HOK := Lib.hid hok
      have HTB := Lib.hid htab
      have hps : (PL.set r (L.length + 1)).length = PL.length := by simp
      clear B6 P6 R6 T6 hat hok htab hmem
      by_cases hg : 2 * (L.length + 1) < PL.length
      · go_wp2_with fail
        refine (grow_keep HB6.out (by rw [hps]; omega) (by rw [hps, hln']; omega)).mono ?_
        rintro e w7 ⟨rfl, hb7⟩
        have B7 := (hb7.block b (lt_of_heap HB6.out)).trans HB6.out
        have k1 : w7.cell? ⟨b, 1, none⟩ = some (.slice (some ⟨gg, 0, none⟩) (L ++ [(⟨v, lo, hi⟩ : Nd)]).length cap') := cell_at B7 1 rfl
        rw [hln'] at k1
        clear B7
        have hfin := Stood.arena (w' := w7) HA3.out hf hb4 HC hb7 (by rw [hln']; exact HTB.out) (by rw [hln', hps]; exact hg) (by rw [hln', hps]; omega) hfew (by rw [hps]; exact hbig) HOK.out
        have HF := Lib.hid hfin
        clear hfin
        go_wp2_with fail
        go_ret2
        exact MkPost.fine HM.out HF.out.1 HF.out.2
      · have hpos := HA3.out.tab.pos
        go_wp2_with fail
        refine (grow_more HB6.out HR6.out HOK.out (by rw [hps]; omega) (by rw [hps]; omega) (by rw [hps, hln']; omega) (by rw [hps, hln']; omega) (fun e => hgb (by cases e; rfl))).mono ?_
        rintro e w7 ⟨rfl, hg7⟩
        obtain ⟨PL7, B7, _⟩ := hg7.out
        have k1 : w7.cell? ⟨b, 1, none⟩ = some (.slice (some ⟨gg, 0, none⟩) (L ++ [(⟨v, lo, hi⟩ : Nd)]).length cap') := cell_at B7 1 rfl
        rw [hln'] at k1
        clear B7
        have hfin := Stood.grown (w' := w7) (S := S) hf hb4 HB6.out HR6.out HT6.out hgb HAT.out hg7 (by rw [hln', hps]; omega) (by rw [hln', hps]; omega) hfew (by rw [hps]; omega) HOK.out
        have HF := Lib.hid hfin
        clear hfin hg7
        go_wp2_with fail
        go_ret2
        exact MkPost.fine HM.out HF.out.1 HF.out.2

theorem mk_any (A : Arena w b lim L S) (v lo hi : Int) (hfew : L.length < 100000000000) :
    Calls Tryd.prog 24 #[.pointer (some ⟨b, 0, none⟩), .int .i64 v, .int .i64 lo, .int .i64 hi] w (MkPost w b lim L S v lo hi) := by
  by_cases hv : v < 0 ∨ 12 ≤ v
  · exact mk_bad A v lo hi 52 (by decide) (by unfold Ar.mk; rw [if_pos hv]) (fun w0 hb => wrong_var v lo hi hv)
  · by_cases ho : Ar.ordered L v lo hi
    · by_cases hne : lo = hi
      · subst hne; exact mk_alike A v lo (by omega) (by omega) ho
      · by_cases hmem : (⟨v, lo, hi⟩ : Nd) ∈ L
        · exact mk_held A v lo hi (by omega) (by omega) ho hne hmem
        · by_cases hle : lim ≤ L.length
          · exact mk_full A v lo hi (by omega) (by omega) ho hne hmem hle
          · exact mk_add A v lo hi (by omega) (by omega) ho hne hmem (by omega) hfew
    · exact mk_bad A v lo hi 51 (by decide) (by unfold Ar.mk; rw [if_neg hv, if_pos ho]) (fun w0 hb => wrong_order (A.below hb) v lo hi (by omega) (by omega) ho)

end Go.Proofs.YtknoigebkpapoaaDoor
