/- zone.Close. -/
import Derived.Test.YtjhccmjgfngkcaaDoorZoneSameZl
set_option linter.unusedVariables false
set_option linter.unusedSimpArgs false
namespace Go.Proofs.YtjhccmjgfngkcaaDoor.PZoneSame
open Go Go.RowKit Go.Shelf Go.Deep Go.Proofs.YtjhccmjgfngkcaaDoorW.PrintWords Go.Proofs.YtjhccmjgfngkcaaDoorW.PrintLast Go.Proofs.YtjhccmjgfngkcaaDoorW.PrintMore
open Zn (botN wholeB wholeB_iff nearZ upd)
variable {w : World}
attribute [local go_sem] Oper.semAt_some

theorem ints_nil {v : Value} (h : IntsAt w v []) : ∃ ao c, v = .slice ao 0 c := by
  obtain ⟨ao, c, e, _⟩ := h
  exact ⟨ao, c, e⟩
def mk (D : Nat) : Deferred := { target := .collected D, args := #[] }
structure Marks (s : Nat) (W : World) (Ds : List Nat) : Prop where
  nd : Ds.Nodup
  at_ : ∀ D ∈ Ds, s ≤ D ∧ W.heap[D]? = some (.deferred (some []))
theorem Marks.nil {s : Nat} {W : World} : Marks s W [] := ⟨List.nodup_nil, fun _ h => by cases h⟩
theorem Marks.below {s : Nat} {W W' : World} {Ds : List Nat} (h : Marks s W Ds) (hb : Below W.heap.size W W') : Marks s W' Ds :=
  ⟨h.nd, fun D hD => ⟨(h.at_ D hD).1, (hb.block _ (hp_lt (h.at_ D hD).2)).trans (h.at_ D hD).2⟩⟩
theorem Marks.grown {s g M : Nat} {W W' : World} {E : Nat → Int} {Ds : List Nat} (h : Marks s W Ds) (hb : W.grownBy W' (some g)) (hr : RowB W g M E) : Marks s W' Ds :=
  ⟨h.nd, fun D hD => ⟨(h.at_ D hD).1, gheap hb (h.at_ D hD).2 (fun e => by
    obtain ⟨cur, h1, _⟩ := hr
    have := (h.at_ D hD).2
    rw [e, h1] at this
    cases this)⟩⟩
theorem Marks.cons {s D : Nat} {W W0 : World} {Ds : List Nat} (h : Marks s W Ds) (h0 : Marks s W0 Ds) (hs : s ≤ W0.heap.size) (hD : W0.heap.size ≤ D) (hK : W.heap[D]? = some (.deferred (some []))) : Marks s W (D :: Ds) :=
  ⟨List.nodup_cons.2 ⟨fun c => by have := hp_lt (h0.at_ D c).2; omega, h.nd⟩, fun D' hD' => by
    rcases List.mem_cons.1 hD' with rfl | hD'
    · exact ⟨Nat.le_trans hs hD, hK⟩
    · exact h.at_ D' hD'⟩
theorem leaves_marks {fn : Func} {tmps : Array Value} {R : Ending → World → Prop} {n s : Nat} : ∀ (Ds : List Nat) (W : World), Marks s W Ds → s ≤ W.heap.size →
    (∀ W', Below s W W' → (∀ (k : Nat) (o : Obj), W.heap[k]? = some o → o.isCells = true → W'.heap[k]? = some o) → ∃ v, (results fn tmps).run Tryd.prog W' = .ok v W' ∧ R (.returned v) W') → LeavesInM Fence.wide n Tryd.prog fn tmps R (Ds.map mk) .returning W
  | [], W, h, hs, H => by
    obtain ⟨v, h1, h2⟩ := H W (Below.refl _ _) (fun _ _ h _ => h)
    exact ⟨v, h1, h2⟩
  | D :: Ds, W, h, hs, H => by
    have hD := (h.at_ D List.mem_cons_self).2
    refine ⟨by simp, .inl ⟨D, _, rfl, run_takeDeferred hD, ?_⟩⟩
    have hg := grownBy_putObj' W D (.deferred none)
    refine leaves_marks Ds _ ⟨(List.nodup_cons.1 h.nd).2, fun D' hD' => ?_⟩ (Nat.le_trans hs hg.size) (fun W' hb hc => H W' ((((Below.refl s W).grown hg hs (fun q e => by cases e; exact (h.at_ D List.mem_cons_self).1))).trans hb) (fun k o hk ho => hc k o ?_ ho))
    · have := h.at_ D' (List.mem_cons_of_mem _ hD')
      exact ⟨this.1, (World.putObj_heap_other (fun e => (List.nodup_cons.1 h.nd).1 (by first | exact e ▸ hD' | exact e.symm ▸ hD'))).trans this.2⟩
    · refine (World.putObj_heap_other (fun e => ?_)).trans hk
      subst e
      rw [hk] at hD
      cases hD
      cases ho

set_option maxRecDepth 100000 in
set_option maxHeartbeats 4000000 in
theorem Close_not {v : Value} {N : Int} {L : List Int} (h : ZAt w v N L) (hw : wholeB N L = false) : Calls Tryd.prog 15 #[v] w (ZPost w (Zn.closeP N L)) := by
  refine (callsIn_wide (n := 20)).1 ?_
  have WH : ∀ W', Below w.heap.size w W' → Calls Tryd.prog 54 #[v] W' fun e w' => e = .returned (.bool false) ∧ Below W'.heap.size W' w' := fun W' hb => hw ▸ whole_any (h.below hb)
  obtain ⟨A, c, rfl, hc, -⟩ := h.row
  clear h
  have hp : Zn.closeP N L = (botN N, []) := by unfold Zn.closeP; rw [hw]; rfl
  rw [hp]
  clear hw hp
  have HW := Lib.hid WH
  clear WH
  refine callsIn_of_wp_marks Tryd.func15 rfl trivial ?_
  simp only [Tryd.ntmps15, List.size_toArray, List.length_cons, List.length_nil, Nat.reduceAdd, Nat.reduceSub, Array.replicate_succ, Array.replicate_zero, List.push_toArray, List.append_toArray, List.nil_append, List.cons_append]
  gi_wp2_with fail
  have bZ := blk_alloc (blk_new w (.cells #[.int .i64 N, .slice A L.length c] 27)) (.cells #[.int .i64 0, .slice none 0 0] 27)
  have bR := blk_new (w.alloc (.cells #[.int .i64 N, .slice A L.length c] 27)) (.cells #[.int .i64 0, .slice none 0 0] 27)
  have cur : Below w.heap.size w ((w.alloc (.cells #[.int .i64 N, .slice A L.length c] 27)).alloc (.cells #[.int .i64 0, .slice none 0 0] 27)) := psh (psh (Below.refl _ _) (Nat.le_refl _) _) (Nat.le_refl _) _
  have hsz : ((w.alloc (.cells #[.int .i64 N, .slice A L.length c] 27)).alloc (.cells #[.int .i64 0, .slice none 0 0] 27)).heap.size = w.heap.size + 2 := by simp
  simp only [World.size_alloc] at bR
  obtain ⟨W0, hW0⟩ : ∃ W0, (w.alloc (.cells #[.int .i64 N, .slice A L.length c] 27)).alloc (.cells #[.int .i64 0, .slice none 0 0] 27) = W0 := ⟨_, rfl⟩
  rw [hW0] at bZ bR cur hsz ⊢
  clear hW0
  obtain ⟨s, hs⟩ : ∃ s, w.heap.size = s := ⟨_, rfl⟩
  rw [hs] at bZ bR cur hsz
  obtain ⟨x0, x1, -, -⟩ := cells2 bZ
  gi_wp2_with (refine ⟨trivial, ?_⟩; gi_at_call 54; refine (callsIn_wide.2 (HW.out _ (by rw [hs]; exact cur))).mono ?_; rintro e w1 ⟨rfl, hb1⟩; replace bZ := blk_below bZ hb1; replace bR := blk_below bR hb1; replace cur := cur.trans (hb1.mono (by omega)); obtain ⟨y0, y1, -, -⟩ := cells2 bZ)
  gi_wp2_with (refine ⟨trivial, ?_⟩; gi_at_call 27; refine (callsIn_wide.2 (Bottom_any N _)).mono ?_; rintro e w2 ⟨bv, rfl, hi, hb2⟩; obtain ⟨bo, bc, rfl⟩ := ints_nil hi; replace bR := blk_below bR hb2; replace cur := cur.trans (hb2.mono (by have := cur.size; omega)); have HI := Lib.hid hi; obtain ⟨r0, r1, r2, r3⟩ := cells2 bR)
  have bR3 := zput bR (.int .i64 (botN N)) (.slice bo 0 bc)
  have HB := Lib.hid ((cur.setCell (p := ⟨s + 1, 0, none⟩) (by simp) (.int .i64 (botN N))).setCell (p := ⟨s + 1, 1, none⟩) (by simp) (.slice bo 0 bc))
  refine ⟨_, zret rfl _ _ (s + 1) bR3 rfl, _, rfl, ⟨bo, bc, rfl, ⟨bo, bc, rfl, by simp, by simp, fun h => absurd rfl h⟩, fun _ _ h => absurd rfl h⟩, by rw [hs]; exact HB.out⟩

theorem RowB.at_ {W : World} {g M : Nat} {E : Nat → Int} (h : RowB W g M E) : RowAt W g 0 M E := fun j hj => by rw [Nat.zero_add]; exact h.cell j hj
theorem against_bad {n : Nat} (hn : 6 ≤ n) {m : Nat} (hm : 0 < m) (hm7 : m ≤ 7) {g cap : Nat} {f : Zn.Mx} (hR : RowB w g (m * m) (fun p => f (p / m) (p % m))) :
    CallsIn Fence.wide n Tryd.prog 59 #[.agg #[.int .i64 ((m : Int) - 1), .slice (some ⟨g, 0, none⟩) (m * m) cap]] w fun e w' => e = .returned (.bool (Zn.badB m f)) ∧ Below w.heap.size w w' := by
  refine (against_in n hn m hm hm7 g 0 cap _ hR.lt hR.at_).mono ?_
  rintro e w' ⟨bv, rfl, hb, hbl⟩
  refine ⟨?_, hbl⟩
  have : bv = Zn.badB m f := by
    rw [Bool.eq_iff_iff, hb]
    unfold Zn.badB
    rw [List.any_eq_true]
    constructor
    · rintro ⟨p, h1, h2⟩
      exact ⟨p, List.mem_range.2 h1, decide_eq_true h2⟩
    · rintro ⟨p, h1, h2⟩
      exact ⟨p, List.mem_range.1 h1, of_decide_eq_true h2⟩
  rw [this]
theorem bot_m {m : Nat} (hm : 0 < m) (hm7 : m ≤ 7) : botN ((m : Int) - 1) = (m : Int) - 1 := by unfold botN; rw [if_pos (by omega)]
theorem Marks.set {s b j : Nat} {W : World} {Ds : List Nat} {cs : Array Value} {T : TypeId} (h : Marks s W Ds) (hb : W.heap[b]? = some (.cells cs T (0, 0))) (v : Value) : Marks s (W.setCell ⟨b, j, none⟩ v) Ds :=
  ⟨h.nd, fun D hD => ⟨(h.at_ D hD).1, (Below.heap_setCell W ⟨b, j, none⟩ v D (fun e => by
    have := (h.at_ D hD).2
    have e' : D = b := e
    rw [e', hb] at this
    cases this)).trans (h.at_ D hD).2⟩⟩
theorem Marks.zput {s b : Nat} {W : World} {Ds : List Nat} {x y : Value} {T : TypeId} (h : Marks s W Ds) (hb : W.heap[b]? = some (.cells #[x, y] T (0, 0))) (u v : Value) : Marks s ((W.setCell ⟨b, 0, none⟩ u).setCell ⟨b, 1, none⟩ v) Ds :=
  (h.set hb u).set (blk_set hb 0 u) v
theorem RowB.kept {W W' : World} {g M : Nat} {E : Nat → Int} (h : RowB W g M E) (hc : ∀ (k : Nat) (o : Obj), W.heap[k]? = some o → o.isCells = true → W'.heap[k]? = some o) : RowB W' g M E := by
  obtain ⟨cur, h1, h2⟩ := h
  exact ⟨cur, hc _ _ h1 rfl, h2⟩
theorem at_any {m : Nat} (hm : 0 < m) (hm7 : m ≤ 7) {g cap : Nat} {E : Nat → Int} (hR : RowB w g (m * m) E) (hcap : m * m ≤ cap) {i j : Nat} (hi : i < m) (hj : j < m) (a b : Int) (ha : a = i) (hb : b = j) (r : Int) (hr : E (i * m + j) = r) :
    Calls Tryd.prog 60 #[.agg #[.int .i64 ((m : Int) - 1), .slice (some ⟨g, 0, none⟩) (m * m) cap], .int .i64 a, .int .i64 b] w fun e w' => e = .returned (.int .i64 r) ∧ Below w.heap.size w w' := by
  subst ha hb
  have hmm : m * m ≤ 49 := Nat.mul_le_mul hm7 hm7
  obtain ⟨A, c, hv, h1, h2⟩ := (hR.ints hcap (by omega)).row
  injection hv with e1 e2 e3
  subst e1 e3
  have hl : ((List.range (m * m)).map E).length = m * m := by simp
  have := zone_Zone_at.calls ((m : Int) - 1) _ cap ((List.range (m * m)).map E) (i : Int) (j : Int) r w h2 h1 (by
    unfold zone_Zone_at.f
    have hij := Zn.lt_of hi hj
    have him : i * m ≤ 49 := Nat.le_trans (Nat.mul_le_mul (Nat.le_of_lt (Nat.lt_of_lt_of_le hi hm7)) hm7) (by omega)
    have e0 : wrap64 ((m : Int) - 1 + 1) = m := by rw [wrap_id (by omega) (by omega)]; omega
    have hb : i * m + j ≤ 49 := Nat.le_trans (Nat.le_of_lt hij) hmm
    have e1 : wrap64 ((i : Int) * (m : Int)) = ((i * m : Nat) : Int) := by
      rw [← Int.natCast_mul]
      generalize i * m = p at him
      exact wrap_id (by omega) (by omega)
    have e2 : wrap64 (((i * m : Nat) : Int) + (j : Int)) = ((i * m + j : Nat) : Int) := by
      rw [← Int.natCast_add]
      generalize i * m + j = p at hb
      exact wrap_id (by omega) (by omega)
    have e3 : (0 : Int) ≤ ((i * m + j : Nat) : Int) := Int.natCast_nonneg _
    have e4 : ((i * m + j : Nat) : Int) < (((List.range (m * m)).map E).length : Int) := by rw [hl]; exact Int.ofNat_lt.2 hij
    rw [e0, e1, e2, if_pos e3, if_pos e4, ← hr]
    have : rd ((List.range (m * m)).map E) ((i * m + j : Nat) : Int) = E (i * m + j) := by
      unfold rd
      rw [Int.toNat_natCast]
      simp [List.getD, hij]
    rw [this])
  rw [hl] at this
  exact this
/-- What the loop over all variables keeps. -/
structure CL (m s q g cc c : Nat) (A : Option Addr) (L : List Int) (w : World) (k Bk : Nat) (Ds : List Nat) (W : World) : Prop where
  kle : k ≤ m
  bZ : W.heap[s]? = some (.cells #[.int .i64 ((m : Int) - 1), .slice A (m * m) c] 27 (0, 0))
  bR : W.heap[s + 1]? = some (.cells #[.int .i64 0, .slice none 0 0] 27 (0, 0))
  bO : W.heap[q]? = some (.cells #[.int .i64 ((m : Int) - 1), .slice (some ⟨g, 0, none⟩) (m * m) cc] 27 (0, 0))
  bK : W.heap[Bk]? = some (.cells #[.int .i64 (k : Int)] 3 (0, 0))
  nK : Bk ≠ g
  row : RowB W g (m * m) (fun p => Zn.fws (Zn.f0 m L) k (p / m) (p % m))
  marks : Marks s W Ds
  cur : Below s w W
  ok : ∀ k', k' < k → Zn.badB m (Zn.fws (Zn.f0 m L) k') = false
set_option maxRecDepth 100000 in
set_option maxHeartbeats 4000000 in
theorem Close_whole {v : Value} {N : Int} {L : List Int} (h : ZAt w v N L) (hw : wholeB N L = true) : Calls Tryd.prog 15 #[v] w (ZPost w (Zn.closeP N L)) := by
  refine (callsIn_wide (n := 20)).1 ?_
  obtain ⟨⟨hN0, hN6⟩, hlen⟩ := wholeB_iff.1 hw
  have WH : ∀ W', Below w.heap.size w W' → Calls Tryd.prog 54 #[v] W' fun e w' => e = .returned (.bool true) ∧ Below W'.heap.size W' w' := fun W' hb => hw ▸ whole_any (h.below hb)
  obtain ⟨m, hm⟩ : ∃ m, N.toNat + 1 = m := ⟨_, rfl⟩
  have hNm : N = (m : Int) - 1 := by omega
  have hm0 : 0 < m := by omega
  have hm7 : m ≤ 7 := by omega
  rw [hm] at hlen
  have hmm : m * m ≤ 49 := Nat.mul_le_mul hm7 hm7
  have hmm0 : 0 < m * m := Nat.mul_pos hm0 hm0
  have OW : ∀ W', Below w.heap.size w W' → Calls Tryd.prog 55 #[v] W' fun e w' => ∃ g cc, e = .returned (.agg #[.int .i64 ((m : Int) - 1), .slice (some ⟨g, 0, none⟩) (m * m) cc]) ∧ m * m ≤ cc ∧ W'.heap.size + 2 ≤ g ∧ RowB w' g (m * m) (fun j => L.getD j 0) ∧ Below W'.heap.size W' w' := fun W' hb => by
    have := own_any (h.below hb) (fun e => by rw [e] at hlen; simp at hlen; omega) (by omega)
    rw [hlen, hNm] at this
    exact this
  obtain ⟨A, c, rfl, hc, -⟩ := h.row
  have hp : Zn.closeP N L = if (List.range (m + 1)).any (fun k => Zn.badB m (Zn.fws (Zn.f0 m L) k)) then ((m : Int) - 1, []) else ((m : Int) - 1, Zn.tab m (Zn.fws (Zn.f0 m L) m)) := by unfold Zn.closeP; rw [hw, hm, hNm]; rfl
  rw [hp]
  rw [hlen, hNm] at WH OW ⊢
  clear hw hp h hN0 hN6 hm
  subst hNm
  have HW := Lib.hid WH
  have HO := Lib.hid OW
  clear WH OW
  obtain ⟨R, hR⟩ : ∃ R, (if (List.range (m + 1)).any (fun k => Zn.badB m (Zn.fws (Zn.f0 m L) k)) then ((m : Int) - 1, []) else ((m : Int) - 1, Zn.tab m (Zn.fws (Zn.f0 m L) m))) = R := ⟨_, rfl⟩
  rw [hR]
  have HRes := Lib.hid hR
  have Hlen := Lib.hid hlen
  clear hR hlen hc
  refine callsIn_of_wp_marks Tryd.func15 rfl trivial ?_
  simp only [Tryd.ntmps15, List.size_toArray, List.length_cons, List.length_nil, Nat.reduceAdd, Nat.reduceSub, Array.replicate_succ, Array.replicate_zero, List.push_toArray, List.append_toArray, List.nil_append, List.cons_append]
  gi_wp2_with fail
  have bZ := blk_alloc (blk_new w (.cells #[.int .i64 ((m : Int) - 1), .slice A (m * m) c] 27)) (.cells #[.int .i64 0, .slice none 0 0] 27)
  have bR := blk_new (w.alloc (.cells #[.int .i64 ((m : Int) - 1), .slice A (m * m) c] 27)) (.cells #[.int .i64 0, .slice none 0 0] 27)
  have cur : Below w.heap.size w ((w.alloc (.cells #[.int .i64 ((m : Int) - 1), .slice A (m * m) c] 27)).alloc (.cells #[.int .i64 0, .slice none 0 0] 27)) := psh (psh (Below.refl _ _) (Nat.le_refl _) _) (Nat.le_refl _) _
  have hsz : ((w.alloc (.cells #[.int .i64 ((m : Int) - 1), .slice A (m * m) c] 27)).alloc (.cells #[.int .i64 0, .slice none 0 0] 27)).heap.size = w.heap.size + 2 := by simp
  simp only [World.size_alloc] at bR
  obtain ⟨W0, hW0⟩ : ∃ W0, (w.alloc (.cells #[.int .i64 ((m : Int) - 1), .slice A (m * m) c] 27)).alloc (.cells #[.int .i64 0, .slice none 0 0] 27) = W0 := ⟨_, rfl⟩
  rw [hW0] at bZ bR cur hsz ⊢
  clear hW0
  obtain ⟨s, hs⟩ : ∃ s, w.heap.size = s := ⟨_, rfl⟩
  rw [hs] at bZ bR cur hsz
  obtain ⟨x0, x1, -, -⟩ := cells2 bZ
  obtain ⟨x0, x1, -, -⟩ := cells2 bZ
  gi_wp2_with (refine ⟨trivial, ?_⟩; first | (gi_at_call 54; refine (callsIn_wide.2 (HW.out _ (by rw [hs]; exact cur))).mono ?_; rintro e w1 ⟨rfl, hb1⟩; replace bZ := blk_below bZ hb1; replace bR := blk_below bR hb1; replace cur := cur.trans (hb1.mono (by omega)); obtain ⟨y0, y1, -, -⟩ := cells2 bZ) | (gi_at_call 55; refine (callsIn_wide.2 (HO.out _ (by rw [hs]; exact cur))).mono ?_; rintro e w2 ⟨g, cc, rfl, hcc, hgs, hrow, hb2⟩; replace bZ := blk_below bZ hb2; replace bR := blk_below bR hb2; replace cur := cur.trans (hb2.mono (by have := cur.size; omega)); have HR := Lib.hid hrow))
  have bO := blk_new w2 (.cells #[.int .i64 ((m : Int) - 1), .slice (some ⟨g, 0, none⟩) (m * m) cc] 27)
  replace bZ := blk_alloc bZ (.cells #[.int .i64 ((m : Int) - 1), .slice (some ⟨g, 0, none⟩) (m * m) cc] 27)
  replace bR := blk_alloc bR (.cells #[.int .i64 ((m : Int) - 1), .slice (some ⟨g, 0, none⟩) (m * m) cc] 27)
  have hR3 := HR.out.below (psh (Below.refl w2.heap.size w2) (Nat.le_refl _) (.cells #[.int .i64 ((m : Int) - 1), .slice (some ⟨g, 0, none⟩) (m * m) cc] 27))
  have hgq : g < w2.heap.size := HR.out.lt
  have hsg : s + 2 ≤ g := by have := hb1.size; omega
  have hq0 : s + 2 ≤ w2.heap.size := by omega
  have hsz3 : (w2.alloc (.cells #[.int .i64 ((m : Int) - 1), .slice (some ⟨g, 0, none⟩) (m * m) cc] 27)).heap.size = w2.heap.size + 1 := by simp
  replace cur := psh cur (by omega) (.cells #[.int .i64 ((m : Int) - 1), .slice (some ⟨g, 0, none⟩) (m * m) cc] 27)
  have HCC := Lib.hid hcc
  clear HR hrow hgs hb2 hb1 y0 y1 x0 x1
  obtain ⟨W3, hW3⟩ : ∃ W3, w2.alloc (.cells #[.int .i64 ((m : Int) - 1), .slice (some ⟨g, 0, none⟩) (m * m) cc] 27) = W3 := ⟨_, rfl⟩
  obtain ⟨q, hq⟩ : ∃ q, w2.heap.size = q := ⟨_, rfl⟩
  rw [hW3] at bO bZ bR hR3 hsz3 cur ⊢
  rw [hq] at bO hgq hq0 hsz3 ⊢
  clear hW3
  refine ⟨trivial, ?_⟩
  gi_at_call 56
  refine (all_in 19 _ _ _).mono ?_
  rintro e w4 ⟨rfl, rfl⟩
  gi_wp2_with fail
  have bI := blk_new W3 (.cells #[.int .i64 ((m : Int) - 1), .slice (some ⟨g, 0, none⟩) (m * m) cc] 27)
  replace bZ := blk_alloc bZ (.cells #[.int .i64 ((m : Int) - 1), .slice (some ⟨g, 0, none⟩) (m * m) cc] 27)
  replace bR := blk_alloc bR (.cells #[.int .i64 ((m : Int) - 1), .slice (some ⟨g, 0, none⟩) (m * m) cc] 27)
  replace bO := blk_alloc bO (.cells #[.int .i64 ((m : Int) - 1), .slice (some ⟨g, 0, none⟩) (m * m) cc] 27)
  have hR4 := hR3.below (psh (Below.refl W3.heap.size W3) (Nat.le_refl _) (.cells #[.int .i64 ((m : Int) - 1), .slice (some ⟨g, 0, none⟩) (m * m) cc] 27))
  replace cur := psh cur (by omega) (.cells #[.int .i64 ((m : Int) - 1), .slice (some ⟨g, 0, none⟩) (m * m) cc] 27)
  have hsz4 : (W3.alloc (.cells #[.int .i64 ((m : Int) - 1), .slice (some ⟨g, 0, none⟩) (m * m) cc] 27)).heap.size = q + 2 := by simp [hsz3]
  rw [hsz3] at bI
  clear hR3
  obtain ⟨W4, hW4⟩ : ∃ W4, W3.alloc (.cells #[.int .i64 ((m : Int) - 1), .slice (some ⟨g, 0, none⟩) (m * m) cc] 27) = W4 := ⟨_, rfl⟩
  rw [hW4] at bO bZ bR bI hR4 hsz4 cur ⊢
  clear hW4 hsz3 W3
  refine range_all (n := 20) (by omega) hm0 hm7 (Bz := q + 1) (gr := g) (D := fun j => L.getD j 0) (fun E x => min (nearZ (E x)) (mostZ (x / m) (x % m))) (fun _ => True) rfl rfl (hp_cell bI 0 rfl) (by omega) (by omega) hR4 trivial (fun _ _ _ _ => trivial)
    (fun x Bx => { tmps := #[.agg #[.int .i64 ((m : Int) - 1), .slice A (m * m) c], .pointer (some ⟨s, 0, none⟩), .pointer (some ⟨s + 1, 0, none⟩), .pointer (some ⟨q, 0, none⟩), .int .i64 (x : Int), .pointer (some ⟨Bx, 0, none⟩), undef, undef, undef, .agg #[.int .i64 ((m : Int) - 1), .slice A (m * m) c], .bool true, .bool false, undef, undef, undef, .agg #[.int .i64 ((m : Int) - 1), .slice A (m * m) c], .agg #[.int .i64 ((m : Int) - 1), .slice (some ⟨g, 0, none⟩) (m * m) cc], .agg #[.int .i64 ((m : Int) - 1), .slice (some ⟨g, 0, none⟩) (m * m) cc], .func (.func 97) #[] #[.pointer (some ⟨q + 1, 0, none⟩)], .int .i64 (x : Int), .agg #[.int .i64 (Zn.row m x), .int .i64 (Zn.col m x)], undef, undef, undef, undef, undef, undef, undef, undef, undef, undef, undef, undef, undef, undef, undef, undef, undef, undef, undef, undef, undef, undef, undef, undef, undef, undef, undef, undef, undef, undef, undef, undef, undef, undef, undef, undef, undef, undef, undef, undef, undef, undef, undef, undef, undef, undef, undef, undef, undef, undef, undef, undef, undef, undef, undef, undef], defers := [] }) ?assign ?body ?done
  case assign =>
    intro l x W K hK
    unfold Zn.enc
    gi_wp2
    exact hK
  case body =>
    intro l x Bx E W hx hBx bX hR hG _
    have z1 := hp_cell (gheap hG bO (by omega)) 1 (v := .slice (some ⟨g, 0, none⟩) (m * m) cc) rfl
    have d1 := hR.cell x hx
    have p0 := hp_cell bX 0 (v := .int .i64 (Zn.row m x)) rfl
    have p1 := hp_cell bX 1 (v := .int .i64 (Zn.col m x)) rfl
    have hx0 : (0 : Int) ≤ (x : Int) := by omega
    have hmi : ((m * m : Nat) : Int) = (m : Int) * m := Int.natCast_mul m m
    have hx1 : (x : Int) < (m : Int) * m := by rw [← hmi]; omega
    gi_wp2_with fail
    refine start_round (n := 14) (S := fun w' => w'.cell? ⟨q, 1, none⟩ = some (.slice (some ⟨g, 0, none⟩) (m * m) cc) ∧ w'.cell? ⟨g, x, none⟩ = some (.int .i64 (E x)) ∧ w'.cell? ⟨Bx, 0, none⟩ = some (.int .i64 (Zn.row m x)) ∧ w'.cell? ⟨Bx, 1, none⟩ = some (.int .i64 (Zn.col m x))) (ds := [13]) #[false, false, false, false, false, false, false, false, false, false, false, false, false, false] (by kernel_rfl) rfl rfl (by kernel_rfl) (fun ⟨_, _, h⟩ => h) ⟨cell_below ((Below.refl W.heap.size W).drew) z1, cell_below ((Below.refl W.heap.size W).drew) d1, cell_below ((Below.refl W.heap.size W).drew) p0, cell_below ((Below.refl W.heap.size W).drew) p1⟩ (fun hHeld => ?_)
    refine pure_ (i := 0) (N := some 21) (v := ?_) (a' := ?_) #[true, false, false, false, false, false, false, false, false, false, false, false, false, false] rfl rfl (by kernel_rfl) (fun _ _ _ h => h) (Or.inl ⟨by rfl, ?_⟩) ?_ ?_
    rotate_left
    · intro w'
      go_simp
      with_reducible rfl
    rotate_left
    · simp only [Act.put, List.setIfInBounds_toArray, List.set_cons_zero, List.set_cons_succ, i64_w, i32_w]
      rfl
    refine pure_ (i := 2) (N := some 23) (v := ?_) (a' := ?_) #[true, false, true, false, false, false, false, false, false, false, false, false, false, false] rfl rfl (by kernel_rfl) (fun _ _ _ h => h) (Or.inl ⟨by rfl, ?_⟩) ?_ ?_
    rotate_left
    · intro w'
      go_simp
      with_reducible rfl
    rotate_left
    · simp only [Act.put, List.setIfInBounds_toArray, List.set_cons_zero, List.set_cons_succ, i64_w, i32_w]
      rfl
    refine pure_ (i := 3) (N := some 24) (v := ?_) (a' := ?_) #[true, false, true, true, false, false, false, false, false, false, false, false, false, false] rfl rfl (by kernel_rfl) (fun _ _ _ h => h) (Or.inl ⟨by rfl, ?_⟩) ?_ ?_
    rotate_left
    · intro w'
      go_simp
      with_reducible rfl
    rotate_left
    · simp only [Act.put, List.setIfInBounds_toArray, List.set_cons_zero, List.set_cons_succ, i64_w, i32_w]
      rfl
    refine pure_ (i := 5) (N := some 26) (v := ?_) (a' := ?_) #[true, false, true, true, false, true, false, false, false, false, false, false, false, false] rfl rfl (by kernel_rfl) (fun _ _ _ h => h) (Or.inl ⟨by rfl, ?_⟩) ?_ ?_
    rotate_left
    · intro w'
      go_simp
      with_reducible rfl
    rotate_left
    · simp only [Act.put, List.setIfInBounds_toArray, List.set_cons_zero, List.set_cons_succ, i64_w, i32_w]
      rfl
    refine take_ (i := 1) (N := some 22) (v := ?_) (a' := ?_) #[true, true, true, true, false, true, false, false, false, false, false, false, false, false] rfl rfl (by kernel_rfl) (fun _ _ _ h => h) (Or.inl ⟨by rfl, ?_⟩) hHeld ?_ ?_
    rotate_left
    · rintro w' ⟨s0, s1, s2, s3⟩
      go_simp
      with_reducible rfl
    rotate_left
    · simp only [Act.put, List.setIfInBounds_toArray, List.set_cons_zero, List.set_cons_succ, i64_w, i32_w]
      rfl
    refine take_ (i := 4) (N := some 25) (v := ?_) (a' := ?_) #[true, true, true, true, true, true, false, false, false, false, false, false, false, false] rfl rfl (by kernel_rfl) (fun _ _ _ h => h) (Or.inl ⟨by rfl, ?_⟩) hHeld ?_ ?_
    rotate_left
    · rintro w' ⟨s0, s1, s2, s3⟩
      go_simp
      with_reducible rfl
    rotate_left
    · simp only [Act.put, List.setIfInBounds_toArray, List.set_cons_zero, List.set_cons_succ, i64_w, i32_w]
      rfl
    refine pure_ (i := 6) (N := some 27) (v := ?_) (a' := ?_) #[true, true, true, true, true, true, true, false, false, false, false, false, false, false] rfl rfl (by kernel_rfl) (fun _ _ _ h => h) (Or.inl ⟨by rfl, ?_⟩) ?_ ?_
    rotate_left
    · intro w'
      go_simp
      with_reducible rfl
    rotate_left
    · simp only [Act.put, List.setIfInBounds_toArray, List.set_cons_zero, List.set_cons_succ, i64_w, i32_w]
      rfl
    refine take_ (i := 7) (N := some 28) (v := ?_) (a' := ?_) #[true, true, true, true, true, true, true, true, false, false, false, false, false, false] rfl rfl (by kernel_rfl) (fun _ _ _ h => h) (Or.inl ⟨by rfl, ?_⟩) hHeld ?_ ?_
    rotate_left
    · rintro w' ⟨s0, s1, s2, s3⟩
      go_simp
      with_reducible rfl
    rotate_left
    · simp only [Act.put, List.setIfInBounds_toArray, List.set_cons_zero, List.set_cons_succ, i64_w, i32_w]
      rfl
    refine take_ (i := 9) (N := some 30) (v := ?_) (a' := ?_) #[true, true, true, true, true, true, true, true, false, true, false, false, false, false] rfl rfl (by kernel_rfl) (fun _ _ _ h => h) (Or.inl ⟨by rfl, ?_⟩) hHeld ?_ ?_
    rotate_left
    · rintro w' ⟨s0, s1, s2, s3⟩
      go_simp
      with_reducible rfl
    rotate_left
    · simp only [Act.put, List.setIfInBounds_toArray, List.set_cons_zero, List.set_cons_succ, i64_w, i32_w]
      rfl
    refine one_ (i := 8) (N := some 29) #[true, true, true, true, true, true, true, true, true, true, false, false, false, false] rfl rfl (by kernel_rfl) (by decide) (fun K hK => ?_)
    refine goes_ Tryd.func57 (by kernel_rfl) rfl #[.int .i64 (E x)] (by rfl) rfl rfl (by simp only [List.map_toArray, List.map_cons, List.map_nil]; rfl) ?_
    with_reducible refine (Near_any (E x) _).mono ?_
    rintro e w3 ⟨rfl, hb⟩
    refine ⟨_, rfl, ?_⟩
    have cur := seq ((Below.refl W.heap.size W).drew) hb
    clear hb
    refine hK.out _ _ ⟨cell_below cur z1, cell_below cur d1, cell_below cur p0, cell_below cur p1⟩ (fun hHeld => ?_)
    clear hK K
    refine norm_ (a' := ?_) ?_ ?_
    rotate_left
    · show Act.put _ (some 29) _ = _
      simp only [Act.put, List.setIfInBounds_toArray, List.set_cons_zero, List.set_cons_succ, i64_w, i32_w]
      rfl
    refine one_ (i := 10) (N := some 31) #[true, true, true, true, true, true, true, true, true, true, true, false, false, false] rfl rfl (by kernel_rfl) (by decide) (fun K hK => ?_)
    refine goes_ Tryd.func58 (by kernel_rfl) rfl #[.agg #[.int .i64 (Zn.row m x), .int .i64 (Zn.col m x)]] (by rfl) rfl rfl (by simp only [List.map_toArray, List.map_cons, List.map_nil]; rfl) ?_
    with_reducible refine (most_rc m x _).mono ?_
    rintro e w3 ⟨rfl, hb⟩
    refine ⟨_, rfl, ?_⟩
    replace cur := seq cur hb
    clear hb
    refine hK.out _ _ ⟨cell_below cur z1, cell_below cur d1, cell_below cur p0, cell_below cur p1⟩ (fun hHeld => ?_)
    clear hK K
    refine norm_ (a' := ?_) ?_ ?_
    rotate_left
    · show Act.put _ (some 31) _ = _
      simp only [Act.put, List.setIfInBounds_toArray, List.set_cons_zero, List.set_cons_succ, i64_w, i32_w]
      rfl
    refine pure_ (i := 11) (N := some 32) (v := ?_) (a' := ?_) #[true, true, true, true, true, true, true, true, true, true, true, true, false, false] rfl rfl (by kernel_rfl) (fun _ _ _ h => h) (Or.inl ⟨by rfl, ?_⟩) ?_ ?_
    rotate_left
    · intro w'
      go_simp
      with_reducible rfl
    rotate_left
    · simp only [Act.put, List.setIfInBounds_toArray, List.set_cons_zero, List.set_cons_succ, i64_w, i32_w]
      rfl
    refine pure_ (i := 12) (N := some 33) (v := ?_) (a' := ?_) #[true, true, true, true, true, true, true, true, true, true, true, true, true, false] rfl rfl (by kernel_rfl) (fun _ _ _ h => h) (Or.inl ⟨by rfl, ?_⟩) ?_ ?_
    rotate_left
    · intro w'
      go_simp
      with_reducible rfl
    rotate_left
    · simp only [Act.put, List.setIfInBounds_toArray, List.set_cons_zero, List.set_cons_succ, i64_w, i32_w]
      rfl
    refine last_ (i := 13) (N := none) #[true, true, true, true, true, true, true, true, true, true, true, true, true, true] rfl rfl (by kernel_rfl) (by decide) (fun K hK => ?_)
    have RC := hR.below cur
    have RC0 := RC.cell x hx
    have RC1 := RC.free x
    refine skip_ (w1 := ?_) (by rfl) rfl ?_ ?_
    rotate_left
    · go_simp
      rfl
    refine hK.out _ _ ?_
    clear hK K
    refine done_ (by kernel_rfl) ?_

    exact ⟨gtrans (grown_of_below cur (some g)) (gset _ _ _ _), RC.store x _⟩
  case done =>
    intro Dm W hDm hG hR hK
    dsimp only
    replace bZ := gheap hG bZ (by omega)
    replace bR := gheap hG bR (by omega)
    replace bO := gheap hG bO (by omega)
    replace cur := gbelow cur hG (by omega) (by omega)
    have hsW := hG.size
    have M1 : Marks s W [Dm] := Marks.nil.cons (W0 := W4) ⟨List.nodup_nil, fun _ h => by cases h⟩ (by omega) hDm hK
    have hRf : RowB W g (m * m) (fun p => Zn.fws (Zn.f0 m L) 0 (p / m) (p % m)) := hR.ext (fun p hp => by
      rw [Zn.step1_all hm0 (fun x e => min (nearZ e) (mostZ (x / m) (x % m))) p hp]
      show _ = min (nearZ (L.getD (p / m * m + p % m) 0)) (Zn.mo (p / m) (p % m))
      rw [Nat.mul_comm (p / m) m, Nat.div_add_mod]
      rfl)
    clear hR hR4 bI hG hsz4 hK hq
    gi_wp2_with fail
    have C0 : CL m s q g cc c A L w 0 W.heap.size [Dm] (W.alloc (.cells #[.int .i64 0] 3)) :=
      ⟨Nat.zero_le _, blk_alloc bZ _, blk_alloc bR _, blk_alloc bO _, blk_new _ _, Nat.ne_of_gt hRf.lt, hRf.below (psh (Below.refl _ _) (Nat.le_refl _) _), M1.below (psh (Below.refl _ _) (Nat.le_refl _) _), psh cur (by omega) _, fun _ h => by omega⟩
    clear bZ bR bO cur M1 hRf hDm hsW
    rename_i K0 HK0
    have REST : ∀ (k Bk : Nat) (Ds : List Nat) (W : World) (u34 u35 u36 u37 u38 u39 u40 u41 u42 u43 u44 u45 u46 u70 : Value), CL m s q g cc c A L w k Bk Ds W → (k = m ∨ Zn.badB m (Zn.fws (Zn.f0 m L) k) = true) → K0 { tmps := #[.agg #[.int .i64 ((m : Int) - 1), .slice A (m * m) c], .pointer (some ⟨s, 0, none⟩), .pointer (some ⟨s + 1, 0, none⟩), .pointer (some ⟨q, 0, none⟩), undef, undef, .pointer (some ⟨Bk, 0, none⟩), undef, undef, .agg #[.int .i64 ((m : Int) - 1), .slice A (m * m) c], .bool true, .bool false, undef, undef, undef, .agg #[.int .i64 ((m : Int) - 1), .slice A (m * m) c], .agg #[.int .i64 ((m : Int) - 1), .slice (some ⟨g, 0, none⟩) (m * m) cc], .agg #[.int .i64 ((m : Int) - 1), .slice (some ⟨g, 0, none⟩) (m * m) cc], .func (.func 97) #[] #[.pointer (some ⟨q + 1, 0, none⟩)], undef, undef, undef, undef, undef, undef, undef, undef, undef, undef, undef, undef, undef, undef, undef, u34, u35, u36, u37, u38, u39, u40, u41, u42, u43, u44, u45, u46, undef, undef, undef, undef, undef, undef, undef, undef, undef, undef, undef, undef, undef, undef, undef, undef, undef, undef, undef, undef, undef, undef, undef, u70, undef, undef, undef, undef, undef, undef], defers := Ds.map mk } W := by
      intro k Bk Ds W u34 u35 u36 u37 u38 u39 u40 u41 u42 u43 u44 u45 u46 u70 C hk
      refine HK0 _ _ ?_
      clear HK0
      dsimp only
      obtain ⟨kle, bZ, bR, bO, bK, nK, row, marks, cur, ok⟩ := C
      have HRow := Lib.hid row
      have HM := Lib.hid marks
      have HOk := Lib.hid ok
      clear row marks ok bK nK
      obtain ⟨o0, o1, -, -⟩ := cells2 bO
      obtain ⟨bb, hbb⟩ : ∃ bb, Zn.badB m (Zn.fws (Zn.f0 m L) k) = bb := ⟨_, rfl⟩
      have HB := Lib.hid hbb
      rw [hbb] at hk
      clear hbb
      have HBo := bot_m hm0 hm7
      cases bb
      · have hkm : k = m := by
          rcases hk with h | h
          · exact h
          · cases h
        clear hk
        gi_wp2_with fail
        refine ⟨trivial, ?_⟩
        gi_at_call 59
        refine (against_bad (by omega) hm0 hm7 HRow.out).mono ?_
        rw [HB.out]
        rintro e w5 ⟨rfl, hb5⟩
        replace bR := blk_below bR hb5
        replace bO := blk_below bO hb5
        replace cur := cur.trans (hb5.mono (by have := cur.size; omega))
        have HR5 := Lib.hid (HRow.out.below hb5)
        have HM5 := Lib.hid (HM.out.below hb5)
        obtain ⟨o0, o1, -, -⟩ := cells2 bO
        obtain ⟨r0, r1, r2, r3⟩ := cells2 bR
        gi_wp2_with fail
        have bR6 := zput bR (.int .i64 ((m : Int) - 1)) (.slice (some ⟨g, 0, none⟩) (m * m) cc)
        have HM6 := Lib.hid (HM5.out.zput bR (.int .i64 ((m : Int) - 1)) (.slice (some ⟨g, 0, none⟩) (m * m) cc))
        have HR6 := Lib.hid ((HR5.out.far (p := ⟨s + 1, 0, none⟩) (by show g ≠ s + 1; omega) (.int .i64 ((m : Int) - 1))).far (p := ⟨s + 1, 1, none⟩) (by show g ≠ s + 1; omega) (.slice (some ⟨g, 0, none⟩) (m * m) cc))
        have HC6 := Lib.hid ((cur.setCell (p := ⟨s + 1, 0, none⟩) (by simp) (.int .i64 ((m : Int) - 1))).setCell (p := ⟨s + 1, 1, none⟩) (by simp) (.slice (some ⟨g, 0, none⟩) (m * m) cc))
        refine leaves_marks Ds _ HM6.out (by have := HC6.out.size; omega) (fun W' hb hc => ⟨_, zret rfl _ _ (s + 1) (hc _ _ bR6 rfl) rfl, ?_⟩)
        have hR : R = ((m : Int) - 1, Zn.tab m (Zn.fws (Zn.f0 m L) m)) := by
          rw [← HRes.out, if_neg]
          intro c
          rw [List.any_eq_true] at c
          obtain ⟨k', hk', hb'⟩ := c
          have hk' := List.mem_range.1 hk'
          by_cases e : k' = m
          · have hb0 := HB.out
            rw [hkm] at hb0
            rw [e, hb0] at hb'
            cases hb'
          · rw [HOk.out k' (by omega)] at hb'
            cases hb'
        rw [hR]
        have hin := (HR6.out.kept hc).ints HCC.out (by omega)
        rw [hkm] at hin
        have htl := Zn.tab_length m (Zn.fws (Zn.f0 m L) m)
        refine ⟨_, rfl, ⟨some ⟨g, 0, none⟩, cc, by rw [htl], by rw [htl]; exact hin, fun a e _ => by cases e; rw [hs]; show s ≤ g; omega⟩, by rw [hs]; exact HC6.out.trans hb⟩
      · clear hk
        gi_wp2_with (refine ⟨trivial, ?_⟩; first | (gi_at_call 59; refine (against_bad (by omega) hm0 hm7 HRow.out).mono ?_; rw [HB.out]; rintro e w5 ⟨rfl, hb5⟩; replace bR := blk_below bR hb5; replace bZ := blk_below bZ hb5; replace cur := cur.trans (hb5.mono (by have := cur.size; omega)); have HM5 := Lib.hid (HM.out.below hb5); obtain ⟨z0, z1, -, -⟩ := cells2 bZ) | (gi_at_call 27; refine (callsIn_wide.2 (Bottom_any _ _)).mono ?_; rw [HBo]; rintro e w6 ⟨bv, rfl, hi, hb6⟩; obtain ⟨bo, bc, rfl⟩ := ints_nil hi; replace bR := blk_below bR hb6; replace cur := cur.trans (hb6.mono (by have := cur.size; omega)); have HM6 := Lib.hid (HM5.out.below hb6); have HI := Lib.hid hi; obtain ⟨r0, r1, r2, r3⟩ := cells2 bR))
        have bR7 := zput bR (.int .i64 ((m : Int) - 1)) (.slice bo 0 bc)
        have HM7 := Lib.hid (HM6.out.zput bR (.int .i64 ((m : Int) - 1)) (.slice bo 0 bc))
        have HC7 := Lib.hid ((cur.setCell (p := ⟨s + 1, 0, none⟩) (by simp) (.int .i64 ((m : Int) - 1))).setCell (p := ⟨s + 1, 1, none⟩) (by simp) (.slice bo 0 bc))
        refine leaves_marks Ds _ HM7.out (by have := HC7.out.size; omega) (fun W' hb hc => ⟨_, zret rfl _ _ (s + 1) (hc _ _ bR7 rfl) rfl, ?_⟩)
        have hR : R = ((m : Int) - 1, []) := by
          rw [← HRes.out, if_pos]
          rw [List.any_eq_true]
          exact ⟨k, List.mem_range.2 (by omega), HB.out⟩
        rw [hR]
        exact ⟨_, rfl, ⟨bo, bc, rfl, ⟨bo, bc, rfl, by simp, by simp, fun h => absurd rfl h⟩, fun _ _ h => absurd rfl h⟩, by rw [hs]; exact HC7.out.trans hb⟩
    refine loop_ghost (fun j a' w' => ∃ (k Bk : Nat) (Ds : List Nat) (u34 u35 u36 u37 u38 u39 u40 u41 u42 u43 u44 u45 u46 u70 : Value), j + k = m ∧ a' = { tmps := #[.agg #[.int .i64 ((m : Int) - 1), .slice A (m * m) c], .pointer (some ⟨s, 0, none⟩), .pointer (some ⟨s + 1, 0, none⟩), .pointer (some ⟨q, 0, none⟩), undef, undef, .pointer (some ⟨Bk, 0, none⟩), undef, undef, .agg #[.int .i64 ((m : Int) - 1), .slice A (m * m) c], .bool true, .bool false, undef, undef, undef, .agg #[.int .i64 ((m : Int) - 1), .slice A (m * m) c], .agg #[.int .i64 ((m : Int) - 1), .slice (some ⟨g, 0, none⟩) (m * m) cc], .agg #[.int .i64 ((m : Int) - 1), .slice (some ⟨g, 0, none⟩) (m * m) cc], .func (.func 97) #[] #[.pointer (some ⟨q + 1, 0, none⟩)], undef, undef, undef, undef, undef, undef, undef, undef, undef, undef, undef, undef, undef, undef, undef, u34, u35, u36, u37, u38, u39, u40, u41, u42, u43, u44, u45, u46, undef, undef, undef, undef, undef, undef, undef, undef, undef, undef, undef, undef, undef, undef, undef, undef, undef, undef, undef, undef, undef, undef, undef, u70, undef, undef, undef, undef, undef, undef], defers := Ds.map mk } ∧ CL m s q g cc c A L w k Bk Ds w') ?round m _ _ ⟨0, W.heap.size, [Dm], _, _, _, _, _, _, _, _, _, _, _, _, _, _, rfl, rfl, C0⟩
    case round =>
      rintro j a' W2 ⟨k, Bk, Ds, u34, u35, u36, u37, u38, u39, u40, u41, u42, u43, u44, u45, u46, u70, hj, rfl, C⟩
      clear HK0 C0
      dsimp only
      have C' := C
      obtain ⟨kle, bZ, bR, bO, bK, nK, row, marks, cur, ok⟩ := C
      obtain ⟨o0, o1, -, -⟩ := cells2 bO
      obtain ⟨z0, z1, -, -⟩ := cells2 bZ
      have k0 := hp_cell bK 0 (v := .int .i64 (k : Int)) rfl
      have HRow := Lib.hid row
      have HM := Lib.hid marks
      have HOk := Lib.hid ok
      have HC := Lib.hid C'
      have HRest := Lib.hid REST
      clear row marks ok C' REST
      by_cases hkm : k = m
      · have hle : ¬ (k : Int) ≤ (m : Int) - 1 := by omega
        gi_wp2_with fail
        refine ⟨trivial, ?_⟩
        gi_wp2_with fail
        refine HRest.out _ _ _ _ _ _ _ _ _ _ _ _ _ _ _ _ _ _ HC.out (.inl hkm)
      · have hle : (k : Int) ≤ (m : Int) - 1 := by omega
        have hkm' : k < m := by omega
        gi_wp2_with fail
        refine ⟨trivial, ?_⟩
        gi_at_call 59
        refine (against_bad (by omega) hm0 hm7 HRow.out).mono ?_
        obtain ⟨bb, hbb⟩ : ∃ bb, Zn.badB m (Zn.fws (Zn.f0 m L) k) = bb := ⟨_, rfl⟩
        have HB := Lib.hid hbb
        rw [hbb]
        clear hbb
        rintro e w5 ⟨rfl, hb5⟩
        replace bR := blk_below bR hb5
        replace bO := blk_below bO hb5
        replace bZ := blk_below bZ hb5
        replace bK := blk_below bK hb5
        replace cur := cur.trans (hb5.mono (by have := cur.size; omega))
        have HR5 := Lib.hid (HRow.out.below hb5)
        have HM5 := Lib.hid (HM.out.below hb5)
        clear o0 o1 z0 z1 k0
        obtain ⟨o0, o1, -, -⟩ := cells2 bO
        cases bb
        · gi_wp2_with fail
          refine ⟨trivial, ?_⟩
          gi_at_call 56
          refine (all_in 19 _ _ _).mono ?_
          rintro e w6 ⟨rfl, rfl⟩
          gi_wp2_with fail
          have bI := blk_new w5 (.cells #[.int .i64 ((m : Int) - 1), .slice (some ⟨g, 0, none⟩) (m * m) cc] 27)
          replace bZ := blk_alloc bZ (.cells #[.int .i64 ((m : Int) - 1), .slice (some ⟨g, 0, none⟩) (m * m) cc] 27)
          replace bR := blk_alloc bR (.cells #[.int .i64 ((m : Int) - 1), .slice (some ⟨g, 0, none⟩) (m * m) cc] 27)
          replace bO := blk_alloc bO (.cells #[.int .i64 ((m : Int) - 1), .slice (some ⟨g, 0, none⟩) (m * m) cc] 27)
          replace bK := blk_alloc bK (.cells #[.int .i64 ((m : Int) - 1), .slice (some ⟨g, 0, none⟩) (m * m) cc] 27)
          have hbp := psh (Below.refl w5.heap.size w5) (Nat.le_refl _) (.cells #[.int .i64 ((m : Int) - 1), .slice (some ⟨g, 0, none⟩) (m * m) cc] 27)
          have hR6 := HR5.out.below hbp
          have HM6 := Lib.hid (HM5.out.below hbp)
          have hgl := hR6.lt
          have hg5 := HR5.out.lt
          replace cur := psh cur (by omega) (.cells #[.int .i64 ((m : Int) - 1), .slice (some ⟨g, 0, none⟩) (m * m) cc] 27)
          have hsz6 : (w5.alloc (.cells #[.int .i64 ((m : Int) - 1), .slice (some ⟨g, 0, none⟩) (m * m) cc] 27)).heap.size = w5.heap.size + 1 := by simp
          obtain ⟨p, hp⟩ : ∃ p, w5.heap.size = p := ⟨_, rfl⟩
          rw [hp] at bI hsz6 hg5 ⊢
          obtain ⟨W7, hW7⟩ : ∃ W7, w5.alloc (.cells #[.int .i64 ((m : Int) - 1), .slice (some ⟨g, 0, none⟩) (m * m) cc] 27) = W7 := ⟨_, rfl⟩
          rw [hW7] at bO bZ bR bK bI hR6 hsz6 cur HM6 hgl ⊢
          clear hW7 hbp HR5 HM5 o0 o1
          have hDz : Zn.fws (Zn.f0 m L) k ((k * m + k) / m) ((k * m + k) % m) = 0 := by
            rw [Zn.div_of hkm', Zn.mod_of hkm']; exact Zn.fws_zero HB.out hkm'
          have hDl : ∀ p', p' < m * m → -2305843009213693952 ≤ Zn.fws (Zn.f0 m L) k (p' / m) (p' % m) := fun p' hp' => by
            have := Zn.fws_ge HB.out (Zn.div_lt hp') (Nat.mod_lt p' hm0)
            have h2 := (Zn.mo_pos (p' / m) (p' % m)).2
            omega
          refine range_all (n := 20) (by omega) hm0 hm7 (Bz := p) (gr := g) (D := fun p' => Zn.fws (Zn.f0 m L) k (p' / m) (p' % m)) (Zn.stepK m k) (Zn.InvK m k (fun p' => Zn.fws (Zn.f0 m L) k (p' / m) (p' % m))) rfl rfl (hp_cell bI 0 rfl) (by omega) (by omega) hR6
            ⟨fun _ _ => rfl, fun _ _ => rfl, fun p' hp' => by have := hDl p' hp'; omega, fun p' hp' => Zn.fws_le_mo⟩ (fun E x hx hI => hI.step hkm' hDz hDl hx)
            (fun x Bx => { tmps := #[.agg #[.int .i64 ((m : Int) - 1), .slice A (m * m) c], .pointer (some ⟨s, 0, none⟩), .pointer (some ⟨s + 1, 0, none⟩), .pointer (some ⟨q, 0, none⟩), undef, undef, .pointer (some ⟨Bk, 0, none⟩), .int .i64 (x : Int), .pointer (some ⟨Bx, 0, none⟩), .agg #[.int .i64 ((m : Int) - 1), .slice A (m * m) c], .bool true, .bool false, undef, undef, undef, .agg #[.int .i64 ((m : Int) - 1), .slice A (m * m) c], .agg #[.int .i64 ((m : Int) - 1), .slice (some ⟨g, 0, none⟩) (m * m) cc], .agg #[.int .i64 ((m : Int) - 1), .slice (some ⟨g, 0, none⟩) (m * m) cc], .func (.func 97) #[] #[.pointer (some ⟨q + 1, 0, none⟩)], undef, undef, undef, undef, undef, undef, undef, undef, undef, undef, undef, undef, undef, undef, undef, .int .i64 (k : Int), .pointer (some ⟨s, 0, none⟩), .int .i64 ((m : Int) - 1), .bool true, .bool true, .agg #[.int .i64 ((m : Int) - 1), .slice (some ⟨g, 0, none⟩) (m * m) cc], .bool false, .bool true, .bool true, u43, u44, .agg #[.int .i64 ((m : Int) - 1), .slice (some ⟨g, 0, none⟩) (m * m) cc], .func (.func 97) #[] #[.pointer (some ⟨p, 0, none⟩)], .int .i64 (x : Int), .agg #[.int .i64 (Zn.row m x), .int .i64 (Zn.col m x)], undef, undef, undef, undef, undef, undef, undef, undef, undef, undef, undef, undef, undef, undef, undef, undef, undef, undef, undef, undef, undef, u70, undef, undef, undef, undef, undef, undef], defers := [] }) ?assign ?body ?done
          case assign =>
            intro l x W K hK
            unfold Zn.enc
            gi_wp2
            exact hK
          case body =>
            intro l x Bx E W hx hBx bX hR hG hI
            have hxi := Zn.div_lt hx
            have hxj := Nat.mod_lt x hm0
            have z1 := hp_cell (gheap hG bO (by omega)) 1 (v := .slice (some ⟨g, 0, none⟩) (m * m) cc) rfl
            have z0 := hp_cell (gheap hG bO (by omega)) 0 (v := .int .i64 ((m : Int) - 1)) rfl
            have k0 := hp_cell (gheap hG bK nK) 0 (v := .int .i64 (k : Int)) rfl
            have d1 := hR.cell x hx
            have p0 := hp_cell bX 0 (v := .int .i64 (Zn.row m x)) rfl
            have p1 := hp_cell bX 1 (v := .int .i64 (Zn.col m x)) rfl
            have hx0 : (0 : Int) ≤ (x : Int) := by omega
            have hmi : ((m * m : Nat) : Int) = (m : Int) * m := Int.natCast_mul m m
            have hx1 : (x : Int) < (m : Int) * m := by rw [← hmi]; omega
            have hst : Zn.stepK m k E x = min (E x) (E (x / m * m + k) + E (k * m + x % m)) := rfl
            obtain ⟨ea, hea⟩ : ∃ ea, E (x / m * m + k) = ea := ⟨_, rfl⟩
            obtain ⟨eb, heb⟩ : ∃ eb, E (k * m + x % m) = eb := ⟨_, rfl⟩
            have la := hI.low _ (Zn.lt_of hxi hkm')
            have ha := hI.high _ (Zn.lt_of hxi hkm')
            have lb := hI.low _ (Zn.lt_of hkm' hxj)
            have hb := hI.high _ (Zn.lt_of hkm' hxj)
            rw [hea] at la ha hst
            rw [heb] at lb hb hst
            have hadd : IntKind.i64.wrap (ea + eb) = ea + eb := IntWalk.i64_in _ (by omega)
            have HEa := Lib.hid hea
            have HEb := Lib.hid heb
            have HSt := Lib.hid hst
            have HCC5 := HCC
            clear hea heb hst hI la ha lb hb hDz hDl
            gi_wp2_with fail
            refine start_round (n := 22) (S := fun w' => w'.cell? ⟨q, 0, none⟩ = some (.int .i64 ((m : Int) - 1)) ∧ w'.cell? ⟨q, 1, none⟩ = some (.slice (some ⟨g, 0, none⟩) (m * m) cc) ∧ w'.cell? ⟨g, x, none⟩ = some (.int .i64 (E x)) ∧ w'.cell? ⟨Bx, 0, none⟩ = some (.int .i64 (Zn.row m x)) ∧ w'.cell? ⟨Bx, 1, none⟩ = some (.int .i64 (Zn.col m x)) ∧ w'.cell? ⟨Bk, 0, none⟩ = some (.int .i64 (k : Int))) (ds := [21]) #[false, false, false, false, false, false, false, false, false, false, false, false, false, false, false, false, false, false, false, false, false, false] (by kernel_rfl) rfl rfl (by kernel_rfl) (fun ⟨_, _, h⟩ => h) ⟨cell_below ((Below.refl W.heap.size W).drew) z0, cell_below ((Below.refl W.heap.size W).drew) z1, cell_below ((Below.refl W.heap.size W).drew) d1, cell_below ((Below.refl W.heap.size W).drew) p0, cell_below ((Below.refl W.heap.size W).drew) p1, cell_below ((Below.refl W.heap.size W).drew) k0⟩ (fun hHeld => ?_)
            refine pure_ (i := 0) (N := some 49) (v := ?_) (a' := ?_) #[true, false, false, false, false, false, false, false, false, false, false, false, false, false, false, false, false, false, false, false, false, false] rfl rfl (by kernel_rfl) (fun _ _ _ h => h) (Or.inl ⟨by rfl, ?_⟩) ?_ ?_
            rotate_left
            · intro w'
              go_simp
              with_reducible rfl
            rotate_left
            · simp only [Act.put, List.setIfInBounds_toArray, List.set_cons_zero, List.set_cons_succ, i64_w, i32_w]
              rfl
            refine pure_ (i := 2) (N := some 51) (v := ?_) (a' := ?_) #[true, false, true, false, false, false, false, false, false, false, false, false, false, false, false, false, false, false, false, false, false, false] rfl rfl (by kernel_rfl) (fun _ _ _ h => h) (Or.inl ⟨by rfl, ?_⟩) ?_ ?_
            rotate_left
            · intro w'
              go_simp
              with_reducible rfl
            rotate_left
            · simp only [Act.put, List.setIfInBounds_toArray, List.set_cons_zero, List.set_cons_succ, i64_w, i32_w]
              rfl
            refine pure_ (i := 3) (N := some 52) (v := ?_) (a' := ?_) #[true, false, true, true, false, false, false, false, false, false, false, false, false, false, false, false, false, false, false, false, false, false] rfl rfl (by kernel_rfl) (fun _ _ _ h => h) (Or.inl ⟨by rfl, ?_⟩) ?_ ?_
            rotate_left
            · intro w'
              go_simp
              with_reducible rfl
            rotate_left
            · simp only [Act.put, List.setIfInBounds_toArray, List.set_cons_zero, List.set_cons_succ, i64_w, i32_w]
              rfl
            refine pure_ (i := 5) (N := some 54) (v := ?_) (a' := ?_) #[true, false, true, true, false, true, false, false, false, false, false, false, false, false, false, false, false, false, false, false, false, false] rfl rfl (by kernel_rfl) (fun _ _ _ h => h) (Or.inl ⟨by rfl, ?_⟩) ?_ ?_
            rotate_left
            · intro w'
              go_simp
              with_reducible rfl
            rotate_left
            · simp only [Act.put, List.setIfInBounds_toArray, List.set_cons_zero, List.set_cons_succ, i64_w, i32_w]
              rfl
            refine pure_ (i := 9) (N := some 58) (v := ?_) (a' := ?_) #[true, false, true, true, false, true, false, false, false, true, false, false, false, false, false, false, false, false, false, false, false, false] rfl rfl (by kernel_rfl) (fun _ _ _ h => h) (Or.inl ⟨by rfl, ?_⟩) ?_ ?_
            rotate_left
            · intro w'
              go_simp
              with_reducible rfl
            rotate_left
            · simp only [Act.put, List.setIfInBounds_toArray, List.set_cons_zero, List.set_cons_succ, i64_w, i32_w]
              rfl
            refine pure_ (i := 15) (N := some 64) (v := ?_) (a' := ?_) #[true, false, true, true, false, true, false, false, false, true, false, false, false, false, false, true, false, false, false, false, false, false] rfl rfl (by kernel_rfl) (fun _ _ _ h => h) (Or.inl ⟨by rfl, ?_⟩) ?_ ?_
            rotate_left
            · intro w'
              go_simp
              with_reducible rfl
            rotate_left
            · simp only [Act.put, List.setIfInBounds_toArray, List.set_cons_zero, List.set_cons_succ, i64_w, i32_w]
              rfl
            refine take_ (i := 1) (N := some 50) (v := ?_) (a' := ?_) #[true, true, true, true, false, true, false, false, false, true, false, false, false, false, false, true, false, false, false, false, false, false] rfl rfl (by kernel_rfl) (fun _ _ _ h => h) (Or.inl ⟨by rfl, ?_⟩) hHeld ?_ ?_
            rotate_left
            · rintro w' ⟨s0, s1, s2, s3, s4, s5⟩
              go_simp
              with_reducible rfl
            rotate_left
            · simp only [Act.put, List.setIfInBounds_toArray, List.set_cons_zero, List.set_cons_succ, i64_w, i32_w]
              rfl
            refine take_ (i := 4) (N := some 53) (v := ?_) (a' := ?_) #[true, true, true, true, true, true, false, false, false, true, false, false, false, false, false, true, false, false, false, false, false, false] rfl rfl (by kernel_rfl) (fun _ _ _ h => h) (Or.inl ⟨by rfl, ?_⟩) hHeld ?_ ?_
            rotate_left
            · rintro w' ⟨s0, s1, s2, s3, s4, s5⟩
              go_simp
              with_reducible rfl
            rotate_left
            · simp only [Act.put, List.setIfInBounds_toArray, List.set_cons_zero, List.set_cons_succ, i64_w, i32_w]
              rfl
            refine pure_ (i := 6) (N := some 55) (v := ?_) (a' := ?_) #[true, true, true, true, true, true, true, false, false, true, false, false, false, false, false, true, false, false, false, false, false, false] rfl rfl (by kernel_rfl) (fun _ _ _ h => h) (Or.inl ⟨by rfl, ?_⟩) ?_ ?_
            rotate_left
            · intro w'
              go_simp
              with_reducible rfl
            rotate_left
            · simp only [Act.put, List.setIfInBounds_toArray, List.set_cons_zero, List.set_cons_succ, i64_w, i32_w]
              rfl
            refine take_ (i := 7) (N := some 56) (v := ?_) (a' := ?_) #[true, true, true, true, true, true, true, true, false, true, false, false, false, false, false, true, false, false, false, false, false, false] rfl rfl (by kernel_rfl) (fun _ _ _ h => h) (Or.inl ⟨by rfl, ?_⟩) hHeld ?_ ?_
            rotate_left
            · rintro w' ⟨s0, s1, s2, s3, s4, s5⟩
              go_simp
              with_reducible rfl
            rotate_left
            · simp only [Act.put, List.setIfInBounds_toArray, List.set_cons_zero, List.set_cons_succ, i64_w, i32_w]
              rfl
            refine take_ (i := 8) (N := some 57) (v := ?_) (a' := ?_) #[true, true, true, true, true, true, true, true, true, true, false, false, false, false, false, true, false, false, false, false, false, false] rfl rfl (by kernel_rfl) (fun _ _ _ h => h) (Or.inl ⟨by rfl, ?_⟩) hHeld ?_ ?_
            rotate_left
            · rintro w' ⟨s0, s1, s2, s3, s4, s5⟩
              go_simp
              with_reducible rfl
            rotate_left
            · simp only [Act.put, List.setIfInBounds_toArray, List.set_cons_zero, List.set_cons_succ, i64_w, i32_w]
              rfl
            refine take_ (i := 10) (N := some 59) (v := ?_) (a' := ?_) #[true, true, true, true, true, true, true, true, true, true, true, false, false, false, false, true, false, false, false, false, false, false] rfl rfl (by kernel_rfl) (fun _ _ _ h => h) (Or.inl ⟨by rfl, ?_⟩) hHeld ?_ ?_
            rotate_left
            · rintro w' ⟨s0, s1, s2, s3, s4, s5⟩
              go_simp
              with_reducible rfl
            rotate_left
            · simp only [Act.put, List.setIfInBounds_toArray, List.set_cons_zero, List.set_cons_succ, i64_w, i32_w]
              rfl
            refine take_ (i := 11) (N := some 60) (v := ?_) (a' := ?_) #[true, true, true, true, true, true, true, true, true, true, true, true, false, false, false, true, false, false, false, false, false, false] rfl rfl (by kernel_rfl) (fun _ _ _ h => h) (Or.inl ⟨by rfl, ?_⟩) hHeld ?_ ?_
            rotate_left
            · rintro w' ⟨s0, s1, s2, s3, s4, s5⟩
              go_simp
              with_reducible rfl
            rotate_left
            · simp only [Act.put, List.setIfInBounds_toArray, List.set_cons_zero, List.set_cons_succ, i64_w, i32_w]
              rfl
            refine take_ (i := 13) (N := some 62) (v := ?_) (a' := ?_) #[true, true, true, true, true, true, true, true, true, true, true, true, false, true, false, true, false, false, false, false, false, false] rfl rfl (by kernel_rfl) (fun _ _ _ h => h) (Or.inl ⟨by rfl, ?_⟩) hHeld ?_ ?_
            rotate_left
            · rintro w' ⟨s0, s1, s2, s3, s4, s5⟩
              go_simp
              with_reducible rfl
            rotate_left
            · simp only [Act.put, List.setIfInBounds_toArray, List.set_cons_zero, List.set_cons_succ, i64_w, i32_w]
              rfl
            refine take_ (i := 14) (N := some 63) (v := ?_) (a' := ?_) #[true, true, true, true, true, true, true, true, true, true, true, true, false, true, true, true, false, false, false, false, false, false] rfl rfl (by kernel_rfl) (fun _ _ _ h => h) (Or.inl ⟨by rfl, ?_⟩) hHeld ?_ ?_
            rotate_left
            · rintro w' ⟨s0, s1, s2, s3, s4, s5⟩
              go_simp
              with_reducible rfl
            rotate_left
            · simp only [Act.put, List.setIfInBounds_toArray, List.set_cons_zero, List.set_cons_succ, i64_w, i32_w]
              rfl
            refine take_ (i := 16) (N := some 65) (v := ?_) (a' := ?_) #[true, true, true, true, true, true, true, true, true, true, true, true, false, true, true, true, true, false, false, false, false, false] rfl rfl (by kernel_rfl) (fun _ _ _ h => h) (Or.inl ⟨by rfl, ?_⟩) hHeld ?_ ?_
            rotate_left
            · rintro w' ⟨s0, s1, s2, s3, s4, s5⟩
              go_simp
              with_reducible rfl
            rotate_left
            · simp only [Act.put, List.setIfInBounds_toArray, List.set_cons_zero, List.set_cons_succ, i64_w, i32_w]
              rfl
            refine one_ (i := 12) (N := some 61) #[true, true, true, true, true, true, true, true, true, true, true, true, true, true, true, true, true, false, false, false, false, false] rfl rfl (by kernel_rfl) (by decide) (fun K hK => ?_)
            refine goes_ Tryd.func60 (by kernel_rfl) rfl #[.agg #[.int .i64 ((m : Int) - 1), .slice (some ⟨g, 0, none⟩) (m * m) cc], .int .i64 (Zn.row m x), .int .i64 (k : Int)] (by rfl) rfl rfl (by simp only [List.map_toArray, List.map_cons, List.map_nil]; rfl) ?_
            with_reducible refine (at_any hm0 hm7 (hR.below ((Below.refl W.heap.size W).drew)) HCC5.out hxi hkm' (Zn.row m x) (k : Int) rfl rfl ea HEa.out).mono ?_
            rintro e w3 ⟨rfl, hb⟩
            refine ⟨_, rfl, ?_⟩
            have cur := seq ((Below.refl W.heap.size W).drew) hb
            clear hb
            refine hK.out _ _ ⟨cell_below cur z0, cell_below cur z1, cell_below cur d1, cell_below cur p0, cell_below cur p1, cell_below cur k0⟩ (fun hHeld => ?_)
            clear hK K
            refine norm_ (a' := ?_) ?_ ?_
            rotate_left
            · show Act.put _ (some 61) _ = _
              simp only [Act.put, List.setIfInBounds_toArray, List.set_cons_zero, List.set_cons_succ, i64_w, i32_w]
              rfl
            refine one_ (i := 17) (N := some 66) #[true, true, true, true, true, true, true, true, true, true, true, true, true, true, true, true, true, true, false, false, false, false] rfl rfl (by kernel_rfl) (by decide) (fun K hK => ?_)
            refine goes_ Tryd.func60 (by kernel_rfl) rfl #[.agg #[.int .i64 ((m : Int) - 1), .slice (some ⟨g, 0, none⟩) (m * m) cc], .int .i64 (k : Int), .int .i64 (Zn.col m x)] (by rfl) rfl rfl (by simp only [List.map_toArray, List.map_cons, List.map_nil]; rfl) ?_
            with_reducible refine (at_any hm0 hm7 (hR.below (cur)) HCC5.out hkm' hxj (k : Int) (Zn.col m x) rfl rfl eb HEb.out).mono ?_
            rintro e w3 ⟨rfl, hb⟩
            refine ⟨_, rfl, ?_⟩
            replace cur := seq cur hb
            clear hb
            refine hK.out _ _ ⟨cell_below cur z0, cell_below cur z1, cell_below cur d1, cell_below cur p0, cell_below cur p1, cell_below cur k0⟩ (fun hHeld => ?_)
            clear hK K
            refine norm_ (a' := ?_) ?_ ?_
            rotate_left
            · show Act.put _ (some 66) _ = _
              simp only [Act.put, List.setIfInBounds_toArray, List.set_cons_zero, List.set_cons_succ, i64_w, i32_w]
              rfl
            refine pure_ (i := 18) (N := some 67) (v := ?_) (a' := ?_) #[true, true, true, true, true, true, true, true, true, true, true, true, true, true, true, true, true, true, true, false, false, false] rfl rfl (by kernel_rfl) (fun _ _ _ h => h) (Or.inl ⟨by rfl, ?_⟩) ?_ ?_
            rotate_left
            · intro w'
              go_simp
              with_reducible rfl
            rotate_left
            · simp only [Act.put, List.setIfInBounds_toArray, List.set_cons_zero, List.set_cons_succ, i64_w, i32_w]
              rfl
            refine pure_ (i := 19) (N := some 68) (v := ?_) (a' := ?_) #[true, true, true, true, true, true, true, true, true, true, true, true, true, true, true, true, true, true, true, true, false, false] rfl rfl (by kernel_rfl) (fun _ _ _ h => h) (Or.inl ⟨by rfl, ?_⟩) ?_ ?_
            rotate_left
            · intro w'
              go_simp
              with_reducible rfl
            rotate_left
            · simp only [Act.put, List.setIfInBounds_toArray, List.set_cons_zero, List.set_cons_succ, i64_w, i32_w]
              rfl
            refine pure_ (i := 20) (N := some 69) (v := ?_) (a' := ?_) #[true, true, true, true, true, true, true, true, true, true, true, true, true, true, true, true, true, true, true, true, true, false] rfl rfl (by kernel_rfl) (fun _ _ _ h => h) (Or.inl ⟨by rfl, ?_⟩) ?_ ?_
            rotate_left
            · intro w'
              go_simp
              with_reducible rfl
            rotate_left
            · simp only [Act.put, List.setIfInBounds_toArray, List.set_cons_zero, List.set_cons_succ, i64_w, i32_w]
              rfl
            refine last_ (i := 21) (N := none) #[true, true, true, true, true, true, true, true, true, true, true, true, true, true, true, true, true, true, true, true, true, true] rfl rfl (by kernel_rfl) (by decide) (fun K hK => ?_)
            have RC := hR.below cur
            have RC0 := RC.cell x hx
            have RC1 := RC.free x
            refine skip_ (w1 := ?_) (by rfl) rfl ?_ ?_
            rotate_left
            · go_simp
              rfl
            refine hK.out _ _ ?_
            clear hK K
            refine done_ (by kernel_rfl) ?_

            exact ⟨gtrans (grown_of_below cur (some g)) (gset _ _ _ _), by rw [HSt.out]; exact RC.store x _⟩
          case done =>
            intro Dm' W hDm hG hR hK
            dsimp only
            replace bZ := gheap hG bZ (by omega)
            replace bR := gheap hG bR (by omega)
            replace bO := gheap hG bO (by omega)
            replace bK := gheap hG bK nK
            replace cur := gbelow cur hG (by omega) (by omega)
            have hsW := hG.size
            have M1 : Marks s W (Dm' :: Ds) := (HM6.out.grown hG hR6).cons HM6.out (by omega) hDm hK
            have hRf : RowB W g (m * m) (fun p => Zn.fws (Zn.f0 m L) (k + 1) (p / m) (p % m)) := hR.ext (fun p' hp' => by
              rw [Zn.stepK_all hm0 (f := Zn.fws (Zn.f0 m L) k) hkm' (fun _ _ => rfl) hDz p' hp']
              rfl)
            have k0 := hp_cell bK 0 (v := .int .i64 (k : Int)) rfl
            have hgW := hRf.lt
            have HRf := Lib.hid hRf
            have HM1 := Lib.hid M1
            have hw1 : IntKind.i64.wrap ((k : Int) + 1) = (k : Int) + 1 := IntWalk.i64_in _ (by omega)
            clear hR hR6 bI hG hK hRf M1 hDl hDz HC HRow HM HM6
            gi_wp2_with fail
            refine ⟨m - (k + 1), by omega, k + 1, W.heap.size, Dm' :: Ds, _, _, _, _, _, _, _, _, _, _, _, _, _, _, by omega, rfl, ?_⟩
            refine ⟨by omega, blk_alloc bZ _, blk_alloc bR _, blk_alloc bO _, ?_, Nat.ne_of_gt hgW, HRf.out.below (psh (Below.refl _ _) (Nat.le_refl _) _), HM1.out.below (psh (Below.refl _ _) (Nat.le_refl _) _), psh cur (by omega) _, fun k' hk' => ?_⟩
            · have := blk_new W (.cells #[.int .i64 ((k : Int) + 1)] 3)
              rw [show ((k + 1 : Nat) : Int) = (k : Int) + 1 by omega]
              exact this
            · by_cases e : k' = k
              · rw [e]; exact HB.out
              · exact HOk.out k' (by omega)
        · gi_wp2_with fail
          refine HRest.out _ _ _ _ _ _ _ _ _ _ _ _ _ _ _ _ _ _ (⟨kle, bZ, bR, bO, bK, nK, HR5.out, HM5.out, cur, HOk.out⟩ : CL m s q g cc c A L w k Bk Ds w5) (.inr HB.out)
/-- zone.Close, of whatever zone. -/
theorem Close_any {v : Value} {N : Int} {L : List Int} (h : ZAt w v N L) : Calls Tryd.prog 15 #[v] w (ZPost w (Zn.closeP N L)) := by
  by_cases hw : wholeB N L = true
  · exact Close_whole h hw
  · exact Close_not h (by simpa using hw)
end Go.Proofs.YtjhccmjgfngkcaaDoor.PZoneSame
