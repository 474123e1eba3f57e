/- Walks of package node: a new arena; twice the places; Mk. -/
import Derived.Test.YtknoigebkpapoaaDoorNp
import Derived.Deep.RegionHeld3
import Derived.Deep.OwnRows
set_option linter.unusedVariables false
set_option linter.unusedSimpArgs false
namespace Go.Proofs.YtknoigebkpapoaaDoor
open Go.RowKit Go.Deep
variable {w : World} {b : Nat} {lim : Int} {L : List Nd} {S : Nat → Prop}

/-- A fresh arena. -/
def Made (w : World) (lim : Int) (e : Ending) (w' : World) : Prop :=
  ∃ b, e = .returned (.pointer (some ⟨b, 0, none⟩)) ∧ Arena w' b lim [] (fun k => w.heap.size ≤ k ∧ k < w'.heap.size) ∧ Below w.heap.size w w'

theorem arena_new (w0 : World) (n : Int) : Arena ((w0.alloc (.cells #[.int .i64 0, .int .i64 0, .int .i64 0, .int .i64 0, .int .i64 0, .int .i64 0, .int .i64 0, .int .i64 0, .int .i64 0, .int .i64 0, .int .i64 0, .int .i64 0, .int .i64 0, .int .i64 0, .int .i64 0, .int .i64 0] 3)).alloc
    (.cells #[.int .i64 n, .slice none 0 0, .slice (some ⟨w0.heap.size, 0, none⟩) 16 16] 91)) (w0.heap.size + 1) n [] (fun k => w0.heap.size ≤ k ∧ k < w0.heap.size + 2) := by
  refine ⟨.slice none 0 0, w0.heap.size, List.replicate 16 0, 16, [], ⟨?_, ?_, ?_, Ar.Tab.start _ _ (by decide), by simp, by simp, by simp, by simp, by simp [Value.ownBlock], by simp [Value.ownBlock], by omega, ⟨by simp, by simp⟩⟩, ?_⟩
  · have := heap_alloc_new (w0.alloc (.cells #[.int .i64 0, .int .i64 0, .int .i64 0, .int .i64 0, .int .i64 0, .int .i64 0, .int .i64 0, .int .i64 0, .int .i64 0, .int .i64 0, .int .i64 0, .int .i64 0, .int .i64 0, .int .i64 0, .int .i64 0, .int .i64 0] 3)) (.cells #[.int .i64 n, .slice none 0 0, .slice (some ⟨w0.heap.size, 0, none⟩) 16 16] 91)
    simpa using this
  · exact World.ownsRow_nil _ _ _ _
  · have := heap_alloc_new w0 (.cells #[.int .i64 0, .int .i64 0, .int .i64 0, .int .i64 0, .int .i64 0, .int .i64 0, .int .i64 0, .int .i64 0, .int .i64 0, .int .i64 0, .int .i64 0, .int .i64 0, .int .i64 0, .int .i64 0, .int .i64 0, .int .i64 0] 3)
    rw [List.append_nil]
    exact heap_alloc_lt _ this
  · rintro k (rfl | h | rfl)
    · omega
    · simp [Value.ownBlock] at h
    · omega

set_option maxHeartbeats 1000000 in
theorem new_any (n : Int) : Calls Tryd.prog 21 #[.int .i64 n] w (Made w (max n 0)) := by
  have hmk : ∀ w : World, (Instr.makeSlice 23 (.int .i64 16) (.int .i64 16)).run Tryd.prog w = .ok (.slice (some ⟨w.heap.size, 0, none⟩) 16 16) (w.alloc (.cells #[.int .i64 0, .int .i64 0, .int .i64 0, .int .i64 0, .int .i64 0, .int .i64 0, .int .i64 0, .int .i64 0, .int .i64 0, .int .i64 0, .int .i64 0, .int .i64 0, .int .i64 0, .int .i64 0, .int .i64 0, .int .i64 0] 3)) := fun _ => by kernel_rfl
  go_enter Tryd.func21, Tryd.ntmps21
  by_cases h : n < 0
  · rw [show max n 0 = 0 from by omega]
    go_wp2
    go_ret
    exact ⟨_, rfl, by simpa using arena_new w 0, ((Below.refl _ _).alloc (Nat.le_refl _) _).alloc (by simp) _⟩
  · rw [show max n 0 = n from by omega]
    go_wp2
    go_ret
    exact ⟨_, rfl, by simpa using arena_new w n, ((Below.refl _ _).alloc (Nat.le_refl _) _).alloc (by simp) _⟩

theorem cells_ints (PL : List Nat) : (PL.map (fun (n : Nat) => Value.int .i64 (n : Int))).toArray.size = PL.length := by simp

/-- The box of an arena. -/
def BoxAt (w : World) (b : Nat) (lim : Int) (vl : Value) (bp n : Nat) : Prop := w.heap[b]? = some (.cells #[.int .i64 lim, vl, .slice (some ⟨bp, 0, none⟩) n n] 91 (0, 0))
def BoxTo (w : World) (b : Nat) (lim : Int) (vl : Value) (bp n cp : Nat) : Prop := w.heap[b]? = some (.cells #[.int .i64 lim, vl, .slice (some ⟨bp, 0, none⟩) n cp] 91 (0, 0))
def PlacesTo (w : World) (bp : Nat) (PL : List Nat) (tl : List Value) : Prop := w.heap[bp]? = some (.cells (PL.map (fun (n : Nat) => Value.int .i64 (n : Int)) ++ tl).toArray 3 (0, 0))
def PlacesAt (w : World) (bp : Nat) (PL : List Nat) : Prop := w.heap[bp]? = some (.cells (PL.map (fun (n : Nat) => Value.int .i64 (n : Int))).toArray 3 (0, 0))

set_option maxHeartbeats 1000000 in
theorem grow_keep {ao : Option Addr} {cap bp n m cp : Nat} (hbox : BoxTo w b lim (.slice ao m cap) bp n cp) (hn : n ≤ 1000000000000) (h : 2 * m < n) :
    Calls Tryd.prog 51 #[.pointer (some ⟨b, 0, none⟩)] w fun e w' => e = .returned (.tuple #[]) ∧ Below w.heap.size w w' := by
  have h1 : w.cell? ⟨b, 1, none⟩ = some (.slice ao m cap) := cell_at hbox 1 rfl
  have h2 : w.cell? ⟨b, 2, none⟩ = some (.slice (some ⟨bp, 0, none⟩) n cp) := cell_at hbox 2 rfl
  clear hbox
  have hm : IntKind.i64.wrap (2 * (m : Int)) = 2 * m := IntWalk.i64_in _ (by omega)
  have ht : decide ((2 : Int) * m < n) = true := decide_eq_true (by omega)
  go_enter Tryd.func51, Tryd.ntmps51
  go_wp2
  go_quiet (fail)
  go_wp2
  (try simp only [Exit.inBlock, Exit.then])
  refine bodyPost_ret (results_none rfl _ _ _) rfl ?_
  exact ⟨rfl, ⟨rfl, rfl, rfl, Nat.le_refl _, fun _ _ => rfl⟩⟩

/-- What stands when the first k nodes have their places in the new table. -/
def GrowI (w wr : World) (b : Nat) (lim : Int) (vl : Value) (n2 : Nat) (L : List Nd) (k : Nat) : Prop :=
  ∃ PL, BoxAt wr b lim vl w.heap.size PL.length ∧ PlacesAt wr w.heap.size PL ∧ Ar.Tab hsh PL L k ∧ PL.length = n2 ∧ Touch w wr (fun k => k = b)
theorem madeCells_zeros (n : Nat) : madeCells #[.int .i64 0] n = ((List.replicate n 0).map (fun (n : Nat) => Value.int .i64 (n : Int))).toArray := by
  apply Array.ext
  · simp [size_madeCells]
  · intro i h1 h2
    have : i % 1 = 0 := by omega
    simp [madeCells, this]
theorem GrowI.start {w : World} {b : Nat} {lim : Int} {vl : Value} {bp n : Nat} {L : List Nd} {cp : Nat} (hbox : BoxTo w b lim vl bp n cp) (n2 : Nat) (h : 0 < n2) (nq : Nat) :
    GrowI w (((w.drewN nq).alloc (.cells (madeCells #[.int .i64 0] n2) 3)).setCell ⟨b, 2, none⟩ (.slice (some ⟨w.heap.size, 0, none⟩) n2 n2)) b lim vl n2 L 0 := by
  have hb := lt_of_heap hbox
  refine ⟨List.replicate n2 0, ?_, ?_, Ar.Tab.start _ _ h, by simp, ?_⟩
  · have := heap_setCell_same (j := 2) (heap_alloc_lt (w := w.drewN nq) (.cells (madeCells #[.int .i64 0] n2) 3) hbox) (.slice (some ⟨w.heap.size, 0, none⟩) n2 n2)
    simpa [BoxAt] using this
  · refine heap_setCell_other (b := b) _ ?_ rfl (by omega) _
    rw [← madeCells_zeros]
    exact heap_alloc_new (w.drewN nq) _
  · exact Touch.setCell (S := fun k => k = b) (p := ⟨b, 2, none⟩) (((Touch.refl w _).drewN nq).alloc _) (.inl rfl) _
theorem GrowI.step {w wr w' : World} {b : Nat} {lim : Int} {vl : Value} {n2 : Nat} {L : List Nd} {k r : Nat} {PL : List Nat} (hlt : k < L.length)
    (gbox : BoxAt wr b lim vl w.heap.size PL.length) (gplc : PlacesAt wr w.heap.size PL) (gtab : Ar.Tab hsh PL L k) (glen : PL.length = n2) (gt : Touch w wr (fun k => k = b)) (hbw : b < w.heap.size)
    (hr : Ar.probe PL L (L.getD k ⟨0, 0, 0⟩) PL.length (hsh (L.getD k ⟨0, 0, 0⟩) PL.length) = some r) (hr0 : PL.getD r 0 = 0) (hbl : Below wr.heap.size wr w') :
    GrowI w (w'.setCell ⟨w.heap.size, r, none⟩ (.int .i64 ((k : Int) + 1))) b lim vl n2 L (k + 1) := by
  have hrl := (Ar.probe_lt _ _ _ (hsh_lt _ _ gtab.pos) hr).1
  refine ⟨PL.set r (k + 1), ?_, ?_, gtab.put hsh_lt hlt hr hr0, by rw [List.length_set]; exact glen, ?_⟩
  · rw [List.length_set]
    exact heap_setCell_other (b := w.heap.size) _ ((hbl.block b (lt_of_heap gbox)).trans gbox) rfl (by omega) _
  · have := heap_setCell_same (j := r) ((hbl.block _ (lt_of_heap gplc)).trans gplc) (.int .i64 ((k : Int) + 1))
    unfold PlacesAt
    rw [this]
    simp [List.map_set]
  · exact Touch.setCell (p := ⟨w.heap.size, r, none⟩) (gt.trans (Touch.of_below hbl (fun _ => False)) (fun _ _ c => c.elim)) (.inr (Nat.le_refl _)) _
theorem info_int : (Tryd.prog.info? 3).map (fun i => (i.zero, i.size, i.bytes)) = some (some (.int .i64 0), 1, 8) := by kernel_rfl

set_option maxHeartbeats 2000000 in
theorem grow_more {vl : Value} {bp cp : Nat} {PL : List Nat} (hbox : BoxTo w b lim vl bp PL.length cp) (hrow : w.ownsRow 0 57 3 vl L.length (cellsOf L)) (hok : Ar.Ok L)
    (hn : PL.length ≤ 500000000000) (h0 : 0 < PL.length) (h : PL.length ≤ 2 * L.length) (hl : L.length < 2 * PL.length) (hap : vl.ownBlock ≠ some b) :
    Calls Tryd.prog 51 #[.pointer (some ⟨b, 0, none⟩)] w fun e w' => e = .returned (.tuple #[]) ∧ Hid (GrowI w w' b lim vl (2 * PL.length) L L.length) := by
  have hb := lt_of_heap hbox
  obtain ⟨ao, cap, rfl, hll⟩ : ∃ ao cap, vl = .slice ao L.length cap ∧ L.length ≤ 1000000000000 := by
    rcases hrow.2 with ⟨rfl, h⟩ | ⟨g, cap, cur, rfl, _⟩
    · exact ⟨none, 0, by rw [h], by omega⟩
    · exact ⟨_, _, rfl, by omega⟩
  have h1 : w.cell? ⟨b, 1, none⟩ = some (.slice ao L.length cap) := cell_at hbox 1 rfl
  have h2 : w.cell? ⟨b, 2, none⟩ = some (.slice (some ⟨bp, 0, none⟩) PL.length cp) := cell_at hbox 2 rfl
  have f2 : w.frozen? ⟨b, 2, none⟩ = false := free_at hbox 2
  have HX := Lib.hid hbox
  have HO := Lib.hid hrow
  clear hbox hrow
  have hm : IntKind.i64.wrap (2 * (L.length : Int)) = 2 * L.length := IntWalk.i64_in _ (by omega)
  have ht : decide ((2 : Int) * L.length < PL.length) = false := decide_eq_false (by omega)
  have hmk : ∀ w : World, (Instr.makeSlice 23 (.int .i64 (2 * (PL.length : Int))) (.int .i64 (2 * (PL.length : Int)))).run Tryd.prog w = .ok (.slice (some ⟨w.heap.size, 0, none⟩) (2 * PL.length) (2 * PL.length)) (w.alloc (.cells (madeCells #[.int .i64 0] (2 * PL.length)) 3)) := fun w => by
    have := run_make_row' (P := Tryd.prog) 23 3 (.int .i64 0) 8 Tryd.underlying23 info_int rfl .i64 .i64 (2 * PL.length) (by omega) (by omega) w
    rw [show ((2 * PL.length : Nat) : Int) = 2 * (PL.length : Int) from by omega] at this
    exact this
  have hm2 : IntKind.i64.wrap (2 * (PL.length : Int)) = 2 * PL.length := IntWalk.i64_in _ (by omega)
  go_enter Tryd.func51, Tryd.ntmps51
  go_wp2
  go_quiet (fail)
  clear hm ht
  have hA1 := fun nq o j => cell_drewN_alloc hb nq o j
  have hA2 := fun nq o j => frozen_drewN_alloc hb nq o j
  go_wp2
  have HG := Lib.hid (GrowI.start (L := L) HX.out (2 * PL.length) (by omega) nq)
  clear hmk hm2 hA1 hA2 h1 h2 f2
  go_loopg [31] L.length (fun g i wr => ∃ k : Nat, k + g = L.length ∧ i = .int .i64 k ∧ Hid (GrowI w wr b lim (.slice ao L.length cap) (2 * PL.length) L k))
  case atStart => exact ⟨0, by omega, rfl, HG⟩
  case round =>
    obtain ⟨k, hkg, rfl, HI⟩ := hrel
    clear HG
    by_cases hlt : k < L.length
    · obtain ⟨PLk, gbox, gplc, gtab, glen, gt⟩ := HI.out
      obtain ⟨bl, cap', hvl, hbl, hn', e0, e1, e2⟩ := row_node HO.out k hlt
      obtain ⟨rfl, rfl⟩ : ao = some ⟨bl, 0, none⟩ ∧ cap = cap' := by cases hvl; exact ⟨rfl, rfl⟩
      clear hvl
      have hbb : bl ≠ b := fun e => hap (by rw [e]; rfl)
      have hnd := Ar.getD_idx hlt
      obtain ⟨r, hr⟩ := gtab.total (by omega) L[k] (hsh_lt L[k] _ gtab.pos)
      obtain ⟨hrl, hr0⟩ := gtab.fresh (hsh_lt L[k] _ gtab.pos) (fun i hi e => by
        rw [Ar.getD_idx (by omega)] at e
        have := (List.getElem_inj hok.nodup).1 e
        omega) hr
      have hr' : Ar.probe PLk L (L.getD k ⟨0, 0, 0⟩) PLk.length (hsh (L.getD k ⟨0, 0, 0⟩) PLk.length) = some r := by rw [hnd]; exact hr
      have hvk := hok.each k hlt
      have hrow' := ownsRow_touch HO.out gt (fun q h => by cases h; exact hbb)
      replace e0 := (World.cell?_of_block (a := ⟨bl, k * 3, none⟩) (gt.block bl hbl hbb)).trans e0
      replace e1 := (World.cell?_of_block (a := ⟨bl, k * 3 + 1, none⟩) (gt.block bl hbl hbb)).trans e1
      replace e2 := (World.cell?_of_block (a := ⟨bl, k * 3 + 2, none⟩) (gt.block bl hbl hbb)).trans e2
      have hbl' : bl < wr.heap.size := Nat.lt_of_lt_of_le hbl gt.size
      have hb' := lt_of_heap gbox
      have hp' := lt_of_heap gplc
      have HSt : Hid (∀ w', Below wr.heap.size wr w' → GrowI w (w'.setCell ⟨w.heap.size, r, none⟩ (.int .i64 ((k : Int) + 1))) b lim (.slice (some ⟨bl, 0, none⟩) L.length cap) (2 * PL.length) L (k + 1)) :=
        fun w' h => GrowI.step hlt gbox gplc gtab glen gt hb hr' hr0 h
      have k2 : wr.cell? ⟨b, 2, none⟩ = some (.slice (some ⟨w.heap.size, 0, none⟩) PLk.length PLk.length) := cell_at gbox 2 rfl
      have kr : wr.cell? ⟨w.heap.size, r, none⟩ = some (.int .i64 0) := cell_at gplc r (by rw [List.getElem?_toArray, List.getElem?_map, List.getElem?_eq_getElem hrl, (Ar.getD_at hrl).symm.trans hr0]; rfl)
      have fr : wr.frozen? ⟨w.heap.size, r, none⟩ = false := free_at gplc r
      have hv0 := hvk.1
      have hv1 := hvk.2.1
      have hr2 := Lib.hid hr
      have GX := Lib.hid gbox
      have GP := Lib.hid gplc
      have GT := Lib.hid gtab
      have GR := Lib.hid hrow'
      have GL := Lib.hid glen
      have hpl : PLk.length ≤ 1000000000000 := by omega
      clear hr hr' hr0 hvk hnd hrow' gt glen gtab gbox gplc HI HX HO
      go_wp2
      have k2' : (wr.alloc (.cells #[.int .i64 L[k].v, .int .i64 L[k].l, .int .i64 L[k].h] 57)).cell? ⟨b, 2, none⟩ = some (.slice (some ⟨w.heap.size, 0, none⟩) PLk.length PLk.length) := by
        rw [World.cell?_alloc_past _ _ _ hb']; exact k2
      have hlt1 : b < (wr.alloc (.cells #[.int .i64 L[k].v, .int .i64 L[k].l, .int .i64 L[k].h] 57)).heap.size := by simp; omega
      have hlt2 : wr.heap.size < (wr.alloc (.cells #[.int .i64 L[k].v, .int .i64 L[k].l, .int .i64 L[k].h] 57)).heap.size := by simp
      have hlt3 : w.heap.size < (wr.alloc (.cells #[.int .i64 L[k].v, .int .i64 L[k].l, .int .i64 L[k].h] 57)).heap.size := by simp; omega
      have kr' : (wr.alloc (.cells #[.int .i64 L[k].v, .int .i64 L[k].l, .int .i64 L[k].h] 57)).cell? ⟨w.heap.size, r, none⟩ = some (.int .i64 0) := (World.cell?_alloc_past _ _ _ hp').trans kr
      have fr' : (wr.alloc (.cells #[.int .i64 L[k].v, .int .i64 L[k].l, .int .i64 L[k].h] 57)).frozen? ⟨w.heap.size, r, none⟩ = false := (World.frozen?_alloc_past _ _ _ hp').trans fr
      have y0 := cell_at (heap_alloc_new wr (.cells #[.int .i64 L[k].v, .int .i64 L[k].l, .int .i64 L[k].h] 57)) 0 (v := .int .i64 L[k].v) rfl
      have y1 := cell_at (heap_alloc_new wr (.cells #[.int .i64 L[k].v, .int .i64 L[k].l, .int .i64 L[k].h] 57)) 1 (v := .int .i64 L[k].l) rfl
      have y2 := cell_at (heap_alloc_new wr (.cells #[.int .i64 L[k].v, .int .i64 L[k].l, .int .i64 L[k].h] 57)) 2 (v := .int .i64 L[k].h) rfl
      have hi0 : (0 : Int) ≤ (r : Int) := by omega
      have hne1 : b ≠ w.heap.size := by omega
      have hne2 : wr.heap.size ≠ w.heap.size := by omega
      have hi1 : (r : Int) < (PLk.length : Int) := by omega
      have hs1 : IntKind.i64.wrap ((k : Int) + 1) = k + 1 := IntWalk.i64_in _ (by omega)
      go_region_held3 (fun w' => w'.cell? ⟨b, 2, none⟩ = some (.slice (some ⟨w.heap.size, 0, none⟩) PLk.length PLk.length) ∧
          w'.cell? ⟨wr.heap.size, 0, none⟩ = some (.int .i64 L[k].v) ∧ w'.cell? ⟨wr.heap.size, 1, none⟩ = some (.int .i64 L[k].l) ∧ w'.cell? ⟨wr.heap.size, 2, none⟩ = some (.int .i64 L[k].h))
        (first | (refine ⟨?_, ?_, ?_, ?_⟩ <;> assumption) | (refine ⟨?_, ?_, ?_, ?_⟩ <;> (rw [cell_set_ne _ (by first | exact hne1 | exact hne2)]; assumption)) | go_keep)
        (first | (go_at_call 50; refine (place_at (w := (wr.alloc (.cells #[.int .i64 L[k].v, .int .i64 L[k].l, .int .i64 L[k].h] 57)).drew) (heap_alloc_lt _ GX.out) (GR.out.alloc _) (heap_alloc_lt _ GP.out) GT.out hpl L[k] hv0 hv1 r hr2.out).mono ?_; rintro e w' ⟨rfl, hbelow⟩; have kr2 := (hbelow.cell (p := ⟨w.heap.size, r, none⟩) hlt3).trans kr'; have fr2 := (hbelow.frozen (p := ⟨w.heap.size, r, none⟩) hlt3).trans fr'; have z0 := (hbelow.cell (p := ⟨b, 2, none⟩) hlt1).trans k2'; have z1 := (hbelow.cell (p := ⟨wr.heap.size, 0, none⟩) hlt2).trans y0; have z2 := (hbelow.cell (p := ⟨wr.heap.size, 1, none⟩) hlt2).trans y1; have z3 := (hbelow.cell (p := ⟨wr.heap.size, 2, none⟩) hlt2).trans y2))
      go_wp2
      have hst := HSt.out w' ((Below.refl _ _).trans (((Below.refl wr.heap.size wr).alloc (Nat.le_refl _) _).drew.trans (hbelow.mono (by simp))))
      go_roundg (gk - 1)
      case measure => omega
      case rel => exact ⟨k + 1, by omega, by go_num, hst⟩
    · obtain rfl : k = L.length := by omega
      clear HX HO
      go_wp2
      go_end0
      exact ⟨rfl, HI⟩

/-- What Mk leaves. -/
def MkPost (w : World) (b : Nat) (lim : Int) (L : List Nd) (S : Nat → Prop) (v lo hi : Int) (e : Ending) (w' : World) : Prop :=
  ∃ ev, e = .returned (.tuple #[.int .i64 (Ar.mk lim L v lo hi).2.1, ev]) ∧ Arena w' b lim (Ar.mk lim L v lo hi).1 (fun k => S k ∨ w.heap.size ≤ k) ∧ Touch w w' S ∧
    ((Ar.mk lim L v lo hi).2.2 = 0 → ev = .nilIface) ∧
    ((Ar.mk lim L v lo hi).2.2 ≠ 0 → ∃ fb, ev = .iface 94 (.pointer (some ⟨fb, 0, none⟩)) ∧ w.heap.size ≤ fb ∧ FaultAt w' fb v (Ar.mk lim L v lo hi).2.2)

theorem MkPost.bad {w w' : World} {ev : Value} {v lo hi n : Int} (hm : Ar.mk lim L v lo hi = (L, 0, n)) (hn : n ≠ 0) (A : Arena w b lim L S) (hf : ∃ fb, w.heap.size ≤ fb ∧ FaultAt w' fb v n ∧ ev = .iface 94 (.pointer (some ⟨fb, 0, none⟩))) (ht : Below w.heap.size w w') :
    MkPost w b lim L S v lo hi (.returned (.tuple #[.int .i64 0, ev])) w' := by
  obtain ⟨fb, h1, h2, h3⟩ := hf
  refine ⟨ev, by rw [hm], ?_, Touch.of_below ht S, ?_, ?_⟩
  · rw [hm]; exact (A.below ht).mono (fun k h => .inl h)
  · rw [hm]; intro h; exact absurd h hn
  · rw [hm]; intro _; exact ⟨fb, h3, h1, h2⟩

end Go.Proofs.YtknoigebkpapoaaDoor
