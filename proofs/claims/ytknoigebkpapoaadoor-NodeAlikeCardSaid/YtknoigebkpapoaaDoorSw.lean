/- Walks of package sweep: Mark, Dead. -/
import Derived.Test.YtknoigebkpapoaaDoorNk
import Derived.Test.YtknoigebkpapoaaDoorSs
set_option linter.unusedVariables false
set_option linter.unusedSimpArgs false
namespace Go.Proofs.YtknoigebkpapoaaDoor
open Go.RowKit Go.Deep
variable {w : World} {b : Nat} {lim : Int} {L : List Nd} {S : Nat → Prop}

theorem info_bool : (Tryd.prog.info? 4).map (fun i => (i.zero, i.size, i.bytes)) = some (some (.bool false), 1, 1) := by kernel_rfl

/-- A row of marks in memory. -/
def Bools (w : World) (v : Value) (out : List Bool) : Prop := ∃ g, v = .slice (some ⟨g, 0, none⟩) out.length out.length ∧ w.heap[g]? = some (.cells (out.map Value.bool).toArray 4 (0, 0))

/-- What Mark leaves. -/
def MarkPost (w : World) (L : List Nd) (roots : List Int) (e : Ending) (w' : World) : Prop :=
  ∃ v out, e = .returned v ∧ Bools w' v out ∧ out.length = L.length ∧ (∀ k, k < L.length → (out.getD k false = true ↔ Ar.Reach L roots (k : Int))) ∧ Below w.heap.size w w' ∧ ∀ g, v.ownBlock = some g → w.heap.size ≤ g

theorem madeCells_false (n : Nat) : madeCells #[.bool false] n = ((List.replicate n false).map Value.bool).toArray := by
  apply Array.ext
  · simp [size_madeCells]
  · intro i h1 h2
    have : i % 1 = 0 := by omega
    simp [madeCells, this]

theorem ownsRow_block {w : World} {base : Nat} {e : TypeId} {size : Nat} {v : Value} {n : Nat} {xs : List Value} (h : w.ownsRow base e size v n xs) {g : Nat} (hg : v.ownBlock = some g) : base ≤ g ∧ g < w.heap.size := h.lt g hg

/-- What holds at each round's head. -/
def MarkI (w wr : World) (L : List Nd) (res : List Bool) (bo : Nat) (gk : Nat) (v : Value) : Prop :=
  ∃ rest out g cap, v = .slice (some ⟨g, 0, none⟩) rest.length cap ∧ wr.ownsRow w.heap.size 3 1 (.slice (some ⟨g, 0, none⟩) rest.length cap) rest.length (rest.map (Value.int .i64)) ∧
    wr.heap[bo]? = some (.cells (out.map Value.bool).toArray 4 (0, 0)) ∧ Below w.heap.size w wr ∧ Ar.markF L gk rest out = some res ∧ out.length = L.length ∧ g ≠ bo ∧ w.heap.size ≤ bo ∧
    rest.length + 3 * Ar.free out < gk ∧ gk ≤ 1000000000001

set_option maxHeartbeats 2000000 in
set_option maxRecDepth 100000 in
theorem mark_any (A : Arena w b lim L S) (v : Value) (roots : List Int) (hr : Ints w v roots) (hrl : roots.length + 3 * L.length ≤ 1000000000000) :
    Calls Tryd.prog 42 #[.pointer (some ⟨b, 0, none⟩), v] w (MarkPost w L roots) := by
  obtain ⟨i0, hi0, hz0, hz1, hz2⟩ := info_parts info_int
  have hmk : ∀ w : World, (Instr.makeSlice 77 (.int .i64 (L.length : Int)) (.int .i64 (L.length : Int))).run Tryd.prog w = .ok (.slice (some ⟨w.heap.size, 0, none⟩) L.length L.length) (w.alloc (.cells (madeCells #[.bool false] L.length) 4)) := fun w =>
    run_make_row' (P := Tryd.prog) 77 4 (.bool false) 1 Tryd.underlying77 info_bool rfl .i64 .i64 L.length (by omega) (by omega) w
  obtain ⟨res, hres⟩ := Ar.markF_total L (roots.length + 3 * L.length + 1) roots (List.replicate L.length false) (by simp) (by simp [Ar.free, List.countP_replicate])
  have HR := Lib.hid hr
  have HRES := Lib.hid hres
  clear hr hres
  go_enter Tryd.func42, Tryd.ntmps42
  go_wp2_with fail
  refine (len_any A).mono ?_
  rintro e w' ⟨rfl, rfl⟩
  go_wp2_with (at_builtin; refine wpList_append_src rfl (.tmp 13) (.tmp 14) 23 rfl w.heap.size 3 i0 (.int .i64 0) 1 8 Tryd.underlying23 hi0 hz0 hz1 hz2 rfl (by decide) (.slice (some ⟨w.heap.size + 1, 0, none⟩) 0 0) 0 [] rfl ?c1 v roots.length (roots.map (Value.int .i64)) rfl ?c2 ?c3 ?c4 ?c5 ?c6 ?_)
  case c1 => simpa using World.ownsRow_made (base := w.heap.size) (e := 3) (size := 1) (w.alloc (.cells (madeCells #[.bool false] L.length) 4)) #[] 0 (by simp) (by simp) rfl
  case c2 => exact (HR.out.below (((Below.refl _ _).alloc (Nat.le_refl _) _).alloc (by simp) _)).src
  case c3 => intro u hu; simp at hu; obtain ⟨x, _, rfl⟩ := hu; rfl
  case c4 => unfold maxLen; omega
  case c5 => omega
  case c6 => simp; omega
  intro v' w1 hown hgrow hnil hblk
  obtain ⟨g0, cap0, rfl⟩ : ∃ g cap, v' = .slice (some ⟨g, 0, none⟩) roots.length cap := by
    rcases hown.2 with ⟨h, _⟩ | ⟨g, cap, cur, h, _⟩
    · exact (hnil h).elim
    · exact ⟨g, cap, by simpa using h⟩
  have HI : Hid (MarkI w w1 L res w.heap.size (roots.length + 3 * L.length + 1) (.slice (some ⟨g0, 0, none⟩) roots.length cap0)) := by
    refine ⟨roots, List.replicate L.length false, g0, cap0, rfl, by simpa using hown, ?_, ?_, HRES.out, by simp, ?_, Nat.le_refl _, by simp [Ar.free, List.countP_replicate], by omega⟩
    · rw [hgrow.block w.heap.size (by simp; omega) (by simp [Value.ownBlock])]
      rw [← madeCells_false]
      exact heap_alloc_lt _ (heap_alloc_new w _)
    · exact (((Below.refl _ _).alloc (Nat.le_refl _) _).alloc (by simp) _).grown hgrow (by simp; omega) (fun k h => by simp [Value.ownBlock] at h; omega)
    · rcases hblk with h | h
      · simp [Value.ownBlock] at h; omega
      · simp [Value.ownBlock] at h; omega
  clear hown hgrow hnil hblk hmk
  go_wp2_with fail
  go_loopg [6] (roots.length + 3 * L.length + 1) (fun gk p wr => Hid (MarkI w wr L res w.heap.size gk p))
  case atStart => exact HI
  case round =>
    clear HI
    obtain ⟨rest, out, g, cap, rfl, ho, hbo, hbe, hmf, hol, hgb, _, hms, hgk⟩ := hrel.out
    clear hrel
    have A1 := A.below hbe
    obtain ⟨gk, rfl⟩ : ∃ m, gk = m + 1 := ⟨gk - 1, by omega⟩
    rcases Ar.nil_or_snoc rest with rfl | ⟨init, r, rfl⟩
    · have HO := Lib.hid ho
      have HBO := Lib.hid hbo
      have HMF := Lib.hid hmf
      clear ho hbo hmf
      go_wp2_with fail
      go_ret
      have hM := Ar.markF_right L roots _ _ _ _ (Ar.MI.start L roots) HRES.out
      have e : out = res := by have := HMF.out; simpa [Ar.markF] using this
      subst e
      exact ⟨_, out, rfl, ⟨w.heap.size, by show Value.slice (some ⟨w.heap.size, 0, none⟩) L.length L.length = _; rw [hol], HBO.out⟩, hM.1, hM.2, hbe, fun g h => by simp [Value.ownBlock] at h; omega⟩
    · have hn : init.length + 1 ≤ cap := by
        rcases ho.2 with ⟨h, _⟩ | ⟨g', cap', cur, h, _, _, h1, _⟩
        · cases h
        · cases h; simpa using h1
      have hcap : cap ≤ 9223372036854775807 := by
        rcases ho.2 with ⟨h, _⟩ | ⟨g', cap', cur, h, _, _, _, h1, _⟩
        · cases h
        · cases h; exact h1
      have kf : wr.cell? ⟨g, init.length, none⟩ = some (.int .i64 r) := by
        rw [ho.cellAt _ (by simp)]; simp
      have ho' : wr.ownsRow w.heap.size 3 1 (.slice (some ⟨g, 0, none⟩) init.length cap) init.length (init.map (Value.int .i64)) := by
        have := ho
        simp only [List.length_append, List.length_singleton, List.map_append, List.map_cons, List.map_nil] at this
        exact ownsRow_pop (by simp) this
      have hlen : (init ++ [r]).length = init.length + 1 := by simp
      rw [hlen] at hms
      rw [hlen]
      have hmf' := hmf
      unfold Ar.markF at hmf'
      rw [Ar.last_snoc] at hmf'
      simp only [Ar.drop_snoc] at hmf'
      have HO := Lib.hid ho'
      have HBO := Lib.hid hbo
      have HMF := Lib.hid hmf'
      clear ho ho' hbo hmf hmf' hlen
      by_cases hr : Ar.isN L r
      · obtain ⟨k, rfl⟩ : ∃ k : Nat, r = k := ⟨r.toNat, by unfold Ar.isN at hr; omega⟩
        have hk : k < L.length := by unfold Ar.isN at hr; omega
        have hmf2 := HMF.out
        clear HMF
        rw [Int.toNat_natCast, Ar.nd_at hk] at hmf2
        have kb : wr.cell? ⟨w.heap.size, k, none⟩ = some (.bool (out.getD k false)) := cell_at HBO.out k (by simp [List.getD, hol, hk])
        have kfr : wr.frozen? ⟨w.heap.size, k, none⟩ = false := free_at HBO.out k
        cases hb : out.getD k false
        · rw [hb] at kb
          rw [if_pos ⟨hr, hb⟩] at hmf2
          have HB := Lib.hid hb
          have HMF := Lib.hid hmf2
          clear hb hmf2
          go_wp2_with fail
          refine (get_in A1 k hk).mono ?_
          rintro e w2 ⟨rfl, hb2⟩
          have kb2 := (hb2.cell (p := ⟨w.heap.size, k, none⟩) (World.block_lt_of_cell? wr _ kb)).trans kb
          have kf2 := (hb2.frozen (p := ⟨w.heap.size, k, none⟩) (World.block_lt_of_cell? wr _ kb)).trans kfr
          have hl2 := World.block_lt_of_cell? w2 _ kb2
          have hb3 : Below wr.heap.size wr (w2.alloc (.cells #[.int .i64 L[k].v, .int .i64 L[k].l, .int .i64 L[k].h] 57)) := hb2.alloc hb2.size _
          have hne : w.heap.size ≠ g := Ne.symm hgb
          have hT : Touch wr ((((w2.setCell ⟨w.heap.size, k, none⟩ (.bool true)).alloc (.cells #[.int .i64 L[k].v, .int .i64 L[k].l, .int .i64 L[k].h] 57)).alloc (.cells #[.int .i64 L[k].l, .int .i64 L[k].h] 3))) (fun q => q = w.heap.size) := ((Touch.setCell (S := fun q => q = w.heap.size) (p := ⟨w.heap.size, k, none⟩) (Touch.of_below hb2 _) (.inl rfl) _).alloc _).alloc _
          clear kb kfr
          go_wp2_with (at_builtin; go_loud (refine wpList_append_src rfl (.tmp 47) (.tmp 52) 23 rfl w.heap.size 3 i0 (.int .i64 0) 1 8 Tryd.underlying23 hi0 hz0 hz1 hz2 rfl (by decide) (.slice (some ⟨g, 0, none⟩) init.length cap) init.length (init.map (Value.int .i64)) rfl ?c1 _ 2 [.int .i64 L[k].l, .int .i64 L[k].h] rfl ?c2 ?c3 ?c4 ?c5 ?c6 ?_))
          case c1 => exact ownsRow_touch HO.out hT (fun q h => by simp [Value.ownBlock] at h; omega)
          case c2 =>
            refine .inr ⟨_, _, rfl, rfl, World.news_of_block (cs := #[.int .i64 L[k].l, .int .i64 L[k].h]) (t := 3) (fr := (0, 0)) ?_⟩
            have := heap_alloc_new ((w2.setCell ⟨w.heap.size, k, none⟩ (.bool true)).alloc (.cells #[.int .i64 L[k].v, .int .i64 L[k].l, .int .i64 L[k].h] 57)) (.cells #[.int .i64 L[k].l, .int .i64 L[k].h] 3)
            simpa using this
          case c3 => intro u hu; simp at hu; rcases hu with rfl | rfl <;> rfl
          case c4 => unfold maxLen; omega
          case c5 => omega
          case c6 => have := hbe.size; have := hb2.size; simp; omega
          intro v' w3 hown hgrow hnil hblk
          have hcell : ((((w2.setCell ⟨w.heap.size, k, none⟩ (.bool true)).alloc (.cells #[.int .i64 L[k].v, .int .i64 L[k].l, .int .i64 L[k].h] 57)).alloc (.cells #[.int .i64 L[k].l, .int .i64 L[k].h] 3))).heap[w.heap.size]? = some (.cells ((out.set k true).map Value.bool).toArray 4 (0, 0)) := by
            have h1 := (hb2.block w.heap.size (lt_of_heap HBO.out)).trans HBO.out
            have h2 := heap_setCell_same (j := k) h1 (.bool true)
            rw [show ((out.map Value.bool).toArray.setIfInBounds k (Value.bool true)) = ((out.set k true).map Value.bool).toArray by simp [List.map_set]] at h2
            exact heap_alloc_lt _ (heap_alloc_lt _ h2)
          have hst : Hid (MarkI w w3 L res w.heap.size gk v') := by
            obtain ⟨g', cap', rfl⟩ : ∃ g' cap', v' = .slice (some ⟨g', 0, none⟩) (init.length + 2) cap' := by
              rcases hown.2 with ⟨h, _⟩ | ⟨g', cap', cur, h, _⟩
              · exact (hnil h).elim
              · exact ⟨g', cap', by simpa using h⟩
            have hlf := Ar.free_set (out := out) (k := k) (by rw [hol]; exact hk) HB.out
            refine ⟨init ++ [L[k].l, L[k].h], out.set k true, g', cap', by simp, by simpa using hown, (hgrow.block _ (lt_of_heap hcell) (by simp [Value.ownBlock]; omega)).trans hcell, ?_, HMF.out, by simpa using hol, ?_, Nat.le_refl _, by simp only [List.length_append, List.length_cons, List.length_nil]; omega, by omega⟩
            · have hw : Below w.heap.size w ((((w2.setCell ⟨w.heap.size, k, none⟩ (.bool true)).alloc (.cells #[.int .i64 L[k].v, .int .i64 L[k].l, .int .i64 L[k].h] 57)).alloc (.cells #[.int .i64 L[k].l, .int .i64 L[k].h] 3))) := (((hbe.trans (hb2.mono hbe.size)).setCell (p := ⟨w.heap.size, k, none⟩) (Nat.le_refl _) _).alloc (by have := hbe.size; have := hb2.size; simp; omega) _).alloc (by have := hbe.size; have := hb2.size; simp; omega) _
              exact hw.grown hgrow hw.size (fun q h => (ownsRow_block HO.out h).1)
            · rcases hblk with h | h
              · simp [Value.ownBlock] at h; omega
              · simp [Value.ownBlock] at h; omega
          clear hown hgrow hnil hblk hcell hT kb2 kf2
          go_wp2_with fail
          go_roundg gk
          case measure => omega
          case rel => exact hst
        · rw [hb] at kb
          rw [if_neg (fun h => by rw [hb] at h; exact Bool.noConfusion h.2)] at hmf2
          have HMF := Lib.hid hmf2
          clear hb hmf2
          go_wp2_with fail
          refine (get_in A1 k hk).mono ?_
          rintro e w2 ⟨rfl, hb2⟩
          have kb2 := (hb2.cell (p := ⟨w.heap.size, k, none⟩) (World.block_lt_of_cell? wr _ kb)).trans kb
          have hl2 := World.block_lt_of_cell? w2 _ kb2
          have hst : Hid (MarkI w (w2.alloc (.cells #[.int .i64 L[k].v, .int .i64 L[k].l, .int .i64 L[k].h] 57)) L res w.heap.size gk (.slice (some ⟨g, 0, none⟩) init.length cap)) := by
            have hb3 : Below wr.heap.size wr (w2.alloc (.cells #[.int .i64 L[k].v, .int .i64 L[k].l, .int .i64 L[k].h] 57)) := hb2.alloc hb2.size _
            exact ⟨init, out, g, cap, rfl, ownsRow_touch HO.out (Touch.of_below hb3 (fun _ => False)) (fun _ _ c => c), (hb3.block _ (lt_of_heap HBO.out)).trans HBO.out, hbe.trans (hb3.mono hbe.size), HMF.out, hol, hgb, Nat.le_refl _, by omega, by omega⟩
          go_wp2_with fail
          go_roundg gk
          case measure => omega
          case rel => exact hst
      · have hmf2 := HMF.out
        clear HMF
        rw [if_neg (fun h => hr h.1)] at hmf2
        have HMF := Lib.hid hmf2
        clear hmf2
        go_wp2_with fail
        refine (get_out A1 r hr).mono ?_
        rintro e w2 ⟨rfl, hb2⟩
        have hst : Hid (MarkI w (w2.alloc (.cells #[.int .i64 0, .int .i64 0, .int .i64 0] 57)) L res w.heap.size gk (.slice (some ⟨g, 0, none⟩) init.length cap)) := by
          have hb3 : Below wr.heap.size wr (w2.alloc (.cells #[.int .i64 0, .int .i64 0, .int .i64 0] 57)) := hb2.alloc hb2.size _
          exact ⟨init, out, g, cap, rfl, ownsRow_touch HO.out (Touch.of_below hb3 (fun _ => False)) (fun _ _ c => c), (hb3.block _ (lt_of_heap HBO.out)).trans HBO.out, hbe.trans (hb3.mono hbe.size), HMF.out, hol, hgb, Nat.le_refl _, by omega, by omega⟩
        go_wp2_with fail
        go_roundg gk
        case measure => omega
        case rel => exact hst
end Go.Proofs.YtknoigebkpapoaaDoor
