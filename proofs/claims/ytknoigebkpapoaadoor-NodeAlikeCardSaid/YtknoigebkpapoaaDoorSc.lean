/- Walks of package sweep: Move, Compact. -/
import Derived.Test.YtknoigebkpapoaaDoorSv
set_option linter.unusedVariables false
set_option linter.unusedSimpArgs false
namespace Go.Proofs.YtknoigebkpapoaaDoor
open Go.RowKit Go.Deep
variable {w : World}

/-- Roots moved in order. -/
def Ar.mvAll (lim : Int) (La : List Nd) : List Int → List Nd → List Int → List Nd × List Int × Int
  | [], L, acc => (L, acc, 0)
  | r :: rs, L, acc => if (Ar.mv lim La (r.toNat + 1) L r).2.2 ≠ 0 then ((Ar.mv lim La (r.toNat + 1) L r).1, [], (Ar.mv lim La (r.toNat + 1) L r).2.2)
      else Ar.mvAll lim La rs (Ar.mv lim La (r.toNat + 1) L r).1 (acc ++ [(Ar.mv lim La (r.toNat + 1) L r).2.1])

theorem Mover.fresh {ba bt : Nat} {lima lim : Int} {La Lt : List Nd} {Sa St : Nat → Prop} (A : Arena w ba lima La Sa) (T : Arena w bt lim Lt St) (h : ∀ k, Sa k → ¬ St k) (ha : ∀ k, Sa k → k < w.heap.size) (ht : ∀ k, St k → k < w.heap.size) :
    Mover (w.alloc (.map #[] 0)) ba lima La Sa bt lim Lt St w.heap.size 0 (fun _ => none) :=
  have hb : Below w.heap.size w (w.alloc (.map #[] 0)) := (Below.refl _ _).alloc (Nat.le_refl _) _
  ⟨A.below hb, T.below hb, IMap.made w, h, fun c => by have := ha _ c; omega, fun c => by have := ht _ c; omega, fun k x hk => (by cases hk),
    fun k c => by have := ha k c; simp; omega, fun k c => by have := ht k c; simp; omega⟩

set_option maxHeartbeats 1000000 in
theorem sweep_Move_odd {ba : Nat} {lima : Int} {La : List Nd} {Sa : Nat → Prop} (A : Arena w ba lima La Sa) (pt : Value) (f : Int) (hf : ¬ Ar.has La f) :
    Calls Tryd.prog 17 #[.pointer (some ⟨ba, 0, none⟩), pt, .int .i64 f] w fun e w' => e = .returned (.tuple #[.int .i64 0, .iface 35 (.int .i64 1)]) ∧ w = w' := by
  go_enter Tryd.func17, Tryd.ntmps17
  go_wp2_with fail
  refine (has_b A f false (decide_eq_false hf)).mono ?_
  rintro e w' ⟨rfl, rfl⟩
  go_wp2_with fail
  go_ret2
  exact ⟨rfl, rfl⟩

set_option maxHeartbeats 1000000 in
theorem sweep_Move_any {ba bt : Nat} {lima lim : Int} {La Lt : List Nd} {Sa St : Nat → Prop} (A : Arena w ba lima La Sa) (T : Arena w bt lim Lt St) (h : ∀ k, Sa k → ¬ St k) (ha : ∀ k, Sa k → k < w.heap.size) (ht : ∀ k, St k → k < w.heap.size)
    (f : Int) (hf : Ar.has La f) (hs : Lt.length ≤ 1000000000) :
    Calls Tryd.prog 17 #[.pointer (some ⟨ba, 0, none⟩), .pointer (some ⟨bt, 0, none⟩), .int .i64 f] w fun e w' =>
      ∃ ev, e = .returned (.tuple #[.int .i64 (Ar.mv lim La (f.toNat + 1) Lt f).2.1, ev]) ∧ Hid (ErrIs w' (Ar.mv lim La (f.toNat + 1) Lt f).2.2 ev) ∧
        Hid (Arena w' bt lim (Ar.mv lim La (f.toNat + 1) Lt f).1 (fun i => St i ∨ (w.heap.size ≤ i ∧ i < w'.heap.size))) ∧ Hid (Touch w w' St) := by
  have hmm : ∀ w : World, (Instr.makeMap 80 none).run Tryd.prog w = .ok (.map (some w.heap.size)) (w.alloc (.map #[] 0)) := @run_makeMap Tryd.prog 80
  have hfew := A.fewL
  have M := Mover.fresh A T h ha ht
  have HM := Lib.hid M
  have hfit : fits f := by obtain ⟨h1, h2⟩ := hf; unfold Ar.low at h1; exact fits_of (by omega) (by omega)
  have hc := Ar.cost_le La f
  clear M
  go_enter Tryd.func17, Tryd.ntmps17
  go_wp2_with fail
  refine (has_b A f true (decide_eq_true hf)).mono ?_
  rintro e w' ⟨rfl, rfl⟩
  go_wp2_with fail
  refine (move_any (f.toNat + 1) _ Lt St 0 _ HM.out f (by omega) hfit (by omega) (by omega)).mono ?_
  rintro e w1 ⟨ev, f', rfl, he, M1, t1⟩
  have HE := Lib.hid he
  have HM1 := Lib.hid M1
  have HT := Lib.hid t1
  clear he M1 t1
  go_wp2_with fail
  go_ret2
  refine ⟨ev, rfl, HE.out, HM1.out.t.mono (fun i h => h.imp id (fun c => ⟨by have := c.1; simp at this; omega, c.2⟩)), ?_⟩
  exact (((Touch.refl w St).alloc _).trans HT.out (fun i hi h => h.elim id (fun c => by omega)))

/-- A row of numbers of the call's own. -/
def OwnInts (w : World) (B : Nat) (v : Value) (xs : List Int) : Prop := w.ownsRow B 3 1 v xs.length (xs.map (Value.int .i64))
theorem OwnInts.ints {B : Nat} {v : Value} {xs : List Int} (h : OwnInts w B v xs) : Ints w v xs := by
  have hh := h
  rcases h.2 with ⟨rfl, h0⟩ | ⟨g, cap, cur, rfl, _, hg, h1, h2, _⟩
  · have : xs = [] := List.eq_nil_of_length_eq_zero h0
    subst this
    exact ⟨none, 0, rfl, by simp, by simp, fun i hi => by simp at hi⟩
  · refine ⟨_, cap, rfl, h1, h2, fun i hi => ⟨g, 0, rfl, ?_⟩⟩
    have := World.ownsRow.cellAt hh i (by omega)
    rw [Nat.zero_add, this]
    simp [hi]
theorem OwnInts.touch {w' : World} {B : Nat} {v : Value} {xs : List Int} {S : Nat → Prop} (h : OwnInts w B v xs) (t : Touch w w' S) (hs : ∀ k, v.ownBlock = some k → ¬ S k) : OwnInts w' B v xs := ownsRow_touch h t hs

/-- What Compact leaves. -/
def CompPost (w : World) (lim : Int) (La : List Nd) (roots : List Int) (e : Ending) (w' : World) : Prop :=
  Below w.heap.size w w' ∧
  ((¬ (∀ r ∈ roots, Ar.has La r) ∧ e = .returned (.tuple #[.pointer none, .slice none 0 0, .iface 35 (.int .i64 1)])) ∨
   ((∀ r ∈ roots, Ar.has La r) ∧ (Ar.mvAll lim La roots [] []).2.2 ≠ 0 ∧ ∃ ev, e = .returned (.tuple #[.pointer none, .slice none 0 0, ev]) ∧ ErrIs w' (Ar.mvAll lim La roots [] []).2.2 ev) ∨
   ((∀ r ∈ roots, Ar.has La r) ∧ (Ar.mvAll lim La roots [] []).2.2 = 0 ∧ ∃ b v, e = .returned (.tuple #[.pointer (some ⟨b, 0, none⟩), v, .nilIface]) ∧
      Arena w' b lim (Ar.mvAll lim La roots [] []).1 (fun k => w.heap.size ≤ k ∧ k < w'.heap.size) ∧ OwnInts w' w.heap.size v (Ar.mvAll lim La roots [] []).2.1))

set_option maxRecDepth 100000 in
set_option maxHeartbeats 2000000 in
theorem compact_odd {ba : Nat} {lima : Int} {La : List Nd} {Sa : Nat → Prop} (A : Arena w ba lima La Sa) (v : Value) (roots : List Int) (hr : Ints w v roots) (hbad : ¬ ∀ r ∈ roots, Ar.has La r) (limit lim : Int) :
    Calls Tryd.prog 13 #[.pointer (some ⟨ba, 0, none⟩), v, .int .i64 limit] w (CompPost w lim La roots) := by
  obtain ⟨ao, c, rfl, hc, hc2, hcell⟩ := hr
  unfold maxLen at hc2
  have HB := Lib.hid hbad
  have HC := Lib.hid hcell
  clear hbad hcell
  go_enter Tryd.func13, Tryd.ntmps13
  go_wp2_with fail
  go_loopg [10, 19] roots.length (fun gk x i wr => ∃ k : Nat, k + gk = roots.length ∧ i = .int .i64 k ∧ Hid (∀ j (h : j < k) (h' : j < roots.length), Ar.has La roots[j]) ∧ w = wr)
  case atStart => exact ⟨0, by omega, rfl, fun j h => by omega, rfl⟩
  case round =>
    obtain ⟨k, hk, rfl, HH, rfl⟩ := hrel
    have hlt : k < roots.length := by
      apply Classical.byContradiction
      intro hge
      refine HB.out (fun r hr => ?_)
      obtain ⟨j, hj, rfl⟩ := List.mem_iff_getElem.1 hr
      exact HH.out j (by omega) hj
    obtain ⟨b, o, rfl, kc⟩ := HC.out k hlt
    by_cases hh : Ar.has La roots[k]
    · have HH2 : Hid (∀ j (h : j < k + 1) (h' : j < roots.length), Ar.has La roots[j]) := fun j h h' => by
        by_cases e : j = k
        · subst e; exact hh
        · exact HH.out j (by omega) h'
      go_wp2_with fail
      refine (has_b A _ true (decide_eq_true hh)).mono ?_
      rintro e w' ⟨rfl, rfl⟩
      go_wp2_with fail
      go_roundg (gk - 1)
      case measure => omega
      case rel => exact ⟨k + 1, by omega, by go_num, HH2, rfl⟩
    · have HQ : Hid (CompPost w lim La roots (.returned (.tuple #[.pointer none, .slice none 0 0, .iface 35 (.int .i64 1)])) w) := ⟨Below.refl _ _, .inl ⟨HB.out, rfl⟩⟩
      go_wp2_with fail
      refine (has_b A _ false (decide_eq_false hh)).mono ?_
      rintro e w' ⟨rfl, rfl⟩
      go_wp2_with fail
      go_ret3
      exact HQ.out

theorem Mover.far {w' : World} {S : Nat → Prop} {ba : Nat} {lima : Int} {La : List Nd} {Sa : Nat → Prop} {bt : Nat} {lim : Int} {Lt : List Nd} {St : Nat → Prop} {bm n : Nat} {f : Int → Option Int} (M : Mover w ba lima La Sa bt lim Lt St bm n f) (t : Touch w w' S)
    (h1 : ∀ k, Sa k → ¬ S k) (h2 : ∀ k, St k → ¬ S k) (h3 : ¬ S bm) : Mover w' ba lima La Sa bt lim Lt St bm n f :=
  { M with a := M.a.touch t (fun k _ h => h1 k h), t := M.t.touch t (fun k _ h => h2 k h), m := M.m.touch t h3, la := fun k h => Nat.lt_of_lt_of_le (M.la k h) t.size, lt := fun k h => Nat.lt_of_lt_of_le (M.lt k h) t.size }

/-- What stands at each round's head of Compact's second loop. -/
def CompI (w : World) (wr : World) (ba : Nat) (lima lim : Int) (La : List Nd) (Sa : Nat → Prop) (b bm mb : Nat) (roots : List Int) (k : Nat) (v : Value) : Prop :=
  ∃ L xs St f, Mover wr ba lima La Sa b lim L St bm (4095 * k) f ∧ OwnInts wr w.heap.size v xs ∧ Below w.heap.size w wr ∧ Ar.mvAll lim La (roots.drop k) L xs = Ar.mvAll lim La roots [] [] ∧
    L.length ≤ 4095 * k ∧ xs.length = k ∧ (∀ i, St i → w.heap.size ≤ i) ∧ w.heap.size ≤ bm ∧ (∀ i, v.ownBlock = some i → ¬ St i ∧ i ≠ bm ∧ i ≠ mb) ∧
    wr.heap[mb]? = some (.cells #[.pointer (some ⟨ba, 0, none⟩), .pointer (some ⟨b, 0, none⟩), .map (some bm)] 82 (0, 0)) ∧ ¬ St mb ∧ mb ≠ bm

theorem CompI.go {lim : Int} {La : List Nd} {roots : List Int} {k : Nat} (hk : k < roots.length) {L : List Nd} {xs : List Int} (h : Ar.mvAll lim La (roots.drop k) L xs = Ar.mvAll lim La roots [] []) :
    ((Ar.mv lim La (roots[k].toNat + 1) L roots[k]).2.2 ≠ 0 → Ar.mvAll lim La roots [] [] = ((Ar.mv lim La (roots[k].toNat + 1) L roots[k]).1, [], (Ar.mv lim La (roots[k].toNat + 1) L roots[k]).2.2)) ∧
    ((Ar.mv lim La (roots[k].toNat + 1) L roots[k]).2.2 = 0 → Ar.mvAll lim La (roots.drop (k + 1)) (Ar.mv lim La (roots[k].toNat + 1) L roots[k]).1 (xs ++ [(Ar.mv lim La (roots[k].toNat + 1) L roots[k]).2.1]) = Ar.mvAll lim La roots [] []) := by
  rw [← h, List.drop_eq_getElem_cons hk]
  constructor
  · intro he; rw [Ar.mvAll, if_pos he]
  · intro he; rw [Ar.mvAll, if_neg (fun c => c he)]

set_option maxRecDepth 100000 in
set_option maxHeartbeats 4000000 in
theorem compact_good {ba : Nat} {lima : Int} {La : List Nd} {Sa : Nat → Prop} (A : Arena w ba lima La Sa) (ha : ∀ k, Sa k → k < w.heap.size) (v : Value) (roots : List Int) (hr : Ints w v roots) (hgood : ∀ r ∈ roots, Ar.has La r) (limit : Int) (hlen : roots.length ≤ 100000) :
    Calls Tryd.prog 13 #[.pointer (some ⟨ba, 0, none⟩), v, .int .i64 limit] w (CompPost w (max limit 0) La roots) := by
  have hmm : ∀ w : World, (Instr.makeMap 80 none).run Tryd.prog w = .ok (.map (some w.heap.size)) (w.alloc (.map #[] 0)) := @run_makeMap Tryd.prog 80
  obtain ⟨i0, hi0, hz0, hz1, hz2⟩ := info_parts info_int
  have hfew := A.fewL
  have HR := Lib.hid hr
  obtain ⟨ao, c, rfl, hc, hc2, hcell⟩ := hr
  unfold maxLen at hc2
  have HC := Lib.hid hcell
  have HG := Lib.hid hgood
  have HA := Lib.hid ha
  clear hcell hgood ha
  go_enter Tryd.func13, Tryd.ntmps13
  go_wp2_with fail
  go_loopg [10, 19] roots.length (fun gk x i wr => ∃ k : Nat, k + gk = roots.length ∧ i = .int .i64 k ∧ w = wr)
  case atStart => exact ⟨0, by omega, rfl, rfl⟩
  case round =>
    obtain ⟨k, hk, rfl, rfl⟩ := hrel
    by_cases hlt : k < roots.length
    · obtain ⟨b, o, rfl, kc⟩ := HC.out k hlt
      have hh := HG.out _ (List.getElem_mem hlt)
      go_wp2_with fail
      refine (has_b A _ true (decide_eq_true hh)).mono ?_
      rintro e w' ⟨rfl, rfl⟩
      go_wp2_with fail
      go_roundg (gk - 1)
      case measure => omega
      case rel => exact ⟨k + 1, by omega, by go_num, rfl⟩
    · go_wp2_with fail
      refine (new_any limit).mono ?_
      rintro e w1 ⟨b, rfl, B1, hb1⟩
      have A1 := A.below hb1
      have M := Mover.fresh A1 B1 (fun k h1 h2 => by have := HA.out k h1; omega) (fun k h => Nat.lt_of_lt_of_le (HA.out k h) hb1.size) (fun k h => h.2)
      have hmv := heap_alloc_new (w1.alloc (.map #[] 0)) (.cells #[.pointer (some ⟨ba, 0, none⟩), .pointer (some ⟨b, 0, none⟩), .map (some w1.heap.size)] 82)
      have HI : Hid (CompI w ((w1.alloc (.map #[] 0)).alloc (.cells #[.pointer (some ⟨ba, 0, none⟩), .pointer (some ⟨b, 0, none⟩), .map (some w1.heap.size)] 82)) ba lima (max limit 0) La Sa b w1.heap.size (w1.heap.size + 1) roots 0 (.slice none 0 0)) :=
        ⟨[], [], _, _, M.below ((Below.refl _ _).alloc (Nat.le_refl _) _), World.ownsRow_nil _ _ _ _, (hb1.alloc hb1.size _).alloc (by have := hb1.size; simp; omega) _, rfl, by simp, rfl, fun i h => h.1, hb1.size, fun i h => by simp [Value.ownBlock] at h,
          by simpa using hmv, fun h => by have := h.2; omega, by omega⟩
      have hsz := hb1.size
      clear M A1 B1 hb1 hmv
      go_wp2_with fail
      go_loopg [12, 36] roots.length (fun gk v i wr => ∃ k : Nat, k + gk = roots.length ∧ i = .int .i64 k ∧ Hid (CompI w wr ba lima (max limit 0) La Sa b w1.heap.size (w1.heap.size + 1) roots k v))
      case atStart => exact ⟨0, by omega, rfl, HI⟩
      case round =>
        clear HI
        obtain ⟨k, hk2, rfl, HI⟩ := hrel
        obtain ⟨v, rfl⟩ : ∃ x, x = u12 := ⟨_, rfl⟩
        obtain ⟨L, xs, St, f, M, ho, hbe, hres, hL, hxs, hSt, hbm, hv, hmb, hSmb, hne⟩ := HI.out
        have HM := Lib.hid M
        have HO := Lib.hid ho
        have HBE := Lib.hid hbe
        have HRES := Lib.hid hres
        have HXS := Lib.hid hxs
        have HST := Lib.hid hSt
        have HV := Lib.hid hv
        have HMB := Lib.hid hmb
        have hwr := hbe.size
        clear M ho hbe hres hxs hSt hv hmb
        by_cases hlt2 : k < roots.length
        · obtain ⟨q, o, rfl, kc0⟩ := HC.out k hlt2
          have kc := (HBE.out.cell (p := ⟨q, o + k, none⟩) (World.block_lt_of_cell? w _ kc0)).trans kc0
          have hmem := HG.out _ (List.getElem_mem hlt2)
          have hfit : fits roots[k] := by obtain ⟨h1, h2⟩ := hmem; unfold Ar.low at h1; exact fits_of (by omega) (by omega)
          have hcost := Ar.cost_le La roots[k]
          have y0 := cell_at HMB.out 0 (v := .pointer (some ⟨ba, 0, none⟩)) rfl
          have y1 := cell_at HMB.out 1 (v := .pointer (some ⟨b, 0, none⟩)) rfl
          have y2 := cell_at HMB.out 2 (v := .map (some w1.heap.size)) rfl
          have hgo := CompI.go hlt2 HRES.out
          rcases hr1 : Ar.mv (max limit 0) La (roots[k].toNat + 1) L roots[k] with ⟨L1, x1, e1⟩
          have hL1 := Ar.mv_length (lim := max limit 0) A.ok (roots[k].toNat + 1) L roots[k]
          rw [hr1] at hL1 hgo
          have HR1 := Lib.hid hr1
          have HGO := Lib.hid hgo
          clear hr1 hgo kc0 hmem
          have hL1' : L1.length ≤ L.length + Ar.cost La roots[k] := hL1
          clear hL1
          go_wp2_with fail
          refine (Calls.mono (move_any (roots[k].toNat + 1) wr L St (4095 * k) f HM.out roots[k] (by omega) hfit (by omega) (by omega)) (fun e w' h => MovePost.out HR1.out h)).mono ?_
          rintro e w3 ⟨ev1, f1, rfl, he1, M3, t3⟩
          have hbe3 : Below w.heap.size w w3 := HBE.out.trans ((t3.out.below (B := w.heap.size) hwr (fun i hi h => h.elim (fun c => by have := HST.out _ c; omega) (fun c => by omega))))
          by_cases he : e1 = 0
          · subst he
            obtain rfl : ev1 = .nilIface := by rcases he1.out with h | h; exact h.2; exact absurd rfl h.1
            have hbs := t3.out.size
            have HO3 : Hid (OwnInts w3 w.heap.size v xs) := HO.out.touch t3.out (fun i h c => by
              have := HV.out i h
              exact c.elim this.1 this.2.1)
            have HBE3 := Lib.hid hbe3
            clear hbe3 y0 y1 y2 kc
            go_wp2_with (at_builtin; refine wpList_append_src rfl (.tmp 49) (.tmp 51) 23 rfl w.heap.size 3 i0 (.int .i64 0) 1 8 Tryd.underlying23 hi0 hz0 hz1 hz2 rfl (by decide) v xs.length (xs.map (Value.int .i64)) rfl (HO3.out.alloc _) _ 1 [.int .i64 x1] rfl ?c2 ?c3 ?c4 ?c5 ?c6 ?_)
            case c2 =>
              refine .inr ⟨_, _, rfl, rfl, World.news_of_block (cs := #[.int .i64 x1]) (t := 3) (fr := (0, 0)) ?_⟩
              have := heap_alloc_new w3 (.cells #[.int .i64 x1] 3)
              simpa using this
            case c3 => intro u hu; simp at hu; subst hu; rfl
            case c4 => rw [HXS.out]; unfold maxLen; omega
            case c5 => rw [HXS.out]; omega
            case c6 => have := HBE3.out.size; simp; omega
            intro v' w4 hown hgrow hnil hblk
            have hst : Hid (CompI w w4 ba lima (max limit 0) La Sa b w1.heap.size (w1.heap.size + 1) roots (k + 1) v') := by
              have hvl : ∀ i, v.ownBlock = some i → w.heap.size ≤ i ∧ i < wr.heap.size := fun i h => ownsRow_block HO.out h
              have ht : Touch w3 w4 (fun i => v.ownBlock = some i) := ((Touch.refl w3 _).alloc _).grown hgrow (fun i h => .inl h)
              have M4 := M3.out.far ht (fun i h c => by have := HA.out i h; have := hvl i c; omega) (fun i h c => by
                have h1 := HV.out i c
                have h2 := hvl i c
                rcases h with h | h
                · exact h1.1 h
                · omega) (fun c => (HV.out _ c).2.1 rfl)
              refine ⟨L1, xs ++ [x1], _, _, { M4 with m := M4.m.mono (by omega) }, by simpa [OwnInts] using hown, ?_, HGO.out.2 (by first | trivial | rfl), by omega, by simp [HXS.out], ?_, hbm, ?_, ?_, ?_, hne⟩
              · exact (HBE3.out.alloc HBE3.out.size _).grown hgrow (by have := HBE3.out.size; simp; omega) (fun i h => (hvl i h).1)
              · intro i h
                rcases h with h | h
                · exact HST.out i h
                · omega
              · intro i h
                rcases hblk with hb | hb
                · rw [hb] at h
                  have h1 := HV.out i h
                  have h2 := hvl i h
                  exact ⟨fun c => c.elim h1.1 (fun c => by omega), h1.2⟩
                · rw [hb] at h
                  have hw3 : i = w3.heap.size + 1 := by simpa using h.symm
                  have := HM.out.m.lt
                  have := lt_of_heap HMB.out
                  exact ⟨fun c => c.elim (fun c => by have := HM.out.lt i c; omega) (fun c => by omega), by omega, by omega⟩
              · have h1 := t3.out.heap HMB.out (fun c => c.elim hSmb hne)
                exact (ht.heap h1 (fun c => (HV.out _ c).2.2 rfl))
              · intro c
                have := lt_of_heap HMB.out
                exact c.elim hSmb (fun c => by omega)
            clear hown hgrow hnil hblk
            go_wp2_with fail
            go_roundg (gk - 1)
            case measure => omega
            case rel => exact ⟨k + 1, by omega, by go_num, hst⟩
          · obtain ⟨fb, vv, rfl, hfa⟩ : ∃ fb v, ev1 = .iface 94 (.pointer (some ⟨fb, 0, none⟩)) ∧ Hid (FaultAt w3 fb v e1) := by
              rcases he1.out with h | ⟨_, fb, v, h1, h2⟩
              · exact absurd h.1 he
              · exact ⟨fb, v, h1, h2⟩
            have HQ : Hid (CompPost w (max limit 0) La roots (.returned (.tuple #[.pointer none, .slice none 0 0, .iface 94 (.pointer (some ⟨fb, 0, none⟩))])) w3) := by
              refine ⟨hbe3, .inr (.inl ⟨HG.out, ?_, _, rfl, ?_⟩)⟩
              · rw [HGO.out.1 he]; exact he
              · rw [HGO.out.1 he]; exact .inr ⟨he, fb, vv, rfl, hfa.out⟩
            clear he hbe3
            go_wp2_with fail
            go_ret3
            exact HQ.out
        · have hkk : roots.drop k = [] := List.drop_of_length_le (by omega)
          have hres : Ar.mvAll (max limit 0) La roots [] [] = (L, xs, 0) := by rw [← HRES.out, hkk]; rfl
          have y1 := cell_at HMB.out 1 (v := .pointer (some ⟨b, 0, none⟩)) rfl
          have HQ : Hid (CompPost w (max limit 0) La roots (.returned (.tuple #[.pointer (some ⟨b, 0, none⟩), v, .nilIface])) wr) := by
            refine ⟨HBE.out, .inr (.inr ⟨HG.out, ?_, b, v, rfl, ?_, ?_⟩)⟩
            · rw [hres]
            · rw [hres]; exact HM.out.t.mono (fun i h => ⟨HST.out i h, HM.out.lt i h⟩)
            · rw [hres]; exact HO.out
          clear hkk hres
          go_wp2_with fail
          go_ret3
          exact HQ.out

theorem compact_any {ba : Nat} {lima : Int} {La : List Nd} {Sa : Nat → Prop} (A : Arena w ba lima La Sa) (ha : ∀ k, Sa k → k < w.heap.size) (v : Value) (roots : List Int) (hr : Ints w v roots) (limit : Int) (hlen : roots.length ≤ 100000) :
    Calls Tryd.prog 13 #[.pointer (some ⟨ba, 0, none⟩), v, .int .i64 limit] w (CompPost w (max limit 0) La roots) := by
  by_cases h : ∀ r ∈ roots, Ar.has La r
  · exact compact_good A ha v roots hr h limit hlen
  · exact compact_odd A v roots hr h limit _

end Go.Proofs.YtknoigebkpapoaaDoor
