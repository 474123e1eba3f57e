/- Walks of package sweep: a diagram moved into another arena, each node once. -/
import Derived.Test.YtknoigebkpapoaaDoorSd
import Derived.Test.YtknoigebkpapoaaDoorSm
import Derived.Test.YtknoigebkpapoaaDoorMp
set_option linter.unusedVariables false
set_option linter.unusedSimpArgs false
namespace Go.Proofs.YtknoigebkpapoaaDoor
open Go.RowKit Go.Deep
variable {w : World}

/-- What was moved, comes again as it came. -/
def Moved (lim : Int) (La Lt : List Nd) (f : Int → Option Int) : Prop := ∀ k x, f k = some x → Ar.isN La k ∧ Ar.mv lim La (k.toNat + 1) Lt k = (Lt, x, 0)
theorem Moved.grow {lim : Int} {La Lt L' : List Nd} {f : Int → Option Int} (h : Moved lim La Lt f) (hp : Lt <+: L') : Moved lim La L' f :=
  fun k x hk => ⟨(h k x hk).1, Ar.mv_mono _ _ _ _ _ (h k x hk).2 hp⟩

/-- An error's value: none, or a fault of this number. -/
def ErrIs (w : World) (n : Int) (ev : Value) : Prop := (n = 0 ∧ ev = .nilIface) ∨ (n ≠ 0 ∧ ∃ fb v, ev = .iface 94 (.pointer (some ⟨fb, 0, none⟩)) ∧ FaultAt w fb v n)
theorem ErrIs.below {w w' : World} {n : Int} {ev : Value} (h : ErrIs w n ev) (hb : Below w.heap.size w w') : ErrIs w' n ev := by
  rcases h with h | ⟨h1, fb, v, h2, h3⟩
  · exact .inl h
  · exact .inr ⟨h1, fb, v, h2, (hb.block fb (lt_of_heap h3)).trans h3⟩

/-- What a mover holds. -/
structure Mover (w : World) (ba : Nat) (lima : Int) (La : List Nd) (Sa : Nat → Prop) (bt : Nat) (lim : Int) (Lt : List Nd) (St : Nat → Prop) (bm n : Nat) (f : Int → Option Int) : Prop where
  a : Arena w ba lima La Sa
  t : Arena w bt lim Lt St
  m : IMap w bm n f
  sa : ∀ k, Sa k → ¬ St k
  am : ¬ Sa bm
  tm : ¬ St bm
  ok : Moved lim La Lt f
  la : ∀ k, Sa k → k < w.heap.size
  lt : ∀ k, St k → k < w.heap.size

def MovePost (w : World) (ba : Nat) (lima : Int) (La : List Nd) (Sa : Nat → Prop) (bt : Nat) (lim : Int) (Lt : List Nd) (St : Nat → Prop) (bm n : Nat) (k : Int) (e : Ending) (w' : World) : Prop :=
  ∃ ev f', e = .returned (.tuple #[.int .i64 (Ar.mv lim La (k.toNat + 1) Lt k).2.1, ev]) ∧ ErrIs w' (Ar.mv lim La (k.toNat + 1) Lt k).2.2 ev ∧
    Mover w' ba lima La Sa bt lim (Ar.mv lim La (k.toNat + 1) Lt k).1 (fun i => St i ∨ (w.heap.size ≤ i ∧ i < w'.heap.size)) bm (n + Ar.cost La k) f' ∧ Touch w w' (fun i => St i ∨ i = bm)

section
variable {w' : World} {ba : Nat} {lima : Int} {La : List Nd} {Sa : Nat → Prop} {bt : Nat} {lim : Int} {Lt : List Nd} {St : Nat → Prop} {bm n : Nat} {f : Int → Option Int}
theorem Mover.below (M : Mover w ba lima La Sa bt lim Lt St bm n f) (h : Below w.heap.size w w') : Mover w' ba lima La Sa bt lim Lt St bm n f :=
  { M with a := M.a.below h, t := M.t.below h, m := M.m.touch (Touch.of_below h (fun _ => False)) (fun c => c), la := fun k hk => Nat.lt_of_lt_of_le (M.la k hk) h.size, lt := fun k hk => Nat.lt_of_lt_of_le (M.lt k hk) h.size }
theorem Mover.wide (M : Mover w' ba lima La Sa bt lim Lt St bm n f) {S' : Nat → Prop} {m B : Nat} (hS : ∀ k, St k → S' k) (hm : n ≤ m) (hS' : ∀ k, S' k → St k ∨ (B ≤ k ∧ k < w'.heap.size)) (hb : bm < B) (hla : ∀ k, Sa k → k < B) :
    Mover w' ba lima La Sa bt lim Lt S' bm m f :=
  { M with t := M.t.mono hS, m := M.m.mono hm, sa := fun k h1 h2 => (hS' k h2).elim (M.sa k h1) (fun h => by have := hla k h1; omega), tm := fun h => (hS' _ h).elim M.tm (fun h => by omega), lt := fun k h => (hS' k h).elim (M.lt k) (fun h => h.2) }
theorem Arena.clip {b : Nat} {lim : Int} {L : List Nd} {S : Nat → Prop} (A : Arena w b lim L S) : Arena w b lim L (fun k => S k ∧ k < w.heap.size) := by
  obtain ⟨vl, bp, PL, cp, tl, A, hf⟩ := A
  refine ⟨vl, bp, PL, cp, tl, A, fun k hk => ⟨hf k hk, ?_⟩⟩
  rcases hk with rfl | hk | rfl
  · exact lt_of_heap A.box
  · exact (A.row.lt k hk).2
  · exact lt_of_heap A.plc
/-- Handed back: a ref that moves to itself, or was moved. -/
theorem MovePost.same (M : Mover w ba lima La Sa bt lim Lt St bm n f) {k x : Int} (hb : Below w.heap.size w w') (hx : Ar.mv lim La (k.toNat + 1) Lt k = (Lt, x, 0)) :
    MovePost w ba lima La Sa bt lim Lt St bm n k (.returned (.tuple #[.int .i64 x, .nilIface])) w' := by
  refine ⟨.nilIface, f, by rw [hx], by rw [hx]; exact .inl ⟨rfl, rfl⟩, ?_, Touch.of_below hb _⟩
  rw [hx]
  exact (M.below hb).wide (B := w.heap.size) (fun k h => .inl h) (by omega) (fun k h => h) M.m.lt M.la
end

theorem Arena.fewL {b : Nat} {lim : Int} {L : List Nd} {S : Nat → Prop} (A : Arena w b lim L S) : L.length ≤ 100000000000 := by
  obtain ⟨vl, bp, PL, cp, tl, A, hf⟩ := A; exact A.few
theorem mv_fits {lim : Int} {La Lt : List Nd} {k : Int} (h : (Ar.mv lim La (k.toNat + 1) Lt k).2.2 = 0) : True := trivial

set_option maxRecDepth 100000 in
set_option maxHeartbeats 2000000 in
theorem move_not {ba : Nat} {lima : Int} {La : List Nd} {Sa : Nat → Prop} {bt : Nat} {lim : Int} {Lt : List Nd} {St : Nat → Prop} {bm n : Nat} {f : Int → Option Int} (M : Mover w ba lima La Sa bt lim Lt St bm n f) (k : Int) (hn : ¬ Ar.isN La k) :
    Calls Tryd.prog 44 #[.agg #[.pointer (some ⟨ba, 0, none⟩), .pointer (some ⟨bt, 0, none⟩), .map (some bm)], .int .i64 k] w (MovePost w ba lima La Sa bt lim Lt St bm n k) := by
  have HP : Hid (∀ w', Below w.heap.size w w' → MovePost w ba lima La Sa bt lim Lt St bm n k (.returned (.tuple #[.int .i64 k, .nilIface])) w') := fun w' hb => MovePost.same M hb (Ar.mv_not hn)
  have A1 : Arena (w.alloc (.cells #[.pointer (some ⟨ba, 0, none⟩), .pointer (some ⟨bt, 0, none⟩), .map (some bm)] 82)) ba lima La Sa := M.a.below ((Below.refl _ _).alloc (Nat.le_refl _) _)
  clear M
  go_enter Tryd.func44, Tryd.ntmps44
  go_wp2_with fail
  refine (get_out A1 k hn).mono ?_
  rintro e w1 ⟨rfl, hb1⟩
  go_wp2_with fail
  go_ret2
  exact HP.out _ ((((Below.refl _ _).alloc (Nat.le_refl _) _).trans (hb1.mono (by simp))).alloc (by have := hb1.size; simp at this; omega) _)

set_option maxRecDepth 100000 in
set_option maxHeartbeats 2000000 in
theorem move_had {ba : Nat} {lima : Int} {La : List Nd} {Sa : Nat → Prop} {bt : Nat} {lim : Int} {Lt : List Nd} {St : Nat → Prop} {bm n : Nat} {f : Int → Option Int} (M : Mover w ba lima La Sa bt lim Lt St bm n f) (k : Nat) (hk : k < La.length) (hf : fits k) (x : Int) (hx : f k = some x) :
    Calls Tryd.prog 44 #[.agg #[.pointer (some ⟨ba, 0, none⟩), .pointer (some ⟨bt, 0, none⟩), .map (some bm)], .int .i64 k] w (MovePost w ba lima La Sa bt lim Lt St bm n k) := by
  have HP : Hid (∀ w', Below w.heap.size w w' → MovePost w ba lima La Sa bt lim Lt St bm n k (.returned (.tuple #[.int .i64 x, .nilIface])) w') := fun w' hb => MovePost.same M hb (M.ok _ _ hx).2
  have HM := Lib.hid M
  have A1 : Arena (w.alloc (.cells #[.pointer (some ⟨ba, 0, none⟩), .pointer (some ⟨bt, 0, none⟩), .map (some bm)] 82)) ba lima La Sa := M.a.below ((Below.refl _ _).alloc (Nat.le_refl _) _)
  have hy0 := cell_at (heap_alloc_new w (.cells #[.pointer (some ⟨ba, 0, none⟩), .pointer (some ⟨bt, 0, none⟩), .map (some bm)] 82)) 2 (v := .map (some bm)) rfl
  have HX := Lib.hid hx
  clear M hx
  go_enter Tryd.func44, Tryd.ntmps44
  go_wp2_with fail
  refine (get_in A1 k hk).mono ?_
  rintro e w1 ⟨rfl, hb1⟩
  have hlt : w.heap.size < w1.heap.size := by have := hb1.size; simp at this; omega
  have hy := (hb1.cell (p := ⟨w.heap.size, 2, none⟩) (by simp)).trans hy0
  have hb2 : Below w.heap.size w (w1.alloc (.cells #[.int .i64 La[k].v, .int .i64 La[k].l, .int .i64 La[k].h] 57)) := (((Below.refl _ _).alloc (Nat.le_refl _) _).trans (hb1.mono (by simp))).alloc (by omega) _
  clear hy0 hb1
  go_wp2_with (at_lookup; refine wpList_lookup_imap rfl (.tmp 26) (.tmp 27) rfl bm n f rfl (HM.out.below hb2).m k rfl hf ?_; rw [HX.out])
  go_ret2
  exact HP.out _ hb2

theorem Ar.mk_has {lim : Int} {L L' : List Nd} {v lo hi x : Int} (h : Ar.mk lim L v lo hi = (L', x, 0)) : Ar.has L' x := by
  rcases Ar.mk_cases lim L v lo hi with ⟨n, hn, e⟩ | ⟨h1, h2, ho, ⟨he, e⟩ | ⟨he, hm, e⟩ | ⟨he, hm, hl, e⟩⟩
  · rw [e] at h; cases h; exact absurd rfl hn
  · rw [e] at h; cases h; exact ho.1
  · rw [e] at h; cases h
    have := List.idxOf_lt_length_of_mem hm
    exact ⟨by unfold Ar.low; omega, by omega⟩
  · rw [e] at h; cases h
    exact ⟨by unfold Ar.low; omega, by rw [List.length_append, List.length_singleton]; omega⟩

def MkOut (w : World) (b : Nat) (lim : Int) (L' : List Nd) (x en : Int) (S : Nat → Prop) (e : Ending) (w' : World) : Prop :=
  ∃ ev, e = .returned (.tuple #[.int .i64 x, ev]) ∧ Hid (Arena w' b lim L' (fun k => S k ∨ w.heap.size ≤ k)) ∧ Hid (Touch w w' S) ∧ Hid (ErrIs w' en ev)
theorem MkPost.out {w w' : World} {b : Nat} {lim : Int} {L L' : List Nd} {S : Nat → Prop} {v lo hi x en : Int} {e : Ending} (hr : Ar.mk lim L v lo hi = (L', x, en)) (h : MkPost w b lim L S v lo hi e w') : MkOut w b lim L' x en S e w' := by
  obtain ⟨ev, h1, h2, h3, h4, h5⟩ := h
  rw [hr] at h1 h2 h4 h5
  refine ⟨ev, h1, h2, h3, ?_⟩
  by_cases he : en = 0
  · exact .inl ⟨he, h4 he⟩
  · obtain ⟨fb, q1, _, q2⟩ := h5 he
    exact .inr ⟨he, fb, v, q1, q2⟩

/-- What a move leaves, its outcome named. -/
def MoveOut (w : World) (ba : Nat) (lima : Int) (La : List Nd) (Sa : Nat → Prop) (bt : Nat) (lim : Int) (L' : List Nd) (x en : Int) (St : Nat → Prop) (bm n : Nat) (e : Ending) (w' : World) : Prop :=
  ∃ ev f', e = .returned (.tuple #[.int .i64 x, ev]) ∧ Hid (ErrIs w' en ev) ∧ Hid (Mover w' ba lima La Sa bt lim L' (fun i => St i ∨ (w.heap.size ≤ i ∧ i < w'.heap.size)) bm n f') ∧ Hid (Touch w w' (fun i => St i ∨ i = bm))
theorem MovePost.out {w w' : World} {ba : Nat} {lima : Int} {La : List Nd} {Sa : Nat → Prop} {bt : Nat} {lim : Int} {Lt L' : List Nd} {St : Nat → Prop} {bm n : Nat} {k x en : Int} {e : Ending} (hr : Ar.mv lim La (k.toNat + 1) Lt k = (L', x, en)) (h : MovePost w ba lima La Sa bt lim Lt St bm n k e w') :
    MoveOut w ba lima La Sa bt lim L' x en St bm (n + Ar.cost La k) e w' := by
  unfold MovePost at h
  rw [hr] at h
  exact h
theorem MoveOut.post {w w' : World} {ba : Nat} {lima : Int} {La : List Nd} {Sa : Nat → Prop} {bt : Nat} {lim : Int} {Lt L' : List Nd} {St : Nat → Prop} {bm n : Nat} {k x en : Int} {e : Ending} (hr : Ar.mv lim La (k.toNat + 1) Lt k = (L', x, en)) (h : MoveOut w ba lima La Sa bt lim L' x en St bm (n + Ar.cost La k) e w') :
    MovePost w ba lima La Sa bt lim Lt St bm n k e w' := by
  unfold MovePost
  rw [hr]
  exact h

section
variable {w' : World} {ba : Nat} {lima : Int} {La : List Nd} {Sa : Nat → Prop} {bt : Nat} {lim : Int} {Lt : List Nd} {St : Nat → Prop} {bm n : Nat} {f : Int → Option Int}
theorem Mover.made (M : Mover w ba lima La Sa bt lim Lt St bm n f) {L' : List Nd} (A : Arena w' bt lim L' (fun k => St k ∨ w.heap.size ≤ k)) (t : Touch w w' St) (hp : Lt <+: L') :
    Mover w' ba lima La Sa bt lim L' (fun k => St k ∨ (w.heap.size ≤ k ∧ k < w'.heap.size)) bm n f where
  a := M.a.touch t (fun k _ h => M.sa k h)
  t := A.clip.mono (fun k h => h.1.imp id (fun c => ⟨c, h.2⟩))
  m := M.m.touch t M.tm
  sa := fun k h1 h2 => h2.elim (M.sa k h1) (fun c => by have := M.la k h1; omega)
  am := M.am
  tm := fun h => h.elim M.tm (fun c => by have := M.m.lt; omega)
  ok := M.ok.grow hp
  la := fun k h => Nat.lt_of_lt_of_le (M.la k h) t.size
  lt := fun k h => h.elim (fun c => Nat.lt_of_lt_of_le (M.lt k c) t.size) (fun c => c.2)

theorem Mover.put (M : Mover w ba lima La Sa bt lim Lt St bm n f) {f' : Int → Option Int} (I : IMap w' bm (n + 1) f') (g : w.grownBy w' (some bm)) (hf : Moved lim La Lt f') : Mover w' ba lima La Sa bt lim Lt St bm (n + 1) f' := by
  have t : Touch w w' (fun k => k = bm) := (Touch.refl w _).grown g (fun k h => .inl (by cases h; rfl))
  exact { a := M.a.touch t (fun k _ h c => M.am (c ▸ h)), t := M.t.touch t (fun k _ h c => M.tm (c ▸ h)), m := I, sa := M.sa, am := M.am, tm := M.tm, ok := hf, la := fun k h => Nat.lt_of_lt_of_le (M.la k h) g.size, lt := fun k h => Nat.lt_of_lt_of_le (M.lt k h) g.size }
end

set_option maxRecDepth 100000 in
set_option maxHeartbeats 4000000 in
theorem move_node {ba : Nat} {lima : Int} {La : List Nd} {Sa : Nat → Prop} {bt : Nat} {lim : Int} {Lt : List Nd} {St : Nat → Prop} {bm n : Nat} {f : Int → Option Int} (M : Mover w ba lima La Sa bt lim Lt St bm n f) (k : Nat) (hk : k < La.length) (hf : fits k) (hx : f k = none)
    (h1 : Lt.length + Ar.cost La k ≤ 10000000000) (h2 : n + Ar.cost La k ≤ 10000000000)
    (ih : ∀ (w : World) (Lt : List Nd) (St : Nat → Prop) (n : Nat) (f : Int → Option Int) (M : Mover w ba lima La Sa bt lim Lt St bm n f) (j : Int) (hj : j < k) (hf : fits j) (h1 : Lt.length + Ar.cost La j ≤ 10000000000) (h2 : n + Ar.cost La j ≤ 10000000000),
      Calls Tryd.prog 44 #[.agg #[.pointer (some ⟨ba, 0, none⟩), .pointer (some ⟨bt, 0, none⟩), .map (some bm)], .int .i64 j] w (MovePost w ba lima La Sa bt lim Lt St bm n j)) :
    Calls Tryd.prog 44 #[.agg #[.pointer (some ⟨ba, 0, none⟩), .pointer (some ⟨bt, 0, none⟩), .map (some bm)], .int .i64 k] w (MovePost w ba lima La Sa bt lim Lt St bm n k) := by
  have ok := M.a.ok
  have hn : Ar.isN La k := ⟨by omega, by omega⟩
  have hc := Ar.cost_node ok hn
  have hch := Ar.ok_child ok hn
  rw [Ar.nd_at hk] at hc hch
  have HM := Lib.hid M
  have IH := Lib.hid ih
  have A1 : Arena (w.alloc (.cells #[.pointer (some ⟨ba, 0, none⟩), .pointer (some ⟨bt, 0, none⟩), .map (some bm)] 82)) ba lima La Sa := M.a.below ((Below.refl _ _).alloc (Nat.le_refl _) _)
  have hy0 := heap_alloc_new w (.cells #[.pointer (some ⟨ba, 0, none⟩), .pointer (some ⟨bt, 0, none⟩), .map (some bm)] 82)
  have HX := Lib.hid hx
  have HC := Lib.hid hch
  have hll := M.la
  have hmt := M.m.lt
  have HLT := Lib.hid M.lt
  have HLA := Lib.hid M.la
  have hszk := M.a.fewL
  clear M hx hch ih hll
  go_enter Tryd.func44, Tryd.ntmps44
  go_wp2_with fail
  refine (get_in A1 k hk).mono ?_
  rintro e w1 ⟨rfl, hb1⟩
  have hlt : w.heap.size < w1.heap.size := by have := hb1.size; simp at this; omega
  have hmb := (hb1.block w.heap.size (by simp)).trans hy0
  have hy2 := cell_at hmb 0 (v := .pointer (some ⟨ba, 0, none⟩)) rfl
  have hy3 := cell_at hmb 1 (v := .pointer (some ⟨bt, 0, none⟩)) rfl
  have hy4 := cell_at hmb 2 (v := .map (some bm)) rfl
  have hb2 : Below w.heap.size w (w1.alloc (.cells #[.int .i64 La[k].v, .int .i64 La[k].l, .int .i64 La[k].h] 57)) := (((Below.refl _ _).alloc (Nat.le_refl _) _).trans (hb1.mono (by simp))).alloc (by omega) _
  have HMB := Lib.hid hmb
  clear hy0 hmb hb1
  go_wp2_with (at_lookup; refine wpList_lookup_imap rfl (.tmp 26) (.tmp 27) rfl bm n f rfl (HM.out.below hb2).m k rfl hf ?_; rw [HX.out])
  have M2 := HM.out.below hb2
  have hmb2 := heap_alloc_lt (.cells #[.int .i64 La[k].v, .int .i64 La[k].l, .int .i64 La[k].h] 57) HMB.out
  have hnb2 := heap_alloc_new w1 (.cells #[.int .i64 La[k].v, .int .i64 La[k].l, .int .i64 La[k].h] 57)
  have hsz2 : (w1.alloc (.cells #[.int .i64 La[k].v, .int .i64 La[k].l, .int .i64 La[k].h] 57)).heap.size = w1.heap.size + 1 := by simp
  rcases hr1 : Ar.mv lim La (La[k].l.toNat + 1) Lt La[k].l with ⟨L1, x1, e1⟩
  have hL1 := Ar.mv_length (lim := lim) HM.out.a.ok (La[k].l.toNat + 1) Lt La[k].l
  rw [hr1] at hL1
  have HR1 := Lib.hid hr1
  have HM2 := Lib.hid M2
  have HMB2 := Lib.hid hmb2
  have HNB2 := Lib.hid hnb2
  have HS2 := Lib.hid hsz2
  have HB2 := Lib.hid hb2
  clear hr1 M2 hmb2 hnb2 hsz2 hy2 hy3 hy4 hb2
  generalize w1.alloc (.cells #[.int .i64 La[k].v, .int .i64 La[k].l, .int .i64 La[k].h] 57) = w2 at *
  have hlow : Ar.low = -1099511627777 := rfl
  have hb := HC.out
  rw [hlow] at hb
  obtain ⟨hv0, hv1, hne, hl0, hl1, hh0, hh1, _, _⟩ := hb
  have HNE := Lib.hid hne
  clear hlow hne
  refine (Calls.mono (IH.out _ _ _ _ _ HM2.out La[k].l hl1 (fits_of (by omega) (by omega)) (by omega) (by omega)) (fun e w' h => MovePost.out HR1.out h)).mono ?_
  rintro e w3 ⟨ev1, f1, rfl, he1, M3, t3⟩
  have hmb3 := Lib.hid (t3.out.heap HMB2.out (fun h => h.elim (fun c => by have := HLT.out _ c; omega) (fun c => by omega)))
  have hnb3 := Lib.hid (t3.out.heap HNB2.out (fun h => h.elim (fun c => by have := HLT.out _ c; omega) (fun c => by omega)))
  have HT3 : Hid (Touch w w3 (fun i => St i ∨ i = bm)) := (Touch.of_below HB2.out _).trans t3.out (fun _ _ h => h)
  have HF := Lib.hid (show Ar.mv lim La k Lt (Ar.nd La k).l = (L1, x1, e1) by rw [Ar.nd_at hk, ← HR1.out]; exact Ar.mv_stable HM.out.a.ok _ _ _ _ hl1 (by omega))
  by_cases he : e1 = 0
  · subst he
    obtain rfl : ev1 = .nilIface := by rcases he1.out with h | h; exact h.2; exact absurd rfl h.1
    have y0 := cell_at hmb3.out 0 (v := .pointer (some ⟨ba, 0, none⟩)) rfl
    have y1 := cell_at hmb3.out 1 (v := .pointer (some ⟨bt, 0, none⟩)) rfl
    have y2 := cell_at hmb3.out 2 (v := .map (some bm)) rfl
    have z2 := cell_at hnb3.out 2 (v := .int .i64 La[k].h) rfl
    rcases hr2 : Ar.mv lim La (La[k].h.toNat + 1) L1 La[k].h with ⟨L2, x2, e2⟩
    have hL2 := Ar.mv_length (lim := lim) HM.out.a.ok (La[k].h.toNat + 1) L1 La[k].h
    rw [hr2] at hL2
    have HR2 := Lib.hid hr2
    have HG := Lib.hid (show Ar.mv lim La k L1 (Ar.nd La k).h = (L2, x2, e2) by rw [Ar.nd_at hk, ← hr2]; exact Ar.mv_stable HM.out.a.ok _ _ _ _ hh1 (by omega))
    clear hr2
    go_wp2_with fail
    refine (Calls.mono (IH.out _ _ _ _ _ M3.out La[k].h hh1 (fits_of (by omega) (by omega)) (by omega) (by omega)) (fun e w' h => MovePost.out HR2.out h)).mono ?_
    rintro e w4 ⟨ev2, f2, rfl, he2, M4, t4⟩
    have hfar : ∀ i, i < w2.heap.size → w.heap.size ≤ i → ¬ ((St i ∨ (w2.heap.size ≤ i ∧ i < w3.heap.size)) ∨ i = bm) := fun i hi hw h => by
      rcases h with (h | h) | h
      · have := HLT.out _ h; omega
      · omega
      · omega
    have hmb4 := Lib.hid (t4.out.heap hmb3.out (hfar _ (by rw [HS2.out]; omega) (Nat.le_refl _)))
    have hnb4 := Lib.hid (t4.out.heap hnb3.out (hfar _ (by rw [HS2.out]; omega) (by omega)))
    have HT4 : Hid (Touch w w4 (fun i => St i ∨ i = bm)) :=
      HT3.out.trans t4.out (fun i hi h => by
        rcases h with (h | h) | h
        · exact .inl h
        · have := HB2.out.size; omega
        · exact .inr h)
    have HM4 : Hid (Mover w4 ba lima La Sa bt lim L2 (fun i => St i ∨ (w2.heap.size ≤ i ∧ i < w4.heap.size)) bm (n + Ar.cost La La[k].l + Ar.cost La La[k].h) f2) :=
      M4.out.wide (B := w2.heap.size) (fun i h => by
        have := t4.out.size
        rcases h with (h | h) | h
        · exact .inl h
        · exact .inr ⟨by omega, by omega⟩
        · exact .inr ⟨by have := t3.out.size; omega, by omega⟩) (Nat.le_refl _) (fun i h => h.elim (fun c => .inl (.inl (.inl c))) .inr) (by have := HB2.out.size; omega) (fun i h => by have := HLA.out _ h; have := HB2.out.size; omega)
    clear t4 M4 hfar y0 y1 y2 z2
    by_cases hf2 : e2 = 0
    · subst hf2
      obtain rfl : ev2 = .nilIface := by rcases he2.out with h | h; exact h.2; exact absurd rfl h.1
      have y0 := cell_at hmb4.out 0 (v := .pointer (some ⟨ba, 0, none⟩)) rfl
      have y1 := cell_at hmb4.out 1 (v := .pointer (some ⟨bt, 0, none⟩)) rfl
      have y2 := cell_at hmb4.out 2 (v := .map (some bm)) rfl
      have z0 := cell_at hnb4.out 0 (v := .int .i64 La[k].v) rfl
      rcases hr3 : Ar.mk lim L2 La[k].v x1 x2 with ⟨L3, x3, e3⟩
      have hmv : Ar.mv lim La (k + 1) Lt k = (L3, x3, e3) := by rw [Ar.mv_node (n := k) ⟨by omega, by omega⟩ HF.out HG.out, Ar.nd_at hk]; exact hr3
      have hL3 : L2 <+: L3 := by have := Ar.mk_prefix lim L2 La[k].v x1 x2; rw [hr3] at this; exact this
      have HR3 := Lib.hid hr3
      have HMV := Lib.hid hmv
      have HL3 := Lib.hid hL3
      clear hr3 hmv hL3
      go_wp2_with fail
      refine (Calls.mono (mk_any HM4.out.t La[k].v x1 x2 (by omega)) (fun e w' h => MkPost.out HR3.out h)).mono ?_
      rintro e w5 ⟨ev3, rfl, A5, t5, he3⟩
      have M5 := Lib.hid ((HM4.out.made A5.out t5.out HL3.out).wide (B := w.heap.size) (S' := fun i => St i ∨ (w.heap.size ≤ i ∧ i < w5.heap.size)) (fun i h => by
        have := t5.out.size
        have := HB2.out.size
        rcases h with (h | h) | h
        · exact .inl h
        · exact .inr ⟨by omega, by omega⟩
        · exact .inr ⟨by have := HT4.out.size; omega, h.2⟩) (Nat.le_refl _) (fun i h => h.elim (fun c => .inl (.inl (.inl c))) .inr) hmt HLA.out)
      have T5 := Lib.hid (HT4.out.trans t5.out (fun i hi h => h.elim .inl (fun c => by have := HB2.out.size; omega)))
      have hmb5 := Lib.hid (t5.out.heap hmb4.out (fun h => h.elim (fun c => by have := HLT.out _ c; omega) (fun c => by have := HS2.out; omega)))
      have y3 := cell_at hmb5.out 2 (v := .map (some bm)) rfl
      clear y0 y1 y2 z0
      by_cases hf3 : e3 = 0
      · subst hf3
        obtain rfl : ev3 = .nilIface := by rcases he3.out with h | h; exact h.2; exact absurd rfl h.1
        have hxf : fits x3 := by
          have h1 := Ar.mk_has HR3.out
          have h2 := Ar.mk_length lim L2 La[k].v x1 x2
          rw [HR3.out] at h2
          obtain ⟨h3, h4⟩ := h1
          unfold Ar.low at h3
          have h5 : L3.length ≤ L2.length + 1 := h2
          exact fits_of (by omega) (by omega)
        go_wp2_with (at_mapUpdate; refine wpList_update_imap rfl (.tmp 66) (.tmp 67) (.tmp 68) rfl bm _ f2 rfl M5.out.m (by unfold maxLen; omega) k x3 rfl rfl hf hxf ?_; intro w6 hm6 hg6)
        have hmvd : Moved lim La L3 (fun z => if z = k then some x3 else f2 z) := by
          intro z y hz
          by_cases hzk : z = k
          · subst hzk
            simp only [if_true] at hz
            cases hz
            exact ⟨⟨by omega, by omega⟩, Ar.mv_idem _ _ _ _ _ HMV.out⟩
          · simp only [hzk, if_false] at hz
            exact M5.out.ok z y hz
        have HQ : Hid (MovePost w ba lima La Sa bt lim Lt St bm n k (.returned (.tuple #[.int .i64 x3, .nilIface])) w6) :=
          MoveOut.post HMV.out ⟨_, _, rfl, .inl ⟨rfl, rfl⟩, (M5.out.put hm6 hg6 hmvd).wide (B := w.heap.size) (fun i h => h.imp id (fun c => ⟨c.1, Nat.lt_of_lt_of_le c.2 hg6.size⟩)) (by omega) (fun i h => h.elim (fun c => .inl (.inl c)) .inr) hmt HLA.out,
            T5.out.grown hg6 (fun q h => .inl (.inr (by cases h; rfl)))⟩
        clear hm6 hg6
        go_wp2_with fail
        go_ret2
        exact HQ.out
      · obtain ⟨fb, v, rfl, hfa⟩ : ∃ fb v, ev3 = .iface 94 (.pointer (some ⟨fb, 0, none⟩)) ∧ Hid (FaultAt w5 fb v e3) := by
          rcases he3.out with h | ⟨_, fb, v, h1, h2⟩
          · exact absurd h.1 hf3
          · exact ⟨fb, v, h1, h2⟩
        have HE := Lib.hid hf3
        clear hf3
        have HQ : Hid (MovePost w ba lima La Sa bt lim Lt St bm n k (.returned (.tuple #[.int .i64 x3, .iface 94 (.pointer (some ⟨fb, 0, none⟩))])) w5) :=
          MoveOut.post HMV.out ⟨_, f2, rfl, .inr ⟨HE.out, fb, v, rfl, hfa.out⟩, M5.out.wide (B := w.heap.size) (fun i h => h) (by omega) (fun i h => .inl h) hmt HLA.out, T5.out⟩
        go_wp2_with fail
        go_ret2
        exact HQ.out
    · obtain ⟨fb, v, rfl, hfa⟩ : ∃ fb v, ev2 = .iface 94 (.pointer (some ⟨fb, 0, none⟩)) ∧ Hid (FaultAt w4 fb v e2) := by
        rcases he2.out with h | ⟨_, fb, v, h1, h2⟩
        · exact absurd h.1 hf2
        · exact ⟨fb, v, h1, h2⟩
      have HE := Lib.hid hf2
      clear hf2
      have HQ : Hid (MovePost w ba lima La Sa bt lim Lt St bm n k (.returned (.tuple #[.int .i64 0, .iface 94 (.pointer (some ⟨fb, 0, none⟩))])) w4) :=
        MoveOut.post (Ar.mv_high (n := k) ⟨by omega, by omega⟩ HF.out HG.out HE.out) ⟨_, f2, rfl, .inr ⟨HE.out, fb, v, rfl, hfa.out⟩, HM4.out.wide (B := w.heap.size) (fun i h => h.imp id (fun c => ⟨by have := HB2.out.size; omega, c.2⟩)) (by omega) (fun i h => h.elim (fun c => .inl (.inl c)) .inr) hmt HLA.out, HT4.out⟩
      go_wp2_with fail
      go_ret2
      exact HQ.out
  · obtain ⟨fb, v, rfl, hfa⟩ : ∃ fb v, ev1 = .iface 94 (.pointer (some ⟨fb, 0, none⟩)) ∧ Hid (FaultAt w3 fb v e1) := by
      rcases he1.out with h | ⟨_, fb, v, h1, h2⟩
      · exact absurd h.1 he
      · exact ⟨fb, v, h1, h2⟩
    have HE := Lib.hid he
    clear he
    have HQ : Hid (MovePost w ba lima La Sa bt lim Lt St bm n k (.returned (.tuple #[.int .i64 0, .iface 94 (.pointer (some ⟨fb, 0, none⟩))])) w3) :=
      MoveOut.post (Ar.mv_low (n := k) ⟨by omega, by omega⟩ HF.out HE.out) ⟨_, f1, rfl, .inr ⟨HE.out, fb, v, rfl, hfa.out⟩, M3.out.wide (B := w.heap.size) (fun i h => h.imp id (fun c => ⟨by have := HB2.out.size; omega, c.2⟩)) (by omega) (fun i h => h.elim (fun c => .inl (.inl c)) .inr) hmt HLA.out, HT3.out⟩
    go_wp2_with fail
    go_ret2
    exact HQ.out

theorem move_any (d : Nat) : ∀ (w : World) {ba : Nat} {lima : Int} {La : List Nd} {Sa : Nat → Prop} {bt : Nat} {lim : Int} (Lt : List Nd) (St : Nat → Prop) {bm : Nat} (n : Nat) (f : Int → Option Int) (M : Mover w ba lima La Sa bt lim Lt St bm n f) (k : Int) (hd : k < d) (hf : fits k)
    (h1 : Lt.length + Ar.cost La k ≤ 10000000000) (h2 : n + Ar.cost La k ≤ 10000000000),
    Calls Tryd.prog 44 #[.agg #[.pointer (some ⟨ba, 0, none⟩), .pointer (some ⟨bt, 0, none⟩), .map (some bm)], .int .i64 k] w (MovePost w ba lima La Sa bt lim Lt St bm n k) := by
  induction d with
  | zero => intro w ba lima La Sa bt lim Lt St bm n f M k hd hf h1 h2; exact move_not M k (fun c => by have := c.1; omega)
  | succ d ih =>
    intro w ba lima La Sa bt lim Lt St bm n f M k hd hf h1 h2
    by_cases hn : Ar.isN La k
    · obtain ⟨j, rfl⟩ : ∃ j : Nat, k = j := ⟨k.toNat, by have := hn.1; omega⟩
      have hj : j < La.length := by have := hn.2; omega
      cases hx : f j with
      | some x => exact move_had M j hj hf x hx
      | none => exact move_node M j hj hf hx h1 h2 (fun w Lt St n f M i hi hfi q1 q2 => ih w Lt St n f M i (by omega) hfi q1 q2)
    · exact move_not M k hn
end Go.Proofs.YtknoigebkpapoaaDoor
