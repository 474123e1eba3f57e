/- Helpers for NodeAlike: what Mk answers at a node that is there; one arena of the program's own in a loop. -/
import Derived.Test.YtknoigebkpapoaaDoorCf
import Derived.Test.YtknoigebkpapoaaDoorNb
set_option linter.unusedVariables false
namespace Go.Proofs.YtknoigebkpapoaaDoor
open Go.RowKit Go.Deep
variable {w : World}

theorem Ar.mk_same {lim v x : Int} {L : List Nd} (hv0 : 0 ≤ v) (hv1 : v < 12) (hx : Ar.has L x) (h : v < Ar.var L x) : Ar.mk lim L v x x = (L, x, 0) := by
  unfold Ar.mk
  rw [if_neg (by omega), if_neg (fun c => c ⟨hx, hx, h, h⟩), if_pos rfl]
theorem Ar.mk_below {lim v x : Int} {L : List Nd} (hv0 : 0 ≤ v) (hv1 : v < 12) (h : ¬ v < Ar.var L x) : Ar.mk lim L v x x = (L, 0, 51) := by
  unfold Ar.mk
  rw [if_neg (by omega), if_pos (fun c => h c.2.2.1)]
theorem Ar.mk_hit {lim : Int} {L : List Nd} (ok : Ar.Ok L) (k : Nat) (hk : k < L.length) : Ar.mk lim L L[k].v L[k].l L[k].h = (L, (k : Int), 0) := by
  obtain ⟨h1, h2, h3, h4, h5, h6, h7, h8, h9⟩ := ok.each k hk
  unfold Ar.mk
  rw [if_neg (by omega), if_neg (fun c => c ⟨⟨h4, by omega⟩, ⟨h6, by omega⟩, h8, h9⟩), if_neg h3, if_pos (List.getElem_mem hk)]
  have : L.idxOf L[k] = k := ok.nodup.idxOf_getElem k hk
  rw [this]
theorem Ar.bld_next {lim : Int} {L xs : List Nd} {k : Nat} (h : k < xs.length) : Ar.bld lim L (xs.take (k + 1)) = (Ar.mk lim (Ar.bld lim L (xs.take k)) xs[k].v xs[k].l xs[k].h).1 := by
  rw [List.take_succ_eq_append_getElem h]
  unfold Ar.bld
  rw [List.foldl_append]
  rfl
theorem Ar.bld_pre (lim : Int) (xs : List Nd) : ∀ L, L <+: Ar.bld lim L xs := by
  induction xs with
  | nil => intro L; exact List.prefix_refl _
  | cons x xs ih => intro L; exact (Ar.mk_prefix lim L x.v x.l x.h).trans (ih _)
theorem pre_at {L M : List Nd} (h : L <+: M) (k : Nat) (hk : k < L.length) (hm : k < M.length) : M[k] = L[k] := by
  obtain ⟨t, rfl⟩ := h
  exact List.getElem_append_left hk

theorem Ints.at {ar : Option Addr} {n c : Nat} {xs : List Int} (h : Ints w (.slice ar n c) xs) (i : Nat) (hi : i < xs.length) :
    ∃ b o, ar = some ⟨b, o, none⟩ ∧ w.cell? ⟨b, o + i, none⟩ = some (.int .i64 xs[i]) := by
  obtain ⟨ao, c', he, _, _, hc⟩ := h
  cases he
  exact hc i hi

/-- One arena of the program's, in a loop. -/
structure NK (w wr : World) (b : Nat) (lim : Int) (L : List Nd) (S : Nat → Prop) : Prop where
  a : Arena wr b lim L S
  lo : ∀ k, S k → w.heap.size ≤ k ∧ k < wr.heap.size
  bel : Below w.heap.size w wr
section
variable {wr w' : World} {b : Nat} {lim : Int} {L L' : List Nd} {S : Nat → Prop}
theorem NK.step (I : NK w wr b lim L S) (h : Below wr.heap.size wr w') : NK w w' b lim L S :=
  ⟨I.a.below h, fun k hk => ⟨(I.lo k hk).1, Nat.lt_of_lt_of_le (I.lo k hk).2 h.size⟩, Below.seq I.bel (Nat.le_refl _) h⟩
/-- Behind a node: the blocks of the arena are those of before, and new ones. -/
theorem NK.made (I : NK w wr b lim L S) (A : Arena w' b lim L' (fun k => S k ∨ wr.heap.size ≤ k)) (t : Touch wr w' S) :
    NK w w' b lim L' (fun k => S k ∨ (wr.heap.size ≤ k ∧ k < w'.heap.size)) := by
  have h0 := I.bel.size
  have h1 := t.size
  refine ⟨A.clip.mono (fun k h => h.1.imp id (fun c => ⟨c, h.2⟩)), fun k h => ?_, I.bel.trans (t.below h0 (fun k hk c => by have := (I.lo k c).1; omega))⟩
  rcases h with h | h
  · have := I.lo k h; omega
  · omega
end
theorem Ar.bld_ok (lim : Int) (xs : List Nd) : ∀ L : List Nd, Ar.Ok L → Ar.Ok (Ar.bld lim L xs) := by
  induction xs with
  | nil => intro L h; exact h
  | cons x xs ih => intro L h; exact ih _ (Ar.mk_ok (lim := lim) h x.v x.l x.h)
/-- An arena, and a row of numbers beside it. -/
def NKI (w wr : World) (b : Nat) (L : List Nd) (v : Value) (rs : List Int) : Prop := ∃ S, NK w wr b 200 L S ∧ Ints wr v rs ∧ ∀ i, v.ownBlock = some i → ¬ S i ∧ i < wr.heap.size
section
variable {wr w' : World} {b : Nat} {L L' : List Nd} {v : Value} {rs : List Int}
theorem NKI.below (h : NKI w wr b L v rs) (hb : Below wr.heap.size wr w') : NKI w w' b L v rs := by
  obtain ⟨S, I, hI, hv⟩ := h
  exact ⟨S, I.step hb, hI.below hb, fun i hi => ⟨(hv i hi).1, Nat.lt_of_lt_of_le (hv i hi).2 hb.size⟩⟩
theorem NKI.bel (h : NKI w wr b L v rs) : Below w.heap.size w wr := by obtain ⟨S, I, _⟩ := h; exact I.bel
theorem NKI.mk (h : NKI w wr b L v rs) (x lo hi : Int) {y n : Int} (hm : Ar.mk 200 L x lo hi = (L', y, n)) (hl : L.length < 100000000000) :
    Calls Tryd.prog 24 #[.pointer (some ⟨b, 0, none⟩), .int .i64 x, .int .i64 lo, .int .i64 hi] wr fun e w' => ∃ ev, e = .returned (.tuple #[.int .i64 y, ev]) ∧ NKI w w' b L' v rs ∧ (n = 0 → ev = .nilIface) ∧ (n ≠ 0 → ∃ fb, ev = .iface 94 (.pointer (some ⟨fb, 0, none⟩)) ∧ FaultAt w' fb x n) := by
  obtain ⟨S, I, hI, hv⟩ := h
  refine (mk_any I.a x lo hi hl).mono ?_
  rintro e w' ⟨ev, rfl, A, t, h0, h1⟩
  rw [hm] at A h0 h1
  rw [hm]
  refine ⟨ev, rfl, ⟨_, I.made A t, hI.touch t (fun i _ hi => (hv i hi).1), fun i hi => ⟨fun c => ?_, Nat.lt_of_lt_of_le (hv i hi).2 t.size⟩⟩, h0, fun hn => ?_⟩
  · rcases c with c | c
    · exact (hv i hi).1 c
    · have := (hv i hi).2; omega
  · obtain ⟨fb, h2, _, h3⟩ := h1 hn
    exact ⟨fb, h2, h3⟩
theorem NKI.var (h : NKI w wr b L v rs) (r : Int) : Calls Tryd.prog 30 #[.pointer (some ⟨b, 0, none⟩), .int .i64 r] wr fun e w' => e = .returned (.int .i64 (Ar.var L r)) ∧ NKI w w' b L v rs := by
  have h0 := h
  obtain ⟨S, I, _⟩ := h
  exact (var_any I.a r).mono (fun _ _ hp => ⟨hp.1, h0.below hp.2⟩)
theorem NKI.at (h : NKI w wr b L v rs) {ar : Option Addr} {c : Nat} (e : v = .slice ar rs.length c) (i : Nat) (hi : i < rs.length) : ∃ g o, ar = some ⟨g, o, none⟩ ∧ wr.cell? ⟨g, o + i, none⟩ = some (.int .i64 rs[i]) := by
  obtain ⟨S, I, hI, hv⟩ := h
  rw [e] at hI
  exact hI.at i hi
/-- An arena, and a row of the call's own nodes beside it. -/
def NKN (w wr : World) (b : Nat) (L : List Nd) (v : Value) (M : List Nd) : Prop := ∃ S, NK w wr b 200 L S ∧ wr.ownsRow w.heap.size 57 3 v M.length (cellsOf M) ∧ ∀ i, v.ownBlock = some i → ¬ S i
theorem NKN.of (h : NKI w wr b L v rs) : NKN w wr b L (.slice none 0 0) [] := by
  obtain ⟨S, I, _⟩ := h
  exact ⟨S, I, World.ownsRow_nil _ _ _ _, fun i hi => by simp [Value.ownBlock] at hi⟩
variable {M : List Nd}
theorem NKN.lt (h : NKN w wr b L v M) : ∀ i, v.ownBlock = some i → w.heap.size ≤ i ∧ i < wr.heap.size := by
  obtain ⟨S, I, hO, hv⟩ := h
  exact fun i hi => ownsRow_block hO hi
theorem NKN.below (h : NKN w wr b L v M) (hb : Below wr.heap.size wr w') : NKN w w' b L v M := by
  obtain ⟨S, I, hO, hv⟩ := h
  exact ⟨S, I.step hb, ownsRow_touch hO (Touch.of_below hb (fun _ => False)) (fun _ _ c => c), hv⟩
theorem NKN.bel (h : NKN w wr b L v M) : Below w.heap.size w wr := by obtain ⟨S, I, _⟩ := h; exact I.bel
theorem NKN.mk (h : NKN w wr b L v M) (x lo hi : Int) {y n : Int} (hm : Ar.mk 200 L x lo hi = (L', y, n)) (hl : L.length < 100000000000) :
    Calls Tryd.prog 24 #[.pointer (some ⟨b, 0, none⟩), .int .i64 x, .int .i64 lo, .int .i64 hi] wr fun e w' => ∃ ev, e = .returned (.tuple #[.int .i64 y, ev]) ∧ NKN w w' b L' v M ∧ (n = 0 → ev = .nilIface) := by
  have hlt := h.lt
  obtain ⟨S, I, hO, hv⟩ := h
  refine (mk_any I.a x lo hi hl).mono ?_
  rintro e w' ⟨ev, rfl, A, t, h0, h1⟩
  rw [hm] at A h0
  rw [hm]
  refine ⟨ev, rfl, ⟨_, I.made A t, ownsRow_touch hO t (fun i hi => hv i hi), fun i hi c => ?_⟩, h0⟩
  rcases c with c | c
  · exact hv i hi c
  · have := (hlt i hi).2; omega
theorem NKN.get (h : NKN w wr b L v M) (k : Nat) (hk : k < L.length) : Calls Tryd.prog 29 #[.pointer (some ⟨b, 0, none⟩), .int .i64 k] wr fun e w' =>
      e = .returned (.tuple #[.agg #[.int .i64 L[k].v, .int .i64 L[k].l, .int .i64 L[k].h], .bool true]) ∧ NKN w w' b L v M := by
  have h0 := h
  obtain ⟨S, I, _⟩ := h
  exact (get_in I.a k hk).mono (fun _ _ hp => ⟨hp.1, h0.below hp.2⟩)
theorem NKN.len (h : NKN w wr b L v M) : Calls Tryd.prog 27 #[.pointer (some ⟨b, 0, none⟩)] wr fun e w' => e = .returned (.int .i64 L.length) ∧ wr = w' := by
  obtain ⟨S, I, _⟩ := h
  exact len_any I.a
/-- A node more in the row. -/
theorem NKN.push (h : NKN w wr b L v M) {n : Nd} {v' : Value} (ho : w'.ownsRow w.heap.size 57 3 v' (M.length + 1) (cellsOf M ++ [.int .i64 n.v, .int .i64 n.l, .int .i64 n.h])) (hg : wr.grownBy w' v.ownBlock)
    (hat : v'.ownBlock = v.ownBlock ∨ ∃ c, v'.ownBlock = some c ∧ wr.heap.size ≤ c) : NKN w w' b L v' (M ++ [n]) := by
  have hlt := h.lt
  obtain ⟨S, I, hO, hv⟩ := h
  have t : Touch wr w' (fun k => v.ownBlock = some k) := Touch.grown (Touch.refl _ _) hg (fun k hk => .inl hk)
  refine ⟨S, ⟨I.a.touch t (fun k _ hS c => hv k c hS), fun k hk => ⟨(I.lo k hk).1, Nat.lt_of_lt_of_le (I.lo k hk).2 t.size⟩, I.bel.trans (t.below I.bel.size (fun k hk c => by have := (hlt k c).1; omega))⟩, ?_, fun i hi c => ?_⟩
  · rw [List.length_append, cellsOf_append]; exact ho
  · rcases hat with e | ⟨d, e, hd⟩
    · exact hv i (e ▸ hi) c
    · rw [hi] at e
      cases e
      have := (I.lo i c).2
      omega
theorem NKN.form (h : NKN w wr b L v M) : ∃ ao c, v = .slice ao M.length c ∧ M.length ≤ maxLen := by
  obtain ⟨S, I, hO, hv⟩ := h
  rcases hO.2 with ⟨rfl, h0⟩ | ⟨g, cap, cur, rfl, _, _, h1, h2, _⟩
  · exact ⟨none, 0, by rw [h0], by rw [h0]; exact Nat.zero_le _⟩
  · exact ⟨_, cap, rfl, Nat.le_trans h1 h2⟩
theorem NKN.at (h : NKN w wr b L v M) {ao : Option Addr} {c : Nat} (e : v = .slice ao M.length c) (k : Nat) (hk : k < M.length) : ∃ g, ao = some ⟨g, 0, none⟩ ∧
    wr.cell? ⟨g, k * 3, none⟩ = some (.int .i64 M[k].v) ∧ wr.cell? ⟨g, k * 3 + 1, none⟩ = some (.int .i64 M[k].l) ∧ wr.cell? ⟨g, k * 3 + 2, none⟩ = some (.int .i64 M[k].h) := by
  obtain ⟨S, I, hO, hv⟩ := h
  rcases hO.2 with ⟨_, h0⟩ | ⟨g, cap, cur, e2, hB, hg, h1, h2, h3⟩
  · omega
  · have hO' := hO
    rw [e2] at hO'
    rw [e] at e2
    simp only [Value.slice.injEq, true_and] at e2
    obtain ⟨q0, q1, q2⟩ := cellsOf_get M k hk
    have hl := cellsOf_length M
    have a0 := World.ownsRow.cellAt hO' (k * 3) (by omega)
    have a1 := World.ownsRow.cellAt hO' (k * 3 + 1) (by omega)
    have a2 := World.ownsRow.cellAt hO' (k * 3 + 2) (by omega)
    refine ⟨g, e2.1, ?_, ?_, ?_⟩
    · rw [a0]; simp [q0]
    · rw [a1]; simp [q1]
    · rw [a2]; simp [q2]
end
end Go.Proofs.YtknoigebkpapoaaDoor
