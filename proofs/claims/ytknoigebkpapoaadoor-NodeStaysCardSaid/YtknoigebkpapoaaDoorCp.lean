/- Arena.Copy: another arena, of blocks of its own; two arenas apart. -/
import Derived.Test.YtknoigebkpapoaaDoorAk
import Derived.Deep.RegionHeld3
import Derived.Lib.SliceRun
set_option linter.unusedVariables false
set_option linter.unusedSimpArgs false
namespace Go.Proofs.YtknoigebkpapoaaDoor
open Go.RowKit Go.Deep
variable {w : World} {b : Nat} {lim : Int} {L : List Nd} {S : Nat → Prop}

theorem ownsRow_zero {B : Nat} {e : TypeId} {s : Nat} {v : Value} {n : Nat} {xs : List Value} (h : w.ownsRow B e s v n xs) : w.ownsRow 0 e s v n xs :=
  ⟨h.1, h.2.imp id (fun ⟨g, cap, cur, a, _, c⟩ => ⟨g, cap, cur, a, Nat.zero_le _, c⟩)⟩
theorem row_form {B : Nat} {e : TypeId} {s : Nat} {v : Value} {n : Nat} {xs : List Value} (h : w.ownsRow B e s v n xs) : ∃ ao c, v = .slice ao n c := by
  rcases h.2 with ⟨rfl, rfl⟩ | ⟨g, cap, cur, rfl, _⟩
  · exact ⟨none, 0, rfl⟩
  · exact ⟨_, cap, rfl⟩
theorem cells_one (L : List Nd) : ∀ u ∈ cellsOf L, u.oneCell' = true := by
  intro u hu
  unfold cellsOf at hu
  rw [List.mem_flatMap] at hu
  obtain ⟨n, _, hn⟩ := hu
  simp only [List.mem_cons, List.not_mem_nil, or_false] at hn
  rcases hn with rfl | rfl | rfl <;> rfl

set_option maxHeartbeats 2000000 in
theorem clone_row {v : Value} {n : Nat} {xs : List Value} (h : w.ownsRow 0 57 3 v n xs) (hn : n ≤ 100000000000) (h1 : ∀ u ∈ xs, u.oneCell' = true) :
    Calls Tryd.prog 55 #[v] w fun e w' => ∃ ao cc, e = .returned (.slice ao n cc) ∧ w'.ownsRow w.heap.size 57 3 (.slice ao n cc) n xs ∧ Below w.heap.size w w' := by
  have q : ∀ (w : World) (a : Option Addr) (n c n' c' : Nat), (binOp .eql 72 (.slice a n c) (.slice none n' c')).run Tryd.prog w = .ok (.bool a.isNone) w := fun w a n c n' c' => Lib.run_eql_slice_nil w _ _ a n c n' c' Tryd.underlying72
  obtain ⟨i0, hi0, hz0, hz1, hz2⟩ := info_parts info_node
  have HH := Lib.hid h
  have hl := h.1
  rcases h.2 with ⟨rfl, rfl⟩ | ⟨g, cap, cur, rfl, -, hg, hc1, hc2, -⟩
  · clear h
    obtain rfl : xs = [] := List.length_eq_zero_iff.1 (by omega)
    go_enter Tryd.func55, Tryd.ntmps55
    go_wp2
    go_ret
    exact ⟨none, 0, rfl, World.ownsRow_nil _ _ _ _, Below.refl _ _⟩
  · clear h hg
    unfold maxLen at hc2
    go_enter Tryd.func55, Tryd.ntmps55
    go_wp2_with (at_builtin; refine wpList_append_own _ rfl _ _ 72 rfl w.heap.size 57 i0 (.agg #[.int .i64 0, .int .i64 0, .int .i64 0]) 3 24 Tryd.underlying72 hi0 hz0 hz1 hz2 rfl (by decide) _ _ _ rfl (World.ownsRow_made w #[] 0 (Nat.le_refl _) (Nat.zero_le _) rfl) ⟨g, 0, none⟩ n cap xs rfl ?qc1 ?qc2 ?qc3 ?qc4 ?qc5 ?qc6 ?_)
    case qc1 => exact hl
    case qc2 => intro j u hj; exact Lib.cell?_alloc_some _ (HH.out.cells (g := g) rfl j u hj)
    case qc3 => exact h1
    case qc4 => unfold maxLen; omega
    case qc5 => omega
    case qc6 => simp
    intro v' w1 hown hgrow hnil
    have hown' : w1.ownsRow w.heap.size 57 3 v' n xs := by simpa using hown
    obtain ⟨ao', cc, rfl⟩ := row_form hown'
    go_wp2
    go_ret
    exact ⟨ao', cc, rfl, hown', ((Below.refl _ w).alloc (Nat.le_refl _) _).grown hgrow (by simp) (by intro k hk; simp [Value.ownBlock] at hk; omega)⟩

set_option maxHeartbeats 2000000 in
theorem clone_places {bp cp : Nat} {PL : List Nat} {tl : List Value} (h : w.heap[bp]? = some (.cells (PL.map (fun (n : Nat) => Value.int .i64 (n : Int)) ++ tl).toArray 3 (0, 0))) (hn : PL.length ≤ 1000000000000) :
    Calls Tryd.prog 56 #[.slice (some ⟨bp, 0, none⟩) PL.length cp] w fun e w' => ∃ ao cc, e = .returned (.slice ao PL.length cc) ∧ w'.ownsRow w.heap.size 3 1 (.slice ao PL.length cc) PL.length (PL.map (fun (n : Nat) => Value.int .i64 (n : Int))) ∧ Below w.heap.size w w' := by
  have q : ∀ (w : World) (a : Option Addr) (n c n' c' : Nat), (binOp .eql 23 (.slice a n c) (.slice none n' c')).run Tryd.prog w = .ok (.bool a.isNone) w := fun w a n c n' c' => Lib.run_eql_slice_nil w _ _ a n c n' c' Tryd.underlying23
  obtain ⟨i0, hi0, hz0, hz1, hz2⟩ := info_parts info_int
  have HH := Lib.hid h
  clear h
  go_enter Tryd.func56, Tryd.ntmps56
  go_wp2_with (at_builtin; refine wpList_append_own _ rfl _ _ 23 rfl w.heap.size 3 i0 (.int .i64 0) 1 8 Tryd.underlying23 hi0 hz0 hz1 hz2 rfl (by decide) _ _ _ rfl (World.ownsRow_made w #[] 0 (Nat.le_refl _) (Nat.zero_le _) rfl) ⟨bp, 0, none⟩ PL.length cp (PL.map (fun (n : Nat) => Value.int .i64 (n : Int))) rfl ?qc1 ?qc2 ?qc3 ?qc4 ?qc5 ?qc6 ?_)
  case qc1 => simp
  case qc2 =>
    intro j u hj
    have hjn : j < PL.length := by simpa using (List.getElem?_eq_some_iff.1 hj).1
    rw [Addr.add_lit]
    refine Lib.cell?_alloc_some _ ?_
    rw [Nat.zero_add, place_cell HH.out j hjn]
    simpa [List.getElem?_map, List.getElem?_eq_getElem hjn] using hj
  case qc3 => intro u hu; obtain ⟨x, _, rfl⟩ := List.mem_map.1 hu; rfl
  case qc4 => unfold maxLen; omega
  case qc5 => omega
  case qc6 => simp
  intro v' w1 hown hgrow hnil
  have hown' : w1.ownsRow w.heap.size 3 1 v' PL.length (PL.map (fun (n : Nat) => Value.int .i64 (n : Int))) := by simpa using hown
  obtain ⟨ao', cc, rfl⟩ := row_form hown'
  go_wp2
  go_ret
  exact ⟨ao', cc, rfl, hown', ((Below.refl _ w).alloc (Nat.le_refl _) _).grown hgrow (by simp) (by intro k hk; simp [Value.ownBlock] at hk; omega)⟩

/-- What stands when both rows are copied, and the box is laid. -/
theorem copied {w0 w1 w2 : World} {vl v1 v2 : Value} {bp cp : Nat} {PL : List Nat} {tl : List Value} (A : ArenaAt w0 b lim L vl bp PL cp tl) (h0 : Below w.heap.size w w0)
    (o1 : w1.ownsRow w0.heap.size 57 3 v1 L.length (cellsOf L)) (h1 : Below w0.heap.size w0 w1)
    (o2 : w2.ownsRow w1.heap.size 3 1 v2 PL.length (PL.map (fun (n : Nat) => Value.int .i64 (n : Int)))) (h2 : Below w1.heap.size w1 w2) :
    Arena (w2.alloc (.cells #[.int .i64 lim, v1, v2] 91)) w2.heap.size lim L (fun k => w.heap.size ≤ k ∧ k < w2.heap.size + 1) ∧ Below w.heap.size w (w2.alloc (.cells #[.int .i64 lim, v1, v2] 91)) := by
  have s0 := h0.size
  have s1 := h1.size
  have s2 := h2.size
  have hb : Below w.heap.size w w2 := Below.seq (Below.seq h0 (Nat.le_refl _) h1) (Nat.le_refl _) h2
  have hbl := fun k hk => ownsRow_block o1 (g := k) hk
  rcases o2.2 with ⟨_, hz⟩ | ⟨g, cap, cur, rfl, hB, hg, hc1, hc2, hc3, hc4⟩
  · have := A.big; omega
  refine ⟨⟨v1, g, PL, cap, cur.toList.drop PL.length, ⟨heap_alloc_new _ _, ownsRow_touch (ownsRow_zero o1) (Touch.of_below (h2.trans ((Below.refl _ w2).alloc (Nat.le_refl _) _ |>.mono (by omega))) (fun _ => False)) (fun _ _ c => c), ?_, A.tab, A.half, A.small, A.few, A.big, ?_, ?_, ?_, A.ok⟩, ?_⟩, hb.alloc hb.size _⟩
  · refine heap_alloc_lt _ ?_
    rw [hg, ← hc4, Nat.mul_one, List.take_append_drop]
  · intro c; have := hbl _ c; omega
  · intro c; have := hbl _ c; omega
  · have := lt_of_heap hg; omega
  · rintro k (rfl | h | rfl)
    · omega
    · have := hbl _ h; omega
    · have := lt_of_heap hg; omega

set_option maxHeartbeats 4000000 in
theorem copy_any (A : Arena w b lim L S) : Calls Tryd.prog 41 #[.pointer (some ⟨b, 0, none⟩)] w fun e w' => ∃ c, e = .returned (.pointer (some ⟨c, 0, none⟩)) ∧ Arena w' c lim L (fun k => w.heap.size ≤ k ∧ k < w'.heap.size) ∧ Below w.heap.size w w' := by
  obtain ⟨vl, bp, PL, cp, tl, A, -⟩ := A
  have hlt := A.lt
  have c0 := A.c0
  have c1 := A.c1
  have c2 := A.c2
  have hpl : PL.length ≤ 1000000000000 := by have := A.small; have := A.few; omega
  have HA := Lib.hid A
  clear A
  go_enter Tryd.func41, Tryd.ntmps41
  go_wp2_with fail
  go_region_held3 (fun w' => w'.cell? ⟨b, 0, none⟩ = some (.int .i64 lim) ∧ w'.cell? ⟨b, 1, none⟩ = some vl ∧ w'.cell? ⟨b, 2, none⟩ = some (.slice (some ⟨bp, 0, none⟩) PL.length cp))
    (first | (refine ⟨?_, ?_, ?_⟩ <;> assumption) | go_keep)
    (first | (go_at_call 55; refine (clone_row (HA.out.below ((Below.refl _ _).drew)).row HA.out.few (cells_one L)).mono ?_; rintro e w1 ⟨a1, k1, rfl, ho1, hb1⟩; have A1 := Lib.hid ((HA.out.below ((Below.refl _ _).drew)).below hb1); have HO1 := Lib.hid ho1; have HB1 := Lib.hid hb1; have z0 := A1.out.c0; have z1 := A1.out.c1; have z2 := A1.out.c2; clear ho1 hb1) | (go_at_call 56; refine (clone_places A1.out.plc hpl).mono ?_; rintro e w2 ⟨a2, k2, rfl, ho2, hb2⟩; have A2 := Lib.hid (A1.out.below hb2); have HO2 := Lib.hid ho2; have HB2 := Lib.hid hb2; have y0 := A2.out.c0; have y1 := A2.out.c1; have y2 := A2.out.c2; clear ho2 hb2))
  have HF := Lib.hid (copied (w := w) (HA.out.below ((Below.refl _ _).drew)) ((Below.refl _ _).drew) HO1.out HB1.out HO2.out HB2.out)
  go_wp2_with fail
  go_ret
  exact ⟨_, rfl, by simpa using HF.out.1, HF.out.2⟩

/-- Two arenas of the program's, apart. -/
def TwoA (w wr : World) (a c : Nat) (lim : Int) (La Lc : List Nd) : Prop := ∃ S S' : Nat → Prop, NK w wr a lim La S ∧ NK w wr c lim Lc S' ∧ ∀ k, S k → ¬ S' k
section
variable {wr w' : World} {a c : Nat} {La Lc : List Nd}
theorem TwoA.swap (h : TwoA w wr a c lim La Lc) : TwoA w wr c a lim Lc La := by
  obtain ⟨S, S', I, J, hd⟩ := h
  exact ⟨S', S, J, I, fun k h1 h2 => hd k h2 h1⟩
theorem TwoA.below (h : TwoA w wr a c lim La Lc) (hb : Below wr.heap.size wr w') : TwoA w w' a c lim La Lc := by
  obtain ⟨S, S', I, J, hd⟩ := h
  exact ⟨S, S', I.step hb, J.step hb, hd⟩
theorem TwoA.bel (h : TwoA w wr a c lim La Lc) : Below w.heap.size w wr := by
  obtain ⟨S, S', I, _⟩ := h
  exact I.bel
theorem TwoA.mk (h : TwoA w wr a c lim La Lc) (x lo hi : Int) (hl : La.length < 100000000000) :
    Calls Tryd.prog 24 #[.pointer (some ⟨a, 0, none⟩), .int .i64 x, .int .i64 lo, .int .i64 hi] wr fun e w' => ∃ y ev, e = .returned (.tuple #[.int .i64 y, ev]) ∧ TwoA w w' a c lim (Ar.mk lim La x lo hi).1 Lc := by
  obtain ⟨S, S', I, J, hd⟩ := h
  refine (mk_any I.a x lo hi hl).mono ?_
  rintro e w' ⟨ev, rfl, A, t, h0, h1⟩
  have I' := I.made A t
  refine ⟨_, ev, rfl, _, S', I', ⟨J.a.touch t (fun k _ h1 h2 => hd k h2 h1), fun k hk => ⟨(J.lo k hk).1, Nat.lt_of_lt_of_le (J.lo k hk).2 t.size⟩, I'.bel⟩, fun k hk hk' => ?_⟩
  rcases hk with hk | hk
  · exact hd k hk hk'
  · have := (J.lo k hk').2; omega
theorem TwoA.get (h : TwoA w wr a c lim La Lc) (k : Nat) (hk : k < La.length) : Calls Tryd.prog 29 #[.pointer (some ⟨a, 0, none⟩), .int .i64 k] wr fun e w' =>
      e = .returned (.tuple #[.agg #[.int .i64 La[k].v, .int .i64 La[k].l, .int .i64 La[k].h], .bool true]) ∧ TwoA w w' a c lim La Lc ∧ Below wr.heap.size wr w' := by
  have h0 := h
  obtain ⟨S, S', I, J, hd⟩ := h
  exact (get_in I.a k hk).mono (fun _ _ hp => ⟨hp.1, h0.below hp.2, hp.2⟩)
theorem TwoA.len (h : TwoA w wr a c lim La Lc) : Calls Tryd.prog 27 #[.pointer (some ⟨a, 0, none⟩)] wr fun e w' => e = .returned (.int .i64 La.length) ∧ wr = w' := by
  obtain ⟨S, S', I, J, hd⟩ := h
  exact len_any I.a
theorem NK.copy (I : NK w wr a lim La S) : Calls Tryd.prog 41 #[.pointer (some ⟨a, 0, none⟩)] wr fun e w' => ∃ c, e = .returned (.pointer (some ⟨c, 0, none⟩)) ∧ TwoA w w' a c lim La La := by
  refine (copy_any I.a).mono ?_
  rintro e w' ⟨c, rfl, A, hb⟩
  have hs := I.bel.size
  exact ⟨c, rfl, S, _, I.step hb, ⟨A, fun k hk => ⟨by omega, hk.2⟩, (I.step hb).bel⟩, fun k h1 h2 => by have := (I.lo k h1).2; omega⟩
end
end Go.Proofs.YtknoigebkpapoaaDoor
