/- zone.against: does some pair's bound say what can't be. -/
import Derived.Test.YtjhccmjgfngkcaaDoorPZoneSamex9
import Derived.Test.YtjhccmjgfngkcaaDoorPm
set_option linter.unusedVariables false
set_option linter.unusedSimpArgs false
namespace Go.Proofs.YtjhccmjgfngkcaaDoor.PZoneSame
open Go Go.RowKit Go.Shelf Go.Deep Go.Proofs.YtjhccmjgfngkcaaDoorW.PrintWords Go.Proofs.YtjhccmjgfngkcaaDoorW.PrintLast Go.Proofs.YtjhccmjgfngkcaaDoorW.PrintMore
variable {w : World}
attribute [local go_sem] Oper.semAt_some

def mostZ (i j : Nat) : Int := Zn.most 1152921504606846976 i j
theorem most_to (i j : Nat) (w : World) : Calls Tryd.prog 58 #[.agg #[.int .i64 (i : Int), .int .i64 (j : Int)]] w fun e w' => e = .returned (.int .i64 (mostZ i j)) ∧ Below w.heap.size w w' := by
  refine zone_pair_most.calls _ _ _ w ?_
  unfold zone_pair_most.f mostZ Zn.most
  by_cases h : i = j
  · subst h; rw [if_pos rfl, if_pos rfl]
  · rw [if_neg (by omega), if_neg h]
    by_cases hi : i = 0
    · rw [if_pos (by omega), if_pos (.inl hi)]
    · rw [if_neg (by omega)]
      by_cases hj : j = 0
      · rw [if_pos (by omega), if_pos (.inr hj)]
      · rw [if_neg (by omega), if_neg (by omega)]; rfl
def RowAt (W : World) (g o M : Nat) (D : Nat → Int) : Prop := ∀ j, j < M → W.cell? ⟨g, o + j, none⟩ = some (.int .i64 (D j))

theorem keeps_below {W W' : World} (hb : Below W.heap.size W W') : KeepsOthers W W' := ⟨hb.size, fun k o hk _ => (hb.block k (hp_lt hk)).trans hk⟩
theorem cells_own {β : Type} (B : Nat) (cs : Array Value) (t : TypeId) : Own (fun (_ : β) W => W.heap[B]? = some (.cells cs t (0, 0))) := fun s X Y row hs hg hrow =>
  (hg.block B (Array.getElem?_eq_some_iff.1 hs).1 (fun e' => by obtain ⟨o, ho, hc⟩ := hrow B e'.symm; rw [hs] at ho; cases ho; cases hc)).trans hs

set_option maxRecDepth 100000 in
set_option maxHeartbeats 4000000 in
theorem against_in (n : Nat) (hn : 6 ≤ n) (m : Nat) (hm : 0 < m) (hm7 : m ≤ 7) (g o cap : Nat) (D : Nat → Int) (hg : g < w.heap.size) (hD : RowAt w g o (m * m) D) :
    CallsIn Fence.wide n Tryd.prog 59 #[.agg #[.int .i64 ((m : Int) - 1), .slice (some ⟨g, o, none⟩) (m * m) cap]] w fun e w' =>
      ∃ bv : Bool, e = .returned (.bool bv) ∧ (bv = true ↔ ∃ p, p < m * m ∧ D p < -mostZ (p / m) (p % m)) ∧ Below w.heap.size w w' := by
  have h1 : 1 ≤ n := by omega
  refine callsIn_of_wp_marks Tryd.func59 rfl trivial ?_
  simp only [Tryd.ntmps59, List.size_toArray, List.length_cons, List.length_nil, Nat.reduceAdd, Nat.reduceSub, Array.replicate_succ, Array.replicate_zero, List.push_toArray, List.append_toArray, List.nil_append, List.cons_append]
  gi_wp2_with (refine ⟨trivial, ?_⟩; gi_at_call 56; refine (all_in (n - 1) _ _ _).mono ?_; rintro e w' ⟨rfl, rfl⟩)
  have hmm : m * m ≤ 49 := Nat.mul_le_mul hm7 hm7
  have hmi : ((m * m : Nat) : Int) = (m : Int) * m := Int.natCast_mul m m
  have bZ : (((w.alloc (.cells #[.int .i64 ((m : Int) - 1), .slice (some ⟨g, o, none⟩) (m * m) cap] 27)).alloc (.cells #[.bool false] 4)).alloc (.cells #[.int .i64 ((m : Int) - 1), .slice (some ⟨g, o, none⟩) (m * m) cap] 27)).heap[w.heap.size]? = some (.cells #[.int .i64 ((m : Int) - 1), .slice (some ⟨g, o, none⟩) (m * m) cap] 27 (0, 0)) :=
    hp_alloc _ (hp_alloc _ (World.alloc_heap_new w (.cells #[.int .i64 ((m : Int) - 1), .slice (some ⟨g, o, none⟩) (m * m) cap] 27)))
  have bR := (Boxed.new (w.alloc (.cells #[.int .i64 ((m : Int) - 1), .slice (some ⟨g, o, none⟩) (m * m) cap] 27)) 4 (.bool false)).alloc (.cells #[.int .i64 ((m : Int) - 1), .slice (some ⟨g, o, none⟩) (m * m) cap] 27)
  have bI := World.alloc_heap_new ((w.alloc (.cells #[.int .i64 ((m : Int) - 1), .slice (some ⟨g, o, none⟩) (m * m) cap] 27)).alloc (.cells #[.bool false] 4)) (.cells #[.int .i64 ((m : Int) - 1), .slice (some ⟨g, o, none⟩) (m * m) cap] 27)
  have hB0 : Below w.heap.size w (((w.alloc (.cells #[.int .i64 ((m : Int) - 1), .slice (some ⟨g, o, none⟩) (m * m) cap] 27)).alloc (.cells #[.bool false] 4)).alloc (.cells #[.int .i64 ((m : Int) - 1), .slice (some ⟨g, o, none⟩) (m * m) cap] 27)) := (((Below.refl _ w).alloc (Nat.le_refl _) _).alloc (by simp) _).alloc (by simp; omega) _
  have hsz : (((w.alloc (.cells #[.int .i64 ((m : Int) - 1), .slice (some ⟨g, o, none⟩) (m * m) cap] 27)).alloc (.cells #[.bool false] 4)).alloc (.cells #[.int .i64 ((m : Int) - 1), .slice (some ⟨g, o, none⟩) (m * m) cap] 27)).heap.size = w.heap.size + 3 := by simp
  simp only [World.size_alloc] at bR bI
  obtain ⟨W0, hW0⟩ : ∃ W0, ((w.alloc (.cells #[.int .i64 ((m : Int) - 1), .slice (some ⟨g, o, none⟩) (m * m) cap] 27)).alloc (.cells #[.bool false] 4)).alloc (.cells #[.int .i64 ((m : Int) - 1), .slice (some ⟨g, o, none⟩) (m * m) cap] 27) = W0 := ⟨_, rfl⟩
  rw [hW0] at bZ bR bI hB0 hsz ⊢
  clear hW0
  obtain ⟨s, hs⟩ : ∃ s, w.heap.size = s := ⟨_, rfl⟩
  rw [hs] at bZ bR bI hB0 hsz hg ⊢
  refine wpIn_rangeFunc_ownH rfl h1 (gf := 97) (lb := #[.pointer (some ⟨s + 1 + 1, 0, none⟩)]) rfl trivial (enters_of Tryd.func97 (by kernel_rfl) rfl)
    (all_stops (n - 1) (by omega) (s + 1 + 1) m hm hm7 W0 (by omega) (hp_cell bI 0 rfl)) Zn.Keeps.t (fun W l o o' hl _ _ _ => World.putObj_heap_other (by omega)) (Below.refl _ _) (fun _ => rfl)
    (fun pre W => (Boxed W (s + 1) 4 (.bool false) ∧ W.heap[s]? = some (.cells #[.int .i64 ((m : Int) - 1), .slice (some ⟨g, o, none⟩) (m * m) cap] 27 (0, 0))) ∧ Below s w W ∧ s + 2 < W.heap.size ∧ ∀ x ∈ pre, ¬ D x.val < -mostZ (x.val / m) (x.val % m))
    (fun c pre W => Boxed W (s + 1) 4 (.bool true) ∧ Below s w W ∧ (c = .ret ∧ ∃ p, p < m * m ∧ D p < -mostZ (p / m) (p % m)))
    (OwnFrom.and (OwnFrom.and (Own.from (boxed_own _ _ _) _) (Own.from (cells_own _ _ _) _)) (OwnFrom.and (ownFrom_below (by omega) (by omega)) (OwnFrom.and (fun _ _ _ _ h hg _ => Nat.lt_of_lt_of_le h hg.size) (fun _ _ _ _ h _ _ => h))))
    (fun c => OwnFrom.and (Own.from (boxed_own _ _ _) _) (OwnFrom.and (ownFrom_below (by omega) (by omega)) (fun _ _ _ _ h _ _ => h)))
    ⟨⟨bR, bZ⟩, hB0, by omega, fun x hx => by cases hx⟩
    (fun x a' W => ∃ Bx, s + 1 < Bx ∧ W.heap[Bx]? = some (.cells #[.int .i64 (Zn.row m x.val), .int .i64 (Zn.col m x.val)] 74 (0, 0)) ∧ a' = { tmps := #[.agg #[.int .i64 ((m : Int) - 1), .slice (some ⟨g, o, none⟩) (m * m) cap], .pointer (some ⟨s, 0, none⟩), .pointer (some ⟨s + 1, 0, none⟩), .int .i64 (x.val : Int), .pointer (some ⟨Bx, 0, none⟩), .agg #[.int .i64 ((m : Int) - 1), .slice (some ⟨g, o, none⟩) (m * m) cap], .func (.func 97) #[] #[.pointer (some ⟨s + 1 + 1, 0, none⟩)], .int .i64 (x.val : Int), .agg #[.int .i64 (Zn.row m x.val), .int .i64 (Zn.col m x.val)], undef, undef, undef, undef, undef, undef, undef, undef, undef], defers := [] })
    (fun x a' _ X Y row hs hg hr => by obtain ⟨Bx, h1, h2, h3⟩ := hs; exact ⟨Bx, h1, cells_own (β := Unit) Bx _ _ () X Y row h2 hg (fun r e => (hr r e).2), h3⟩)
    ?assign ?body ?done ?stop
  case assign =>
    rintro l pre x W K ⟨⟨bR1, bZ1⟩, hB1, hS1, hP⟩ hK
    unfold Zn.enc
    gi_wp2
    exact hK _ _ ((KeepsOthers.alloc _ _).from _) (Below.heap_alloc _ _ _ (by omega)) ⟨⟨bR1.alloc _, hp_alloc _ bZ1⟩, hB1.alloc (hs ▸ hB1.size) _, by simp; omega, hP⟩ ⟨W.heap.size, bR1.lt, World.alloc_heap_new W _, rfl⟩
  case body =>
    rintro l pre x a' W hl ⟨r, hr⟩ ⟨⟨bR1, bZ1⟩, hB1, hS1, hP⟩ ⟨Bx, hBx, bX, rfl⟩ hlt
    obtain ⟨xv, hxv⟩ := x
    dsimp only at bX ⊢
    have z1 := hp_cell bZ1 1 (v := .slice (some ⟨g, o, none⟩) (m * m) cap) rfl
    have d1 := (hB1.cell (p := ⟨g, o + xv, none⟩) hg).trans (hD xv hxv)
    have x0 := hp_cell bX 0 (v := .int .i64 (Zn.row m xv)) rfl
    have x1 := hp_cell bX 1 (v := .int .i64 (Zn.col m xv)) rfl
    have hx0 : (0 : Int) ≤ (xv : Int) := by omega
    have hx1 : (xv : Int) < (m : Int) * m := by rw [← hmi]; omega
    have MOST : ∀ W', Calls Tryd.prog 58 #[.agg #[.int .i64 (Zn.row m xv), .int .i64 (Zn.col m xv)]] W' fun e w' => e = .returned (.int .i64 (mostZ (xv / m) (xv % m))) ∧ Below W'.heap.size W' w' := fun W' => most_to (xv / m) (xv % m) W'
    have hmb : 0 ≤ mostZ (xv / m) (xv % m) ∧ mostZ (xv / m) (xv % m) ≤ 2305843009213693952 := by
      unfold mostZ Zn.most
      by_cases e1 : xv / m = xv % m
      · rw [if_pos e1]; omega
      · rw [if_neg e1]; by_cases e2 : xv / m = 0 ∨ xv % m = 0
        · rw [if_pos e2]; omega
        · rw [if_neg e2]; omega
    obtain ⟨mv, hmv⟩ : ∃ mv, mostZ (xv / m) (xv % m) = mv := ⟨_, rfl⟩
    rw [hmv] at MOST hmb
    have hneg : IntKind.i64.wrap (-mv) = -mv := IntWalk.i64_in _ (by omega)
    have cR := bR1.cell
    have fR := bR1.frozen
    gi_wp2
    refine region_held_round (S := fun w' => w'.cell? ⟨s, 1, none⟩ = some (.slice (some ⟨g, o, none⟩) (m * m) cap) ∧ w'.cell? ⟨g, o + xv, none⟩ = some (.int .i64 (D xv)) ∧ w'.cell? ⟨Bx, 0, none⟩ = some (.int .i64 (Zn.row m xv)) ∧ w'.cell? ⟨Bx, 1, none⟩ = some (.int .i64 (Zn.col m xv))) (by kernel_rfl) (noDefer_spec (by kernel_rfl)) (fun ⟨_, _, h⟩ => h) ?_ (fun hHeld => ?_)
    focus ((try dsimp only); (first | done | (exact ⟨cell_below ((Below.refl W.heap.size W).drew) z1, cell_below ((Below.refl W.heap.size W).drew) d1, cell_below ((Below.refl W.heap.size W).drew) x0, cell_below ((Below.refl W.heap.size W).drew) x1⟩)); done)
    (refine wpAnyH_take (i := 0) (oi := ⟨some 9, _, _, _, _, _⟩) (v := ?_) rfl (by kernel_rfl) (by kernel_rfl) (by kernel_rfl) (fun _ _ _ h => h) (Or.inl ⟨by kernel_rfl, ?_⟩) hHeld ?_; rotate_left; focus (intro w hSw; (try dsimp only at hSw); go_simp; (try with_reducible rfl); done))
    (first | (simp only [Act.put, List.setIfInBounds_toArray, List.set_cons_zero, List.set_cons_succ]) | (simp only [Act.put, List.setIfInBounds_toArray, List.set]) | (simp only [Act.put]) | skip)
    (refine wpAnyH_take (i := 1) (oi := ⟨some 10, _, _, _, _, _⟩) (v := ?_) rfl (by kernel_rfl) (by kernel_rfl) (by kernel_rfl) (fun _ _ _ h => h) (Or.inl ⟨by kernel_rfl, ?_⟩) hHeld ?_; rotate_left; focus (intro w hSw; (try dsimp only at hSw); go_simp; (try with_reducible rfl); done))
    (first | (simp only [Act.put, List.setIfInBounds_toArray, List.set_cons_zero, List.set_cons_succ]) | (simp only [Act.put, List.setIfInBounds_toArray, List.set]) | (simp only [Act.put]) | skip)
    (refine wpAnyH_take (i := 2) (oi := ⟨some 11, _, _, _, _, _⟩) (v := ?_) rfl (by kernel_rfl) (by kernel_rfl) (by kernel_rfl) (fun _ _ _ h => h) (Or.inl ⟨by kernel_rfl, ?_⟩) hHeld ?_; rotate_left; focus (intro w hSw; (try dsimp only at hSw); go_simp; (try with_reducible rfl); done))
    (first | (simp only [Act.put, List.setIfInBounds_toArray, List.set_cons_zero, List.set_cons_succ]) | (simp only [Act.put, List.setIfInBounds_toArray, List.set]) | (simp only [Act.put]) | skip)
    (refine wpAnyH_take (i := 3) (oi := ⟨some 12, _, _, _, _, _⟩) (v := ?_) rfl (by kernel_rfl) (by kernel_rfl) (by kernel_rfl) (fun _ _ _ h => h) (Or.inl ⟨by kernel_rfl, ?_⟩) hHeld ?_; rotate_left; focus (intro w hSw; (try dsimp only at hSw); go_simp; (try with_reducible rfl); done))
    (first | (simp only [Act.put, List.setIfInBounds_toArray, List.set_cons_zero, List.set_cons_succ]) | (simp only [Act.put, List.setIfInBounds_toArray, List.set]) | (simp only [Act.put]) | skip)
    (refine wpAnyH_take (i := 4) (oi := ⟨some 13, _, _, _, _, _⟩) (v := ?_) rfl (by kernel_rfl) (by kernel_rfl) (by kernel_rfl) (fun _ _ _ h => h) (Or.inl ⟨by kernel_rfl, ?_⟩) hHeld ?_; rotate_left; focus (intro w hSw; (try dsimp only at hSw); go_simp; (try with_reducible rfl); done))
    (first | (simp only [Act.put, List.setIfInBounds_toArray, List.set_cons_zero, List.set_cons_succ]) | (simp only [Act.put, List.setIfInBounds_toArray, List.set]) | (simp only [Act.put]) | skip)
    (refine wpAnyH_take (i := 5) (oi := ⟨some 14, _, _, _, _, _⟩) (v := ?_) rfl (by kernel_rfl) (by kernel_rfl) (by kernel_rfl) (fun _ _ _ h => h) (Or.inl ⟨by kernel_rfl, ?_⟩) hHeld ?_; rotate_left; focus (intro w hSw; (try dsimp only at hSw); go_simp; (try with_reducible rfl); done))
    (first | (simp only [Act.put, List.setIfInBounds_toArray, List.set_cons_zero, List.set_cons_succ]) | (simp only [Act.put, List.setIfInBounds_toArray, List.set]) | (simp only [Act.put]) | skip)
    refine wpAnyH_ready (rs := [6]) (by kernel_rfl) (by simp) (AllReadyH.cons (o := ⟨some 15, _, _, _, _, _⟩) rfl (fun K hK => ?_) AllReadyH.nil)
    go_simp
    refine (MOST _).mono ?_
    rintro e w3 ⟨rfl, hb⟩
    have cur := seq ((Below.refl W.heap.size W).drew) hb
    clear hb
    (try dsimp only)
    refine Shut.out hK _ _ (by (try dsimp only); (first | done | (exact ⟨cell_below (cur) z1, cell_below (cur) d1, cell_below (cur) x0, cell_below (cur) x1⟩))) (fun hHeld => ?_)
    clear hK K
    (first | (simp only [Act.put, List.setIfInBounds_toArray, List.set_cons_zero, List.set_cons_succ]) | (simp only [Act.put, List.setIfInBounds_toArray, List.set]) | (simp only [Act.put]) | skip)
    (refine wpAnyH_take (i := 7) (oi := ⟨some 16, _, _, _, _, _⟩) (v := ?_) rfl (by kernel_rfl) (by kernel_rfl) (by kernel_rfl) (fun _ _ _ h => h) (Or.inl ⟨by kernel_rfl, ?_⟩) hHeld ?_; rotate_left; focus (intro w hSw; (try dsimp only at hSw); go_simp; (try with_reducible rfl); done))
    (first | (simp only [Act.put, List.setIfInBounds_toArray, List.set_cons_zero, List.set_cons_succ]) | (simp only [Act.put, List.setIfInBounds_toArray, List.set]) | (simp only [Act.put]) | skip)
    (refine wpAnyH_take (i := 8) (oi := ⟨some 17, _, _, _, _, _⟩) (v := ?_) rfl (by kernel_rfl) (by kernel_rfl) (by kernel_rfl) (fun _ _ _ h => h) (Or.inl ⟨by kernel_rfl, ?_⟩) hHeld ?_; rotate_left; focus (intro w hSw; (try dsimp only at hSw); go_simp; (try with_reducible rfl); done))
    (first | (simp only [Act.put, List.setIfInBounds_toArray, List.set_cons_zero, List.set_cons_succ]) | (simp only [Act.put, List.setIfInBounds_toArray, List.set]) | (simp only [Act.put]) | skip)
    refine wpAnyH_done (by kernel_rfl) ?_ _
    have hst := cur.size
    have bR2 : Boxed w3 (s + 1) 4 (.bool false) := (cur.block _ bR1.lt).trans bR1
    have bZ2 := (cur.block _ (hp_lt bZ1)).trans bZ1
    have cR2 := bR2.cell
    have fR2 := bR2.frozen
    have hKp : Zn.Keeps (s + 1 + 1) W w3 := cur.block _ (by omega)
    have hB2 : Below s w w3 := hB1.trans (cur.mono (by have := hB1.size; omega))
    have hKo := keeps_below cur
    clear cur
    by_cases hc : D xv < -mv
    · gi_wp2
      exact ⟨(hKo.trans (KeepsOthers.setCell _ _ _)).from _, bR2.set _, hB2.setCell (p := ⟨s + 1, 0, none⟩) (by simp) _, rfl, xv, hxv, by rw [hmv]; exact hc⟩
    · have hc' : -mv ≤ D xv := by omega
      gi_wp2
      refine ⟨hKo.from _, hKp, ⟨bR2, bZ2⟩, hB2, by omega, fun y hy => ?_⟩
      rcases List.mem_append.1 hy with hy | hy
      · exact hP y hy
      · rw [List.mem_singleton.1 hy]
        dsimp only
        rw [hmv]; exact hc
  case done =>
    rintro Dd ys W hD rfl ⟨⟨bR1, bZ1⟩, hB1, hS1, hP⟩ hK
    have cR := bR1.cell
    have fR := bR1.frozen
    gi_wp2
    refine ⟨by simp, .inl ⟨_, _, rfl, run_takeDeferred (hp_other (b := s + 1) _ hK rfl (by omega) _), ?_⟩⟩
    have cF : ((W.setCell ⟨s + 1, 0, none⟩ (.bool false)).putObj Dd (.deferred none)).cell? ⟨s + 1, 0, none⟩ = some (.bool false) := hp_cell ((World.putObj_heap_other (by omega)).trans (bR1.set _)) 0 rfl
    refine ⟨.bool false, ?_, .inl ⟨rfl, fun y hy => ?_, ?_⟩⟩
    · generalize (W.setCell ⟨s + 1, 0, none⟩ (.bool false)).putObj Dd (.deferred none) = WF at *
      unfold results
      go_simp
    · have := hP (Zn.ix m hm y) (List.mem_map.2 ⟨y, List.mem_range.2 hy, rfl⟩)
      rw [show (Zn.ix m hm y).val = y from Nat.mod_eq_of_lt hy] at this
      omega
    · exact (hB1.setCell (p := ⟨s + 1, 0, none⟩) (by simp) _).grown (grownBy_putObj' _ Dd (.deferred none)) (by simp; omega) (fun q e => by cases e; omega)
  case stop =>
    rintro Dd c pre W hD _ ⟨bR1, hB1, rfl, hE⟩ hK
    have cR := bR1.cell
    gi_wp2
    refine ⟨by simp, .inl ⟨_, _, rfl, run_takeDeferred hK, ?_⟩⟩
    have cF : (W.putObj Dd (.deferred none)).cell? ⟨s + 1, 0, none⟩ = some (.bool true) := hp_cell ((World.putObj_heap_other (by omega)).trans bR1) 0 rfl
    refine ⟨.bool true, ?_, true, rfl, ⟨fun _ => hE, fun _ => rfl⟩, ?_⟩
    · generalize W.putObj Dd (.deferred none) = WF at *
      unfold results
      go_simp
    · rw [hs]
      exact hB1.grown (grownBy_putObj' _ Dd (.deferred none)) (by have := hB1.size; omega) (fun q e => by cases e; omega)
/-- THE SAME AS A PLAIN CONTRACT. -/
theorem against_any (m : Nat) (hm : 0 < m) (hm7 : m ≤ 7) (g o cap : Nat) (D : Nat → Int) (hg : g < w.heap.size) (hD : RowAt w g o (m * m) D) :
    Calls Tryd.prog 59 #[.agg #[.int .i64 ((m : Int) - 1), .slice (some ⟨g, o, none⟩) (m * m) cap]] w fun e w' =>
      ∃ bv : Bool, e = .returned (.bool bv) ∧ (bv = true ↔ ∃ p, p < m * m ∧ D p < -mostZ (p / m) (p % m)) ∧ Below w.heap.size w w' :=
  callsIn_wide.1 (against_in 6 (Nat.le_refl _) m hm hm7 g o cap D hg hD)
end Go.Proofs.YtjhccmjgfngkcaaDoor.PZoneSame
