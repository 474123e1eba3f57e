/- zone.Top; Text of what has no point. -/
import Derived.Test.YtjhccmjgfngkcaaDoorZoneSameZk
import Derived.Test.YtjhccmjgfngkcaaDoorZoneSameZg
set_option linter.unusedVariables false
set_option linter.unusedSimpArgs false
namespace Go.Proofs.YtjhccmjgfngkcaaDoor.PZoneSame
open Go Go.RowKit Go.Shelf Go.Deep Go.Proofs.YtjhccmjgfngkcaaDoorW.PrintWords Go.Proofs.YtjhccmjgfngkcaaDoorW.PrintLast Go.Proofs.YtjhccmjgfngkcaaDoorW.PrintMore
open Zn (botN wholeB wholeB_iff nearZ upd)
variable {w : World}
attribute [local go_sem] Oper.semAt_some
set_option maxRecDepth 100000 in
set_option maxHeartbeats 4000000 in
theorem Top_not (N : Int) (w : World) (hN : ¬ (0 ≤ N ∧ N ≤ 6)) : Calls Tryd.prog 25 #[.int .i64 N] w (ZPost w (0, [])) := by
  have hm : (decide (0 ≤ N) && decide (N ≤ 6)) = false := by
    by_cases h0 : 0 ≤ N
    · have h6 : ¬ N ≤ 6 := fun h => hN ⟨h0, h⟩
      simp [h6]
    · simp [h0]
  have hbot : botN 0 = 0 := rfl
  refine (callsIn_wide (n := 20)).1 ?_
  refine callsIn_of_wp_marks Tryd.func25 rfl trivial ?_
  simp only [Tryd.ntmps25, List.size_toArray, List.length_cons, List.length_nil, Nat.reduceAdd, Nat.reduceSub, Array.replicate_succ, Array.replicate_zero, List.push_toArray, List.append_toArray, List.nil_append, List.cons_append]
  refine wpIn_wide.2 ?_
  go_wp2_with fail
  have bR := blk_new w (.cells #[.int .i64 0, .slice none 0 0] 27)
  have cur := psh (Below.refl w.heap.size w) (Nat.le_refl _) (.cells #[.int .i64 0, .slice none 0 0] 27)
  have hsz : (w.alloc (.cells #[.int .i64 0, .slice none 0 0] 27)).heap.size = w.heap.size + 1 := by simp
  generalize w.alloc (.cells #[.int .i64 0, .slice none 0 0] 27) = W0 at bR cur hsz ⊢
  obtain ⟨s, hs⟩ : ∃ s, w.heap.size = s := ⟨_, rfl⟩
  simp only [hs] at bR cur hsz ⊢
  go_wp2_with (first | (go_at_call 65; refine (may_any N _).mono ?_; rw [hm]; rintro e w1 ⟨rfl, hb1⟩; replace bR := blk_below bR hb1; replace cur := cur.trans (hb1.mono (by omega)); obtain ⟨r0, r1, r2, r3⟩ := cells2 bR; have hw1 := hb1.size; clear hb1) | (go_at_call 27; refine (bot_post _ _).mono ?_; rw [hbot]; rintro e w6 ⟨v6, rfl, hz6, hb6⟩; dsimp only at hz6; obtain ⟨A6, c6, rfl⟩ := hz6.form; have g6 := blk_below bR hb6; have cur6 := cur.trans (hb6.mono (by have := cur.size; omega)); have HZ6 := Lib.hid hz6; obtain ⟨r0, r1, r2, r3⟩ := cells2 g6))
  obtain ⟨q1, q2, q3⟩ := zfin (s := s) (b := s) g6 HZ6.out cur6 (by omega) (by omega) (by omega)
  exact ⟨_, zret rfl _ _ s q1 rfl, _, rfl, by rw [hs]; exact q2.lower (by omega), by rw [hs]; exact q3⟩
set_option maxRecDepth 100000 in
set_option maxHeartbeats 4000000 in
theorem Top_m (m : Nat) (hm0 : 0 < m) (hm7 : m ≤ 7) (w : World) : Calls Tryd.prog 25 #[.int .i64 ((m : Int) - 1)] w (ZPost w ((m : Int) - 1, Zn.tab m Zn.mo)) := by
  have hm : (decide (0 ≤ (m : Int) - 1) && decide ((m : Int) - 1 ≤ 6)) = true := by simp; omega
  have hmm : m * m ≤ 49 := Nat.mul_le_mul hm7 hm7
  have hmm0 : 0 < m * m := Nat.mul_pos hm0 hm0
  have hw1 : IntKind.i64.wrap ((m : Int) - 1 + 1) = (m : Int) := by rw [IntWalk.i64_in _ (by omega)]; omega
  have hw2 : IntKind.i64.wrap ((m : Int) * (m : Int)) = ((m * m : Nat) : Int) := by rw [← Int.natCast_mul]; exact IntWalk.i64_in _ (by omega)
  have HMM := Lib.hid hmm
  have MAY : ∀ W, Calls Tryd.prog 65 #[.int .i64 ((m : Int) - 1)] W fun e w' => e = .returned (.bool true) ∧ Below W.heap.size W w' := fun W => hm ▸ may_any _ W
  have HMAY := Lib.hid MAY
  obtain ⟨mm, hmm'⟩ : ∃ mm, m * m = mm := ⟨_, rfl⟩
  rw [hmm'] at hw2
  have hmk := print_make (P := Tryd.prog) 22 3 .i64 8 Tryd.underlying22 info_int (by decide) mm (by omega)
  have HMk := Lib.hid hmm'
  clear MAY hm hmm hmm0 hmm'
  refine (callsIn_wide (n := 20)).1 ?_
  refine callsIn_of_wp_marks Tryd.func25 rfl trivial ?_
  simp only [Tryd.ntmps25, List.size_toArray, List.length_cons, List.length_nil, Nat.reduceAdd, Nat.reduceSub, Array.replicate_succ, Array.replicate_zero, List.push_toArray, List.append_toArray, List.nil_append, List.cons_append]
  refine wpIn_wide.2 ?_
  go_wp2_with fail
  have bR := blk_new w (.cells #[.int .i64 0, .slice none 0 0] 27)
  have cur := psh (Below.refl w.heap.size w) (Nat.le_refl _) (.cells #[.int .i64 0, .slice none 0 0] 27)
  have hsz : (w.alloc (.cells #[.int .i64 0, .slice none 0 0] 27)).heap.size = w.heap.size + 1 := by simp
  generalize w.alloc (.cells #[.int .i64 0, .slice none 0 0] 27) = W0 at bR cur hsz ⊢
  obtain ⟨s, hs⟩ : ∃ s, w.heap.size = s := ⟨_, rfl⟩
  simp only [hs] at bR cur hsz ⊢
  go_wp2_with (go_at_call 65; refine (HMAY.out _).mono ?_; rintro e w1 ⟨rfl, hb1⟩; replace bR := blk_below bR hb1; replace cur := cur.trans (hb1.mono (by omega)); have hw11 := hb1.size; clear hb1)
  refine (callsIn_wide.1 (all_in 19 _ _ _)).mono ?_
  rintro e w6 ⟨rfl, rfl⟩
  go_wp2_with fail
  have hmm := HMM.out
  have hmE := HMk.out
  subst hmE
  have hmade : RowB (w1.alloc (.cells (madeCells #[.int .i64 0] (m * m)) 3)) w1.heap.size (m * m) (fun _ => 0) :=
    ⟨madeCells #[.int .i64 0] (m * m), blk_new _ _, fun j hj => by simp [madeCells, hj, Nat.mod_one]⟩
  have bR1 := blk_alloc (blk_alloc (blk_alloc bR (.cells (madeCells #[.int .i64 0] (m * m)) 3)) (.cells #[.int .i64 ((m : Int) - 1), .slice (some ⟨w1.heap.size, 0, none⟩) (m * m) (m * m)] 27)) (.cells #[.int .i64 ((m : Int) - 1), .slice (some ⟨w1.heap.size, 0, none⟩) (m * m) (m * m)] 27)
  have bO := blk_alloc (blk_new (w1.alloc (.cells (madeCells #[.int .i64 0] (m * m)) 3)) (.cells #[.int .i64 ((m : Int) - 1), .slice (some ⟨w1.heap.size, 0, none⟩) (m * m) (m * m)] 27)) (.cells #[.int .i64 ((m : Int) - 1), .slice (some ⟨w1.heap.size, 0, none⟩) (m * m) (m * m)] 27)
  have bI := blk_new ((w1.alloc (.cells (madeCells #[.int .i64 0] (m * m)) 3)).alloc (.cells #[.int .i64 ((m : Int) - 1), .slice (some ⟨w1.heap.size, 0, none⟩) (m * m) (m * m)] 27)) (.cells #[.int .i64 ((m : Int) - 1), .slice (some ⟨w1.heap.size, 0, none⟩) (m * m) (m * m)] 27)
  have hR0 := hmade.below (psh (psh (Below.refl _ _) (Nat.le_refl _) (.cells #[.int .i64 ((m : Int) - 1), .slice (some ⟨w1.heap.size, 0, none⟩) (m * m) (m * m)] 27)) (Nat.le_refl _) (.cells #[.int .i64 ((m : Int) - 1), .slice (some ⟨w1.heap.size, 0, none⟩) (m * m) (m * m)] 27))
  have cur6 := psh (psh (psh cur (by omega) (.cells (madeCells #[.int .i64 0] (m * m)) 3)) (by omega) (.cells #[.int .i64 ((m : Int) - 1), .slice (some ⟨w1.heap.size, 0, none⟩) (m * m) (m * m)] 27)) (by omega) (.cells #[.int .i64 ((m : Int) - 1), .slice (some ⟨w1.heap.size, 0, none⟩) (m * m) (m * m)] 27)
  have hsz6 : (((w1.alloc (.cells (madeCells #[.int .i64 0] (m * m)) 3)).alloc (.cells #[.int .i64 ((m : Int) - 1), .slice (some ⟨w1.heap.size, 0, none⟩) (m * m) (m * m)] 27)).alloc (.cells #[.int .i64 ((m : Int) - 1), .slice (some ⟨w1.heap.size, 0, none⟩) (m * m) (m * m)] 27)).heap.size = w1.heap.size + 3 := by simp
  simp only [World.size_alloc] at bO bI
  have hs1 : s < w1.heap.size := hp_lt bR
  obtain ⟨W6, hW6⟩ : ∃ W6, ((w1.alloc (.cells (madeCells #[.int .i64 0] (m * m)) 3)).alloc (.cells #[.int .i64 ((m : Int) - 1), .slice (some ⟨w1.heap.size, 0, none⟩) (m * m) (m * m)] 27)).alloc (.cells #[.int .i64 ((m : Int) - 1), .slice (some ⟨w1.heap.size, 0, none⟩) (m * m) (m * m)] 27) = W6 := ⟨_, rfl⟩
  obtain ⟨g, hg⟩ : ∃ g, w1.heap.size = g := ⟨_, rfl⟩
  simp only [hW6] at bR1 bO bI hR0 cur6 hsz6 ⊢
  simp only [hg] at bO bI hR0 hsz6 hs1 ⊢
  clear hW6 hmade
  refine wpIn_wide.1 (range_all (n := 20) (by omega) hm0 hm7 (Bz := g + 1 + 1) (gr := g) (D := fun _ => 0) (fun E x => mostZ (x / m) (x % m)) (fun _ => True) rfl rfl (hp_cell bI 0 rfl) (by omega) (by omega) hR0 trivial (fun _ _ _ _ => trivial)
    (fun x Bx => { tmps := #[.int .i64 ((m : Int) - 1), undef, .pointer (some ⟨s, 0, none⟩), .pointer (some ⟨g + 1, 0, none⟩), .int .i64 (x : Int), .pointer (some ⟨Bx, 0, none⟩), .int .i64 ((m : Int) - 1), .bool true, .bool false, undef, .int .i64 ((m : Int) - 1), .int .i64 ((m : Int) - 1), .int .i64 (m : Int), .int .i64 ((m : Int) - 1), .int .i64 (m : Int), .int .i64 ((m * m : Nat) : Int), .slice (some ⟨g, 0, none⟩) (m * m) (m * m), .agg #[.int .i64 ((m : Int) - 1), .slice (some ⟨g, 0, none⟩) (m * m) (m * m)], .agg #[.int .i64 ((m : Int) - 1), .slice (some ⟨g, 0, none⟩) (m * m) (m * m)], .func (.func 97) #[] #[.pointer (some ⟨g + 1 + 1, 0, none⟩)], .int .i64 (x : Int), .agg #[.int .i64 (Zn.row m x), .int .i64 (Zn.col m x)], undef, undef, undef, undef, undef, undef, undef], defers := [] }) ?assign ?body ?done)
  case assign =>
    intro l x W K hK
    unfold Zn.enc
    gi_wp2
    exact hK
  case body =>
    intro l x Bx E W hx hBx bX hR hG _
    have z1 := hp_cell (gheap hG bO (by omega)) 1 (v := .slice (some ⟨g, 0, none⟩) (m * m) (m * m)) rfl
    have p0 := hp_cell bX 0 (v := .int .i64 (Zn.row m x)) rfl
    have p1 := hp_cell bX 1 (v := .int .i64 (Zn.col m x)) rfl
    have hx0 : (0 : Int) ≤ (x : Int) := by omega
    have hmi : ((m * m : Nat) : Int) = (m : Int) * m := Int.natCast_mul m m
    have hx1 : (x : Int) < (m : Int) * m := by rw [← hmi]; omega
    gi_wp2_with fail
    refine start_round (n := 7) (S := fun w' => w'.cell? ⟨g + 1, 1, none⟩ = some (.slice (some ⟨g, 0, none⟩) (m * m) (m * m)) ∧ w'.cell? ⟨Bx, 0, none⟩ = some (.int .i64 (Zn.row m x)) ∧ w'.cell? ⟨Bx, 1, none⟩ = some (.int .i64 (Zn.col m x))) (ds := [6]) #[false, false, false, false, false, false, false] (by kernel_rfl) rfl rfl (by kernel_rfl) (fun ⟨_, _, h⟩ => h) ⟨cell_below ((Below.refl W.heap.size W).drew) z1, cell_below ((Below.refl W.heap.size W).drew) p0, cell_below ((Below.refl W.heap.size W).drew) p1⟩ (fun hHeld => ?_)
    refine pure_ (i := 0) (N := some 22) (v := ?_) (a' := ?_) #[true, false, false, false, false, false, false] rfl rfl (by kernel_rfl) (fun _ _ _ h => h) (Or.inl ⟨by rfl, ?_⟩) ?_ ?_
    rotate_left
    · intro w'
      go_simp
      with_reducible rfl
    rotate_left
    · simp only [Act.put, List.setIfInBounds_toArray, List.set_cons_zero, List.set_cons_succ, i64_w, i32_w]
      rfl
    refine pure_ (i := 2) (N := some 24) (v := ?_) (a' := ?_) #[true, false, true, false, false, false, false] rfl rfl (by kernel_rfl) (fun _ _ _ h => h) (Or.inl ⟨by rfl, ?_⟩) ?_ ?_
    rotate_left
    · intro w'
      go_simp
      with_reducible rfl
    rotate_left
    · simp only [Act.put, List.setIfInBounds_toArray, List.set_cons_zero, List.set_cons_succ, i64_w, i32_w]
      rfl
    refine take_ (i := 1) (N := some 23) (v := ?_) (a' := ?_) #[true, true, true, false, false, false, false] rfl rfl (by kernel_rfl) (fun _ _ _ h => h) (Or.inl ⟨by rfl, ?_⟩) hHeld ?_ ?_
    rotate_left
    · rintro w' ⟨s0, s1, s2⟩
      go_simp
      with_reducible rfl
    rotate_left
    · simp only [Act.put, List.setIfInBounds_toArray, List.set_cons_zero, List.set_cons_succ, i64_w, i32_w]
      rfl
    refine take_ (i := 3) (N := some 25) (v := ?_) (a' := ?_) #[true, true, true, true, false, false, false] rfl rfl (by kernel_rfl) (fun _ _ _ h => h) (Or.inl ⟨by rfl, ?_⟩) hHeld ?_ ?_
    rotate_left
    · rintro w' ⟨s0, s1, s2⟩
      go_simp
      with_reducible rfl
    rotate_left
    · simp only [Act.put, List.setIfInBounds_toArray, List.set_cons_zero, List.set_cons_succ, i64_w, i32_w]
      rfl
    refine one_ (i := 4) (N := some 26) #[true, true, true, true, true, false, false] rfl rfl (by kernel_rfl) (by decide) (fun K hK => ?_)
    refine goes_ Tryd.func58 (by kernel_rfl) rfl #[.agg #[.int .i64 (Zn.row m x), .int .i64 (Zn.col m x)]] (by rfl) rfl rfl (by simp only [List.map_toArray, List.map_cons, List.map_nil]; rfl) ?_
    with_reducible refine (most_rc m x _).mono ?_
    rintro e w3 ⟨rfl, hb⟩
    refine ⟨_, rfl, ?_⟩
    have cur := seq ((Below.refl W.heap.size W).drew) hb
    clear hb
    refine hK.out _ _ ⟨cell_below cur z1, cell_below cur p0, cell_below cur p1⟩ (fun hHeld => ?_)
    clear hK K
    refine norm_ (a' := ?_) ?_ ?_
    rotate_left
    · show Act.put _ (some 26) _ = _
      simp only [Act.put, List.setIfInBounds_toArray, List.set_cons_zero, List.set_cons_succ, i64_w, i32_w]
      rfl
    refine pure_ (i := 5) (N := some 27) (v := ?_) (a' := ?_) #[true, true, true, true, true, true, false] rfl rfl (by kernel_rfl) (fun _ _ _ h => h) (Or.inl ⟨by rfl, ?_⟩) ?_ ?_
    rotate_left
    · intro w'
      go_simp
      with_reducible rfl
    rotate_left
    · simp only [Act.put, List.setIfInBounds_toArray, List.set_cons_zero, List.set_cons_succ, i64_w, i32_w]
      rfl
    refine last_ (i := 6) (N := none) #[true, true, true, true, true, true, true] rfl rfl (by kernel_rfl) (by decide) (fun K hK => ?_)
    have RC := hR.below cur
    have RC0 := RC.cell x hx
    have RC1 := RC.free x
    refine skip_ (w1 := ?_) (by rfl) rfl ?_ ?_
    rotate_left
    · go_simp
      rfl
    refine hK.out _ _ ?_
    clear hK K
    refine done_ (by kernel_rfl) ?_
    exact ⟨gtrans (grown_of_below cur (some g)) (gset _ _ _ _), RC.store x _⟩
  case done =>
    intro Dm W hDm hG hR hK
    dsimp only
    replace bR1 := gheap hG bR1 (by omega)
    replace bO := gheap hG bO (by omega)
    have cur7 := gbelow cur6 hG (by omega) (by omega)
    have hsW := hG.size
    have M1 : Marks s W [Dm] := Marks.nil.cons (W0 := W6) ⟨List.nodup_nil, fun _ h => by cases h⟩ (by omega) hDm hK
    have hRf := hR.ext (E' := fun p => Zn.mo (p / m) (p % m)) (fun p hp => Zn.step1_all hm0 (fun x _ => mostZ (x / m) (x % m)) p hp)
    have hI := hRf.ints (Nat.le_refl _) (by omega)
    have htl := Zn.tab_length m Zn.mo
    have HZ : Hid (ZNew g W (.agg #[.int .i64 ((m : Int) - 1), .slice (some ⟨g, 0, none⟩) (m * m) (m * m)]) ((m : Int) - 1) (Zn.tab m Zn.mo)) := Lib.hid ⟨some ⟨g, 0, none⟩, m * m, by rw [htl], by rw [htl]; exact hI, fun a e _ => by cases e; exact Nat.le_refl _⟩
    have HTL := Lib.hid htl
    obtain ⟨o0, o1, -, -⟩ := cells2 bO
    obtain ⟨r0, r1, r2, r3⟩ := cells2 bR1
    obtain ⟨q1, q2, q3⟩ := zfin_n (s := s) (b := s) htl bR1 HZ.out cur7 (by omega) (by omega) (by omega)
    have HQ2 := Lib.hid q2
    have HQ3 := Lib.hid q3
    have HM := Lib.hid (M1.zput bR1 (.int .i64 ((m : Int) - 1)) (.slice (some ⟨g, 0, none⟩) (m * m) (m * m)))
    have HRF := Lib.hid ((hRf.far (p := ⟨s, 0, none⟩) (by show g ≠ s; omega) (.int .i64 ((m : Int) - 1))).far (p := ⟨s, 1, none⟩) (by show g ≠ s; omega) (.slice (some ⟨g, 0, none⟩) (m * m) (m * m)))
    clear q2 q3 M1 hI htl hRf hR hK
    go_wp2_with fail
    refine leaves_marks (s := s) [Dm] _ HM.out (by have := HQ3.out.size; omega) (fun W' hb hc => ⟨_, zret rfl _ _ s (hc _ _ q1 rfl) rfl, _, rfl, ?_, ?_⟩)
    · rw [hs]
      have hin := (HRF.out.kept hc).ints (Nat.le_refl (m * m)) (by omega)
      exact ⟨some ⟨g, 0, none⟩, m * m, by rw [HTL.out], by rw [HTL.out]; exact hin, fun a e _ => by cases e; show s ≤ g; omega⟩
    · rw [hs]
      exact HQ3.out.trans hb
end Go.Proofs.YtjhccmjgfngkcaaDoor.PZoneSame
