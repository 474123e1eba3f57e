/- alive of chapter 03. -/
import Derived.Test.YtjhccmjgfngkcaaDoorZoneSameZm
import Derived.Test.YtjhccmjgfngkcaaDoorZoneSameZh
import Derived.Test.YtjhccmjgfngkcaaDoorPm
set_option linter.unusedVariables false
set_option linter.unusedSimpArgs false
namespace Go.Proofs.YtjhccmjgfngkcaaDoor.PZoneSame
open Go Go.RowKit Go.Shelf Go.Deep Go.Proofs.YtjhccmjgfngkcaaDoorW.PrintWords Go.Proofs.YtjhccmjgfngkcaaDoorW.PrintLast Go.Proofs.YtjhccmjgfngkcaaDoorW.PrintMore
open Zn (botN wholeB wholeB_iff nearZ upd)
variable {w : World}
attribute [local go_sem] Oper.semAt_some
def spEq (x0 x1 y0 y1 : Int) : Bool := x0 == y0 && x1 == y1
theorem eq_sp (w : World) (x0 x1 y0 y1 : Int) :
    (Op.equalIn 10000 40 (.agg #[.int .i64 x0, .int .i64 x1]) (.agg #[.int .i64 y0, .int .i64 y1])).run Tryd.prog w = .ok (spEq x0 x1 y0 y1) w := by
  rw [run_equalIn_struct w 9999 40 _ _ (by kernel_rfl) (by kernel_rfl)]
  simp only [Program.fieldsOf, Tryd.underlying40, spEq]
  go_simp
  by_cases h0 : x0 = y0 <;> by_cases h1 : x1 = y1 <;> simp [h0, h1]
attribute [local go_sem high] eq_sp
set_option maxHeartbeats 2000000 in
theorem Text_none {v : Value} {N : Int} {L : List Int} (h : ZAt w v N L) (hn : (Zn.cleanP N L).2 = []) : Calls Tryd.prog 21 #[v] w fun e w' => e = .returned (.string ⟨#[98, 111, 116, 116, 111, 109]⟩) ∧ Below w.heap.size w w' := by
  have CL : ∀ W', Below w.heap.size w W' → Calls Tryd.prog 67 #[v] W' (ZPost W' (Zn.cleanP N L)) := fun W' hb => clean_any (h.below hb)
  obtain ⟨A, c, rfl⟩ := h.form
  obtain ⟨zz, hzz⟩ : ∃ zz, Zn.cleanP N L = zz := ⟨_, rfl⟩
  rw [hzz] at CL hn
  clear hzz h
  obtain ⟨n1, l1⟩ := zz
  dsimp only at hn
  subst hn
  have HC := Lib.hid CL
  clear CL
  go_enter Tryd.func21, Tryd.ntmps21
  go_wp2_with fail
  have bZ := blk_new w (.cells #[.int .i64 N, .slice A L.length c] 27)
  have cur : Below w.heap.size w (w.alloc (.cells #[.int .i64 N, .slice A L.length c] 27)) := psh (Below.refl _ _) (Nat.le_refl _) (.cells #[.int .i64 N, .slice A L.length c] 27)
  have hsz : (w.alloc (.cells #[.int .i64 N, .slice A L.length c] 27)).heap.size = w.heap.size + 1 := by simp
  obtain ⟨W0, hW0⟩ : ∃ W0, (w.alloc (.cells #[.int .i64 N, .slice A L.length c] 27)) = W0 := ⟨_, rfl⟩
  rw [hW0] at bZ cur hsz ⊢
  clear hW0
  obtain ⟨s, hs⟩ : ∃ s, w.heap.size = s := ⟨_, rfl⟩
  rw [hs] at bZ cur hsz
  simp only [hs]
  obtain ⟨z0, z1, z2, z3⟩ := cells2 bZ
  go_at_call 67
  refine (HC.out _ (by rw [hs]; exact cur)).mono ?_
  rintro e w1 ⟨v1, rfl, hz, hb⟩
  dsimp only at hz
  obtain ⟨A1, c1, rfl⟩ := hz.form
  obtain ⟨r0, r1, r2, r3⟩ := cells2 (blk_below bZ hb)
  obtain ⟨f1, f2, f3⟩ := zfin (s := s) (blk_below bZ hb) hz (cur.trans (hb.mono (by omega))) (by omega) (by omega) (by omega)
  have hszb := hb.size
  go_wp2_with fail
  generalize (w1.setCell ⟨s, 0, none⟩ (.int .i64 n1)).setCell ⟨s, 1, none⟩ (.slice A1 ([] : List Int).length c1) = W2 at *
  have HZ := Lib.hid f2
  have HF3 := Lib.hid f3
  go_at_call 68
  refine (none_any (L := []) HZ.out.zat).mono ?_
  rintro e w3 ⟨rfl, hb3⟩
  have HF4 := Lib.hid (HF3.out.trans (hb3.mono (by have := HF3.out.size; omega)))
  go_wp2_with fail
  go_ret
  exact ⟨rfl, by rw [hs]; exact HF4.out⟩
theorem ints_two (w : World) (x y : Int) : IntsAt (w.alloc (.cells #[.int .i64 x, .int .i64 y] 3)) (.slice (some ⟨w.heap.size, 0, none⟩) 2 2) [x, y] := by
  refine ⟨_, _, rfl, Nat.le_refl _, by simp, fun _ => ⟨w.heap.size, 0, rfl, by simp, fun j hj => ?_⟩⟩
  have h := blk_new w (.cells #[.int .i64 x, .int .i64 y] 3)
  have hj2 : j < 2 := hj
  rcases j with _ | _ | j
  · exact hp_cell h 0 rfl
  · exact hp_cell h 1 rfl
  · omega
theorem Top_2 (w : World) : Calls Tryd.prog 25 #[.int .i64 2] w (ZPost w Zn.aT) := by
  have h := Top_m 3 (by omega) (by omega) w
  have e0 : ((3 : Nat) : Int) - 1 = 2 := by decide
  have e1 : ((2 : Int), Zn.tab 3 Zn.mo) = Zn.topP 2 := by unfold Zn.topP; rw [if_pos (by omega)]; rw [show (2 : Int).toNat + 1 = 3 by decide]
  rw [e0, e1, Zn.top_2] at h
  exact h
set_option maxRecDepth 100000 in
set_option maxHeartbeats 8000000 in
theorem alive_any (w : World) : Calls Tryd.prog 14 #[] w fun e w' => e = .returned (.bool true) ∧ Below w.heap.size w w' := by
  have G1 : ∀ (W : World) (v : Value), ZNew W.heap.size W v Zn.aT.1 Zn.aT.2 → True := fun _ _ _ => trivial
  have g1 := Zn.guard_1
  have g2 := Zn.guard_2
  have g3 := Zn.guard_3
  have p1 := Zn.span_Z
  have p2 := Zn.right_Z
  have p3 := Zn.get_Z
  have p4 := Zn.clean_B
  have p5 := Zn.has_Z
  have p6 := Zn.leq_BZ
  have p7 := Zn.join_BZ
  have ezb : Zn.aB = (2, []) := rfl
  have ezl : Zn.aZ.2.length = 9 := rfl
  obtain ⟨nt, lt, ht⟩ : ∃ n l, Zn.aT = (n, l) := ⟨_, _, rfl⟩
  obtain ⟨nu, lu, hu⟩ : ∃ n l, Zn.aU = (n, l) := ⟨_, _, rfl⟩
  obtain ⟨nz, lz, hz⟩ : ∃ n l, Zn.aZ = (n, l) := ⟨_, _, rfl⟩
  have TOP := Top_2
  rw [ht] at TOP g1
  rw [hu] at g1 g2
  rw [hz] at g2 g3 p1 p2 p3 p5 p6 p7 ezl
  rw [ezb] at g3 p4 p6 p7
  dsimp only at g1 g2 g3 p1 p3 p4 p5 ezl
  have C1 : ∀ (W : World) (v : Value), ZAt W v nt lt → Calls Tryd.prog 31 #[v, .int .i64 1, .int .i64 0, .int .i64 5] W (ZPost W (nu, lu)) := fun W v h => by have := Guard_any h 1 0 5; rw [g1] at this; exact this
  have C2 : ∀ (W : World) (v : Value), ZAt W v nu lu → Calls Tryd.prog 31 #[v, .int .i64 2, .int .i64 1, .int .i64 (-3)] W (ZPost W (nz, lz)) := fun W v h => by have := Guard_any h 2 1 (-3); rw [g2] at this; exact this
  have C3 : ∀ (W : World) (v : Value), ZAt W v nz lz → Calls Tryd.prog 31 #[v, .int .i64 0, .int .i64 1, .int .i64 (-6)] W (ZPost W (2, [])) := fun W v h => by have := Guard_any h 0 1 (-6); rw [g3] at this; exact this
  have C4 : ∀ (W : World) (v : Value), ZAt W v nz lz → Calls Tryd.prog 30 #[v, .int .i64 2] W fun e w' => e = .returned (.agg #[.int .i64 (-1152921504606846976), .int .i64 2]) ∧ Below W.heap.size W w' := fun W v h => by have := Span_any h 2; rw [p1] at this; exact this
  have C5 : ∀ (W : World) (v : Value), ZAt W v nz lz → Calls Tryd.prog 19 #[v] W fun e w' => e = .returned (.bool true) ∧ Below W.heap.size W w' := fun W v h => by have := Right_any h; rw [p2] at this; exact this
  have C6 : ∀ (W : World) (v : Value), ZAt W v nz lz → Calls Tryd.prog 29 #[v, .int .i64 2, .int .i64 1] W fun e w' => e = .returned (.int .i64 (-3)) ∧ Below W.heap.size W w' := fun W v h => by have := Get_any h 2 1; rw [p3] at this; exact this
  have C7 : ∀ (W : World) (v : Value), ZAt W v 2 [] → Calls Tryd.prog 21 #[v] W fun e w' => e = .returned (.string ⟨#[98, 111, 116, 116, 111, 109]⟩) ∧ Below W.heap.size W w' := fun W v h => Text_none h (by rw [p4])
  have C8 : ∀ (W : World) (v u : Value), ZAt W v 2 [] → ZAt W u 2 [] → Calls Tryd.prog 24 #[v, u] W fun e w' => e = .returned (.bool true) ∧ Below W.heap.size W w' := fun W v u h k => by have := Same_any h k (by simp); simpa using this
  have C9 : ∀ (W : World) (v u : Value), ZAt W v nz lz → IntsAt W u [5, 2] → Calls Tryd.prog 32 #[v, u] W fun e w' => e = .returned (.bool true) ∧ Below W.heap.size W w' := fun W v u h k => by have := Has_any h k; rw [p5] at this; exact this
  have C10 : ∀ (W : World) (v u : Value), ZAt W v 2 [] → ZAt W u nz lz → Calls Tryd.prog 35 #[v, u] W fun e w' => e = .returned (.bool true) ∧ Below W.heap.size W w' := fun W v u h k => by have := Leq_any h k; rw [p6] at this; exact this
  have C11 : ∀ (W : World) (v u : Value), ZAt W v 2 [] → ZAt W u nz lz → Calls Tryd.prog 33 #[v, u] W (ZPost W (nz, lz)) := fun W v u h k => by have := join_any h k; rw [p7] at this; exact this
  have C12 : ∀ (W : World) (v u : Value), ZAt W v nz lz → ZAt W u nz lz → Calls Tryd.prog 24 #[v, u] W fun e w' => e = .returned (.bool true) ∧ Below W.heap.size W w' := fun W v u h k => by have := Same_any h k (by rw [ezl]; omega); simpa using this
  have C13 : ∀ (W : World), Calls Tryd.prog 27 #[.int .i64 2] W (ZPost W (2, [])) := fun W => bot_post 2 W
  have H1 := Lib.hid C1
  have H2 := Lib.hid C2
  have H3 := Lib.hid C3
  have H4 := Lib.hid C4
  have H5 := Lib.hid C5
  have H6 := Lib.hid C6
  have H7 := Lib.hid C7
  have H8 := Lib.hid C8
  have H9 := Lib.hid C9
  have H10 := Lib.hid C10
  have H11 := Lib.hid C11
  have H12 := Lib.hid C12
  have H13 := Lib.hid C13
  have HT := Lib.hid TOP
  clear C1 C2 C3 C4 C5 C6 C7 C8 C9 C10 C11 C12 C13 TOP g1 g2 g3 p1 p2 p3 p4 p5 p6 p7 ezb ezl ht hu hz G1
  go_enter Tryd.func14, Tryd.ntmps14
  obtain ⟨s, hs⟩ : ∃ s, w.heap.size = s := ⟨_, rfl⟩
  go_wp2_with fail
  go_at_call 25
  refine (HT.out _).mono ?_
  rintro e w1 ⟨v1, rfl, hz1, hb1⟩
  have Z1 := Lib.hid hz1.zat
  go_wp2_with fail
  go_at_call 31
  refine (H1.out _ _ Z1.out).mono ?_
  rintro e w2 ⟨v2, rfl, hz2, hb2⟩
  have Z2 := Lib.hid hz2.zat
  have cur := seq hb1 hb2
  clear hb1 hb2 hz1 hz2
  go_wp2_with fail
  go_at_call 31
  refine (H2.out _ _ Z2.out).mono ?_
  rintro e w3 ⟨v3, rfl, hz3, hb3⟩
  dsimp only at hz3
  obtain ⟨A3, c3, rfl⟩ := hz3.form
  have Z3 := Lib.hid hz3.zat
  replace cur := seq cur hb3
  clear hb3 hz3 Z1 Z2
  have Z4 := Lib.hid (Z3.out.below (psh (Below.refl w3.heap.size w3) (Nat.le_refl _) (.cells #[.int .i64 nz, .slice A3 lz.length c3] 27)))
  have k1 := blk_new w3 (.cells #[.int .i64 nz, .slice A3 lz.length c3] 27)
  obtain ⟨x0, x1, -, -⟩ := cells2 k1
  have cur4 := psh cur (Nat.le_refl _) (.cells #[.int .i64 nz, .slice A3 lz.length c3] 27)
  go_wp2_with fail
  go_at_call 31
  refine (H3.out _ _ Z4.out).mono ?_
  rintro e w5 ⟨v5, rfl, hz5, hb5⟩
  dsimp only at hz5
  obtain ⟨A5, c5, rfl⟩ := hz5.form
  have Z5 := Lib.hid hz5.zat
  have Z6 := Lib.hid (Z4.out.below hb5)
  have cur5 := seq cur4 hb5
  have k2 := blk_below k1 hb5
  have k3 := blk_new w5 (.cells #[.int .i64 2, .slice A5 0 c5] 27)
  have k4 := blk_alloc k2 (.cells #[.int .i64 2, .slice A5 0 c5] 27)
  go_wp2_with fail
  have Z7 := Lib.hid (Z5.out.below (psh (Below.refl w5.heap.size w5) (Nat.le_refl _) (.cells #[.int .i64 2, .slice A5 0 c5] 27)))
  have Z8 := Lib.hid (Z6.out.below (psh (Below.refl w5.heap.size w5) (Nat.le_refl _) (.cells #[.int .i64 2, .slice A5 0 c5] 27)))
  have cur6 := psh cur5 (by have := cur5.size; omega) (.cells #[.int .i64 2, .slice A5 0 c5] 27)
  obtain ⟨W6, hW6⟩ : ∃ W6, w5.alloc (.cells #[.int .i64 2, .slice A5 0 c5] 27) = W6 := ⟨_, rfl⟩
  simp only [hW6] at k3 k4 Z7 Z8 cur6 ⊢
  clear hW6
  obtain ⟨q1, hq1⟩ : ∃ q1, w3.heap.size = q1 := ⟨_, rfl⟩
  obtain ⟨q2, hq2⟩ : ∃ q2, w5.heap.size = q2 := ⟨_, rfl⟩
  simp only [hq1] at k4 ⊢
  simp only [hq2] at k3 ⊢
  obtain ⟨x0, x1, -, -⟩ := cells2 k4
  obtain ⟨y0, y1, -, -⟩ := cells2 k3
  have Z7' : Hid (ZAt W6 (.agg #[.int .i64 2, .slice A5 0 c5]) 2 []) := Z7
  have e1 : spEq (-1152921504606846976) 2 (-1152921504606846976) 2 = true := by decide +kernel
  refine start_ (n := 41) (S := fun w' => w'.cell? ⟨q1, 0, none⟩ = some (.int .i64 nz) ∧ w'.cell? ⟨q1, 1, none⟩ = some (.slice A3 lz.length c3) ∧ w'.cell? ⟨q2, 0, none⟩ = some (.int .i64 2) ∧ w'.cell? ⟨q2, 1, none⟩ = some (.slice A5 0 c5)) (ds := []) #[false, false, false, false, false, false, false, false, false, false, false, false, false, false, false, false, false, false, false, false, false, false, false, false, false, false, false, false, false, false, false, false, false, false, false, false, false, false, false, false, false] (by kernel_rfl) rfl rfl ⟨cell_below ((Below.refl W6.heap.size W6).drew) x0, cell_below ((Below.refl W6.heap.size W6).drew) x1, cell_below ((Below.refl W6.heap.size W6).drew) y0, cell_below ((Below.refl W6.heap.size W6).drew) y1⟩ (fun hHeld => ?_)
  refine pure_ (i := 2) (N := some 10) (v := ?_) (a' := ?_) #[false, false, true, false, false, false, false, false, false, false, false, false, false, false, false, false, false, false, false, false, false, false, false, false, false, false, false, false, false, false, false, false, false, false, false, false, false, false, false, false, false] rfl rfl (by kernel_rfl) (fun _ _ _ h => h) (Or.inl ⟨by rfl, ?_⟩) ?_ ?_
  rotate_left
  · intro w'
    go_simp
    with_reducible rfl
  rotate_left
  · simp only [Act.put, List.setIfInBounds_toArray, List.set_cons_zero, List.set_cons_succ, i64_w, i32_w]
    rfl
  refine take_ (i := 0) (N := some 8) (v := ?_) (a' := ?_) #[true, false, true, false, false, false, false, false, false, false, false, false, false, false, false, false, false, false, false, false, false, false, false, false, false, false, false, false, false, false, false, false, false, false, false, false, false, false, false, false, false] rfl rfl (by kernel_rfl) (fun _ _ _ h => h) (Or.inl ⟨by rfl, ?_⟩) hHeld ?_ ?_
  rotate_left
  · rintro w' ⟨s0, s1, s2, s3⟩
    go_simp
    with_reducible rfl
  rotate_left
  · simp only [Act.put, List.setIfInBounds_toArray, List.set_cons_zero, List.set_cons_succ, i64_w, i32_w]
    rfl
  refine one_ (i := 1) (N := some 9) #[true, true, true, false, false, false, false, false, false, false, false, false, false, false, false, false, false, false, false, false, false, false, false, false, false, false, false, false, false, false, false, false, false, false, false, false, false, false, false, false, false] rfl rfl (by kernel_rfl) (by decide) (fun K hK => ?_)
  refine goes_ Tryd.func30 (by kernel_rfl) rfl #[.agg #[.int .i64 nz, .slice A3 lz.length c3], .int .i64 2] (by rfl) rfl rfl (by simp only [List.map_toArray, List.map_cons, List.map_nil]; rfl) ?_
  with_reducible refine (H4.out _ _ (Z8.out.below ((Below.refl W6.heap.size W6).drew))).mono ?_
  rintro e w3 ⟨rfl, hb⟩
  refine ⟨_, rfl, ?_⟩
  have cur := seq ((Below.refl W6.heap.size W6).drew) hb
  clear hb
  refine hK.out _ _ ⟨cell_below cur x0, cell_below cur x1, cell_below cur y0, cell_below cur y1⟩ (fun hHeld => ?_)
  clear hK K
  refine norm_ (a' := ?_) ?_ ?_
  rotate_left
  · show Act.put _ (some 9) _ = _
    simp only [Act.put, List.setIfInBounds_toArray, List.set_cons_zero, List.set_cons_succ, i64_w, i32_w]
    rfl
  refine pure_ (i := 3) (N := some 11) (v := ?_) (a' := ?_) #[true, true, true, true, false, false, false, false, false, false, false, false, false, false, false, false, false, false, false, false, false, false, false, false, false, false, false, false, false, false, false, false, false, false, false, false, false, false, false, false, false] rfl rfl (by kernel_rfl) (fun _ _ _ h => h) (Or.inl ⟨by rfl, ?_⟩) ?_ ?_
  rotate_left
  · intro w'
    go_simp
    with_reducible rfl
  rotate_left
  · simp only [Act.put, List.setIfInBounds_toArray, List.set_cons_zero, List.set_cons_succ, i64_w, i32_w]
    rfl
  refine pure_ (i := 4) (N := some 12) (v := ?_) (a' := ?_) #[true, true, true, true, true, false, false, false, false, false, false, false, false, false, false, false, false, false, false, false, false, false, false, false, false, false, false, false, false, false, false, false, false, false, false, false, false, false, false, false, false] rfl rfl (by kernel_rfl) (fun _ _ _ h => h) (Or.inl ⟨by rfl, ?_⟩) ?_ ?_
  rotate_left
  · intro w'
    go_simp
    with_reducible rfl
  rotate_left
  · simp only [Act.put, List.setIfInBounds_toArray, List.set_cons_zero, List.set_cons_succ, i64_w, i32_w]
    rfl
  refine take_ (i := 5) (N := some 13) (v := ?_) (a' := ?_) #[true, true, true, true, true, true, false, false, false, false, false, false, false, false, false, false, false, false, false, false, false, false, false, false, false, false, false, false, false, false, false, false, false, false, false, false, false, false, false, false, false] rfl rfl (by kernel_rfl) (fun _ _ _ h => h) (Or.inl ⟨by rfl, ?_⟩) hHeld ?_ ?_
  rotate_left
  · rintro w' ⟨s0, s1, s2, s3⟩
    go_simp
    with_reducible rfl
  rotate_left
  · simp only [Act.put, List.setIfInBounds_toArray, List.set_cons_zero, List.set_cons_succ, i64_w, i32_w]
    rfl
  refine one_ (i := 6) (N := some 14) #[true, true, true, true, true, true, true, false, false, false, false, false, false, false, false, false, false, false, false, false, false, false, false, false, false, false, false, false, false, false, false, false, false, false, false, false, false, false, false, false, false] rfl rfl (by kernel_rfl) (by decide) (fun K hK => ?_)
  refine goes_ Tryd.func19 (by kernel_rfl) rfl #[.agg #[.int .i64 nz, .slice A3 lz.length c3]] (by rfl) rfl rfl (by simp only [List.map_toArray, List.map_cons, List.map_nil]; rfl) ?_
  with_reducible refine (H5.out _ _ (Z8.out.below (cur))).mono ?_
  rintro e w3 ⟨rfl, hb⟩
  refine ⟨_, rfl, ?_⟩
  replace cur := seq cur hb
  clear hb
  refine hK.out _ _ ⟨cell_below cur x0, cell_below cur x1, cell_below cur y0, cell_below cur y1⟩ (fun hHeld => ?_)
  clear hK K
  refine norm_ (a' := ?_) ?_ ?_
  rotate_left
  · show Act.put _ (some 14) _ = _
    simp only [Act.put, List.setIfInBounds_toArray, List.set_cons_zero, List.set_cons_succ, i64_w, i32_w]
    rfl
  refine pure_ (i := 7) (N := some 15) (v := ?_) (a' := ?_) #[true, true, true, true, true, true, true, true, false, false, false, false, false, false, false, false, false, false, false, false, false, false, false, false, false, false, false, false, false, false, false, false, false, false, false, false, false, false, false, false, false] rfl rfl (by kernel_rfl) (fun _ _ _ h => h) (Or.inl ⟨by rfl, ?_⟩) ?_ ?_
  rotate_left
  · intro w'
    go_simp
    with_reducible rfl
  rotate_left
  · simp only [Act.put, List.setIfInBounds_toArray, List.set_cons_zero, List.set_cons_succ, i64_w, i32_w]
    rfl
  refine pure_ (i := 8) (N := some 16) (v := ?_) (a' := ?_) #[true, true, true, true, true, true, true, true, true, false, false, false, false, false, false, false, false, false, false, false, false, false, false, false, false, false, false, false, false, false, false, false, false, false, false, false, false, false, false, false, false] rfl rfl (by kernel_rfl) (fun _ _ _ h => h) (Or.inl ⟨by rfl, ?_⟩) ?_ ?_
  rotate_left
  · intro w'
    go_simp
    with_reducible rfl
  rotate_left
  · simp only [Act.put, List.setIfInBounds_toArray, List.set_cons_zero, List.set_cons_succ, i64_w, i32_w]
    rfl
  refine take_ (i := 9) (N := some 17) (v := ?_) (a' := ?_) #[true, true, true, true, true, true, true, true, true, true, false, false, false, false, false, false, false, false, false, false, false, false, false, false, false, false, false, false, false, false, false, false, false, false, false, false, false, false, false, false, false] rfl rfl (by kernel_rfl) (fun _ _ _ h => h) (Or.inl ⟨by rfl, ?_⟩) hHeld ?_ ?_
  rotate_left
  · rintro w' ⟨s0, s1, s2, s3⟩
    go_simp
    with_reducible rfl
  rotate_left
  · simp only [Act.put, List.setIfInBounds_toArray, List.set_cons_zero, List.set_cons_succ, i64_w, i32_w]
    rfl
  refine one_ (i := 10) (N := some 18) #[true, true, true, true, true, true, true, true, true, true, true, false, false, false, false, false, false, false, false, false, false, false, false, false, false, false, false, false, false, false, false, false, false, false, false, false, false, false, false, false, false] rfl rfl (by kernel_rfl) (by decide) (fun K hK => ?_)
  refine goes_ Tryd.func29 (by kernel_rfl) rfl #[.agg #[.int .i64 nz, .slice A3 lz.length c3], .int .i64 2, .int .i64 1] (by rfl) rfl rfl (by simp only [List.map_toArray, List.map_cons, List.map_nil]; rfl) ?_
  with_reducible refine (H6.out _ _ (Z8.out.below (cur))).mono ?_
  rintro e w3 ⟨rfl, hb⟩
  refine ⟨_, rfl, ?_⟩
  replace cur := seq cur hb
  clear hb
  refine hK.out _ _ ⟨cell_below cur x0, cell_below cur x1, cell_below cur y0, cell_below cur y1⟩ (fun hHeld => ?_)
  clear hK K
  refine norm_ (a' := ?_) ?_ ?_
  rotate_left
  · show Act.put _ (some 18) _ = _
    simp only [Act.put, List.setIfInBounds_toArray, List.set_cons_zero, List.set_cons_succ, i64_w, i32_w]
    rfl
  refine pure_ (i := 11) (N := some 19) (v := ?_) (a' := ?_) #[true, true, true, true, true, true, true, true, true, true, true, true, false, false, false, false, false, false, false, false, false, false, false, false, false, false, false, false, false, false, false, false, false, false, false, false, false, false, false, false, false] rfl rfl (by kernel_rfl) (fun _ _ _ h => h) (Or.inl ⟨by rfl, ?_⟩) ?_ ?_
  rotate_left
  · intro w'
    go_simp
    with_reducible rfl
  rotate_left
  · simp only [Act.put, List.setIfInBounds_toArray, List.set_cons_zero, List.set_cons_succ, i64_w, i32_w]
    rfl
  refine pure_ (i := 12) (N := some 20) (v := ?_) (a' := ?_) #[true, true, true, true, true, true, true, true, true, true, true, true, true, false, false, false, false, false, false, false, false, false, false, false, false, false, false, false, false, false, false, false, false, false, false, false, false, false, false, false, false] rfl rfl (by kernel_rfl) (fun _ _ _ h => h) (Or.inl ⟨by rfl, ?_⟩) ?_ ?_
  rotate_left
  · intro w'
    go_simp
    with_reducible rfl
  rotate_left
  · simp only [Act.put, List.setIfInBounds_toArray, List.set_cons_zero, List.set_cons_succ, i64_w, i32_w]
    rfl
  refine pure_ (i := 13) (N := some 21) (v := ?_) (a' := ?_) #[true, true, true, true, true, true, true, true, true, true, true, true, true, true, false, false, false, false, false, false, false, false, false, false, false, false, false, false, false, false, false, false, false, false, false, false, false, false, false, false, false] rfl rfl (by kernel_rfl) (fun _ _ _ h => h) (Or.inl ⟨by rfl, ?_⟩) ?_ ?_
  rotate_left
  · intro w'
    go_simp
    with_reducible rfl
  rotate_left
  · simp only [Act.put, List.setIfInBounds_toArray, List.set_cons_zero, List.set_cons_succ, i64_w, i32_w]
    rfl
  refine take_ (i := 14) (N := some 22) (v := ?_) (a' := ?_) #[true, true, true, true, true, true, true, true, true, true, true, true, true, true, true, false, false, false, false, false, false, false, false, false, false, false, false, false, false, false, false, false, false, false, false, false, false, false, false, false, false] rfl rfl (by kernel_rfl) (fun _ _ _ h => h) (Or.inl ⟨by rfl, ?_⟩) hHeld ?_ ?_
  rotate_left
  · rintro w' ⟨s0, s1, s2, s3⟩
    go_simp
    with_reducible rfl
  rotate_left
  · simp only [Act.put, List.setIfInBounds_toArray, List.set_cons_zero, List.set_cons_succ, i64_w, i32_w]
    rfl
  refine one_ (i := 15) (N := some 23) #[true, true, true, true, true, true, true, true, true, true, true, true, true, true, true, true, false, false, false, false, false, false, false, false, false, false, false, false, false, false, false, false, false, false, false, false, false, false, false, false, false] rfl rfl (by kernel_rfl) (by decide) (fun K hK => ?_)
  refine goes_ Tryd.func21 (by kernel_rfl) rfl #[.agg #[.int .i64 2, .slice A5 0 c5]] (by rfl) rfl rfl (by simp only [List.map_toArray, List.map_cons, List.map_nil]; rfl) ?_
  with_reducible refine (H7.out _ _ (Z7'.out.below (cur))).mono ?_
  rintro e w3 ⟨rfl, hb⟩
  refine ⟨_, rfl, ?_⟩
  replace cur := seq cur hb
  clear hb
  refine hK.out _ _ ⟨cell_below cur x0, cell_below cur x1, cell_below cur y0, cell_below cur y1⟩ (fun hHeld => ?_)
  clear hK K
  refine norm_ (a' := ?_) ?_ ?_
  rotate_left
  · show Act.put _ (some 23) _ = _
    simp only [Act.put, List.setIfInBounds_toArray, List.set_cons_zero, List.set_cons_succ, i64_w, i32_w]
    rfl
  refine pure_ (i := 16) (N := some 24) (v := ?_) (a' := ?_) #[true, true, true, true, true, true, true, true, true, true, true, true, true, true, true, true, true, false, false, false, false, false, false, false, false, false, false, false, false, false, false, false, false, false, false, false, false, false, false, false, false] rfl rfl (by kernel_rfl) (fun _ _ _ h => h) (Or.inl ⟨by rfl, ?_⟩) ?_ ?_
  rotate_left
  · intro w'
    go_simp
    with_reducible rfl
  rotate_left
  · simp only [Act.put, List.setIfInBounds_toArray, List.set_cons_zero, List.set_cons_succ, i64_w, i32_w]
    rfl
  refine pure_ (i := 17) (N := some 25) (v := ?_) (a' := ?_) #[true, true, true, true, true, true, true, true, true, true, true, true, true, true, true, true, true, true, false, false, false, false, false, false, false, false, false, false, false, false, false, false, false, false, false, false, false, false, false, false, false] rfl rfl (by kernel_rfl) (fun _ _ _ h => h) (Or.inl ⟨by rfl, ?_⟩) ?_ ?_
  rotate_left
  · intro w'
    go_simp
    with_reducible rfl
  rotate_left
  · simp only [Act.put, List.setIfInBounds_toArray, List.set_cons_zero, List.set_cons_succ, i64_w, i32_w]
    rfl
  refine pure_ (i := 18) (N := some 26) (v := ?_) (a' := ?_) #[true, true, true, true, true, true, true, true, true, true, true, true, true, true, true, true, true, true, true, false, false, false, false, false, false, false, false, false, false, false, false, false, false, false, false, false, false, false, false, false, false] rfl rfl (by kernel_rfl) (fun _ _ _ h => h) (Or.inl ⟨by rfl, ?_⟩) ?_ ?_
  rotate_left
  · intro w'
    go_simp
    with_reducible rfl
  rotate_left
  · simp only [Act.put, List.setIfInBounds_toArray, List.set_cons_zero, List.set_cons_succ, i64_w, i32_w]
    rfl
  refine take_ (i := 19) (N := some 27) (v := ?_) (a' := ?_) #[true, true, true, true, true, true, true, true, true, true, true, true, true, true, true, true, true, true, true, true, false, false, false, false, false, false, false, false, false, false, false, false, false, false, false, false, false, false, false, false, false] rfl rfl (by kernel_rfl) (fun _ _ _ h => h) (Or.inl ⟨by rfl, ?_⟩) hHeld ?_ ?_
  rotate_left
  · rintro w' ⟨s0, s1, s2, s3⟩
    go_simp
    with_reducible rfl
  rotate_left
  · simp only [Act.put, List.setIfInBounds_toArray, List.set_cons_zero, List.set_cons_succ, i64_w, i32_w]
    rfl
  refine one_ (i := 20) (N := some 28) #[true, true, true, true, true, true, true, true, true, true, true, true, true, true, true, true, true, true, true, true, true, false, false, false, false, false, false, false, false, false, false, false, false, false, false, false, false, false, false, false, false] rfl rfl (by kernel_rfl) (by decide) (fun K hK => ?_)
  refine goes_ Tryd.func27 (by kernel_rfl) rfl #[.int .i64 2] (by rfl) rfl rfl (by simp only [List.map_toArray, List.map_cons, List.map_nil]; rfl) ?_
  with_reducible refine (H13.out _).mono ?_
  rintro e w3 ⟨v9, rfl, hz9, hb⟩
  dsimp only at hz9
  obtain ⟨A9, c9, rfl⟩ := hz9.form
  have Z9 : Hid (ZAt w3 (.agg #[.int .i64 2, .slice A9 0 c9]) 2 []) := Lib.hid hz9.zat
  refine ⟨_, rfl, ?_⟩
  replace cur := seq cur hb
  clear hb
  refine hK.out _ _ ⟨cell_below cur x0, cell_below cur x1, cell_below cur y0, cell_below cur y1⟩ (fun hHeld => ?_)
  clear hK K
  refine norm_ (a' := ?_) ?_ ?_
  rotate_left
  · show Act.put _ (some 28) _ = _
    simp only [Act.put, List.setIfInBounds_toArray, List.set_cons_zero, List.set_cons_succ, i64_w, i32_w]
    rfl
  refine one_ (i := 21) (N := some 29) #[true, true, true, true, true, true, true, true, true, true, true, true, true, true, true, true, true, true, true, true, true, true, false, false, false, false, false, false, false, false, false, false, false, false, false, false, false, false, false, false, false] rfl rfl (by kernel_rfl) (by decide) (fun K hK => ?_)
  refine goes_ Tryd.func24 (by kernel_rfl) rfl #[.agg #[.int .i64 2, .slice A5 0 c5], .agg #[.int .i64 2, .slice A9 0 c9]] (by rfl) rfl rfl (by simp only [List.map_toArray, List.map_cons, List.map_nil]; rfl) ?_
  with_reducible refine (H8.out _ _ _ (Z7'.out.below (cur)) Z9.out).mono ?_
  rintro e w3 ⟨rfl, hb⟩
  refine ⟨_, rfl, ?_⟩
  replace cur := seq cur hb
  clear hb
  refine hK.out _ _ ⟨cell_below cur x0, cell_below cur x1, cell_below cur y0, cell_below cur y1⟩ (fun hHeld => ?_)
  clear hK K
  refine norm_ (a' := ?_) ?_ ?_
  rotate_left
  · show Act.put _ (some 29) _ = _
    simp only [Act.put, List.setIfInBounds_toArray, List.set_cons_zero, List.set_cons_succ, i64_w, i32_w]
    rfl
  refine pure_ (i := 22) (N := some 30) (v := ?_) (a' := ?_) #[true, true, true, true, true, true, true, true, true, true, true, true, true, true, true, true, true, true, true, true, true, true, true, false, false, false, false, false, false, false, false, false, false, false, false, false, false, false, false, false, false] rfl rfl (by kernel_rfl) (fun _ _ _ h => h) (Or.inl ⟨by rfl, ?_⟩) ?_ ?_
  rotate_left
  · intro w'
    go_simp
    with_reducible rfl
  rotate_left
  · simp only [Act.put, List.setIfInBounds_toArray, List.set_cons_zero, List.set_cons_succ, i64_w, i32_w]
    rfl
  refine pure_ (i := 23) (N := some 31) (v := ?_) (a' := ?_) #[true, true, true, true, true, true, true, true, true, true, true, true, true, true, true, true, true, true, true, true, true, true, true, true, false, false, false, false, false, false, false, false, false, false, false, false, false, false, false, false, false] rfl rfl (by kernel_rfl) (fun _ _ _ h => h) (Or.inl ⟨by rfl, ?_⟩) ?_ ?_
  rotate_left
  · intro w'
    go_simp
    with_reducible rfl
  rotate_left
  · simp only [Act.put, List.setIfInBounds_toArray, List.set_cons_zero, List.set_cons_succ, i64_w, i32_w]
    rfl
  refine take_ (i := 24) (N := some 32) (v := ?_) (a' := ?_) #[true, true, true, true, true, true, true, true, true, true, true, true, true, true, true, true, true, true, true, true, true, true, true, true, true, false, false, false, false, false, false, false, false, false, false, false, false, false, false, false, false] rfl rfl (by kernel_rfl) (fun _ _ _ h => h) (Or.inl ⟨by rfl, ?_⟩) hHeld ?_ ?_
  rotate_left
  · rintro w' ⟨s0, s1, s2, s3⟩
    go_simp
    with_reducible rfl
  rotate_left
  · simp only [Act.put, List.setIfInBounds_toArray, List.set_cons_zero, List.set_cons_succ, i64_w, i32_w]
    rfl
  refine one_ (i := 25) (N := some 33) #[true, true, true, true, true, true, true, true, true, true, true, true, true, true, true, true, true, true, true, true, true, true, true, true, true, true, false, false, false, false, false, false, false, false, false, false, false, false, false, false, false] rfl rfl (by kernel_rfl) (by decide) (fun K hK => ?_)
  refine value_ (w1 := ?_) (v := ?_) (by rfl) rfl ?_ ?_
  rotate_left 2
  · go_simp
    constructor
    · rfl
    · rfl
  replace cur := psh cur (Nat.le_refl _) (.cells #[.int .i64 5, .int .i64 2] 3)
  have IP := Lib.hid (ints_two w3 5 2)
  refine hK.out _ _ ⟨cell_below cur x0, cell_below cur x1, cell_below cur y0, cell_below cur y1⟩ (fun hHeld => ?_)
  clear hK K
  refine norm_ (a' := ?_) ?_ ?_
  rotate_left
  · show Act.put _ (some 33) _ = _
    simp only [Act.put, List.setIfInBounds_toArray, List.set_cons_zero, List.set_cons_succ, i64_w, i32_w]
    rfl
  refine one_ (i := 26) (N := some 34) #[true, true, true, true, true, true, true, true, true, true, true, true, true, true, true, true, true, true, true, true, true, true, true, true, true, true, true, false, false, false, false, false, false, false, false, false, false, false, false, false, false] rfl rfl (by kernel_rfl) (by decide) (fun K hK => ?_)
  refine goes_ Tryd.func32 (by kernel_rfl) rfl #[.agg #[.int .i64 nz, .slice A3 lz.length c3], .slice (some ⟨w3.heap.size, 0, none⟩) 2 2] (by rfl) rfl rfl (by simp only [List.map_toArray, List.map_cons, List.map_nil]; rfl) ?_
  with_reducible refine (H9.out _ _ _ (Z8.out.below (cur)) IP.out).mono ?_
  rintro e w3 ⟨rfl, hb⟩
  refine ⟨_, rfl, ?_⟩
  replace cur := seq cur hb
  clear hb
  refine hK.out _ _ ⟨cell_below cur x0, cell_below cur x1, cell_below cur y0, cell_below cur y1⟩ (fun hHeld => ?_)
  clear hK K
  refine norm_ (a' := ?_) ?_ ?_
  rotate_left
  · show Act.put _ (some 34) _ = _
    simp only [Act.put, List.setIfInBounds_toArray, List.set_cons_zero, List.set_cons_succ, i64_w, i32_w]
    rfl
  refine pure_ (i := 27) (N := some 35) (v := ?_) (a' := ?_) #[true, true, true, true, true, true, true, true, true, true, true, true, true, true, true, true, true, true, true, true, true, true, true, true, true, true, true, true, false, false, false, false, false, false, false, false, false, false, false, false, false] rfl rfl (by kernel_rfl) (fun _ _ _ h => h) (Or.inl ⟨by rfl, ?_⟩) ?_ ?_
  rotate_left
  · intro w'
    go_simp
    with_reducible rfl
  rotate_left
  · simp only [Act.put, List.setIfInBounds_toArray, List.set_cons_zero, List.set_cons_succ, i64_w, i32_w]
    rfl
  refine pure_ (i := 28) (N := some 36) (v := ?_) (a' := ?_) #[true, true, true, true, true, true, true, true, true, true, true, true, true, true, true, true, true, true, true, true, true, true, true, true, true, true, true, true, true, false, false, false, false, false, false, false, false, false, false, false, false] rfl rfl (by kernel_rfl) (fun _ _ _ h => h) (Or.inl ⟨by rfl, ?_⟩) ?_ ?_
  rotate_left
  · intro w'
    go_simp
    with_reducible rfl
  rotate_left
  · simp only [Act.put, List.setIfInBounds_toArray, List.set_cons_zero, List.set_cons_succ, i64_w, i32_w]
    rfl
  refine take_ (i := 29) (N := some 37) (v := ?_) (a' := ?_) #[true, true, true, true, true, true, true, true, true, true, true, true, true, true, true, true, true, true, true, true, true, true, true, true, true, true, true, true, true, true, false, false, false, false, false, false, false, false, false, false, false] rfl rfl (by kernel_rfl) (fun _ _ _ h => h) (Or.inl ⟨by rfl, ?_⟩) hHeld ?_ ?_
  rotate_left
  · rintro w' ⟨s0, s1, s2, s3⟩
    go_simp
    with_reducible rfl
  rotate_left
  · simp only [Act.put, List.setIfInBounds_toArray, List.set_cons_zero, List.set_cons_succ, i64_w, i32_w]
    rfl
  refine take_ (i := 30) (N := some 38) (v := ?_) (a' := ?_) #[true, true, true, true, true, true, true, true, true, true, true, true, true, true, true, true, true, true, true, true, true, true, true, true, true, true, true, true, true, true, true, false, false, false, false, false, false, false, false, false, false] rfl rfl (by kernel_rfl) (fun _ _ _ h => h) (Or.inl ⟨by rfl, ?_⟩) hHeld ?_ ?_
  rotate_left
  · rintro w' ⟨s0, s1, s2, s3⟩
    go_simp
    with_reducible rfl
  rotate_left
  · simp only [Act.put, List.setIfInBounds_toArray, List.set_cons_zero, List.set_cons_succ, i64_w, i32_w]
    rfl
  refine one_ (i := 31) (N := some 39) #[true, true, true, true, true, true, true, true, true, true, true, true, true, true, true, true, true, true, true, true, true, true, true, true, true, true, true, true, true, true, true, true, false, false, false, false, false, false, false, false, false] rfl rfl (by kernel_rfl) (by decide) (fun K hK => ?_)
  refine goes_ Tryd.func35 (by kernel_rfl) rfl #[.agg #[.int .i64 2, .slice A5 0 c5], .agg #[.int .i64 nz, .slice A3 lz.length c3]] (by rfl) rfl rfl (by simp only [List.map_toArray, List.map_cons, List.map_nil]; rfl) ?_
  with_reducible refine (H10.out _ _ _ (Z7'.out.below (cur)) (Z8.out.below (cur))).mono ?_
  rintro e w3 ⟨rfl, hb⟩
  refine ⟨_, rfl, ?_⟩
  replace cur := seq cur hb
  clear hb
  refine hK.out _ _ ⟨cell_below cur x0, cell_below cur x1, cell_below cur y0, cell_below cur y1⟩ (fun hHeld => ?_)
  clear hK K
  refine norm_ (a' := ?_) ?_ ?_
  rotate_left
  · show Act.put _ (some 39) _ = _
    simp only [Act.put, List.setIfInBounds_toArray, List.set_cons_zero, List.set_cons_succ, i64_w, i32_w]
    rfl
  refine pure_ (i := 32) (N := some 40) (v := ?_) (a' := ?_) #[true, true, true, true, true, true, true, true, true, true, true, true, true, true, true, true, true, true, true, true, true, true, true, true, true, true, true, true, true, true, true, true, true, false, false, false, false, false, false, false, false] rfl rfl (by kernel_rfl) (fun _ _ _ h => h) (Or.inl ⟨by rfl, ?_⟩) ?_ ?_
  rotate_left
  · intro w'
    go_simp
    with_reducible rfl
  rotate_left
  · simp only [Act.put, List.setIfInBounds_toArray, List.set_cons_zero, List.set_cons_succ, i64_w, i32_w]
    rfl
  refine pure_ (i := 33) (N := some 41) (v := ?_) (a' := ?_) #[true, true, true, true, true, true, true, true, true, true, true, true, true, true, true, true, true, true, true, true, true, true, true, true, true, true, true, true, true, true, true, true, true, true, false, false, false, false, false, false, false] rfl rfl (by kernel_rfl) (fun _ _ _ h => h) (Or.inl ⟨by rfl, ?_⟩) ?_ ?_
  rotate_left
  · intro w'
    go_simp
    with_reducible rfl
  rotate_left
  · simp only [Act.put, List.setIfInBounds_toArray, List.set_cons_zero, List.set_cons_succ, i64_w, i32_w]
    rfl
  refine take_ (i := 34) (N := some 42) (v := ?_) (a' := ?_) #[true, true, true, true, true, true, true, true, true, true, true, true, true, true, true, true, true, true, true, true, true, true, true, true, true, true, true, true, true, true, true, true, true, true, true, false, false, false, false, false, false] rfl rfl (by kernel_rfl) (fun _ _ _ h => h) (Or.inl ⟨by rfl, ?_⟩) hHeld ?_ ?_
  rotate_left
  · rintro w' ⟨s0, s1, s2, s3⟩
    go_simp
    with_reducible rfl
  rotate_left
  · simp only [Act.put, List.setIfInBounds_toArray, List.set_cons_zero, List.set_cons_succ, i64_w, i32_w]
    rfl
  refine take_ (i := 35) (N := some 43) (v := ?_) (a' := ?_) #[true, true, true, true, true, true, true, true, true, true, true, true, true, true, true, true, true, true, true, true, true, true, true, true, true, true, true, true, true, true, true, true, true, true, true, true, false, false, false, false, false] rfl rfl (by kernel_rfl) (fun _ _ _ h => h) (Or.inl ⟨by rfl, ?_⟩) hHeld ?_ ?_
  rotate_left
  · rintro w' ⟨s0, s1, s2, s3⟩
    go_simp
    with_reducible rfl
  rotate_left
  · simp only [Act.put, List.setIfInBounds_toArray, List.set_cons_zero, List.set_cons_succ, i64_w, i32_w]
    rfl
  refine take_ (i := 37) (N := some 45) (v := ?_) (a' := ?_) #[true, true, true, true, true, true, true, true, true, true, true, true, true, true, true, true, true, true, true, true, true, true, true, true, true, true, true, true, true, true, true, true, true, true, true, true, false, true, false, false, false] rfl rfl (by kernel_rfl) (fun _ _ _ h => h) (Or.inl ⟨by rfl, ?_⟩) hHeld ?_ ?_
  rotate_left
  · rintro w' ⟨s0, s1, s2, s3⟩
    go_simp
    with_reducible rfl
  rotate_left
  · simp only [Act.put, List.setIfInBounds_toArray, List.set_cons_zero, List.set_cons_succ, i64_w, i32_w]
    rfl
  refine one_ (i := 36) (N := some 44) #[true, true, true, true, true, true, true, true, true, true, true, true, true, true, true, true, true, true, true, true, true, true, true, true, true, true, true, true, true, true, true, true, true, true, true, true, true, true, false, false, false] rfl rfl (by kernel_rfl) (by decide) (fun K hK => ?_)
  refine goes_ Tryd.func33 (by kernel_rfl) rfl #[.agg #[.int .i64 2, .slice A5 0 c5], .agg #[.int .i64 nz, .slice A3 lz.length c3]] (by rfl) rfl rfl (by simp only [List.map_toArray, List.map_cons, List.map_nil]; rfl) ?_
  with_reducible refine (H11.out _ _ _ (Z7'.out.below (cur)) (Z8.out.below (cur))).mono ?_
  rintro e w3 ⟨v10, rfl, hz10, hb⟩
  dsimp only at hz10
  obtain ⟨A10, c10, rfl⟩ := hz10.form
  have Z10 := Lib.hid hz10.zat
  refine ⟨_, rfl, ?_⟩
  replace cur := seq cur hb
  clear hb
  refine hK.out _ _ ⟨cell_below cur x0, cell_below cur x1, cell_below cur y0, cell_below cur y1⟩ (fun hHeld => ?_)
  clear hK K
  refine norm_ (a' := ?_) ?_ ?_
  rotate_left
  · show Act.put _ (some 44) _ = _
    simp only [Act.put, List.setIfInBounds_toArray, List.set_cons_zero, List.set_cons_succ, i64_w, i32_w]
    rfl
  refine one_ (i := 38) (N := some 46) #[true, true, true, true, true, true, true, true, true, true, true, true, true, true, true, true, true, true, true, true, true, true, true, true, true, true, true, true, true, true, true, true, true, true, true, true, true, true, true, false, false] rfl rfl (by kernel_rfl) (by decide) (fun K hK => ?_)
  refine goes_ Tryd.func24 (by kernel_rfl) rfl #[.agg #[.int .i64 nz, .slice A10 lz.length c10], .agg #[.int .i64 nz, .slice A3 lz.length c3]] (by rfl) rfl rfl (by simp only [List.map_toArray, List.map_cons, List.map_nil]; rfl) ?_
  with_reducible refine (H12.out _ _ _ Z10.out (Z8.out.below (cur))).mono ?_
  rintro e w3 ⟨rfl, hb⟩
  refine ⟨_, rfl, ?_⟩
  replace cur := seq cur hb
  clear hb
  refine hK.out _ _ ⟨cell_below cur x0, cell_below cur x1, cell_below cur y0, cell_below cur y1⟩ (fun hHeld => ?_)
  clear hK K
  refine norm_ (a' := ?_) ?_ ?_
  rotate_left
  · show Act.put _ (some 46) _ = _
    simp only [Act.put, List.setIfInBounds_toArray, List.set_cons_zero, List.set_cons_succ, i64_w, i32_w]
    rfl
  refine pure_ (i := 39) (N := some 47) (v := ?_) (a' := ?_) #[true, true, true, true, true, true, true, true, true, true, true, true, true, true, true, true, true, true, true, true, true, true, true, true, true, true, true, true, true, true, true, true, true, true, true, true, true, true, true, true, false] rfl rfl (by kernel_rfl) (fun _ _ _ h => h) (Or.inl ⟨by rfl, ?_⟩) ?_ ?_
  rotate_left
  · intro w'
    go_simp
    with_reducible rfl
  rotate_left
  · simp only [Act.put, List.setIfInBounds_toArray, List.set_cons_zero, List.set_cons_succ, i64_w, i32_w]
    rfl
  refine pure_ (i := 40) (N := some 0) (v := ?_) (a' := ?_) #[true, true, true, true, true, true, true, true, true, true, true, true, true, true, true, true, true, true, true, true, true, true, true, true, true, true, true, true, true, true, true, true, true, true, true, true, true, true, true, true, true] rfl rfl (by kernel_rfl) (fun _ _ _ h => h) (Or.inl ⟨by rfl, ?_⟩) ?_ ?_
  rotate_left
  · intro w'
    go_simp
    with_reducible rfl
  rotate_left
  · simp only [Act.put, List.setIfInBounds_toArray, List.set_cons_zero, List.set_cons_succ, i64_w, i32_w]
    rfl
  refine done_ (by kernel_rfl) ?_
  have HCur := Lib.hid (seq cur6 cur)
  clear cur cur4 cur5 cur6
  go_wp2_with fail
  go_ret
  exact ⟨rfl, HCur.out⟩
end Go.Proofs.YtjhccmjgfngkcaaDoor.PZoneSame
