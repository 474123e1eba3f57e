-- PRINTED BY print.sh 35421559b90ae4d0a3588c463048766b98c2df88dd9212a6774a882060cdf62d: not written by this session
import Derived.Test.YtjddafaaplhnfaaDoorPSpanReachedx0
import Derived.Test.YtjddafaaplhnfaaDoorPSpanReachedx7
import Derived.Test.YtjddafaaplhnfaaDoorPSpanReachedx46
import Derived.Test.YtjddafaaplhnfaaDoorPSpanReachedx47
namespace Go.Proofs.YtjddafaaplhnfaaDoor.PSpanReached
open Go.RowKit Go.Proofs.YtjddafaaplhnfaaDoorW.PrintWords Go.Proofs.YtjddafaaplhnfaaDoorW.PrintLast Go.Proofs.YtjddafaaplhnfaaDoorW.PrintMore
attribute [local go_sem] max2_int min2_int max_two min_two max_three min_three max_four min_four   -- for this text's walks alone
set_option linter.unusedVariables false
set_option linter.unusedSimpArgs false

/-! ### bound_Calc: function 36 -/
def bound_Calc.j0 : Nat → Int → Int → Int → Bool → Option (Int × Int)
  | 0, _, _, _, _ => none
  | k + 1, x0, x1, x2, x23 => if x23 = true then (some (0, 1)) else (if x0 = 1 then ((bound_told.f (wrap64 (x1 + (wrap64 (-x2)))) true).bind fun bt249 => (some (bt249.1, bt249.2))) else (if x0 = 0 then ((bound_told.f (wrap64 (x1 + x2)) true).bind fun bt251 => (some (bt251.1, bt251.2))) else (if x0 = 2 then ((bound_times.f k x1 x2).bind fun bt255 => ((bound_told.f bt255.1 bt255.2).bind fun bt257 => (some (bt257.1, bt257.2)))) else (if x2 = 0 then (some (0, 11)) else ((bound_told.f (wrap64 (Int.tdiv x1 x2)) true).bind fun bt253 => (some (bt253.1, bt253.2)))))))
def bound_Calc.f (k : Nat) (a0 : Int) (a1 : Int) (a2 : Int) : Option (Int × Int) := if a0 < 0 then (bound_Calc.j0 k a0 a1 a2 true) else (if a0 > 3 then (bound_Calc.j0 k a0 a1 a2 true) else ((bound_In.f a1).bind fun t247 => (if t247 = true then ((bound_In.f a2).bind fun t248 => (bound_Calc.j0 k a0 a1 a2 (!t248))) else (bound_Calc.j0 k a0 a1 a2 true))))
theorem bound_Calc.mono_l : ∀ k, (∀ y0 y1 y2 y3, LeO (bound_Calc.j0 k y0 y1 y2 y3) (bound_Calc.j0 (k + 1) y0 y1 y2 y3))
  | 0 => fun _ _ _ _ r h => by simp [bound_Calc.j0] at h
  | k + 1 => by
    have ih0 := bound_Calc.mono_l k
    · intro y0 y1 y2 y3
      unfold bound_Calc.j0
      repeat' first
      | (with_reducible exact ih0 _ _ _ _)
      | (with_reducible exact bound_times.mono _ _ _)
      | (with_reducible exact LeO.refl _)
      | (with_reducible exact LeO.none _)
      | (with_reducible refine LeO.ite ?_ ?_)
      | (with_reducible refine LeO.bind ?_ (fun _ => ?_))
      | exact ih0 _ _ _ _
      | exact bound_times.mono _ _ _
      | exact LeO.none _
      | refine LeO.ite ?_ ?_
      | refine LeO.bind ?_ (fun _ => ?_)
theorem bound_Calc.mono : ∀ a0 a1 a2 k, LeO (bound_Calc.f k a0 a1 a2) (bound_Calc.f (k + 1) a0 a1 a2) := by
  intro a0 a1 a2 k
  have ih0 := bound_Calc.mono_l k
  unfold bound_Calc.f
  repeat' first
      | (with_reducible exact ih0 _ _ _ _)
      | (with_reducible exact bound_times.mono _ _ _)
      | (with_reducible exact LeO.refl _)
      | (with_reducible exact LeO.none _)
      | (with_reducible refine LeO.ite ?_ ?_)
      | (with_reducible refine LeO.bind ?_ (fun _ => ?_))
      | exact ih0 _ _ _ _
      | exact bound_times.mono _ _ _
      | exact LeO.none _
      | refine LeO.ite ?_ ?_
      | refine LeO.bind ?_ (fun _ => ?_)
set_option maxHeartbeats 8000000 in
set_option maxRecDepth 100000 in
theorem bound_Calc.calls (k : Nat) (a0 : Int) (a1 : Int) (a2 : Int) (r1 : Int) (r2 : Int) (w : World) (h : bound_Calc.f k a0 a1 a2 = some (r1, r2)) :
    Calls Tryd.prog 36 #[.int .i64 a0, .int .i64 a1, .int .i64 a2] w fun e w' => e = .returned (.tuple #[.int .i64 r1, .int .i64 r2]) ∧ Below w.heap.size w w' := by
  have HB := Aside0.mk (Below.refl w.heap.size w)
  have H : (if a0 < 0 then (bound_Calc.j0 k a0 a1 a2 true) else (if a0 > 3 then (bound_Calc.j0 k a0 a1 a2 true) else ((bound_In.f a1).bind fun t247 => (if t247 = true then ((bound_In.f a2).bind fun t248 => (bound_Calc.j0 k a0 a1 a2 (!t248))) else (bound_Calc.j0 k a0 a1 a2 true))))) = some (r1, r2) := h
  clear h
  have HC4 := Aside0.mk H
  clear H
  go_enter Tryd.func36, Tryd.ntmps36
  go_upto_region 1 with (fail)
  go_cut [23] (fun v23 wc => ∃ (kq : Nat) (x23_3 : Bool), v23 = .bool x23_3 ∧ Aside0 (bound_Calc.j0 kq a0 a1 a2 x23_3 = some (r1, r2)) ∧ Aside0 (kq ≤ k) ∧ Aside0 (Below w.heap.size w wc))
  case first =>
    have H := HC4.out
    clear HC4
    by_cases c5 : a0 < 0
    · rw [if_pos c5] at H
      have c5b0 : decide (a0 < 0) = true := decide_eq_true c5
      clear c5
      (first | rw [c5b0] | (simp only [i64_w, i32_w]; rw [c5b0]) | skip)
      have H' := Aside0.mk H
      clear H
      go_wp2
      go_meet
      case rel => exact ⟨_, (true), (by first | rfl | (simp; done) | (simp [*]; done)), H', ⟨by first | omega | exact Nat.le_refl _⟩, ⟨by repeat (first | (with_reducible first | exact HB.out | apply below_alloc | apply pw_below_drewN | apply below_drew1) | exact HB.out)⟩⟩
    · rw [if_neg c5] at H
      have c5b0 : decide (a0 < 0) = false := decide_eq_false c5
      clear c5
      (first | rw [c5b0] | (simp only [i64_w, i32_w]; rw [c5b0]) | skip)
      by_cases c6 : a0 > 3
      · rw [if_pos c6] at H
        have c6b0 : decide (3 < a0) = true := decide_eq_true c6
        clear c6
        have H' := Aside0.mk H
        clear H
        go_wp2
        go_meet
        case rel => exact ⟨_, (true), (by first | rfl | (simp; done) | (simp [*]; done)), H', ⟨by first | omega | exact Nat.le_refl _⟩, ⟨by repeat (first | (with_reducible first | exact HB.out | apply below_alloc | apply pw_below_drewN | apply below_drew1) | exact HB.out)⟩⟩
      · rw [if_neg c6] at H
        have c6b0 : decide (3 < a0) = false := decide_eq_false c6
        clear c6
        replace H := Option.bind_eq_some_iff.mp H
        obtain ⟨t247, A70, H⟩ := H
        replace H : (if t247 = true then ((bound_In.f a2).bind fun t248 => (bound_Calc.j0 k a0 a1 a2 (!t248))) else (bound_Calc.j0 k a0 a1 a2 true)) = some (r1, r2) := H
        have A7 := Aside0.mk A70
        clear A70
        by_cases c8 : t247 = true
        · subst c8
          have H1 : ((bound_In.f a2).bind fun t248 => (bound_Calc.j0 k a0 a1 a2 (!t248))) = some (r1, r2) := by rw [if_pos rfl] at H; exact H
          clear H
          have H := H1
          clear H1
          replace H := Option.bind_eq_some_iff.mp H
          obtain ⟨t248, A90, H⟩ := H
          replace H : (bound_Calc.j0 k a0 a1 a2 (!t248)) = some (r1, r2) := H
          have A9 := Aside0.mk A90
          clear A90
          have H' := Aside0.mk H
          clear H
          go_wp2_with (first | (go_at_call 41; (with_reducible refine (bound_In.calls a1 true _ A7.out).mono ?_); rintro e w' ⟨rfl, ⟨nd, rfl⟩⟩) | (go_at_call 41; (with_reducible refine (bound_In.calls a2 t248 _ A9.out).mono ?_); rintro e w' ⟨rfl, ⟨nd, rfl⟩⟩))
          go_meet
          case rel => exact ⟨_, (!t248), (by first | rfl | (simp; done) | (simp [*]; done)), H', ⟨by first | omega | exact Nat.le_refl _⟩, ⟨by repeat (first | (with_reducible first | exact HB.out | apply below_alloc | apply pw_below_drewN | apply below_drew1) | exact HB.out)⟩⟩
        · replace c8 := Bool.eq_false_iff.mpr c8
          subst c8
          have H1 : (bound_Calc.j0 k a0 a1 a2 true) = some (r1, r2) := by rw [if_neg (show ¬ (false = true) by decide)] at H; exact H
          clear H
          have H := H1
          clear H1
          have H' := Aside0.mk H
          clear H
          go_wp2_with (first | (go_at_call 41; (with_reducible refine (bound_In.calls a1 false _ A7.out).mono ?_); rintro e w' ⟨rfl, ⟨nd, rfl⟩⟩))
          go_meet
          case rel => exact ⟨_, (true), (by first | rfl | (simp; done) | (simp [*]; done)), H', ⟨by first | omega | exact Nat.le_refl _⟩, ⟨by repeat (first | (with_reducible first | exact HB.out | apply below_alloc | apply pw_below_drewN | apply below_drew1) | exact HB.out)⟩⟩
  case rest =>
    clear HC4
    try clear p2
    try clear c3
    try clear c5
    try clear c5b0
    try clear c6
    try clear c6b0
    try clear c8
    obtain ⟨kq, x23_3, rfl, HA, HJ3, HB⟩ := hcut
    cases kq with
    | zero => exact absurd HA.out (by simp [bound_Calc.j0])
    | succ kj3 =>
      have H := HA.out
      clear HA
      simp only [bound_Calc.j0] at H
      by_cases c10 : x23_3 = true
      · subst c10
        have H1 : (some (0, 1)) = some (r1, r2) := by rw [if_pos rfl] at H; exact H
        clear H
        have H := H1
        clear H1
        simp only [Option.some.injEq, Prod.mk.injEq] at H
        obtain ⟨rfl, rfl⟩ := H
        go_wp2
        go_ret2
        exact ⟨by first | rfl | (simp [errW_none, errW_some] <;> rfl) | (simp [*, errW_none, errW_some] <;> rfl), by repeat (first | (with_reducible first | exact HB.out | apply below_alloc | apply pw_below_drewN | apply below_drew1) | exact HB.out)⟩
      · replace c10 := Bool.eq_false_iff.mpr c10
        subst c10
        have H1 : (if a0 = 1 then ((bound_told.f (wrap64 (a1 + (wrap64 (-a2)))) true).bind fun bt249 => (some (bt249.1, bt249.2))) else (if a0 = 0 then ((bound_told.f (wrap64 (a1 + a2)) true).bind fun bt251 => (some (bt251.1, bt251.2))) else (if a0 = 2 then ((bound_times.f kj3 a1 a2).bind fun bt255 => ((bound_told.f bt255.1 bt255.2).bind fun bt257 => (some (bt257.1, bt257.2)))) else (if a2 = 0 then (some (0, 11)) else ((bound_told.f (wrap64 (Int.tdiv a1 a2)) true).bind fun bt253 => (some (bt253.1, bt253.2))))))) = some (r1, r2) := by rw [if_neg (show ¬ (false = true) by decide)] at H; exact H
        clear H
        have H := H1
        clear H1
        by_cases c11 : a0 = 1
        · rw [if_pos c11] at H
          have c11b0 : (a0 == 1) = true := beq_iff_eq.mpr c11
          have c11b1 : (a0 != 1) = false := bne_eq_false_iff_eq.mpr c11
          clear c11
          replace H := Option.bind_eq_some_iff.mp H
          obtain ⟨⟨t249, t250⟩, A120, H⟩ := H
          replace H : (some (t249, t250)) = some (r1, r2) := H
          have A12 := Aside0.mk A120
          clear A120
          simp only [Option.some.injEq, Prod.mk.injEq] at H
          obtain ⟨rfl, rfl⟩ := H
          go_wp2_with (first | ((with_reducible refine gate_callee (f := 52) rfl ?_); refine goesL_ (some 36) rfl rfl Tryd.func52 (by kernel_rfl) rfl #[.int .i64 (wrap64 (a1 + (wrap64 (-a2)))), .bool true] rfl (by (try simp only [List.map_toArray, List.map_cons, List.map_nil]); first | done | rfl | (simp only [List.length_drop, List.length_take]; rfl)) ?_; (with_reducible refine (bound_told.calls (wrap64 (a1 + (wrap64 (-a2)))) true t249 t250 _ A12.out).mono ?_); rintro e w' ⟨rfl, ⟨nd, rfl⟩⟩; refine ⟨_, rfl, ?_⟩))
          go_ret2
          exact ⟨by first | rfl | (simp [errW_none, errW_some] <;> rfl) | (simp [*, errW_none, errW_some] <;> rfl), by repeat (first | (with_reducible first | exact HB.out | apply below_alloc | apply pw_below_drewN | apply below_drew1) | exact HB.out)⟩
        · rw [if_neg c11] at H
          have c11b0 : (a0 == 1) = false := beq_eq_false_iff_ne.mpr c11
          have c11b1 : (a0 != 1) = true := bne_iff_ne.mpr c11
          by_cases c13 : a0 = 0
          · rw [if_pos c13] at H
            have c13b0 : (a0 == 0) = true := beq_iff_eq.mpr c13
            have c13b1 : (a0 != 0) = false := bne_eq_false_iff_eq.mpr c13
            clear c13
            replace H := Option.bind_eq_some_iff.mp H
            obtain ⟨⟨t251, t252⟩, A140, H⟩ := H
            replace H : (some (t251, t252)) = some (r1, r2) := H
            have A14 := Aside0.mk A140
            clear A140
            simp only [Option.some.injEq, Prod.mk.injEq] at H
            obtain ⟨rfl, rfl⟩ := H
            go_wp2_with (first | ((with_reducible refine gate_callee (f := 52) rfl ?_); refine goesL_ (some 36) rfl rfl Tryd.func52 (by kernel_rfl) rfl #[.int .i64 (wrap64 (a1 + a2)), .bool true] rfl (by (try simp only [List.map_toArray, List.map_cons, List.map_nil]); first | done | rfl | (simp only [List.length_drop, List.length_take]; rfl)) ?_; (with_reducible refine (bound_told.calls (wrap64 (a1 + a2)) true t251 t252 _ A14.out).mono ?_); rintro e w' ⟨rfl, ⟨nd, rfl⟩⟩; refine ⟨_, rfl, ?_⟩))
            go_ret2
            exact ⟨by first | rfl | (simp [errW_none, errW_some] <;> rfl) | (simp [*, errW_none, errW_some] <;> rfl), by repeat (first | (with_reducible first | exact HB.out | apply below_alloc | apply pw_below_drewN | apply below_drew1) | exact HB.out)⟩
          · rw [if_neg c13] at H
            have c13b0 : (a0 == 0) = false := beq_eq_false_iff_ne.mpr c13
            have c13b1 : (a0 != 0) = true := bne_iff_ne.mpr c13
            by_cases c15 : a0 = 2
            · rw [if_pos c15] at H
              have c15b0 : (a0 == 2) = true := beq_iff_eq.mpr c15
              have c15b1 : (a0 != 2) = false := bne_eq_false_iff_eq.mpr c15
              clear c15
              replace H := Option.bind_eq_some_iff.mp H
              obtain ⟨⟨t255, t256⟩, A160, H⟩ := H
              replace H : ((bound_told.f t255 t256).bind fun bt257 => (some (bt257.1, bt257.2))) = some (r1, r2) := H
              have A16 := Aside0.mk A160
              clear A160
              replace H := Option.bind_eq_some_iff.mp H
              obtain ⟨⟨t257, t258⟩, A170, H⟩ := H
              replace H : (some (t257, t258)) = some (r1, r2) := H
              have A17 := Aside0.mk A170
              clear A170
              simp only [Option.some.injEq, Prod.mk.injEq] at H
              obtain ⟨rfl, rfl⟩ := H
              go_wp2_with (first | ((with_reducible refine gate_callee (f := 53) rfl ?_); refine goesL_ (some 41) rfl rfl Tryd.func53 (by kernel_rfl) rfl #[.int .i64 a1, .int .i64 a2] rfl (by (try simp only [List.map_toArray, List.map_cons, List.map_nil]); first | done | rfl | (simp only [List.length_drop, List.length_take]; rfl)) ?_; (with_reducible refine (bound_times.calls kj3 a1 a2 t255 t256 _ A16.out).mono ?_); rintro e w18 ⟨rfl, hb⟩; refine ⟨_, rfl, ?_⟩; have n0_ := Aside0.mk (below_step (by repeat (first | (with_reducible first | exact HB.out | apply below_alloc | apply pw_below_drewN | apply below_drew1) | exact HB.out)) hb); clear HB; have HB := n0_; clear n0_; (try clear hb); (try clear hb2); (try clear hk); (try clear hi)) | ((with_reducible refine gate_callee (f := 52) rfl ?_); refine goesL_ (some 44) rfl rfl Tryd.func52 (by kernel_rfl) rfl #[.int .i64 t255, .bool t256] rfl (by (try simp only [List.map_toArray, List.map_cons, List.map_nil]); first | done | rfl | (simp only [List.length_drop, List.length_take]; rfl)) ?_; (with_reducible refine (bound_told.calls t255 t256 t257 t258 _ A17.out).mono ?_); rintro e w' ⟨rfl, ⟨nd, rfl⟩⟩; refine ⟨_, rfl, ?_⟩))
              go_ret2
              exact ⟨by first | rfl | (simp [errW_none, errW_some] <;> rfl) | (simp [*, errW_none, errW_some] <;> rfl), by repeat (first | (with_reducible first | exact HB.out | apply below_alloc | apply pw_below_drewN | apply below_drew1) | exact HB.out)⟩
            · rw [if_neg c15] at H
              have c15b0 : (a0 == 2) = false := beq_eq_false_iff_ne.mpr c15
              have c15b1 : (a0 != 2) = true := bne_iff_ne.mpr c15
              by_cases c19 : a2 = 0
              · rw [if_pos c19] at H
                have c19b0 : (a2 == 0) = true := beq_iff_eq.mpr c19
                have c19b1 : (a2 != 0) = false := bne_eq_false_iff_eq.mpr c19
                clear c19
                simp only [Option.some.injEq, Prod.mk.injEq] at H
                obtain ⟨rfl, rfl⟩ := H
                go_wp2
                go_ret2
                exact ⟨by first | rfl | (simp [errW_none, errW_some] <;> rfl) | (simp [*, errW_none, errW_some] <;> rfl), by repeat (first | (with_reducible first | exact HB.out | apply below_alloc | apply pw_below_drewN | apply below_drew1) | exact HB.out)⟩
              · rw [if_neg c19] at H
                have c19b0 : (a2 == 0) = false := beq_eq_false_iff_ne.mpr c19
                have c19b1 : (a2 != 0) = true := bne_iff_ne.mpr c19
                replace H := Option.bind_eq_some_iff.mp H
                obtain ⟨⟨t253, t254⟩, A200, H⟩ := H
                replace H : (some (t253, t254)) = some (r1, r2) := H
                have A20 := Aside0.mk A200
                clear A200
                simp only [Option.some.injEq, Prod.mk.injEq] at H
                obtain ⟨rfl, rfl⟩ := H
                go_wp2_with (first | ((with_reducible refine gate_callee (f := 52) rfl ?_); refine goesL_ (some 52) rfl rfl Tryd.func52 (by kernel_rfl) rfl #[.int .i64 (wrap64 (Int.tdiv a1 a2)), .bool true] rfl (by (try simp only [List.map_toArray, List.map_cons, List.map_nil]); first | done | rfl | (simp only [List.length_drop, List.length_take]; rfl)) ?_; (with_reducible refine (bound_told.calls (wrap64 (Int.tdiv a1 a2)) true t253 t254 _ A20.out).mono ?_); rintro e w' ⟨rfl, ⟨nd, rfl⟩⟩; refine ⟨_, rfl, ?_⟩))
                go_ret2
                exact ⟨by first | rfl | (simp [errW_none, errW_some] <;> rfl) | (simp [*, errW_none, errW_some] <;> rfl), by repeat (first | (with_reducible first | exact HB.out | apply below_alloc | apply pw_below_drewN | apply below_drew1) | exact HB.out)⟩

end Go.Proofs.YtjddafaaplhnfaaDoor.PSpanReached
