-- PRINTED BY print.sh 35421559b90ae4d0a3588c463048766b98c2df88dd9212a6774a882060cdf62d: not written by this session
import Derived.Test.YtjddafaaplhnfaaDoorPSpanCalcsx0
import Derived.Test.YtjddafaaplhnfaaDoorPSpanCalcsx27
import Derived.Test.YtjddafaaplhnfaaDoorPSpanCalcsx28
namespace Go.Proofs.YtjddafaaplhnfaaDoor.PSpanCalcs
open Go.RowKit Go.Proofs.YtjddafaaplhnfaaDoorW.PrintWords Go.Proofs.YtjddafaaplhnfaaDoorW.PrintLast Go.Proofs.YtjddafaaplhnfaaDoorW.PrintMore
attribute [local go_sem] max2_int min2_int max_two min_two max_three min_three max_four min_four   -- for this text's walks alone
set_option linter.unusedVariables false
set_option linter.unusedSimpArgs false

/-! ### helmsmanref02_one: function 43 -/
def helmsmanref02_one.f (k : Nat) (a0 : Int) (a1 : Int) (a2 : Int) : Option (Int × Bool) := if a0 = 0 then (some (wrap64 (a1 + a2), true)) else (if a0 = 1 then (some (wrap64 (a1 - a2), true)) else (if a0 = 2 then ((helmsmanref01_Calc.f k 2 a1 a2).bind fun bt213 => (if bt213.2 = 0 then (some (bt213.1, true)) else (if ((decide (a1 < 0)) != (decide (a2 < 0))) = true then ((helmsmanref01_Edge.f).bind fun t215 => (some (wrap64 (-t215), true))) else ((helmsmanref01_Edge.f).bind fun t216 => (some (t216, true)))))) else (if a2 = 0 then (some (0, false)) else (some (wrap64 (Int.tdiv a1 a2), true)))))
theorem helmsmanref02_one.mono : ∀ a0 a1 a2 k, LeO (helmsmanref02_one.f k a0 a1 a2) (helmsmanref02_one.f (k + 1) a0 a1 a2) := by
  intro a0 a1 a2 k
  unfold helmsmanref02_one.f
  repeat' first
      | (with_reducible exact helmsmanref01_Calc.mono _ _ _ _)
      | (with_reducible exact LeO.refl _)
      | (with_reducible exact LeO.none _)
      | (with_reducible refine LeO.ite ?_ ?_)
      | (with_reducible refine LeO.bind ?_ (fun _ => ?_))
      | exact helmsmanref01_Calc.mono _ _ _ _
      | exact LeO.none _
      | refine LeO.ite ?_ ?_
      | refine LeO.bind ?_ (fun _ => ?_)
set_option maxHeartbeats 8000000 in
set_option maxRecDepth 100000 in
theorem helmsmanref02_one.calls (k : Nat) (a0 : Int) (a1 : Int) (a2 : Int) (r1 : Int) (r2 : Bool) (w : World) (h : helmsmanref02_one.f k a0 a1 a2 = some (r1, r2)) :
    Calls Tryd.prog 43 #[.int .i64 a0, .int .i64 a1, .int .i64 a2] w fun e w' => e = .returned (.tuple #[.int .i64 r1, .bool r2]) ∧ Drawn0 w w' := by
  have H : (if a0 = 0 then (some (wrap64 (a1 + a2), true)) else (if a0 = 1 then (some (wrap64 (a1 - a2), true)) else (if a0 = 2 then ((helmsmanref01_Calc.f k 2 a1 a2).bind fun bt213 => (if bt213.2 = 0 then (some (bt213.1, true)) else (if ((decide (a1 < 0)) != (decide (a2 < 0))) = true then ((helmsmanref01_Edge.f).bind fun t215 => (some (wrap64 (-t215), true))) else ((helmsmanref01_Edge.f).bind fun t216 => (some (t216, true)))))) else (if a2 = 0 then (some (0, false)) else (some (wrap64 (Int.tdiv a1 a2), true)))))) = some (r1, r2) := h
  clear h
  by_cases c4 : a0 = 0
  · rw [if_pos c4] at H
    have c4b0 : (a0 == 0) = true := beq_iff_eq.mpr c4
    have c4b1 : (a0 != 0) = false := bne_eq_false_iff_eq.mpr c4
    clear c4
    simp only [Option.some.injEq, Prod.mk.injEq] at H
    obtain ⟨rfl, rfl⟩ := H
    go_enter Tryd.func43, Tryd.ntmps43
    go_wp2
    go_ret2
    exact ⟨by first | rfl | (simp; done) | (simp [*]; done), by repeat (first | exact Drawn0.refl _ | apply Drawn0.step)⟩
  · rw [if_neg c4] at H
    have c4b0 : (a0 == 0) = false := beq_eq_false_iff_ne.mpr c4
    have c4b1 : (a0 != 0) = true := bne_iff_ne.mpr c4
    by_cases c5 : a0 = 1
    · rw [if_pos c5] at H
      have c5b0 : (a0 == 1) = true := beq_iff_eq.mpr c5
      have c5b1 : (a0 != 1) = false := bne_eq_false_iff_eq.mpr c5
      clear c5
      simp only [Option.some.injEq, Prod.mk.injEq] at H
      obtain ⟨rfl, rfl⟩ := H
      go_enter Tryd.func43, Tryd.ntmps43
      go_wp2
      go_ret2
      exact ⟨by first | rfl | (simp; done) | (simp [*]; done), by repeat (first | exact Drawn0.refl _ | apply Drawn0.step)⟩
    · rw [if_neg c5] at H
      have c5b0 : (a0 == 1) = false := beq_eq_false_iff_ne.mpr c5
      have c5b1 : (a0 != 1) = true := bne_iff_ne.mpr c5
      by_cases c6 : a0 = 2
      · rw [if_pos c6] at H
        have c6b0 : (a0 == 2) = true := beq_iff_eq.mpr c6
        have c6b1 : (a0 != 2) = false := bne_eq_false_iff_eq.mpr c6
        clear c6
        replace H := Option.bind_eq_some_iff.mp H
        obtain ⟨⟨t213, t214⟩, A70, H⟩ := H
        replace H : (if t214 = 0 then (some (t213, true)) else (if ((decide (a1 < 0)) != (decide (a2 < 0))) = true then ((helmsmanref01_Edge.f).bind fun t215 => (some (wrap64 (-t215), true))) else ((helmsmanref01_Edge.f).bind fun t216 => (some (t216, true))))) = some (r1, r2) := H
        have A7 := Aside0.mk A70
        clear A70
        by_cases c8 : t214 = 0
        · rw [if_pos c8] at H
          have c8b0 : (t214 == 0) = true := beq_iff_eq.mpr c8
          have c8b1 : (t214 != 0) = false := bne_eq_false_iff_eq.mpr c8
          clear c8
          simp only [Option.some.injEq, Prod.mk.injEq] at H
          obtain ⟨rfl, rfl⟩ := H
          go_enter Tryd.func43, Tryd.ntmps43
          go_wp2_with (first | ((with_reducible refine gate_callee (f := 56) rfl ?_); refine goesL_ (some 26) rfl rfl Tryd.func56 (by kernel_rfl) rfl #[.int .i64 2, .int .i64 a1, .int .i64 a2] rfl (by (try simp only [List.map_toArray, List.map_cons, List.map_nil]); first | done | rfl | (simp only [List.length_drop, List.length_take]; rfl)) ?_; (with_reducible refine (helmsmanref01_Calc.calls k 2 a1 a2 t213 t214 _ A7.out).mono ?_); rintro e w' ⟨rfl, ⟨nd, rfl⟩⟩; refine ⟨_, rfl, ?_⟩))
          go_ret2
          exact ⟨by first | rfl | (simp; done) | (simp [*]; done), by repeat (first | exact Drawn0.refl _ | apply Drawn0.step)⟩
        · rw [if_neg c8] at H
          have c8b0 : (t214 == 0) = false := beq_eq_false_iff_ne.mpr c8
          have c8b1 : (t214 != 0) = true := bne_iff_ne.mpr c8
          by_cases c9 : ((decide (a1 < 0)) != (decide (a2 < 0))) = true
          · rw [if_pos c9] at H
            have c9b0 : ((decide (a1 < 0)) != (decide (a2 < 0))) = true := c9
            (try (have c9b1 : decide ((decide (a1 < 0)) = (decide (a2 < 0))) = false := by simpa using c9))
            (try (have c9b2 : ((decide (a1 < 0)) == (decide (a2 < 0))) = false := by simpa using c9))
            (try (have c9b3 : ¬ ((decide (a1 < 0)) = (decide (a2 < 0))) := by simpa using c9))
            clear c9
            replace H := Option.bind_eq_some_iff.mp H
            obtain ⟨t215, A100, H⟩ := H
            replace H : (some (wrap64 (-t215), true)) = some (r1, r2) := H
            have A10 := Aside0.mk A100
            clear A100
            simp only [Option.some.injEq, Prod.mk.injEq] at H
            obtain ⟨rfl, rfl⟩ := H
            go_enter Tryd.func43, Tryd.ntmps43
            go_wp2_with (first | ((with_reducible refine gate_callee (f := 56) rfl ?_); refine goesL_ (some 26) rfl rfl Tryd.func56 (by kernel_rfl) rfl #[.int .i64 2, .int .i64 a1, .int .i64 a2] rfl (by (try simp only [List.map_toArray, List.map_cons, List.map_nil]); first | done | rfl | (simp only [List.length_drop, List.length_take]; rfl)) ?_; (with_reducible refine (helmsmanref01_Calc.calls k 2 a1 a2 t213 t214 _ A7.out).mono ?_); rintro e w' ⟨rfl, ⟨nd, rfl⟩⟩; refine ⟨_, rfl, ?_⟩) | ((with_reducible refine gate_callee (f := 57) rfl ?_); refine goesL_ (some 37) rfl rfl Tryd.func57 (by kernel_rfl) rfl #[] rfl (by (try simp only [List.map_toArray, List.map_cons, List.map_nil]); first | done | rfl | (simp only [List.length_drop, List.length_take]; rfl)) ?_; (with_reducible refine (helmsmanref01_Edge.calls  t215 _ A10.out).mono ?_); rintro e w' ⟨rfl, ⟨nd, rfl⟩⟩; refine ⟨_, rfl, ?_⟩))
            go_ret2
            exact ⟨by first | rfl | (simp; done) | (simp [*]; done), by repeat (first | exact Drawn0.refl _ | apply Drawn0.step)⟩
          · rw [if_neg c9] at H
            have c9b0 : ((decide (a1 < 0)) != (decide (a2 < 0))) = false := by simpa using c9
            (try (have c9b1 : decide ((decide (a1 < 0)) = (decide (a2 < 0))) = true := by simpa using c9))
            (try (have c9b2 : ((decide (a1 < 0)) == (decide (a2 < 0))) = true := by simpa using c9))
            clear c9
            replace H := Option.bind_eq_some_iff.mp H
            obtain ⟨t216, A110, H⟩ := H
            replace H : (some (t216, true)) = some (r1, r2) := H
            have A11 := Aside0.mk A110
            clear A110
            simp only [Option.some.injEq, Prod.mk.injEq] at H
            obtain ⟨rfl, rfl⟩ := H
            go_enter Tryd.func43, Tryd.ntmps43
            go_wp2_with (first | ((with_reducible refine gate_callee (f := 56) rfl ?_); refine goesL_ (some 26) rfl rfl Tryd.func56 (by kernel_rfl) rfl #[.int .i64 2, .int .i64 a1, .int .i64 a2] rfl (by (try simp only [List.map_toArray, List.map_cons, List.map_nil]); first | done | rfl | (simp only [List.length_drop, List.length_take]; rfl)) ?_; (with_reducible refine (helmsmanref01_Calc.calls k 2 a1 a2 t213 t214 _ A7.out).mono ?_); rintro e w' ⟨rfl, ⟨nd, rfl⟩⟩; refine ⟨_, rfl, ?_⟩) | ((with_reducible refine gate_callee (f := 57) rfl ?_); refine goesL_ (some 39) rfl rfl Tryd.func57 (by kernel_rfl) rfl #[] rfl (by (try simp only [List.map_toArray, List.map_cons, List.map_nil]); first | done | rfl | (simp only [List.length_drop, List.length_take]; rfl)) ?_; (with_reducible refine (helmsmanref01_Edge.calls  t216 _ A11.out).mono ?_); rintro e w' ⟨rfl, ⟨nd, rfl⟩⟩; refine ⟨_, rfl, ?_⟩))
            go_ret2
            exact ⟨by first | rfl | (simp; done) | (simp [*]; done), by repeat (first | exact Drawn0.refl _ | apply Drawn0.step)⟩
      · rw [if_neg c6] at H
        have c6b0 : (a0 == 2) = false := beq_eq_false_iff_ne.mpr c6
        have c6b1 : (a0 != 2) = true := bne_iff_ne.mpr c6
        by_cases c12 : a2 = 0
        · rw [if_pos c12] at H
          have c12b0 : (a2 == 0) = true := beq_iff_eq.mpr c12
          have c12b1 : (a2 != 0) = false := bne_eq_false_iff_eq.mpr c12
          clear c12
          simp only [Option.some.injEq, Prod.mk.injEq] at H
          obtain ⟨rfl, rfl⟩ := H
          go_enter Tryd.func43, Tryd.ntmps43
          go_wp2
          go_ret2
          exact ⟨by first | rfl | (simp; done) | (simp [*]; done), by repeat (first | exact Drawn0.refl _ | apply Drawn0.step)⟩
        · rw [if_neg c12] at H
          have c12b0 : (a2 == 0) = false := beq_eq_false_iff_ne.mpr c12
          have c12b1 : (a2 != 0) = true := bne_iff_ne.mpr c12
          simp only [Option.some.injEq, Prod.mk.injEq] at H
          obtain ⟨rfl, rfl⟩ := H
          go_enter Tryd.func43, Tryd.ntmps43
          go_wp2
          go_ret2
          exact ⟨by first | rfl | (simp; done) | (simp [*]; done), by repeat (first | exact Drawn0.refl _ | apply Drawn0.step)⟩

end Go.Proofs.YtjddafaaplhnfaaDoor.PSpanCalcs
