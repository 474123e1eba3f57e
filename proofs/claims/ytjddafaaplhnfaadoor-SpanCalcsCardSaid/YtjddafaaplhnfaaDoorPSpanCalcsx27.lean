-- PRINTED BY print.sh 35421559b90ae4d0a3588c463048766b98c2df88dd9212a6774a882060cdf62d: not written by this session
import Derived.Test.YtjddafaaplhnfaaDoorPSpanCalcsx0
import Derived.Test.YtjddafaaplhnfaaDoorPSpanCalcsx19
import Derived.Test.YtjddafaaplhnfaaDoorPSpanCalcsx25
import Derived.Test.YtjddafaaplhnfaaDoorPSpanCalcsx26
namespace Go.Proofs.YtjddafaaplhnfaaDoor.PSpanCalcs
open Go.RowKit Go.Proofs.YtjddafaaplhnfaaDoorW.PrintWords Go.Proofs.YtjddafaaplhnfaaDoorW.PrintLast Go.Proofs.YtjddafaaplhnfaaDoorW.PrintMore
attribute [local go_sem] max2_int min2_int max_two min_two max_three min_three max_four min_four   -- for this text's walks alone
set_option linter.unusedVariables false
set_option linter.unusedSimpArgs false

/-! ### helmsmanref01_Calc: function 56 -/
mutual
def helmsmanref01_Calc.j0 : Nat → Int → Int → Int → Bool → Option (Int × Int)
  | 0, _, _, _, _ => none
  | k + 1, x0, x1, x2, x25 => if x25 = true then (some (0, 1)) else (if x0 = 3 then (helmsmanref01_Calc.j1 k x0 x1 x2 (x2 == 0)) else (helmsmanref01_Calc.j1 k x0 x1 x2 false))
def helmsmanref01_Calc.j1 : Nat → Int → Int → Int → Bool → Option (Int × Int)
  | 0, _, _, _, _ => none
  | k + 1, x0, x1, x2, x31 => if x31 = true then (some (0, 11)) else (if x0 = 0 then (helmsmanref01_Calc.j2 k x0 x1 x2 (wrap64 (x1 + x2)) true) else (if x0 = 1 then (helmsmanref01_Calc.j2 k x0 x1 x2 (wrap64 (x1 - x2)) true) else (if x0 = 2 then ((helmsmanref01_size.f x1).bind fun t205 => ((helmsmanref01_size.f x2).bind fun t206 => ((helmsmanref01_times.f k t205 t206).bind fun bt207 => (helmsmanref01_Calc.j2 k x0 x1 x2 bt207.1 bt207.2)))) else (if x0 = 3 then ((helmsmanref01_size.f x1).bind fun t209 => ((helmsmanref01_size.f x2).bind fun t210 => (if t210 = 0 then (none) else (helmsmanref01_Calc.j2 k x0 x1 x2 (wrap64 (Int.tdiv t209 t210)) true)))) else (helmsmanref01_Calc.j2 k x0 x1 x2 0 true)))))
def helmsmanref01_Calc.j2 : Nat → Int → Int → Int → Int → Bool → Option (Int × Int)
  | 0, _, _, _, _, _ => none
  | k + 1, x0, x1, x2, x8, x9 => if x0 > 1 then (helmsmanref01_Calc.j3 k x8 x9 ((decide (x1 < 0)) != (decide (x2 < 0)))) else (helmsmanref01_Calc.j3 k x8 x9 false)
def helmsmanref01_Calc.j3 : Nat → Int → Bool → Bool → Option (Int × Int)
  | 0, _, _, _ => none
  | k + 1, x8, x9, x68 => if x68 = true then (if x9 = true then ((helmsmanref01_In.f (wrap64 (-x8))).bind fun t211 => (if t211 = true then (some (wrap64 (-x8), 0)) else (some (0, 10)))) else (some (0, 10))) else (if x9 = true then ((helmsmanref01_In.f x8).bind fun t212 => (if t212 = true then (some (x8, 0)) else (some (0, 10)))) else (some (0, 10)))
end
def helmsmanref01_Calc.f (k : Nat) (a0 : Int) (a1 : Int) (a2 : Int) : Option (Int × Int) := if a0 < 0 then (helmsmanref01_Calc.j0 k a0 a1 a2 true) else (if a0 > 3 then (helmsmanref01_Calc.j0 k a0 a1 a2 true) else ((helmsmanref01_In.f a1).bind fun t203 => (if t203 = true then ((helmsmanref01_In.f a2).bind fun t204 => (helmsmanref01_Calc.j0 k a0 a1 a2 (!t204))) else (helmsmanref01_Calc.j0 k a0 a1 a2 true))))
theorem helmsmanref01_Calc.mono_l : ∀ k, (∀ y0 y1 y2 y3, LeO (helmsmanref01_Calc.j0 k y0 y1 y2 y3) (helmsmanref01_Calc.j0 (k + 1) y0 y1 y2 y3)) ∧ (∀ y0 y1 y2 y3, LeO (helmsmanref01_Calc.j1 k y0 y1 y2 y3) (helmsmanref01_Calc.j1 (k + 1) y0 y1 y2 y3)) ∧ (∀ y0 y1 y2 y3 y4, LeO (helmsmanref01_Calc.j2 k y0 y1 y2 y3 y4) (helmsmanref01_Calc.j2 (k + 1) y0 y1 y2 y3 y4)) ∧ (∀ y0 y1 y2, LeO (helmsmanref01_Calc.j3 k y0 y1 y2) (helmsmanref01_Calc.j3 (k + 1) y0 y1 y2))
  | 0 => ⟨fun _ _ _ _ r h => by simp [helmsmanref01_Calc.j0] at h, fun _ _ _ _ r h => by simp [helmsmanref01_Calc.j1] at h, fun _ _ _ _ _ r h => by simp [helmsmanref01_Calc.j2] at h, fun _ _ _ r h => by simp [helmsmanref01_Calc.j3] at h⟩
  | k + 1 => by
    obtain ⟨ih0, ih1, ih2, ih3⟩ := helmsmanref01_Calc.mono_l k
    refine ⟨?_, ?_, ?_, ?_⟩
    · intro y0 y1 y2 y3
      unfold helmsmanref01_Calc.j0
      repeat' first
      | (with_reducible exact ih0 _ _ _ _)
      | (with_reducible exact ih1 _ _ _ _)
      | (with_reducible exact ih2 _ _ _ _ _)
      | (with_reducible exact ih3 _ _ _)
      | (with_reducible exact helmsmanref01_times.mono _ _ _)
      | (with_reducible exact LeO.refl _)
      | (with_reducible exact LeO.none _)
      | (with_reducible refine LeO.ite ?_ ?_)
      | (with_reducible refine LeO.bind ?_ (fun _ => ?_))
      | exact ih0 _ _ _ _
      | exact ih1 _ _ _ _
      | exact ih2 _ _ _ _ _
      | exact ih3 _ _ _
      | exact helmsmanref01_times.mono _ _ _
      | exact LeO.none _
      | refine LeO.ite ?_ ?_
      | refine LeO.bind ?_ (fun _ => ?_)
    · intro y0 y1 y2 y3
      unfold helmsmanref01_Calc.j1
      repeat' first
      | (with_reducible exact ih0 _ _ _ _)
      | (with_reducible exact ih1 _ _ _ _)
      | (with_reducible exact ih2 _ _ _ _ _)
      | (with_reducible exact ih3 _ _ _)
      | (with_reducible exact helmsmanref01_times.mono _ _ _)
      | (with_reducible exact LeO.refl _)
      | (with_reducible exact LeO.none _)
      | (with_reducible refine LeO.ite ?_ ?_)
      | (with_reducible refine LeO.bind ?_ (fun _ => ?_))
      | exact ih0 _ _ _ _
      | exact ih1 _ _ _ _
      | exact ih2 _ _ _ _ _
      | exact ih3 _ _ _
      | exact helmsmanref01_times.mono _ _ _
      | exact LeO.none _
      | refine LeO.ite ?_ ?_
      | refine LeO.bind ?_ (fun _ => ?_)
    · intro y0 y1 y2 y3 y4
      unfold helmsmanref01_Calc.j2
      repeat' first
      | (with_reducible exact ih0 _ _ _ _)
      | (with_reducible exact ih1 _ _ _ _)
      | (with_reducible exact ih2 _ _ _ _ _)
      | (with_reducible exact ih3 _ _ _)
      | (with_reducible exact helmsmanref01_times.mono _ _ _)
      | (with_reducible exact LeO.refl _)
      | (with_reducible exact LeO.none _)
      | (with_reducible refine LeO.ite ?_ ?_)
      | (with_reducible refine LeO.bind ?_ (fun _ => ?_))
      | exact ih0 _ _ _ _
      | exact ih1 _ _ _ _
      | exact ih2 _ _ _ _ _
      | exact ih3 _ _ _
      | exact helmsmanref01_times.mono _ _ _
      | exact LeO.none _
      | refine LeO.ite ?_ ?_
      | refine LeO.bind ?_ (fun _ => ?_)
    · intro y0 y1 y2
      unfold helmsmanref01_Calc.j3
      repeat' first
      | (with_reducible exact ih0 _ _ _ _)
      | (with_reducible exact ih1 _ _ _ _)
      | (with_reducible exact ih2 _ _ _ _ _)
      | (with_reducible exact ih3 _ _ _)
      | (with_reducible exact helmsmanref01_times.mono _ _ _)
      | (with_reducible exact LeO.refl _)
      | (with_reducible exact LeO.none _)
      | (with_reducible refine LeO.ite ?_ ?_)
      | (with_reducible refine LeO.bind ?_ (fun _ => ?_))
      | exact ih0 _ _ _ _
      | exact ih1 _ _ _ _
      | exact ih2 _ _ _ _ _
      | exact ih3 _ _ _
      | exact helmsmanref01_times.mono _ _ _
      | exact LeO.none _
      | refine LeO.ite ?_ ?_
      | refine LeO.bind ?_ (fun _ => ?_)
theorem helmsmanref01_Calc.mono : ∀ a0 a1 a2 k, LeO (helmsmanref01_Calc.f k a0 a1 a2) (helmsmanref01_Calc.f (k + 1) a0 a1 a2) := by
  intro a0 a1 a2 k
  obtain ⟨ih0, ih1, ih2, ih3⟩ := helmsmanref01_Calc.mono_l k
  unfold helmsmanref01_Calc.f
  repeat' first
      | (with_reducible exact ih0 _ _ _ _)
      | (with_reducible exact ih1 _ _ _ _)
      | (with_reducible exact ih2 _ _ _ _ _)
      | (with_reducible exact ih3 _ _ _)
      | (with_reducible exact helmsmanref01_times.mono _ _ _)
      | (with_reducible exact LeO.refl _)
      | (with_reducible exact LeO.none _)
      | (with_reducible refine LeO.ite ?_ ?_)
      | (with_reducible refine LeO.bind ?_ (fun _ => ?_))
      | exact ih0 _ _ _ _
      | exact ih1 _ _ _ _
      | exact ih2 _ _ _ _ _
      | exact ih3 _ _ _
      | exact helmsmanref01_times.mono _ _ _
      | exact LeO.none _
      | refine LeO.ite ?_ ?_
      | refine LeO.bind ?_ (fun _ => ?_)
set_option maxHeartbeats 8000000 in
set_option maxRecDepth 100000 in
theorem helmsmanref01_Calc.calls (k : Nat) (a0 : Int) (a1 : Int) (a2 : Int) (r1 : Int) (r2 : Int) (w : World) (h : helmsmanref01_Calc.f k a0 a1 a2 = some (r1, r2)) :
    Calls Tryd.prog 56 #[.int .i64 a0, .int .i64 a1, .int .i64 a2] w fun e w' => e = .returned (.tuple #[.int .i64 r1, .int .i64 r2]) ∧ Drawn0 w w' := by
  have H : (if a0 < 0 then (helmsmanref01_Calc.j0 k a0 a1 a2 true) else (if a0 > 3 then (helmsmanref01_Calc.j0 k a0 a1 a2 true) else ((helmsmanref01_In.f a1).bind fun t203 => (if t203 = true then ((helmsmanref01_In.f a2).bind fun t204 => (helmsmanref01_Calc.j0 k a0 a1 a2 (!t204))) else (helmsmanref01_Calc.j0 k a0 a1 a2 true))))) = some (r1, r2) := h
  clear h
  have HC4 := Aside0.mk H
  clear H
  go_enter Tryd.func56, Tryd.ntmps56
  go_upto_region 1 with (fail)
  go_cut [25] (fun v25 wc => ∃ (kq : Nat) (x25_3 : Bool), v25 = .bool x25_3 ∧ Aside0 (helmsmanref01_Calc.j0 kq a0 a1 a2 x25_3 = some (r1, r2)) ∧ Aside0 (kq ≤ k) ∧ Drawn0 w wc)
  case first =>
    have H := HC4.out
    clear HC4
    by_cases c5 : a0 < 0
    · rw [if_pos c5] at H
      have c5b0 : decide (a0 < 0) = true := decide_eq_true c5
      clear c5
      (first | rw [c5b0] | (simp only [i64_w, i32_w]; rw [c5b0]) | skip)
      have H' := Aside0.mk H
      clear H
      go_wp2
      go_meet
      case rel => exact ⟨_, (true), (by first | rfl | (simp; done) | (simp [*]; done)), H', ⟨by first | omega | exact Nat.le_refl _⟩, by repeat (first | exact Drawn0.refl _ | apply Drawn0.step)⟩
    · rw [if_neg c5] at H
      have c5b0 : decide (a0 < 0) = false := decide_eq_false c5
      clear c5
      (first | rw [c5b0] | (simp only [i64_w, i32_w]; rw [c5b0]) | skip)
      by_cases c6 : a0 > 3
      · rw [if_pos c6] at H
        have c6b0 : decide (3 < a0) = true := decide_eq_true c6
        clear c6
        have H' := Aside0.mk H
        clear H
        go_wp2
        go_meet
        case rel => exact ⟨_, (true), (by first | rfl | (simp; done) | (simp [*]; done)), H', ⟨by first | omega | exact Nat.le_refl _⟩, by repeat (first | exact Drawn0.refl _ | apply Drawn0.step)⟩
      · rw [if_neg c6] at H
        have c6b0 : decide (3 < a0) = false := decide_eq_false c6
        clear c6
        replace H := Option.bind_eq_some_iff.mp H
        obtain ⟨t203, A70, H⟩ := H
        replace H : (if t203 = true then ((helmsmanref01_In.f a2).bind fun t204 => (helmsmanref01_Calc.j0 k a0 a1 a2 (!t204))) else (helmsmanref01_Calc.j0 k a0 a1 a2 true)) = some (r1, r2) := H
        have A7 := Aside0.mk A70
        clear A70
        by_cases c8 : t203 = true
        · subst c8
          have H1 : ((helmsmanref01_In.f a2).bind fun t204 => (helmsmanref01_Calc.j0 k a0 a1 a2 (!t204))) = some (r1, r2) := by rw [if_pos rfl] at H; exact H
          clear H
          have H := H1
          clear H1
          replace H := Option.bind_eq_some_iff.mp H
          obtain ⟨t204, A90, H⟩ := H
          replace H : (helmsmanref01_Calc.j0 k a0 a1 a2 (!t204)) = some (r1, r2) := H
          have A9 := Aside0.mk A90
          clear A90
          have H' := Aside0.mk H
          clear H
          go_wp2_with (first | (go_at_call 23; (with_reducible refine (helmsmanref01_In.calls a1 true _ A7.out).mono ?_); rintro e w' ⟨rfl, ⟨nd, rfl⟩⟩) | (go_at_call 23; (with_reducible refine (helmsmanref01_In.calls a2 t204 _ A9.out).mono ?_); rintro e w' ⟨rfl, ⟨nd, rfl⟩⟩))
          go_meet
          case rel => exact ⟨_, (!t204), (by first | rfl | (simp; done) | (simp [*]; done)), H', ⟨by first | omega | exact Nat.le_refl _⟩, by repeat (first | exact Drawn0.refl _ | apply Drawn0.step)⟩
        · replace c8 := Bool.eq_false_iff.mpr c8
          subst c8
          have H1 : (helmsmanref01_Calc.j0 k a0 a1 a2 true) = some (r1, r2) := by rw [if_neg (show ¬ (false = true) by decide)] at H; exact H
          clear H
          have H := H1
          clear H1
          have H' := Aside0.mk H
          clear H
          go_wp2_with (first | (go_at_call 23; (with_reducible refine (helmsmanref01_In.calls a1 false _ A7.out).mono ?_); rintro e w' ⟨rfl, ⟨nd, rfl⟩⟩))
          go_meet
          case rel => exact ⟨_, (true), (by first | rfl | (simp; done) | (simp [*]; done)), H', ⟨by first | omega | exact Nat.le_refl _⟩, by repeat (first | exact Drawn0.refl _ | apply Drawn0.step)⟩
  case rest =>
    clear HC4
    try clear p2
    try clear c5
    try clear c5b0
    try clear c6
    try clear c6b0
    try clear c8
    obtain ⟨kq, x25_3, rfl, HA, HJ3, ⟨mc3, rfl⟩⟩ := hcut
    cases kq with
    | zero => exact absurd HA.out (by simp [helmsmanref01_Calc.j0])
    | succ kj3 =>
      have H := HA.out
      clear HA
      simp only [helmsmanref01_Calc.j0] at H
      by_cases c10 : x25_3 = true
      · subst c10
        have H1 : (some (0, 1)) = some (r1, r2) := by rw [if_pos rfl] at H; exact H
        clear H
        have H := H1
        clear H1
        simp only [Option.some.injEq, Prod.mk.injEq] at H
        obtain ⟨rfl, rfl⟩ := H
        go_wp2
        go_ret2
        exact ⟨by first | rfl | (simp; done) | (simp [*]; done), by repeat (first | exact Drawn0.refl _ | apply Drawn0.step)⟩
      · replace c10 := Bool.eq_false_iff.mpr c10
        subst c10
        have H1 : (if a0 = 3 then (helmsmanref01_Calc.j1 kj3 a0 a1 a2 (a2 == 0)) else (helmsmanref01_Calc.j1 kj3 a0 a1 a2 false)) = some (r1, r2) := by rw [if_neg (show ¬ (false = true) by decide)] at H; exact H
        clear H
        have H := H1
        clear H1
        have HC11 := Aside0.mk H
        clear H
        go_upto_region 3 with (fail)
        go_cut [31] (fun v31 wc => ∃ (kq : Nat) (x31_10 : Bool), v31 = .bool x31_10 ∧ Aside0 (helmsmanref01_Calc.j1 kq a0 a1 a2 x31_10 = some (r1, r2)) ∧ Aside0 (kq ≤ kj3) ∧ Drawn0 w wc)
        case first =>
          have H := HC11.out
          clear HC11
          by_cases c12 : a0 = 3
          · rw [if_pos c12] at H
            have c12b0 : (a0 == 3) = true := beq_iff_eq.mpr c12
            have c12b1 : (a0 != 3) = false := bne_eq_false_iff_eq.mpr c12
            clear c12
            (first | rw [c12b0] | (simp only [i64_w, i32_w]; rw [c12b0]) | skip)
            have H' := Aside0.mk H
            clear H
            go_wp2
            go_meet
            case rel => exact ⟨_, ((a2 == 0)), (by first | rfl | (simp; done) | (simp [*]; done)), H', ⟨by have := HJ3.out; first | omega | exact Nat.le_refl _⟩, by repeat (first | exact Drawn0.refl _ | apply Drawn0.step)⟩
          · rw [if_neg c12] at H
            have c12b0 : (a0 == 3) = false := beq_eq_false_iff_ne.mpr c12
            have c12b1 : (a0 != 3) = true := bne_iff_ne.mpr c12
            (first | rw [c12b0] | (simp only [i64_w, i32_w]; rw [c12b0]) | skip)
            have H' := Aside0.mk H
            clear H
            go_wp2
            go_meet
            case rel => exact ⟨_, (false), (by first | rfl | (simp; done) | (simp [*]; done)), H', ⟨by have := HJ3.out; first | omega | exact Nat.le_refl _⟩, by repeat (first | exact Drawn0.refl _ | apply Drawn0.step)⟩
        case rest =>
          clear HC11
          try clear c1
          try clear p2
          try clear c3
          try clear c5
          try clear c5b0
          try clear c6
          try clear c6b0
          try clear c8
          try clear c10
          try clear c12
          try clear c12b0
          try clear c12b1
          try clear p2
          obtain ⟨kq, x31_10, rfl, HA, HJ10, ⟨mc10, rfl⟩⟩ := hcut
          cases kq with
          | zero => exact absurd HA.out (by simp [helmsmanref01_Calc.j1])
          | succ kj10 =>
            have H := HA.out
            clear HA
            simp only [helmsmanref01_Calc.j1] at H
            by_cases c13 : x31_10 = true
            · subst c13
              have H1 : (some (0, 11)) = some (r1, r2) := by rw [if_pos rfl] at H; exact H
              clear H
              have H := H1
              clear H1
              simp only [Option.some.injEq, Prod.mk.injEq] at H
              obtain ⟨rfl, rfl⟩ := H
              go_wp2
              go_ret2
              exact ⟨by first | rfl | (simp; done) | (simp [*]; done), by repeat (first | exact Drawn0.refl _ | apply Drawn0.step)⟩
            · replace c13 := Bool.eq_false_iff.mpr c13
              subst c13
              have H1 : (if a0 = 0 then (helmsmanref01_Calc.j2 kj10 a0 a1 a2 (wrap64 (a1 + a2)) true) else (if a0 = 1 then (helmsmanref01_Calc.j2 kj10 a0 a1 a2 (wrap64 (a1 - a2)) true) else (if a0 = 2 then ((helmsmanref01_size.f a1).bind fun t205 => ((helmsmanref01_size.f a2).bind fun t206 => ((helmsmanref01_times.f kj10 t205 t206).bind fun bt207 => (helmsmanref01_Calc.j2 kj10 a0 a1 a2 bt207.1 bt207.2)))) else (if a0 = 3 then ((helmsmanref01_size.f a1).bind fun t209 => ((helmsmanref01_size.f a2).bind fun t210 => (if t210 = 0 then (none) else (helmsmanref01_Calc.j2 kj10 a0 a1 a2 (wrap64 (Int.tdiv t209 t210)) true)))) else (helmsmanref01_Calc.j2 kj10 a0 a1 a2 0 true))))) = some (r1, r2) := by rw [if_neg (show ¬ (false = true) by decide)] at H; exact H
              clear H
              have H := H1
              clear H1
              have HC14 := Aside0.mk H
              clear H
              go_upto_block 0 with (fail)
              go_cut [8, 9] (fun v8 v9 wc => ∃ (kq : Nat) (x8_13 : Int) (x9_13 : Bool), v8 = .int .i64 x8_13 ∧ v9 = .bool x9_13 ∧ Aside0 (helmsmanref01_Calc.j2 kq a0 a1 a2 x8_13 x9_13 = some (r1, r2)) ∧ Aside0 (kq ≤ kj10) ∧ Drawn0 w wc)
              case first =>
                have H := HC14.out
                clear HC14
                by_cases c15 : a0 = 0
                · rw [if_pos c15] at H
                  have c15b0 : (a0 == 0) = true := beq_iff_eq.mpr c15
                  have c15b1 : (a0 != 0) = false := bne_eq_false_iff_eq.mpr c15
                  clear c15
                  (first | rw [c15b0] | (simp only [i64_w, i32_w]; rw [c15b0]) | skip)
                  have H' := Aside0.mk H
                  clear H
                  go_wp2
                  go_meet
                  case rel => exact ⟨_, (wrap64 (a1 + a2)), (true), (by first | rfl | (simp; done) | (simp [*]; done)), (by first | rfl | (simp; done) | (simp [*]; done)), H', ⟨by have := HJ3.out; have := HJ10.out; first | omega | exact Nat.le_refl _⟩, by repeat (first | exact Drawn0.refl _ | apply Drawn0.step)⟩
                · rw [if_neg c15] at H
                  have c15b0 : (a0 == 0) = false := beq_eq_false_iff_ne.mpr c15
                  have c15b1 : (a0 != 0) = true := bne_iff_ne.mpr c15
                  (first | rw [c15b0] | (simp only [i64_w, i32_w]; rw [c15b0]) | skip)
                  by_cases c16 : a0 = 1
                  · rw [if_pos c16] at H
                    have c16b0 : (a0 == 1) = true := beq_iff_eq.mpr c16
                    have c16b1 : (a0 != 1) = false := bne_eq_false_iff_eq.mpr c16
                    clear c16
                    have H' := Aside0.mk H
                    clear H
                    go_wp2
                    go_meet
                    case rel => exact ⟨_, (wrap64 (a1 - a2)), (true), (by first | rfl | (simp; done) | (simp [*]; done)), (by first | rfl | (simp; done) | (simp [*]; done)), H', ⟨by have := HJ3.out; have := HJ10.out; first | omega | exact Nat.le_refl _⟩, by repeat (first | exact Drawn0.refl _ | apply Drawn0.step)⟩
                  · rw [if_neg c16] at H
                    have c16b0 : (a0 == 1) = false := beq_eq_false_iff_ne.mpr c16
                    have c16b1 : (a0 != 1) = true := bne_iff_ne.mpr c16
                    by_cases c17 : a0 = 2
                    · rw [if_pos c17] at H
                      have c17b0 : (a0 == 2) = true := beq_iff_eq.mpr c17
                      have c17b1 : (a0 != 2) = false := bne_eq_false_iff_eq.mpr c17
                      clear c17
                      replace H := Option.bind_eq_some_iff.mp H
                      obtain ⟨t205, A180, H⟩ := H
                      replace H : ((helmsmanref01_size.f a2).bind fun t206 => ((helmsmanref01_times.f kj10 t205 t206).bind fun bt207 => (helmsmanref01_Calc.j2 kj10 a0 a1 a2 bt207.1 bt207.2))) = some (r1, r2) := H
                      have A18 := Aside0.mk A180
                      clear A180
                      replace H := Option.bind_eq_some_iff.mp H
                      obtain ⟨t206, A190, H⟩ := H
                      replace H : ((helmsmanref01_times.f kj10 t205 t206).bind fun bt207 => (helmsmanref01_Calc.j2 kj10 a0 a1 a2 bt207.1 bt207.2)) = some (r1, r2) := H
                      have A19 := Aside0.mk A190
                      clear A190
                      replace H := Option.bind_eq_some_iff.mp H
                      obtain ⟨⟨t207, t208⟩, A200, H⟩ := H
                      replace H : (helmsmanref01_Calc.j2 kj10 a0 a1 a2 t207 t208) = some (r1, r2) := H
                      have A20 := Aside0.mk A200
                      clear A200
                      have H' := Aside0.mk H
                      clear H
                      go_wp2_with (first | ((with_reducible refine gate_callee (f := 63) rfl ?_); refine goesL_ (some 47) rfl rfl Tryd.func63 (by kernel_rfl) rfl #[.int .i64 a1] rfl (by (try simp only [List.map_toArray, List.map_cons, List.map_nil]); first | done | rfl | (simp only [List.length_drop, List.length_take]; rfl)) ?_; (with_reducible refine (helmsmanref01_size.calls a1 t205 _ A18.out).mono ?_); rintro e w' ⟨rfl, ⟨nd, rfl⟩⟩; refine ⟨_, rfl, ?_⟩) | ((with_reducible refine gate_callee (f := 63) rfl ?_); refine goesL_ (some 49) rfl rfl Tryd.func63 (by kernel_rfl) rfl #[.int .i64 a2] rfl (by (try simp only [List.map_toArray, List.map_cons, List.map_nil]); first | done | rfl | (simp only [List.length_drop, List.length_take]; rfl)) ?_; (with_reducible refine (helmsmanref01_size.calls a2 t206 _ A19.out).mono ?_); rintro e w' ⟨rfl, ⟨nd, rfl⟩⟩; refine ⟨_, rfl, ?_⟩) | ((with_reducible refine gate_callee (f := 62) rfl ?_); refine goesL_ (some 50) rfl rfl Tryd.func62 (by kernel_rfl) rfl #[.int .i64 t205, .int .i64 t206] rfl (by (try simp only [List.map_toArray, List.map_cons, List.map_nil]); first | done | rfl | (simp only [List.length_drop, List.length_take]; rfl)) ?_; (with_reducible refine (helmsmanref01_times.calls kj10 t205 t206 t207 t208 _ A20.out).mono ?_); rintro e w' ⟨rfl, ⟨nd, rfl⟩⟩; refine ⟨_, rfl, ?_⟩))
                      go_meet
                      case rel => exact ⟨_, (t207), (t208), (by first | rfl | (simp; done) | (simp [*]; done)), (by first | rfl | (simp; done) | (simp [*]; done)), H', ⟨by have := HJ3.out; have := HJ10.out; first | omega | exact Nat.le_refl _⟩, by repeat (first | exact Drawn0.refl _ | apply Drawn0.step)⟩
                    · rw [if_neg c17] at H
                      have c17b0 : (a0 == 2) = false := beq_eq_false_iff_ne.mpr c17
                      have c17b1 : (a0 != 2) = true := bne_iff_ne.mpr c17
                      by_cases c21 : a0 = 3
                      · rw [if_pos c21] at H
                        have c21b0 : (a0 == 3) = true := beq_iff_eq.mpr c21
                        have c21b1 : (a0 != 3) = false := bne_eq_false_iff_eq.mpr c21
                        clear c21
                        replace H := Option.bind_eq_some_iff.mp H
                        obtain ⟨t209, A220, H⟩ := H
                        replace H : ((helmsmanref01_size.f a2).bind fun t210 => (if t210 = 0 then (none) else (helmsmanref01_Calc.j2 kj10 a0 a1 a2 (wrap64 (Int.tdiv t209 t210)) true))) = some (r1, r2) := H
                        have A22 := Aside0.mk A220
                        clear A220
                        replace H := Option.bind_eq_some_iff.mp H
                        obtain ⟨t210, A230, H⟩ := H
                        replace H : (if t210 = 0 then (none) else (helmsmanref01_Calc.j2 kj10 a0 a1 a2 (wrap64 (Int.tdiv t209 t210)) true)) = some (r1, r2) := H
                        have A23 := Aside0.mk A230
                        clear A230
                        by_cases c24 : t210 = 0
                        · rw [if_pos c24] at H
                          exact absurd H (by simp)
                        · rw [if_neg c24] at H
                          have c24b0 : (t210 == 0) = false := beq_eq_false_iff_ne.mpr c24
                          have c24b1 : (t210 != 0) = true := bne_iff_ne.mpr c24
                          have H' := Aside0.mk H
                          clear H
                          go_wp2_with (first | ((with_reducible refine gate_callee (f := 63) rfl ?_); refine goesL_ (some 56) rfl rfl Tryd.func63 (by kernel_rfl) rfl #[.int .i64 a1] rfl (by (try simp only [List.map_toArray, List.map_cons, List.map_nil]); first | done | rfl | (simp only [List.length_drop, List.length_take]; rfl)) ?_; (with_reducible refine (helmsmanref01_size.calls a1 t209 _ A22.out).mono ?_); rintro e w' ⟨rfl, ⟨nd, rfl⟩⟩; refine ⟨_, rfl, ?_⟩) | ((with_reducible refine gate_callee (f := 63) rfl ?_); refine goesL_ (some 58) rfl rfl Tryd.func63 (by kernel_rfl) rfl #[.int .i64 a2] rfl (by (try simp only [List.map_toArray, List.map_cons, List.map_nil]); first | done | rfl | (simp only [List.length_drop, List.length_take]; rfl)) ?_; (with_reducible refine (helmsmanref01_size.calls a2 t210 _ A23.out).mono ?_); rintro e w' ⟨rfl, ⟨nd, rfl⟩⟩; refine ⟨_, rfl, ?_⟩))
                          go_meet
                          case rel => exact ⟨_, (wrap64 (Int.tdiv t209 t210)), (true), (by first | rfl | (simp; done) | (simp [*]; done)), (by first | rfl | (simp; done) | (simp [*]; done)), H', ⟨by have := HJ3.out; have := HJ10.out; first | omega | exact Nat.le_refl _⟩, by repeat (first | exact Drawn0.refl _ | apply Drawn0.step)⟩
                      · rw [if_neg c21] at H
                        have c21b0 : (a0 == 3) = false := beq_eq_false_iff_ne.mpr c21
                        have c21b1 : (a0 != 3) = true := bne_iff_ne.mpr c21
                        have H' := Aside0.mk H
                        clear H
                        go_wp2
                        go_meet
                        case rel => exact ⟨_, (0), (true), (by first | rfl | (simp; done) | (simp [*]; done)), (by first | rfl | (simp; done) | (simp [*]; done)), H', ⟨by have := HJ3.out; have := HJ10.out; first | omega | exact Nat.le_refl _⟩, by repeat (first | exact Drawn0.refl _ | apply Drawn0.step)⟩
              case rest =>
                clear HC14
                try clear c1
                try clear c2
                try clear p2
                try clear c3
                try clear c5
                try clear c5b0
                try clear c6
                try clear c6b0
                try clear p6
                try clear c8
                try clear c10
                try clear c12
                try clear c12b0
                try clear c12b1
                try clear c13
                try clear c15
                try clear c15b0
                try clear c15b1
                try clear c16
                try clear c16b0
                try clear c16b1
                try clear c17
                try clear c17b0
                try clear c17b1
                try clear c21
                try clear c21b0
                try clear c21b1
                try clear c24
                try clear c24b0
                try clear c24b1
                try clear p2
                obtain ⟨kq, x8_13, x9_13, rfl, rfl, HA, HJ13, ⟨mc13, rfl⟩⟩ := hcut
                cases kq with
                | zero => exact absurd HA.out (by simp [helmsmanref01_Calc.j2])
                | succ kj13 =>
                  have H := HA.out
                  clear HA
                  simp only [helmsmanref01_Calc.j2] at H
                  have HC25 := Aside0.mk H
                  clear H
                  go_upto_region 16 with (fail)
                  go_cut [68] (fun v68 wc => ∃ (kq : Nat) (x68_24 : Bool), v68 = .bool x68_24 ∧ Aside0 (helmsmanref01_Calc.j3 kq x8_13 x9_13 x68_24 = some (r1, r2)) ∧ Aside0 (kq ≤ kj13) ∧ Drawn0 w wc)
                  case first =>
                    have H := HC25.out
                    clear HC25
                    by_cases c26 : a0 > 1
                    · rw [if_pos c26] at H
                      have c26b0 : decide (1 < a0) = true := decide_eq_true c26
                      clear c26
                      (first | rw [c26b0] | (simp only [i64_w, i32_w]; rw [c26b0]) | skip)
                      have H' := Aside0.mk H
                      clear H
                      go_wp2
                      go_meet
                      case rel => exact ⟨_, (((decide (a1 < 0)) != (decide (a2 < 0)))), (by first | rfl | (simp; done) | (simp [*]; done)), H', ⟨by have := HJ3.out; have := HJ10.out; have := HJ13.out; first | omega | exact Nat.le_refl _⟩, by repeat (first | exact Drawn0.refl _ | apply Drawn0.step)⟩
                    · rw [if_neg c26] at H
                      have c26b0 : decide (1 < a0) = false := decide_eq_false c26
                      clear c26
                      (first | rw [c26b0] | (simp only [i64_w, i32_w]; rw [c26b0]) | skip)
                      have H' := Aside0.mk H
                      clear H
                      go_wp2
                      go_meet
                      case rel => exact ⟨_, (false), (by first | rfl | (simp; done) | (simp [*]; done)), H', ⟨by have := HJ3.out; have := HJ10.out; have := HJ13.out; first | omega | exact Nat.le_refl _⟩, by repeat (first | exact Drawn0.refl _ | apply Drawn0.step)⟩
                  case rest =>
                    clear HC25
                    try clear c1
                    try clear c2
                    try clear p2
                    try clear c3
                    try clear c5
                    try clear c5b0
                    try clear c6
                    try clear c6b0
                    try clear p6
                    try clear c8
                    try clear c10
                    try clear c12
                    try clear c12b0
                    try clear c12b1
                    try clear c13
                    try clear c15
                    try clear c15b0
                    try clear c15b1
                    try clear c16
                    try clear c16b0
                    try clear c16b1
                    try clear c17
                    try clear c17b0
                    try clear c17b1
                    try clear c21
                    try clear c21b0
                    try clear c21b1
                    try clear c24
                    try clear c24b0
                    try clear c24b1
                    try clear c26
                    try clear c26b0
                    try clear p2
                    try clear p6
                    obtain ⟨kq, x68_24, rfl, HA, HJ24, ⟨mc24, rfl⟩⟩ := hcut
                    cases kq with
                    | zero => exact absurd HA.out (by simp [helmsmanref01_Calc.j3])
                    | succ kj24 =>
                      have H := HA.out
                      clear HA
                      simp only [helmsmanref01_Calc.j3] at H
                      by_cases c27 : x68_24 = true
                      · subst c27
                        have H1 : (if x9_13 = true then ((helmsmanref01_In.f (wrap64 (-x8_13))).bind fun t211 => (if t211 = true then (some (wrap64 (-x8_13), 0)) else (some (0, 10)))) else (some (0, 10))) = some (r1, r2) := by rw [if_pos rfl] at H; exact H
                        clear H
                        have H := H1
                        clear H1
                        by_cases c28 : x9_13 = true
                        · subst c28
                          have H1 : ((helmsmanref01_In.f (wrap64 (-x8_13))).bind fun t211 => (if t211 = true then (some (wrap64 (-x8_13), 0)) else (some (0, 10)))) = some (r1, r2) := by rw [if_pos rfl] at H; exact H
                          clear H
                          have H := H1
                          clear H1
                          replace H := Option.bind_eq_some_iff.mp H
                          obtain ⟨t211, A290, H⟩ := H
                          replace H : (if t211 = true then (some (wrap64 (-x8_13), 0)) else (some (0, 10))) = some (r1, r2) := H
                          have A29 := Aside0.mk A290
                          clear A290
                          by_cases c30 : t211 = true
                          · subst c30
                            have H1 : (some (wrap64 (-x8_13), 0)) = some (r1, r2) := by rw [if_pos rfl] at H; exact H
                            clear H
                            have H := H1
                            clear H1
                            simp only [Option.some.injEq, Prod.mk.injEq] at H
                            obtain ⟨rfl, rfl⟩ := H
                            go_wp2_with (first | (go_at_call 23; (with_reducible refine (helmsmanref01_In.calls (wrap64 (-x8_13)) true _ A29.out).mono ?_); rintro e w' ⟨rfl, ⟨nd, rfl⟩⟩))
                            go_ret2
                            exact ⟨by first | rfl | (simp; done) | (simp [*]; done), by repeat (first | exact Drawn0.refl _ | apply Drawn0.step)⟩
                          · replace c30 := Bool.eq_false_iff.mpr c30
                            subst c30
                            have H1 : (some (0, 10)) = some (r1, r2) := by rw [if_neg (show ¬ (false = true) by decide)] at H; exact H
                            clear H
                            have H := H1
                            clear H1
                            simp only [Option.some.injEq, Prod.mk.injEq] at H
                            obtain ⟨rfl, rfl⟩ := H
                            go_wp2_with (first | (go_at_call 23; (with_reducible refine (helmsmanref01_In.calls (wrap64 (-x8_13)) false _ A29.out).mono ?_); rintro e w' ⟨rfl, ⟨nd, rfl⟩⟩))
                            go_ret2
                            exact ⟨by first | rfl | (simp; done) | (simp [*]; done), by repeat (first | exact Drawn0.refl _ | apply Drawn0.step)⟩
                        · replace c28 := Bool.eq_false_iff.mpr c28
                          subst c28
                          have H1 : (some (0, 10)) = some (r1, r2) := by rw [if_neg (show ¬ (false = true) by decide)] at H; exact H
                          clear H
                          have H := H1
                          clear H1
                          simp only [Option.some.injEq, Prod.mk.injEq] at H
                          obtain ⟨rfl, rfl⟩ := H
                          go_wp2
                          go_ret2
                          exact ⟨by first | rfl | (simp; done) | (simp [*]; done), by repeat (first | exact Drawn0.refl _ | apply Drawn0.step)⟩
                      · replace c27 := Bool.eq_false_iff.mpr c27
                        subst c27
                        have H1 : (if x9_13 = true then ((helmsmanref01_In.f x8_13).bind fun t212 => (if t212 = true then (some (x8_13, 0)) else (some (0, 10)))) else (some (0, 10))) = some (r1, r2) := by rw [if_neg (show ¬ (false = true) by decide)] at H; exact H
                        clear H
                        have H := H1
                        clear H1
                        by_cases c31 : x9_13 = true
                        · subst c31
                          have H1 : ((helmsmanref01_In.f x8_13).bind fun t212 => (if t212 = true then (some (x8_13, 0)) else (some (0, 10)))) = some (r1, r2) := by rw [if_pos rfl] at H; exact H
                          clear H
                          have H := H1
                          clear H1
                          replace H := Option.bind_eq_some_iff.mp H
                          obtain ⟨t212, A320, H⟩ := H
                          replace H : (if t212 = true then (some (x8_13, 0)) else (some (0, 10))) = some (r1, r2) := H
                          have A32 := Aside0.mk A320
                          clear A320
                          by_cases c33 : t212 = true
                          · subst c33
                            have H1 : (some (x8_13, 0)) = some (r1, r2) := by rw [if_pos rfl] at H; exact H
                            clear H
                            have H := H1
                            clear H1
                            simp only [Option.some.injEq, Prod.mk.injEq] at H
                            obtain ⟨rfl, rfl⟩ := H
                            go_wp2_with (first | (go_at_call 23; (with_reducible refine (helmsmanref01_In.calls x8_13 true _ A32.out).mono ?_); rintro e w' ⟨rfl, ⟨nd, rfl⟩⟩))
                            go_ret2
                            exact ⟨by first | rfl | (simp; done) | (simp [*]; done), by repeat (first | exact Drawn0.refl _ | apply Drawn0.step)⟩
                          · replace c33 := Bool.eq_false_iff.mpr c33
                            subst c33
                            have H1 : (some (0, 10)) = some (r1, r2) := by rw [if_neg (show ¬ (false = true) by decide)] at H; exact H
                            clear H
                            have H := H1
                            clear H1
                            simp only [Option.some.injEq, Prod.mk.injEq] at H
                            obtain ⟨rfl, rfl⟩ := H
                            go_wp2_with (first | (go_at_call 23; (with_reducible refine (helmsmanref01_In.calls x8_13 false _ A32.out).mono ?_); rintro e w' ⟨rfl, ⟨nd, rfl⟩⟩))
                            go_ret2
                            exact ⟨by first | rfl | (simp; done) | (simp [*]; done), by repeat (first | exact Drawn0.refl _ | apply Drawn0.step)⟩
                        · replace c31 := Bool.eq_false_iff.mpr c31
                          subst c31
                          have H1 : (some (0, 10)) = some (r1, r2) := by rw [if_neg (show ¬ (false = true) by decide)] at H; exact H
                          clear H
                          have H := H1
                          clear H1
                          simp only [Option.some.injEq, Prod.mk.injEq] at H
                          obtain ⟨rfl, rfl⟩ := H
                          go_wp2
                          go_ret2
                          exact ⟨by first | rfl | (simp; done) | (simp [*]; done), by repeat (first | exact Drawn0.refl _ | apply Drawn0.step)⟩

end Go.Proofs.YtjddafaaplhnfaaDoor.PSpanCalcs
