-- PRINTED BY print.sh 35421559b90ae4d0a3588c463048766b98c2df88dd9212a6774a882060cdf62d: not written by this session
import Derived.Test.YtjkaeimchnfhkaaDoorPBoundParsesx0
import Derived.Test.YtjkaeimchnfhkaaDoorPBoundParsesx40
import Derived.Test.YtjkaeimchnfhkaaDoorPBoundParsesx41
import Derived.Test.YtjkaeimchnfhkaaDoorPBoundParsesx42
import Derived.Test.YtjkaeimchnfhkaaDoorPBoundParsesx44
namespace Go.Proofs.YtjkaeimchnfhkaaDoor.PBoundParses
open Go.RowKit Go.Proofs.YtjkaeimchnfhkaaDoorW.PrintWords Go.Proofs.YtjkaeimchnfhkaaDoorW.PrintLast Go.Proofs.YtjkaeimchnfhkaaDoorW.PrintMore
attribute [local go_sem] max2_int min2_int max_two min_two max_three min_three max_four min_four   -- for this text's walks alone
set_option linter.unusedVariables false
set_option linter.unusedSimpArgs false

/-! ### helmsmanref01_Parse: function 25 -/
mutual
def helmsmanref01_Parse.j0 : Nat → ByteArray → Int → Bool → Option (Int × Int)
  | 0, _, _, _ => none
  | k + 1, x0, x4, x17 => if x17 = true then (helmsmanref01_Parse.j1 k x0 1) else (helmsmanref01_Parse.j1 k x0 x4)
def helmsmanref01_Parse.j1 : Nat → ByteArray → Int → Option (Int × Int)
  | 0, _, _ => none
  | k + 1, x0, x4 => helmsmanref01_Parse.l0 k x0 x4 0 x4
def helmsmanref01_Parse.l0 : Nat → ByteArray → Int → Int → Int → Option (Int × Int)
  | 0, _, _, _, _ => none
  | k + 1, x0, x4, x5, x6 => if x6 < (x0.size : Int) then (if 0 ≤ x6 then (if (bt x0 x6) < 48 then (some (0, 1)) else (if (bt x0 x6) > 57 then (some (0, 1)) else ((helmsmanref01_Edge.f).bind fun t169 => (if x5 > (wrap64 (Int.tdiv t169 10)) then (some (0, 1)) else (helmsmanref01_Parse.l0 k x0 x4 (wrap64 ((wrap64 (x5 * 10)) + (((bt x0 x6) - 48) % 256))) (wrap64 (x6 + 1))))))) else (none)) else (if x4 = 1 then (helmsmanref01_Parse.j3 k x0 (wrap64 (-x5))) else (helmsmanref01_Parse.j3 k x0 x5))
def helmsmanref01_Parse.j3 : Nat → ByteArray → Int → Option (Int × Int)
  | 0, _, _ => none
  | k + 1, x0, x5 => (helmsmanref01_Right.f x5).bind fun t170 => (if t170 = true then ((helmsmanref01_None.f).bind fun t171 => (if x5 = t171 then (some (0, 1)) else ((helmsmanref01_Digits.f k x5).bind fun t172 => (if t172.toList = x0.toList then (some (x5, 0)) else (some (0, 1)))))) else (some (0, 1)))
end
def helmsmanref01_Parse.f (k : Nat) (a0 : ByteArray) : Option (Int × Int) := if a0.toList = ([110, 111, 110, 101] : List UInt8) then ((helmsmanref01_None.f).bind fun t168 => (some (t168, 0))) else (if (a0.size : Int) > 0 then (if 0 < (a0.size : Int) then (helmsmanref01_Parse.j0 k a0 0 ((bt a0 0) == 45)) else (none)) else (helmsmanref01_Parse.j0 k a0 0 false))
theorem helmsmanref01_Parse.mono_l : ∀ k, (∀ y0 y1 y2, LeO (helmsmanref01_Parse.j0 k y0 y1 y2) (helmsmanref01_Parse.j0 (k + 1) y0 y1 y2)) ∧ (∀ y0 y1, LeO (helmsmanref01_Parse.j1 k y0 y1) (helmsmanref01_Parse.j1 (k + 1) y0 y1)) ∧ (∀ y0 y1 y2 y3, LeO (helmsmanref01_Parse.l0 k y0 y1 y2 y3) (helmsmanref01_Parse.l0 (k + 1) y0 y1 y2 y3)) ∧ (∀ y0 y1, LeO (helmsmanref01_Parse.j3 k y0 y1) (helmsmanref01_Parse.j3 (k + 1) y0 y1))
  | 0 => ⟨fun _ _ _ r h => by simp [helmsmanref01_Parse.j0] at h, fun _ _ r h => by simp [helmsmanref01_Parse.j1] at h, fun _ _ _ _ r h => by simp [helmsmanref01_Parse.l0] at h, fun _ _ r h => by simp [helmsmanref01_Parse.j3] at h⟩
  | k + 1 => by
    obtain ⟨ih0, ih1, ih2, ih3⟩ := helmsmanref01_Parse.mono_l k
    refine ⟨?_, ?_, ?_, ?_⟩
    · intro y0 y1 y2
      unfold helmsmanref01_Parse.j0
      repeat' first
      | (with_reducible exact ih0 _ _ _)
      | (with_reducible exact ih1 _ _)
      | (with_reducible exact ih2 _ _ _ _)
      | (with_reducible exact ih3 _ _)
      | (with_reducible exact helmsmanref01_Digits.mono _ _)
      | (with_reducible exact LeO.refl _)
      | (with_reducible exact LeO.none _)
      | (with_reducible refine LeO.ite ?_ ?_)
      | (with_reducible refine LeO.bind ?_ (fun _ => ?_))
      | exact ih0 _ _ _
      | exact ih1 _ _
      | exact ih2 _ _ _ _
      | exact ih3 _ _
      | exact helmsmanref01_Digits.mono _ _
      | exact LeO.none _
      | refine LeO.ite ?_ ?_
      | refine LeO.bind ?_ (fun _ => ?_)
    · intro y0 y1
      unfold helmsmanref01_Parse.j1
      repeat' first
      | (with_reducible exact ih0 _ _ _)
      | (with_reducible exact ih1 _ _)
      | (with_reducible exact ih2 _ _ _ _)
      | (with_reducible exact ih3 _ _)
      | (with_reducible exact helmsmanref01_Digits.mono _ _)
      | (with_reducible exact LeO.refl _)
      | (with_reducible exact LeO.none _)
      | (with_reducible refine LeO.ite ?_ ?_)
      | (with_reducible refine LeO.bind ?_ (fun _ => ?_))
      | exact ih0 _ _ _
      | exact ih1 _ _
      | exact ih2 _ _ _ _
      | exact ih3 _ _
      | exact helmsmanref01_Digits.mono _ _
      | exact LeO.none _
      | refine LeO.ite ?_ ?_
      | refine LeO.bind ?_ (fun _ => ?_)
    · intro y0 y1 y2 y3
      unfold helmsmanref01_Parse.l0
      repeat' first
      | (with_reducible exact ih0 _ _ _)
      | (with_reducible exact ih1 _ _)
      | (with_reducible exact ih2 _ _ _ _)
      | (with_reducible exact ih3 _ _)
      | (with_reducible exact helmsmanref01_Digits.mono _ _)
      | (with_reducible exact LeO.refl _)
      | (with_reducible exact LeO.none _)
      | (with_reducible refine LeO.ite ?_ ?_)
      | (with_reducible refine LeO.bind ?_ (fun _ => ?_))
      | exact ih0 _ _ _
      | exact ih1 _ _
      | exact ih2 _ _ _ _
      | exact ih3 _ _
      | exact helmsmanref01_Digits.mono _ _
      | exact LeO.none _
      | refine LeO.ite ?_ ?_
      | refine LeO.bind ?_ (fun _ => ?_)
    · intro y0 y1
      unfold helmsmanref01_Parse.j3
      repeat' first
      | (with_reducible exact ih0 _ _ _)
      | (with_reducible exact ih1 _ _)
      | (with_reducible exact ih2 _ _ _ _)
      | (with_reducible exact ih3 _ _)
      | (with_reducible exact helmsmanref01_Digits.mono _ _)
      | (with_reducible exact LeO.refl _)
      | (with_reducible exact LeO.none _)
      | (with_reducible refine LeO.ite ?_ ?_)
      | (with_reducible refine LeO.bind ?_ (fun _ => ?_))
      | exact ih0 _ _ _
      | exact ih1 _ _
      | exact ih2 _ _ _ _
      | exact ih3 _ _
      | exact helmsmanref01_Digits.mono _ _
      | exact LeO.none _
      | refine LeO.ite ?_ ?_
      | refine LeO.bind ?_ (fun _ => ?_)
theorem helmsmanref01_Parse.mono : ∀ a0 k, LeO (helmsmanref01_Parse.f k a0) (helmsmanref01_Parse.f (k + 1) a0) := by
  intro a0 k
  obtain ⟨ih0, ih1, ih2, ih3⟩ := helmsmanref01_Parse.mono_l k
  unfold helmsmanref01_Parse.f
  repeat' first
      | (with_reducible exact ih0 _ _ _)
      | (with_reducible exact ih1 _ _)
      | (with_reducible exact ih2 _ _ _ _)
      | (with_reducible exact ih3 _ _)
      | (with_reducible exact helmsmanref01_Digits.mono _ _)
      | (with_reducible exact LeO.refl _)
      | (with_reducible exact LeO.none _)
      | (with_reducible refine LeO.ite ?_ ?_)
      | (with_reducible refine LeO.bind ?_ (fun _ => ?_))
      | exact ih0 _ _ _
      | exact ih1 _ _
      | exact ih2 _ _ _ _
      | exact ih3 _ _
      | exact helmsmanref01_Digits.mono _ _
      | exact LeO.none _
      | refine LeO.ite ?_ ?_
      | refine LeO.bind ?_ (fun _ => ?_)
set_option maxHeartbeats 8000000 in
set_option maxRecDepth 100000 in
theorem helmsmanref01_Parse.calls (k : Nat) (a0 : ByteArray) (r1 : Int) (r2 : Int) (w : World) (h : helmsmanref01_Parse.f k a0 = some (r1, r2)) :
    Calls Tryd.prog 25 #[.string a0] w fun e w' => e = .returned (.tuple #[.int .i64 r1, .int .i64 r2]) ∧ Drawn0 w w' := by
  have H : (if a0.toList = ([110, 111, 110, 101] : List UInt8) then ((helmsmanref01_None.f).bind fun t168 => (some (t168, 0))) else (if (a0.size : Int) > 0 then (if 0 < (a0.size : Int) then (helmsmanref01_Parse.j0 k a0 0 ((bt a0 0) == 45)) else (none)) else (helmsmanref01_Parse.j0 k a0 0 false))) = some (r1, r2) := h
  clear h
  by_cases c2 : a0.toList = ([110, 111, 110, 101] : List UInt8)
  · rw [if_pos c2] at H
    have c2b0 : (a0.toList == ([110, 111, 110, 101] : List UInt8)) = true := beq_iff_eq.mpr c2
    have c2b1 : (a0.toList != ([110, 111, 110, 101] : List UInt8)) = false := bne_eq_false_iff_eq.mpr c2
    clear c2
    replace H := Option.bind_eq_some_iff.mp H
    obtain ⟨t168, A30, H⟩ := H
    replace H : (some (t168, 0)) = some (r1, r2) := H
    have A3 := Aside0.mk A30
    clear A30
    simp only [Option.some.injEq, Prod.mk.injEq] at H
    obtain ⟨rfl, rfl⟩ := H
    go_enter Tryd.func25, Tryd.ntmps25
    go_wp2_with (first | ((with_reducible refine gate_callee (f := 33) rfl ?_); refine goesL_ (some 9) rfl rfl Tryd.func33 (by kernel_rfl) rfl #[] rfl (by (try simp only [List.map_toArray, List.map_cons, List.map_nil]); first | done | rfl | (simp only [List.length_drop, List.length_take]; rfl)) ?_; (with_reducible refine (helmsmanref01_None.calls  t168 _ A3.out).mono ?_); rintro e w' ⟨rfl, ⟨nd, rfl⟩⟩; refine ⟨_, rfl, ?_⟩))
    go_ret2
    exact ⟨by first | rfl | (simp; done) | (simp [*]; done), by repeat (first | exact Drawn0.refl _ | apply Drawn0.step)⟩
  · rw [if_neg c2] at H
    have c2b0 : (a0.toList == ([110, 111, 110, 101] : List UInt8)) = false := beq_eq_false_iff_ne.mpr c2
    have c2b1 : (a0.toList != ([110, 111, 110, 101] : List UInt8)) = true := bne_iff_ne.mpr c2
    have HC4 := Aside0.mk H
    clear H
    go_enter Tryd.func25, Tryd.ntmps25
    go_upto_region 4 with (fail)
    go_cut [17] (fun v17 wc => ∃ (kq : Nat) (x17_3 : Bool), v17 = .bool x17_3 ∧ Aside0 (helmsmanref01_Parse.j0 kq a0 0 x17_3 = some (r1, r2)) ∧ Aside0 (kq ≤ k) ∧ Drawn0 w wc)
    case first =>
      have H := HC4.out
      clear HC4
      by_cases c5 : (a0.size : Int) > 0
      · rw [if_pos c5] at H
        have c5b0 : decide (0 < (a0.size : Int)) = true := decide_eq_true c5
        have c5b1 : decide (0 < a0.size) = true := decide_eq_true (by omega)
        clear c5
        (first | rw [c5b0] | (simp only [i64_w, i32_w]; rw [c5b0]) | skip)
        by_cases c6 : 0 < (a0.size : Int)
        · rw [if_pos c6] at H
          have c6b0 : decide (0 < (a0.size : Int)) = true := decide_eq_true c6
          have c6b1 : decide (0 < a0.size) = true := decide_eq_true (by omega)
          clear c6
          have H' := Aside0.mk H
          clear H
          have p7 : 0 ≤ (0 : Int) := (by omega)
          have q7 : 0 < a0.size := (by have : (0 : Int) < (a0.size : Int) := of_decide_eq_true (by first | (with_reducible assumption) | assumption); omega)
          have hx7 : ∀ h : 0 < a0.size, ((a0[0]'h).toNat : Int) = bt a0 0 := bt_at a0 0
          clear p7
          have qi7 : (0 < (a0.size : Int)) = True := eq_true (of_decide_eq_true (by first | (with_reducible assumption) | assumption))
          replace q7 := eq_true q7
          go_wp2
          go_meet
          case rel => exact ⟨_, (((bt a0 0) == 45)), (by first | rfl | (simp; done) | (simp [*]; done)), H', ⟨by first | omega | exact Nat.le_refl _⟩, by repeat (first | exact Drawn0.refl _ | apply Drawn0.step)⟩
        · rw [if_neg c6] at H
          exact absurd H (by simp)
      · rw [if_neg c5] at H
        have c5b0 : decide (0 < (a0.size : Int)) = false := decide_eq_false c5
        have c5b1 : decide (0 < a0.size) = false := decide_eq_false (by omega)
        clear c5
        (first | rw [c5b0] | (simp only [i64_w, i32_w]; rw [c5b0]) | skip)
        have H' := Aside0.mk H
        clear H
        go_wp2
        go_meet
        case rel => exact ⟨_, (false), (by first | rfl | (simp; done) | (simp [*]; done)), H', ⟨by first | omega | exact Nat.le_refl _⟩, by repeat (first | exact Drawn0.refl _ | apply Drawn0.step)⟩
    case rest =>
      clear HC4
      try clear c2
      try clear c2b0
      try clear c2b1
      try clear p2
      try clear c3
      try clear c5
      try clear c5b0
      try clear c5b1
      try clear c6
      try clear c6b0
      try clear c6b1
      try clear p7
      try clear q7
      try clear hx7
      try clear qi7
      try clear p7
      try clear q7
      obtain ⟨kq, x17_3, rfl, HA, HJ3, ⟨mc3, rfl⟩⟩ := hcut
      cases kq with
      | zero => exact absurd HA.out (by simp [helmsmanref01_Parse.j0])
      | succ kj3 =>
        have H := HA.out
        clear HA
        simp only [helmsmanref01_Parse.j0] at H
        have HC8 := Aside0.mk H
        clear H
        go_upto_if 17 with (fail)
        go_cut [4] (fun v4 wc => ∃ (kq : Nat) (x4_7 : Int), v4 = .int .i64 x4_7 ∧ Aside0 (helmsmanref01_Parse.j1 kq a0 x4_7 = some (r1, r2)) ∧ Aside0 (kq ≤ kj3) ∧ Drawn0 w wc)
        case first =>
          have H := HC8.out
          clear HC8
          by_cases c9 : x17_3 = true
          · subst c9
            have H1 : (helmsmanref01_Parse.j1 kj3 a0 1) = some (r1, r2) := by rw [if_pos rfl] at H; exact H
            clear H
            have H := H1
            clear H1
            have H' := Aside0.mk H
            clear H
            go_wp2
            go_meet
            case rel => exact ⟨_, (1), (by first | rfl | (simp; done) | (simp [*]; done)), H', ⟨by have := HJ3.out; first | omega | exact Nat.le_refl _⟩, by repeat (first | exact Drawn0.refl _ | apply Drawn0.step)⟩
          · replace c9 := Bool.eq_false_iff.mpr c9
            subst c9
            have H1 : (helmsmanref01_Parse.j1 kj3 a0 0) = some (r1, r2) := by rw [if_neg (show ¬ (false = true) by decide)] at H; exact H
            clear H
            have H := H1
            clear H1
            have H' := Aside0.mk H
            clear H
            go_wp2
            go_meet
            case rel => exact ⟨_, (0), (by first | rfl | (simp; done) | (simp [*]; done)), H', ⟨by have := HJ3.out; first | omega | exact Nat.le_refl _⟩, by repeat (first | exact Drawn0.refl _ | apply Drawn0.step)⟩
        case rest =>
          clear HC8
          try clear c2
          try clear c2b0
          try clear c2b1
          try clear p2
          try clear c3
          try clear c5
          try clear c5b0
          try clear c5b1
          try clear c6
          try clear c6b0
          try clear c6b1
          try clear p7
          try clear q7
          try clear hx7
          try clear qi7
          try clear c9
          try clear p2
          try clear p7
          try clear q7
          obtain ⟨kq, x4_7, rfl, HA, HJ7, ⟨mc7, rfl⟩⟩ := hcut
          cases kq with
          | zero => exact absurd HA.out (by simp [helmsmanref01_Parse.j1])
          | succ kj7 =>
            have H := HA.out
            clear HA
            simp only [helmsmanref01_Parse.j1] at H
            have H' := Aside0.mk H
            clear H
            go_wp2
            go_loopg [5, 6] kj7 (fun kq v5 v6 w' => ∃ (x5_3 : Int) (x6_3 : Int), v5 = .int .i64 x5_3 ∧ v6 = .int .i64 x6_3 ∧ Aside0 (helmsmanref01_Parse.l0 kq a0 x4_7 x5_3 x6_3 = some (r1, r2)) ∧ Aside0 (kq ≤ kj7) ∧ Drawn0 w w')
            case atStart => exact ⟨(0), (x4_7), (by first | rfl | (simp; done) | (simp [*]; done)), (by first | rfl | (simp; done) | (simp [*]; done)), H', ⟨Nat.le_refl _⟩, by repeat (first | exact Drawn0.refl _ | apply Drawn0.step)⟩
            case round =>
              clear H'
              try clear c2
              try clear c2b0
              try clear c2b1
              try clear p2
              try clear c3
              try clear c5
              try clear c5b0
              try clear c5b1
              try clear c6
              try clear c6b0
              try clear c6b1
              try clear c7
              try clear p7
              try clear q7
              try clear hx7
              try clear qi7
              try clear c9
              try clear p2
              try clear p7
              try clear q7
              obtain ⟨x5_3, x6_3, rfl, rfl, HA, HK3, ⟨m3, rfl⟩⟩ := hrel
              cases gk with
              | zero => exact absurd HA.out (by simp [helmsmanref01_Parse.l0])
              | succ k3 =>
                have H := HA.out
                clear HA
                simp only [helmsmanref01_Parse.l0] at H
                by_cases c10 : x6_3 < (a0.size : Int)
                · rw [if_pos c10] at H
                  have c10b0 : decide (x6_3 < (a0.size : Int)) = true := decide_eq_true c10
                  clear c10
                  by_cases c11 : 0 ≤ x6_3
                  · rw [if_pos c11] at H
                    have c11b0 : decide (0 ≤ x6_3) = true := decide_eq_true c11
                    clear c11
                    by_cases c13 : (bt a0 x6_3) < 48
                    · rw [if_pos c13] at H
                      have c13b0 : decide ((bt a0 x6_3) < 48) = true := decide_eq_true c13
                      clear c13
                      simp only [Option.some.injEq, Prod.mk.injEq] at H
                      obtain ⟨rfl, rfl⟩ := H
                      have p12 : 0 ≤ (x6_3 : Int) := of_decide_eq_true (by first | (with_reducible assumption) | assumption)
                      have q12 : x6_3 < (a0.size : Int) := of_decide_eq_true (by first | (with_reducible assumption) | assumption)
                      have hx12 := bt_at a0 x6_3
                      replace p12 := eq_true p12
                      replace q12 := eq_true q12
                      go_wp2
                      go_ret2
                      exact ⟨by first | rfl | (simp; done) | (simp [*]; done), by repeat (first | exact Drawn0.refl _ | apply Drawn0.step)⟩
                    · rw [if_neg c13] at H
                      have c13b0 : decide ((bt a0 x6_3) < 48) = false := decide_eq_false c13
                      clear c13
                      by_cases c15 : (bt a0 x6_3) > 57
                      · rw [if_pos c15] at H
                        have c15b0 : decide (57 < (bt a0 x6_3)) = true := decide_eq_true c15
                        clear c15
                        simp only [Option.some.injEq, Prod.mk.injEq] at H
                        obtain ⟨rfl, rfl⟩ := H
                        have p12 : 0 ≤ (x6_3 : Int) := of_decide_eq_true (by first | (with_reducible assumption) | assumption)
                        have q12 : x6_3 < (a0.size : Int) := of_decide_eq_true (by first | (with_reducible assumption) | assumption)
                        have hx12 := bt_at a0 x6_3
                        replace p12 := eq_true p12
                        replace q12 := eq_true q12
                        have p14 : 0 ≤ (x6_3 : Int) := of_decide_eq_true (by first | (with_reducible assumption) | assumption)
                        have q14 : x6_3 < (a0.size : Int) := of_decide_eq_true (by first | (with_reducible assumption) | assumption)
                        have hx14 := bt_at a0 x6_3
                        replace p14 := eq_true p14
                        replace q14 := eq_true q14
                        go_wp2
                        go_ret2
                        exact ⟨by first | rfl | (simp; done) | (simp [*]; done), by repeat (first | exact Drawn0.refl _ | apply Drawn0.step)⟩
                      · rw [if_neg c15] at H
                        have c15b0 : decide (57 < (bt a0 x6_3)) = false := decide_eq_false c15
                        clear c15
                        replace H := Option.bind_eq_some_iff.mp H
                        obtain ⟨t169, A160, H⟩ := H
                        replace H : (if x5_3 > (wrap64 (Int.tdiv t169 10)) then (some (0, 1)) else (helmsmanref01_Parse.l0 k3 a0 x4_7 (wrap64 ((wrap64 (x5_3 * 10)) + (((bt a0 x6_3) - 48) % 256))) (wrap64 (x6_3 + 1)))) = some (r1, r2) := H
                        have A16 := Aside0.mk A160
                        clear A160
                        by_cases c17 : x5_3 > (wrap64 (Int.tdiv t169 10))
                        · rw [if_pos c17] at H
                          have c17b0 : decide ((wrap64 (Int.tdiv t169 10)) < x5_3) = true := decide_eq_true c17
                          clear c17
                          simp only [Option.some.injEq, Prod.mk.injEq] at H
                          obtain ⟨rfl, rfl⟩ := H
                          have p12 : 0 ≤ (x6_3 : Int) := of_decide_eq_true (by first | (with_reducible assumption) | assumption)
                          have q12 : x6_3 < (a0.size : Int) := of_decide_eq_true (by first | (with_reducible assumption) | assumption)
                          have hx12 := bt_at a0 x6_3
                          replace p12 := eq_true p12
                          replace q12 := eq_true q12
                          have p14 : 0 ≤ (x6_3 : Int) := of_decide_eq_true (by first | (with_reducible assumption) | assumption)
                          have q14 : x6_3 < (a0.size : Int) := of_decide_eq_true (by first | (with_reducible assumption) | assumption)
                          have hx14 := bt_at a0 x6_3
                          replace p14 := eq_true p14
                          replace q14 := eq_true q14
                          go_wp2_with (first | (go_at_call 32; (with_reducible refine (helmsmanref01_Edge.calls  t169 _ A16.out).mono ?_); rintro e w' ⟨rfl, ⟨nd, rfl⟩⟩))
                          go_ret2
                          exact ⟨by first | rfl | (simp; done) | (simp [*]; done), by repeat (first | exact Drawn0.refl _ | apply Drawn0.step)⟩
                        · rw [if_neg c17] at H
                          have c17b0 : decide ((wrap64 (Int.tdiv t169 10)) < x5_3) = false := decide_eq_false c17
                          clear c17
                          have H' := Aside0.mk H
                          clear H
                          have p12 : 0 ≤ (x6_3 : Int) := of_decide_eq_true (by first | (with_reducible assumption) | assumption)
                          have q12 : x6_3 < (a0.size : Int) := of_decide_eq_true (by first | (with_reducible assumption) | assumption)
                          have hx12 := bt_at a0 x6_3
                          replace p12 := eq_true p12
                          replace q12 := eq_true q12
                          have p14 : 0 ≤ (x6_3 : Int) := of_decide_eq_true (by first | (with_reducible assumption) | assumption)
                          have q14 : x6_3 < (a0.size : Int) := of_decide_eq_true (by first | (with_reducible assumption) | assumption)
                          have hx14 := bt_at a0 x6_3
                          replace p14 := eq_true p14
                          replace q14 := eq_true q14
                          go_wp2_with (first | (go_at_call 32; (with_reducible refine (helmsmanref01_Edge.calls  t169 _ A16.out).mono ?_); rintro e w' ⟨rfl, ⟨nd, rfl⟩⟩; have p18 : 0 ≤ (x6_3 : Int) := of_decide_eq_true (by first | (with_reducible assumption) | assumption); have q18 : x6_3 < (a0.size : Int) := of_decide_eq_true (by first | (with_reducible assumption) | assumption); have hx18 := bt_at a0 x6_3; replace p18 := eq_true p18; replace q18 := eq_true q18))
                          go_roundg k3
                          case measure => have := HJ3.out; have := HJ7.out; have := HK3.out; omega
                          case rel => exact ⟨(wrap64 ((wrap64 (x5_3 * 10)) + (((bt a0 x6_3) - 48) % 256))), (wrap64 (x6_3 + 1)), (by first | rfl | (simp; done) | (simp [*]; done)), (by first | rfl | (simp; done) | (simp [*]; done)), H', ⟨by have := HJ3.out; have := HJ7.out; have := HK3.out; omega⟩, by repeat (first | exact Drawn0.refl _ | apply Drawn0.step)⟩
                  · rw [if_neg c11] at H
                    exact absurd H (by simp)
                · rw [if_neg c10] at H
                  have c10b0 : decide (x6_3 < (a0.size : Int)) = false := decide_eq_false c10
                  clear c10
                  have HC19 := Aside0.mk H
                  clear H
                  go_upto_if 50 with (fail)
                  go_cut [5] (fun v5 wc => ∃ (kq : Nat) (x5_18 : Int), v5 = .int .i64 x5_18 ∧ Aside0 (helmsmanref01_Parse.j3 kq a0 x5_18 = some (r1, r2)) ∧ Aside0 (kq ≤ k3) ∧ Drawn0 w wc)
                  case first =>
                    have H := HC19.out
                    clear HC19
                    by_cases c20 : x4_7 = 1
                    · rw [if_pos c20] at H
                      have c20b0 : (x4_7 == 1) = true := beq_iff_eq.mpr c20
                      have c20b1 : (x4_7 != 1) = false := bne_eq_false_iff_eq.mpr c20
                      clear c20
                      (first | rw [c20b0] | (simp only [i64_w, i32_w]; rw [c20b0]) | skip)
                      have H' := Aside0.mk H
                      clear H
                      go_wp2
                      go_meet
                      case rel => exact ⟨_, (wrap64 (-x5_3)), (by first | rfl | (simp; done) | (simp [*]; done)), H', ⟨by have := HJ3.out; have := HJ7.out; have := HK3.out; first | omega | exact Nat.le_refl _⟩, by repeat (first | exact Drawn0.refl _ | apply Drawn0.step)⟩
                    · rw [if_neg c20] at H
                      have c20b0 : (x4_7 == 1) = false := beq_eq_false_iff_ne.mpr c20
                      have c20b1 : (x4_7 != 1) = true := bne_iff_ne.mpr c20
                      (first | rw [c20b0] | (simp only [i64_w, i32_w]; rw [c20b0]) | skip)
                      have H' := Aside0.mk H
                      clear H
                      go_wp2
                      go_meet
                      case rel => exact ⟨_, (x5_3), (by first | rfl | (simp; done) | (simp [*]; done)), H', ⟨by have := HJ3.out; have := HJ7.out; have := HK3.out; first | omega | exact Nat.le_refl _⟩, by repeat (first | exact Drawn0.refl _ | apply Drawn0.step)⟩
                  case rest =>
                    clear HC19
                    try clear c1
                    try clear p1
                    try clear q1
                    try clear hx1
                    try clear c2
                    try clear c2b0
                    try clear c2b1
                    try clear p2
                    try clear c3
                    try clear c5
                    try clear c5b0
                    try clear c5b1
                    try clear c6
                    try clear c6b0
                    try clear c6b1
                    try clear p6
                    try clear c7
                    try clear p7
                    try clear q7
                    try clear hx7
                    try clear qi7
                    try clear c9
                    try clear c10
                    try clear c10b0
                    try clear c11
                    try clear c11b0
                    try clear p12
                    try clear q12
                    try clear hx12
                    try clear c13
                    try clear c13b0
                    try clear p14
                    try clear q14
                    try clear hx14
                    try clear c15
                    try clear c15b0
                    try clear c17
                    try clear c17b0
                    try clear p18
                    try clear q18
                    try clear hx18
                    try clear c20
                    try clear c20b0
                    try clear c20b1
                    try clear p12
                    try clear p14
                    try clear p18
                    try clear p2
                    try clear p7
                    try clear q12
                    try clear q14
                    try clear q18
                    try clear q7
                    obtain ⟨kq, x5_18, rfl, HA, HJ18, ⟨mc18, rfl⟩⟩ := hcut
                    cases kq with
                    | zero => exact absurd HA.out (by simp [helmsmanref01_Parse.j3])
                    | succ kj18 =>
                      have H := HA.out
                      clear HA
                      simp only [helmsmanref01_Parse.j3] at H
                      replace H := Option.bind_eq_some_iff.mp H
                      obtain ⟨t170, A210, H⟩ := H
                      replace H : (if t170 = true then ((helmsmanref01_None.f).bind fun t171 => (if x5_18 = t171 then (some (0, 1)) else ((helmsmanref01_Digits.f kj18 x5_18).bind fun t172 => (if t172.toList = a0.toList then (some (x5_18, 0)) else (some (0, 1)))))) else (some (0, 1))) = some (r1, r2) := H
                      have A21 := Aside0.mk A210
                      clear A210
                      by_cases c22 : t170 = true
                      · subst c22
                        have H1 : ((helmsmanref01_None.f).bind fun t171 => (if x5_18 = t171 then (some (0, 1)) else ((helmsmanref01_Digits.f kj18 x5_18).bind fun t172 => (if t172.toList = a0.toList then (some (x5_18, 0)) else (some (0, 1)))))) = some (r1, r2) := by rw [if_pos rfl] at H; exact H
                        clear H
                        have H := H1
                        clear H1
                        replace H := Option.bind_eq_some_iff.mp H
                        obtain ⟨t171, A230, H⟩ := H
                        replace H : (if x5_18 = t171 then (some (0, 1)) else ((helmsmanref01_Digits.f kj18 x5_18).bind fun t172 => (if t172.toList = a0.toList then (some (x5_18, 0)) else (some (0, 1))))) = some (r1, r2) := H
                        have A23 := Aside0.mk A230
                        clear A230
                        by_cases c24 : x5_18 = t171
                        · rw [if_pos c24] at H
                          have c24b0 : (x5_18 == t171) = true := beq_iff_eq.mpr c24
                          have c24b1 : (x5_18 != t171) = false := bne_eq_false_iff_eq.mpr c24
                          clear c24
                          simp only [Option.some.injEq, Prod.mk.injEq] at H
                          obtain ⟨rfl, rfl⟩ := H
                          go_wp2_with (first | ((with_reducible refine gate_callee (f := 16) rfl ?_); refine goesL_ (some 54) rfl rfl Tryd.func16 (by kernel_rfl) rfl #[.int .i64 x5_18] rfl (by (try simp only [List.map_toArray, List.map_cons, List.map_nil]); first | done | rfl | (simp only [List.length_drop, List.length_take]; rfl)) ?_; (with_reducible refine (helmsmanref01_Right.calls x5_18 true _ A21.out).mono ?_); rintro e w' ⟨rfl, ⟨nd, rfl⟩⟩; refine ⟨_, rfl, ?_⟩) | (go_at_call 33; (with_reducible refine (helmsmanref01_None.calls  t171 _ A23.out).mono ?_); rintro e w' ⟨rfl, ⟨nd, rfl⟩⟩))
                          go_ret2
                          exact ⟨by first | rfl | (simp; done) | (simp [*]; done), by repeat (first | exact Drawn0.refl _ | apply Drawn0.step)⟩
                        · rw [if_neg c24] at H
                          have c24b0 : (x5_18 == t171) = false := beq_eq_false_iff_ne.mpr c24
                          have c24b1 : (x5_18 != t171) = true := bne_iff_ne.mpr c24
                          replace H := Option.bind_eq_some_iff.mp H
                          obtain ⟨t172, A250, H⟩ := H
                          replace H : (if t172.toList = a0.toList then (some (x5_18, 0)) else (some (0, 1))) = some (r1, r2) := H
                          have A25 := Aside0.mk A250
                          clear A250
                          by_cases c26 : t172.toList = a0.toList
                          · rw [if_pos c26] at H
                            have c26b0 : (t172.toList == a0.toList) = true := beq_iff_eq.mpr c26
                            have c26b1 : (t172.toList != a0.toList) = false := bne_eq_false_iff_eq.mpr c26
                            clear c26
                            simp only [Option.some.injEq, Prod.mk.injEq] at H
                            obtain ⟨rfl, rfl⟩ := H
                            go_wp2_with (first | ((with_reducible refine gate_callee (f := 16) rfl ?_); refine goesL_ (some 54) rfl rfl Tryd.func16 (by kernel_rfl) rfl #[.int .i64 x5_18] rfl (by (try simp only [List.map_toArray, List.map_cons, List.map_nil]); first | done | rfl | (simp only [List.length_drop, List.length_take]; rfl)) ?_; (with_reducible refine (helmsmanref01_Right.calls x5_18 true _ A21.out).mono ?_); rintro e w' ⟨rfl, ⟨nd, rfl⟩⟩; refine ⟨_, rfl, ?_⟩) | (go_at_call 33; (with_reducible refine (helmsmanref01_None.calls  t171 _ A23.out).mono ?_); rintro e w' ⟨rfl, ⟨nd, rfl⟩⟩) | (go_at_call 36; (with_reducible refine (helmsmanref01_Digits.calls kj18 x5_18 t172 _ A25.out).mono ?_); rintro e w' ⟨rfl, ⟨nd, rfl⟩⟩))
                            go_ret2
                            exact ⟨by first | rfl | (simp; done) | (simp [*]; done), by repeat (first | exact Drawn0.refl _ | apply Drawn0.step)⟩
                          · rw [if_neg c26] at H
                            have c26b0 : (t172.toList == a0.toList) = false := beq_eq_false_iff_ne.mpr c26
                            have c26b1 : (t172.toList != a0.toList) = true := bne_iff_ne.mpr c26
                            simp only [Option.some.injEq, Prod.mk.injEq] at H
                            obtain ⟨rfl, rfl⟩ := H
                            go_wp2_with (first | ((with_reducible refine gate_callee (f := 16) rfl ?_); refine goesL_ (some 54) rfl rfl Tryd.func16 (by kernel_rfl) rfl #[.int .i64 x5_18] rfl (by (try simp only [List.map_toArray, List.map_cons, List.map_nil]); first | done | rfl | (simp only [List.length_drop, List.length_take]; rfl)) ?_; (with_reducible refine (helmsmanref01_Right.calls x5_18 true _ A21.out).mono ?_); rintro e w' ⟨rfl, ⟨nd, rfl⟩⟩; refine ⟨_, rfl, ?_⟩) | (go_at_call 33; (with_reducible refine (helmsmanref01_None.calls  t171 _ A23.out).mono ?_); rintro e w' ⟨rfl, ⟨nd, rfl⟩⟩) | (go_at_call 36; (with_reducible refine (helmsmanref01_Digits.calls kj18 x5_18 t172 _ A25.out).mono ?_); rintro e w' ⟨rfl, ⟨nd, rfl⟩⟩))
                            go_ret2
                            exact ⟨by first | rfl | (simp; done) | (simp [*]; done), by repeat (first | exact Drawn0.refl _ | apply Drawn0.step)⟩
                      · replace c22 := Bool.eq_false_iff.mpr c22
                        subst c22
                        have H1 : (some (0, 1)) = some (r1, r2) := by rw [if_neg (show ¬ (false = true) by decide)] at H; exact H
                        clear H
                        have H := H1
                        clear H1
                        simp only [Option.some.injEq, Prod.mk.injEq] at H
                        obtain ⟨rfl, rfl⟩ := H
                        go_wp2_with (first | ((with_reducible refine gate_callee (f := 16) rfl ?_); refine goesL_ (some 54) rfl rfl Tryd.func16 (by kernel_rfl) rfl #[.int .i64 x5_18] rfl (by (try simp only [List.map_toArray, List.map_cons, List.map_nil]); first | done | rfl | (simp only [List.length_drop, List.length_take]; rfl)) ?_; (with_reducible refine (helmsmanref01_Right.calls x5_18 false _ A21.out).mono ?_); rintro e w' ⟨rfl, ⟨nd, rfl⟩⟩; refine ⟨_, rfl, ?_⟩))
                        go_ret2
                        exact ⟨by first | rfl | (simp; done) | (simp [*]; done), by repeat (first | exact Drawn0.refl _ | apply Drawn0.step)⟩

end Go.Proofs.YtjkaeimchnfhkaaDoor.PBoundParses
