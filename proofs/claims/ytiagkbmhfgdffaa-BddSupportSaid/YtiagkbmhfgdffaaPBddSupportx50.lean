-- PRINTED BY print.sh 35421559b90ae4d0a3588c463048766b98c2df88dd9212a6774a882060cdf62d: not written by this session
import Derived.Test.YtiagkbmhfgdffaaPBddSupportx0
import Derived.Test.YtiagkbmhfgdffaaPBddSupportx45
namespace Go.Proofs.Ytiagkbmhfgdffaa.PBddSupport
open Go.RowKit Go.Proofs.YtiagkbmhfgdffaaW.PrintWords Go.Proofs.YtiagkbmhfgdffaaW.PrintLast Go.Proofs.YtiagkbmhfgdffaaW.PrintMore
attribute [local go_sem] max2_int min2_int max_two min_two max_three min_three max_four min_four   -- for this text's walks alone
set_option linter.unusedVariables false
set_option linter.unusedSimpArgs false

/-! ### helmsmanref07_Support: function 17 -/
mutual
def helmsmanref07_Support.l0 : Nat → List Bool → Int → Int → Int → Option (Int)
  | 0, _, _, _, _ => none
  | k + 1, x0, x3, x4, x5 => if x5 < 12 then (helmsmanref07_Support.l1 k x0 x3 x4 x5 false 0) else (some x3)
def helmsmanref07_Support.l1 : Nat → List Bool → Int → Int → Int → Bool → Int → Option (Int)
  | 0, _, _, _, _, _, _ => none
  | k + 1, x0, x3, x4, x5, x6, x7 => if x7 < 4096 then ((helmsmanref07_with.f k x7 x5 false).bind fun t166 => (if 0 ≤ t166 then (if t166 < (x0.length : Int) then ((helmsmanref07_with.f k x7 x5 true).bind fun t168 => (if 0 ≤ t168 then (if t168 < (x0.length : Int) then (if ((rdOf false x0 t166) != (rdOf false x0 t168)) = true then (helmsmanref07_Support.l1 k x0 x3 x4 x5 true (wrap64 (x7 + 1))) else (helmsmanref07_Support.l1 k x0 x3 x4 x5 x6 (wrap64 (x7 + 1)))) else (none)) else (none))) else (none)) else (none))) else (if x6 = true then (helmsmanref07_Support.l0 k x0 (IntKind.u64.wrap (x3 + x4)) (IntKind.u64.wrap (x4 * 2)) (wrap64 (x5 + 1))) else (helmsmanref07_Support.l0 k x0 x3 (IntKind.u64.wrap (x4 * 2)) (wrap64 (x5 + 1))))
end
def helmsmanref07_Support.f (k : Nat) (l0 : List Bool) : Option (Int) := helmsmanref07_Support.l0 k l0 0 1 0
theorem helmsmanref07_Support.mono_l : ∀ k, (∀ y0 y1 y2 y3, LeO (helmsmanref07_Support.l0 k y0 y1 y2 y3) (helmsmanref07_Support.l0 (k + 1) y0 y1 y2 y3)) ∧ (∀ y0 y1 y2 y3 y4 y5, LeO (helmsmanref07_Support.l1 k y0 y1 y2 y3 y4 y5) (helmsmanref07_Support.l1 (k + 1) y0 y1 y2 y3 y4 y5))
  | 0 => ⟨fun _ _ _ _ r h => by simp [helmsmanref07_Support.l0] at h, fun _ _ _ _ _ _ r h => by simp [helmsmanref07_Support.l1] at h⟩
  | k + 1 => by
    obtain ⟨ih0, ih1⟩ := helmsmanref07_Support.mono_l k
    refine ⟨?_, ?_⟩
    · intro y0 y1 y2 y3
      unfold helmsmanref07_Support.l0
      repeat' first
      | (with_reducible exact ih0 _ _ _ _)
      | (with_reducible exact ih1 _ _ _ _ _ _)
      | (with_reducible exact helmsmanref07_with.mono _ _ _ _)
      | (with_reducible exact LeO.refl _)
      | (with_reducible exact LeO.none _)
      | (with_reducible refine LeO.ite ?_ ?_)
      | (with_reducible refine LeO.bind ?_ (fun _ => ?_))
      | exact ih0 _ _ _ _
      | exact ih1 _ _ _ _ _ _
      | exact helmsmanref07_with.mono _ _ _ _
      | exact LeO.none _
      | refine LeO.ite ?_ ?_
      | refine LeO.bind ?_ (fun _ => ?_)
    · intro y0 y1 y2 y3 y4 y5
      unfold helmsmanref07_Support.l1
      repeat' first
      | (with_reducible exact ih0 _ _ _ _)
      | (with_reducible exact ih1 _ _ _ _ _ _)
      | (with_reducible exact helmsmanref07_with.mono _ _ _ _)
      | (with_reducible exact LeO.refl _)
      | (with_reducible exact LeO.none _)
      | (with_reducible refine LeO.ite ?_ ?_)
      | (with_reducible refine LeO.bind ?_ (fun _ => ?_))
      | exact ih0 _ _ _ _
      | exact ih1 _ _ _ _ _ _
      | exact helmsmanref07_with.mono _ _ _ _
      | exact LeO.none _
      | refine LeO.ite ?_ ?_
      | refine LeO.bind ?_ (fun _ => ?_)
theorem helmsmanref07_Support.mono : ∀ a0 k, LeO (helmsmanref07_Support.f k a0) (helmsmanref07_Support.f (k + 1) a0) := by
  intro a0 k
  obtain ⟨ih0, ih1⟩ := helmsmanref07_Support.mono_l k
  unfold helmsmanref07_Support.f
  repeat' first
      | (with_reducible exact ih0 _ _ _ _)
      | (with_reducible exact ih1 _ _ _ _ _ _)
      | (with_reducible exact helmsmanref07_with.mono _ _ _ _)
      | (with_reducible exact LeO.refl _)
      | (with_reducible exact LeO.none _)
      | (with_reducible refine LeO.ite ?_ ?_)
      | (with_reducible refine LeO.bind ?_ (fun _ => ?_))
      | exact ih0 _ _ _ _
      | exact ih1 _ _ _ _ _ _
      | exact helmsmanref07_with.mono _ _ _ _
      | exact LeO.none _
      | refine LeO.ite ?_ ?_
      | refine LeO.bind ?_ (fun _ => ?_)
set_option maxHeartbeats 8000000 in
set_option maxRecDepth 100000 in
theorem helmsmanref07_Support.calls (k : Nat) (A0 : Option Addr) (c0 : Nat) (l0 : List Bool) (r : Int) (w : World) (hr0 : Kd.C Kd.bool w A0 l0.length l0) (hc0 : l0.length ≤ c0) (h : helmsmanref07_Support.f k l0 = some r) :
    Calls Try.prog 17 #[.slice A0 l0.length c0] w fun e w' => e = .returned (.int .u64 r) ∧ Drawn0 w w' := by
  have HR0 := Aside0.mk hr0
  have HC0 := Aside0.mk hc0
  clear hr0 hc0
  have H : (helmsmanref07_Support.l0 k l0 0 1 0) = some r := h
  clear h
  have H' := Aside0.mk H
  clear H
  go_enter Try.func17, Try.ntmps17
  go_wp2
  repeat (go_quiet (fail); try go_wp2)
  go_loopg [3, 4, 5] k (fun kq v3 v4 v5 w' => ∃ (x3_1 : Int) (x4_1 : Int) (x5_1 : Int), v3 = .int .u64 x3_1 ∧ v4 = .int .u64 x4_1 ∧ v5 = .int .i64 x5_1 ∧ Aside0 (helmsmanref07_Support.l0 kq l0 x3_1 x4_1 x5_1 = some r) ∧ Aside0 (kq ≤ k) ∧ Drawn0 w w')
  case atStart => exact ⟨(0), (1), (0), (by first | rfl | (simp; done) | (simp [*]; done)), (by first | rfl | (simp; done) | (simp [*]; done)), (by first | rfl | (simp; done) | (simp [*]; done)), H', ⟨Nat.le_refl _⟩, by repeat (first | exact Drawn0.refl _ | apply Drawn0.step)⟩
  case round =>
    clear H'
    try clear c1
    obtain ⟨x3_1, x4_1, x5_1, rfl, rfl, rfl, HA, HK1, ⟨m1, rfl⟩⟩ := hrel
    cases gk with
    | zero => exact absurd HA.out (by simp [helmsmanref07_Support.l0])
    | succ k1 =>
      have H := HA.out
      clear HA
      simp only [helmsmanref07_Support.l0] at H
      by_cases c2 : x5_1 < 12
      · rw [if_pos c2] at H
        have c2b0 : decide (x5_1 < 12) = true := decide_eq_true c2
        clear c2
        have H' := Aside0.mk H
        clear H
        go_wp2
        repeat (go_quiet (fail); try go_wp2)
        go_loopg [6, 7] k1 (fun kq v6 v7 w' => ∃ (x6_2 : Bool) (x7_2 : Int), v6 = .bool x6_2 ∧ v7 = .int .i64 x7_2 ∧ Aside0 (helmsmanref07_Support.l1 kq l0 x3_1 x4_1 x5_1 x6_2 x7_2 = some r) ∧ Aside0 (kq ≤ k1) ∧ Drawn0 w w')
        case atStart => exact ⟨(false), (0), (by first | rfl | (simp; done) | (simp [*]; done)), (by first | rfl | (simp; done) | (simp [*]; done)), H', ⟨Nat.le_refl _⟩, by repeat (first | exact Drawn0.refl _ | apply Drawn0.step)⟩
        case round =>
          clear H'
          try clear c1
          try clear c2
          try clear c2b0
          try clear p2
          obtain ⟨x6_2, x7_2, rfl, rfl, HA, HK2, ⟨m2, rfl⟩⟩ := hrel
          cases gk with
          | zero => exact absurd HA.out (by simp [helmsmanref07_Support.l1])
          | succ k2 =>
            have H := HA.out
            clear HA
            simp only [helmsmanref07_Support.l1] at H
            by_cases c3 : x7_2 < 4096
            · rw [if_pos c3] at H
              have c3b0 : decide (x7_2 < 4096) = true := decide_eq_true c3
              clear c3
              replace H := Option.bind_eq_some_iff.mp H
              obtain ⟨t166, A40, H⟩ := H
              replace H : (if 0 ≤ t166 then (if t166 < (l0.length : Int) then ((helmsmanref07_with.f k2 x7_2 x5_1 true).bind fun t168 => (if 0 ≤ t168 then (if t168 < (l0.length : Int) then (if ((rdOf false l0 t166) != (rdOf false l0 t168)) = true then (helmsmanref07_Support.l1 k2 l0 x3_1 x4_1 x5_1 true (wrap64 (x7_2 + 1))) else (helmsmanref07_Support.l1 k2 l0 x3_1 x4_1 x5_1 x6_2 (wrap64 (x7_2 + 1)))) else (none)) else (none))) else (none)) else (none)) = some r := H
              have A4 := Aside0.mk A40
              clear A40
              by_cases c5 : 0 ≤ t166
              · rw [if_pos c5] at H
                have c5b0 : decide (0 ≤ t166) = true := decide_eq_true c5
                clear c5
                by_cases c6 : t166 < (l0.length : Int)
                · rw [if_pos c6] at H
                  have c6b0 : decide (t166 < (l0.length : Int)) = true := decide_eq_true c6
                  clear c6
                  replace H := Option.bind_eq_some_iff.mp H
                  obtain ⟨t168, A70, H⟩ := H
                  replace H : (if 0 ≤ t168 then (if t168 < (l0.length : Int) then (if ((rdOf false l0 t166) != (rdOf false l0 t168)) = true then (helmsmanref07_Support.l1 k2 l0 x3_1 x4_1 x5_1 true (wrap64 (x7_2 + 1))) else (helmsmanref07_Support.l1 k2 l0 x3_1 x4_1 x5_1 x6_2 (wrap64 (x7_2 + 1)))) else (none)) else (none)) = some r := H
                  have A7 := Aside0.mk A70
                  clear A70
                  by_cases c8 : 0 ≤ t168
                  · rw [if_pos c8] at H
                    have c8b0 : decide (0 ≤ t168) = true := decide_eq_true c8
                    clear c8
                    by_cases c9 : t168 < (l0.length : Int)
                    · rw [if_pos c9] at H
                      have c9b0 : decide (t168 < (l0.length : Int)) = true := decide_eq_true c9
                      clear c9
                      by_cases c10 : ((rdOf false l0 t166) != (rdOf false l0 t168)) = true
                      · rw [if_pos c10] at H
                        have c10b0 : ((rdOf false l0 t166) != (rdOf false l0 t168)) = true := c10
                        (try (have c10b1 : decide ((rdOf false l0 t166) = (rdOf false l0 t168)) = false := by simpa using c10))
                        (try (have c10b2 : ((rdOf false l0 t166) == (rdOf false l0 t168)) = false := by simpa using c10))
                        (try (have c10b3 : ¬ ((rdOf false l0 t166) = (rdOf false l0 t168)) := by simpa using c10))
                        clear c10
                        have H' := Aside0.mk H
                        clear H
                        go_wp2_with (first | (go_at_call 39; (with_reducible refine (helmsmanref07_with.calls k2 x7_2 x5_1 false t166 _ A4.out).mono ?_); rintro e w' ⟨rfl, ⟨nd, rfl⟩⟩; (try first | exact ⟨rfl, _, World.drewN_drewN _ _ _⟩ | exact ⟨rfl, _, Eq.trans (World.drewN_drewN _ _ _) (congrArg (World.drewN _) (Nat.add_assoc _ _ _))⟩); have p167 : 0 ≤ (t166 : Int) := of_decide_eq_true (by first | (with_reducible assumption) | assumption); have q167 : t166 < (l0.length : Int) := of_decide_eq_true (by first | (with_reducible assumption) | assumption); obtain ⟨ad167, e167, hx167_0⟩ := Kd.at_bool HR0.out t166 p167 q167; cases e167; replace p167 := eq_true p167; replace q167 := eq_true q167) | (go_at_call 39; (with_reducible refine (helmsmanref07_with.calls k2 x7_2 x5_1 true t168 _ A7.out).mono ?_); rintro e w' ⟨rfl, ⟨nd, rfl⟩⟩; (try first | exact ⟨rfl, _, World.drewN_drewN _ _ _⟩ | exact ⟨rfl, _, Eq.trans (World.drewN_drewN _ _ _) (congrArg (World.drewN _) (Nat.add_assoc _ _ _))⟩); have p169 : 0 ≤ (t168 : Int) := of_decide_eq_true (by first | (with_reducible assumption) | assumption); have q169 : t168 < (l0.length : Int) := of_decide_eq_true (by first | (with_reducible assumption) | assumption); obtain ⟨ad169, e169, hx169_0⟩ := Kd.at_bool HR0.out t168 p169 q169; obtain rfl : ad167 = ad169 := (by injection e169); replace p169 := eq_true p169; replace q169 := eq_true q169))
                        repeat (go_quiet (first | (go_at_call 39; (with_reducible refine (helmsmanref07_with.calls k2 x7_2 x5_1 false t166 _ A4.out).mono ?_); rintro e w' ⟨rfl, ⟨nd, rfl⟩⟩; (try first | exact ⟨rfl, _, World.drewN_drewN _ _ _⟩ | exact ⟨rfl, _, Eq.trans (World.drewN_drewN _ _ _) (congrArg (World.drewN _) (Nat.add_assoc _ _ _))⟩); have p167 : 0 ≤ (t166 : Int) := of_decide_eq_true (by first | (with_reducible assumption) | assumption); have q167 : t166 < (l0.length : Int) := of_decide_eq_true (by first | (with_reducible assumption) | assumption); obtain ⟨ad167, e167, hx167_0⟩ := Kd.at_bool HR0.out t166 p167 q167; cases e167; replace p167 := eq_true p167; replace q167 := eq_true q167) | (go_at_call 39; (with_reducible refine (helmsmanref07_with.calls k2 x7_2 x5_1 true t168 _ A7.out).mono ?_); rintro e w' ⟨rfl, ⟨nd, rfl⟩⟩; (try first | exact ⟨rfl, _, World.drewN_drewN _ _ _⟩ | exact ⟨rfl, _, Eq.trans (World.drewN_drewN _ _ _) (congrArg (World.drewN _) (Nat.add_assoc _ _ _))⟩); have p169 : 0 ≤ (t168 : Int) := of_decide_eq_true (by first | (with_reducible assumption) | assumption); have q169 : t168 < (l0.length : Int) := of_decide_eq_true (by first | (with_reducible assumption) | assumption); obtain ⟨ad169, e169, hx169_0⟩ := Kd.at_bool HR0.out t168 p169 q169; obtain rfl : ad167 = ad169 := (by injection e169); replace p169 := eq_true p169; replace q169 := eq_true q169)); try go_wp2_with (first | (go_at_call 39; (with_reducible refine (helmsmanref07_with.calls k2 x7_2 x5_1 false t166 _ A4.out).mono ?_); rintro e w' ⟨rfl, ⟨nd, rfl⟩⟩; (try first | exact ⟨rfl, _, World.drewN_drewN _ _ _⟩ | exact ⟨rfl, _, Eq.trans (World.drewN_drewN _ _ _) (congrArg (World.drewN _) (Nat.add_assoc _ _ _))⟩); have p167 : 0 ≤ (t166 : Int) := of_decide_eq_true (by first | (with_reducible assumption) | assumption); have q167 : t166 < (l0.length : Int) := of_decide_eq_true (by first | (with_reducible assumption) | assumption); obtain ⟨ad167, e167, hx167_0⟩ := Kd.at_bool HR0.out t166 p167 q167; cases e167; replace p167 := eq_true p167; replace q167 := eq_true q167) | (go_at_call 39; (with_reducible refine (helmsmanref07_with.calls k2 x7_2 x5_1 true t168 _ A7.out).mono ?_); rintro e w' ⟨rfl, ⟨nd, rfl⟩⟩; (try first | exact ⟨rfl, _, World.drewN_drewN _ _ _⟩ | exact ⟨rfl, _, Eq.trans (World.drewN_drewN _ _ _) (congrArg (World.drewN _) (Nat.add_assoc _ _ _))⟩); have p169 : 0 ≤ (t168 : Int) := of_decide_eq_true (by first | (with_reducible assumption) | assumption); have q169 : t168 < (l0.length : Int) := of_decide_eq_true (by first | (with_reducible assumption) | assumption); obtain ⟨ad169, e169, hx169_0⟩ := Kd.at_bool HR0.out t168 p169 q169; obtain rfl : ad167 = ad169 := (by injection e169); replace p169 := eq_true p169; replace q169 := eq_true q169)))
                        go_roundg k2
                        case measure => have := HK1.out; have := HK2.out; omega
                        case rel => exact ⟨(true), (wrap64 (x7_2 + 1)), (by first | rfl | (simp; done) | (simp [*]; done)), (by first | rfl | (simp; done) | (simp [*]; done)), H', ⟨by have := HK1.out; have := HK2.out; omega⟩, by repeat (first | exact Drawn0.refl _ | apply Drawn0.step)⟩
                      · rw [if_neg c10] at H
                        have c10b0 : ((rdOf false l0 t166) != (rdOf false l0 t168)) = false := by simpa using c10
                        (try (have c10b1 : decide ((rdOf false l0 t166) = (rdOf false l0 t168)) = true := by simpa using c10))
                        (try (have c10b2 : ((rdOf false l0 t166) == (rdOf false l0 t168)) = true := by simpa using c10))
                        clear c10
                        have H' := Aside0.mk H
                        clear H
                        go_wp2_with (first | (go_at_call 39; (with_reducible refine (helmsmanref07_with.calls k2 x7_2 x5_1 false t166 _ A4.out).mono ?_); rintro e w' ⟨rfl, ⟨nd, rfl⟩⟩; (try first | exact ⟨rfl, _, World.drewN_drewN _ _ _⟩ | exact ⟨rfl, _, Eq.trans (World.drewN_drewN _ _ _) (congrArg (World.drewN _) (Nat.add_assoc _ _ _))⟩); have p167 : 0 ≤ (t166 : Int) := of_decide_eq_true (by first | (with_reducible assumption) | assumption); have q167 : t166 < (l0.length : Int) := of_decide_eq_true (by first | (with_reducible assumption) | assumption); obtain ⟨ad167, e167, hx167_0⟩ := Kd.at_bool HR0.out t166 p167 q167; cases e167; replace p167 := eq_true p167; replace q167 := eq_true q167) | (go_at_call 39; (with_reducible refine (helmsmanref07_with.calls k2 x7_2 x5_1 true t168 _ A7.out).mono ?_); rintro e w' ⟨rfl, ⟨nd, rfl⟩⟩; (try first | exact ⟨rfl, _, World.drewN_drewN _ _ _⟩ | exact ⟨rfl, _, Eq.trans (World.drewN_drewN _ _ _) (congrArg (World.drewN _) (Nat.add_assoc _ _ _))⟩); have p169 : 0 ≤ (t168 : Int) := of_decide_eq_true (by first | (with_reducible assumption) | assumption); have q169 : t168 < (l0.length : Int) := of_decide_eq_true (by first | (with_reducible assumption) | assumption); obtain ⟨ad169, e169, hx169_0⟩ := Kd.at_bool HR0.out t168 p169 q169; obtain rfl : ad167 = ad169 := (by injection e169); replace p169 := eq_true p169; replace q169 := eq_true q169))
                        repeat (go_quiet (first | (go_at_call 39; (with_reducible refine (helmsmanref07_with.calls k2 x7_2 x5_1 false t166 _ A4.out).mono ?_); rintro e w' ⟨rfl, ⟨nd, rfl⟩⟩; (try first | exact ⟨rfl, _, World.drewN_drewN _ _ _⟩ | exact ⟨rfl, _, Eq.trans (World.drewN_drewN _ _ _) (congrArg (World.drewN _) (Nat.add_assoc _ _ _))⟩); have p167 : 0 ≤ (t166 : Int) := of_decide_eq_true (by first | (with_reducible assumption) | assumption); have q167 : t166 < (l0.length : Int) := of_decide_eq_true (by first | (with_reducible assumption) | assumption); obtain ⟨ad167, e167, hx167_0⟩ := Kd.at_bool HR0.out t166 p167 q167; cases e167; replace p167 := eq_true p167; replace q167 := eq_true q167) | (go_at_call 39; (with_reducible refine (helmsmanref07_with.calls k2 x7_2 x5_1 true t168 _ A7.out).mono ?_); rintro e w' ⟨rfl, ⟨nd, rfl⟩⟩; (try first | exact ⟨rfl, _, World.drewN_drewN _ _ _⟩ | exact ⟨rfl, _, Eq.trans (World.drewN_drewN _ _ _) (congrArg (World.drewN _) (Nat.add_assoc _ _ _))⟩); have p169 : 0 ≤ (t168 : Int) := of_decide_eq_true (by first | (with_reducible assumption) | assumption); have q169 : t168 < (l0.length : Int) := of_decide_eq_true (by first | (with_reducible assumption) | assumption); obtain ⟨ad169, e169, hx169_0⟩ := Kd.at_bool HR0.out t168 p169 q169; obtain rfl : ad167 = ad169 := (by injection e169); replace p169 := eq_true p169; replace q169 := eq_true q169)); try go_wp2_with (first | (go_at_call 39; (with_reducible refine (helmsmanref07_with.calls k2 x7_2 x5_1 false t166 _ A4.out).mono ?_); rintro e w' ⟨rfl, ⟨nd, rfl⟩⟩; (try first | exact ⟨rfl, _, World.drewN_drewN _ _ _⟩ | exact ⟨rfl, _, Eq.trans (World.drewN_drewN _ _ _) (congrArg (World.drewN _) (Nat.add_assoc _ _ _))⟩); have p167 : 0 ≤ (t166 : Int) := of_decide_eq_true (by first | (with_reducible assumption) | assumption); have q167 : t166 < (l0.length : Int) := of_decide_eq_true (by first | (with_reducible assumption) | assumption); obtain ⟨ad167, e167, hx167_0⟩ := Kd.at_bool HR0.out t166 p167 q167; cases e167; replace p167 := eq_true p167; replace q167 := eq_true q167) | (go_at_call 39; (with_reducible refine (helmsmanref07_with.calls k2 x7_2 x5_1 true t168 _ A7.out).mono ?_); rintro e w' ⟨rfl, ⟨nd, rfl⟩⟩; (try first | exact ⟨rfl, _, World.drewN_drewN _ _ _⟩ | exact ⟨rfl, _, Eq.trans (World.drewN_drewN _ _ _) (congrArg (World.drewN _) (Nat.add_assoc _ _ _))⟩); have p169 : 0 ≤ (t168 : Int) := of_decide_eq_true (by first | (with_reducible assumption) | assumption); have q169 : t168 < (l0.length : Int) := of_decide_eq_true (by first | (with_reducible assumption) | assumption); obtain ⟨ad169, e169, hx169_0⟩ := Kd.at_bool HR0.out t168 p169 q169; obtain rfl : ad167 = ad169 := (by injection e169); replace p169 := eq_true p169; replace q169 := eq_true q169)))
                        go_roundg k2
                        case measure => have := HK1.out; have := HK2.out; omega
                        case rel => exact ⟨(x6_2), (wrap64 (x7_2 + 1)), (by first | rfl | (simp; done) | (simp [*]; done)), (by first | rfl | (simp; done) | (simp [*]; done)), H', ⟨by have := HK1.out; have := HK2.out; omega⟩, by repeat (first | exact Drawn0.refl _ | apply Drawn0.step)⟩
                    · rw [if_neg c9] at H
                      exact absurd H (by simp)
                  · rw [if_neg c8] at H
                    exact absurd H (by simp)
                · rw [if_neg c6] at H
                  exact absurd H (by simp)
              · rw [if_neg c5] at H
                exact absurd H (by simp)
            · rw [if_neg c3] at H
              have c3b0 : decide (x7_2 < 4096) = false := decide_eq_false c3
              clear c3
              by_cases c11 : x6_2 = true
              · subst c11
                have H1 : (helmsmanref07_Support.l0 k2 l0 (IntKind.u64.wrap (x3_1 + x4_1)) (IntKind.u64.wrap (x4_1 * 2)) (wrap64 (x5_1 + 1))) = some r := by rw [if_pos rfl] at H; exact H
                clear H
                have H := H1
                clear H1
                have H' := Aside0.mk H
                clear H
                go_wp2
                repeat (go_quiet (fail); try go_wp2)
                go_roundg k2
                case measure => have := HK1.out; have := HK2.out; omega
                case rel => exact ⟨(IntKind.u64.wrap (x3_1 + x4_1)), (IntKind.u64.wrap (x4_1 * 2)), (wrap64 (x5_1 + 1)), (by first | rfl | (simp; done) | (simp [*]; done)), (by first | rfl | (simp; done) | (simp [*]; done)), (by first | rfl | (simp; done) | (simp [*]; done)), H', ⟨by have := HK1.out; have := HK2.out; omega⟩, by repeat (first | exact Drawn0.refl _ | apply Drawn0.step)⟩
              · replace c11 := Bool.eq_false_iff.mpr c11
                subst c11
                have H1 : (helmsmanref07_Support.l0 k2 l0 x3_1 (IntKind.u64.wrap (x4_1 * 2)) (wrap64 (x5_1 + 1))) = some r := by rw [if_neg (show ¬ (false = true) by decide)] at H; exact H
                clear H
                have H := H1
                clear H1
                have H' := Aside0.mk H
                clear H
                go_wp2
                repeat (go_quiet (fail); try go_wp2)
                go_roundg k2
                case measure => have := HK1.out; have := HK2.out; omega
                case rel => exact ⟨(x3_1), (IntKind.u64.wrap (x4_1 * 2)), (wrap64 (x5_1 + 1)), (by first | rfl | (simp; done) | (simp [*]; done)), (by first | rfl | (simp; done) | (simp [*]; done)), (by first | rfl | (simp; done) | (simp [*]; done)), H', ⟨by have := HK1.out; have := HK2.out; omega⟩, by repeat (first | exact Drawn0.refl _ | apply Drawn0.step)⟩
      · rw [if_neg c2] at H
        have c2b0 : decide (x5_1 < 12) = false := decide_eq_false c2
        clear c2
        obtain rfl := Option.some.inj H
        go_wp2
        repeat (go_quiet (fail); try go_wp2)
        go_ret
        exact ⟨by first | rfl | (simp; done) | (simp [*]; done), by repeat (first | exact Drawn0.refl _ | apply Drawn0.step)⟩

end Go.Proofs.Ytiagkbmhfgdffaa.PBddSupport
