/- Texts of this claim, one behind the other: Sv, Sw, Sx, Sy, Sz, Su, Sa, Jk. -/
import Derived.Test.YtjddafaaplhnfaaDoorPSpanWidensx11
import Derived.Test.YtjddafaaplhnfaaDoorPSpanWidensx12
import Derived.Test.YtjddafaaplhnfaaDoorPSpanWidensx20
import Derived.Test.YtjddafaaplhnfaaDoorPSpanWidensx10
import Derived.Test.YtjddafaaplhnfaaDoorPSpanWidensx22
import Derived.Test.YtjddafaaplhnfaaDoorPSpanWidensx39
import Derived.Test.YtjddafaaplhnfaaDoorPSpanWidensx3
import Derived.Test.YtjddafaaplhnfaaDoorPm
import Derived.Shelf.Bits.Mul64
import Derived.IntWalk
import Derived.Deep.LoopGhost
import Derived.Deep.DeepCutAuto
import Derived.Deep.QuietTactic
import Derived.BigQuiet
import Derived.Shelf.Slices.Turned
import Derived.Deep.RegionHeld3
import Derived.Deep.RegionLaw
import Derived.Deep.AppendLies
import Derived.Maps.AppendAt
import Derived.ChangeSlices
import Derived.Deep.SlicePairs
import Derived.Lib.SmallJoins
set_option linter.unusedVariables false
set_option linter.unusedSimpArgs false
namespace Go.Proofs.YtjddafaaplhnfaaDoor.PSpanWidens
open Go.RowKit Go.Proofs.YtjddafaaplhnfaaDoorW.PrintWords Go.Proofs.YtjddafaaplhnfaaDoorW.PrintLast Go.Proofs.YtjddafaaplhnfaaDoorW.PrintMore Go.Shelf

theorem w64 {n : Int} (h : -9223372036854775808 ≤ n ∧ n ≤ 9223372036854775807) : wrap64 n = n := by unfold wrap64; omega
theorem u64w {n : Int} (h : 0 ≤ n ∧ n ≤ 18446744073709551615) : IntKind.u64.wrap n = n := (IntKind.wrap_u64 _).trans (Int.emod_eq_of_lt (by omega) (by omega))
theorem mx_eq (a b : Int) : mx a b = max a b := by unfold mx; split <;> omega
theorem mn_eq (a b : Int) : mn a b = min a b := by unfold mn; split <;> omega

theorem In_f (a : Int) : bound_In.f a = some (Bd.inn a) := by
  unfold bound_In.f Bd.inn
  by_cases h : a ≥ -1152921504606846976
  · rw [if_pos h, decide_eq_true (show -1152921504606846976 ≤ a from h), Bool.true_and]
  · rw [if_neg h, decide_eq_false (show ¬ -1152921504606846976 ≤ a from h), Bool.false_and]
theorem Near_f (b : Int) : bound_Near.f b = some (Bd.near b) := by
  unfold bound_Near.f Bd.near mx
  split
  · rfl
  · split
    · rfl
    · rfl
theorem Empty_f : span_Empty.f = some (1, 0) := rfl
theorem Full_f : span_Full.f = some (-1152921504606846976, 1152921504606846976) := rfl
theorem Of_f (l h : Int) : span_Of.f l h = some (Sp.of l h) := by
  unfold span_Of.f Sp.of
  rw [mx_eq, mn_eq, Empty_f]
  simp only [Option.bind_some]
  by_cases c : max l (-1152921504606846976) ≤ min h 1152921504606846976
  · rw [if_neg (by omega), if_pos c]
  · rw [if_pos (by omega), if_neg c]
theorem Right_f (l h : Int) : span_Right.f l h = some (Sp.right l h) := by
  unfold span_Right.f Sp.right
  rw [Empty_f]
  simp only [Option.bind_some]
  by_cases c : (l == 1 && h == 0) = true
  · rw [if_pos c, c, Bool.or_true]
  · rw [if_neg c]
    rw [Bool.not_eq_true] at c
    rw [c, Bool.or_false, In_f, In_f]
    simp only [Option.bind_some]
    cases h1 : Bd.inn l
    · rw [if_neg (by simp)]
      have : Sp.ok l h = false := by rw [Sp.ok_not]; have := Bd.inn_not.1 h1; omega
      rw [this]
    · rw [if_pos rfl]
      cases h2 : Bd.inn h
      · rw [if_neg (by simp)]
        have h1' := Bd.inn_iff.1 h1
        have : Sp.ok l h = false := by rw [Sp.ok_not]; have := Bd.inn_not.1 h2; omega
        rw [this]
      · rw [if_pos rfl]
        have h1' := Bd.inn_iff.1 h1
        have h2' := Bd.inn_iff.1 h2
        congr 1
        rw [Bool.eq_iff_iff, decide_eq_true_eq, Sp.ok_iff]
        omega
theorem none_f (l h : Int) : span_none.f l h = some (!Sp.ok l h) := by
  unfold span_none.f
  rw [Right_f, Empty_f]
  simp only [Option.bind_some]
  unfold Sp.right
  cases h1 : Sp.ok l h
  · cases c : (l == 1 && h == 0)
    · rw [if_neg (by simp)]; rfl
    · rw [if_pos (by simp)]; rfl
  · rw [if_pos (by simp)]
    have := Sp.ok_iff.1 h1
    congr 1
    rw [Bool.not_true, Bool.and_eq_false_iff, beq_eq_false_iff_ne, beq_eq_false_iff_ne]
    omega
theorem Has_f (l h n : Int) : span_Has.f l h n = some (Sp.has l h n) := by
  unfold span_Has.f Sp.has
  rw [none_f]
  simp only [Option.bind_some]
  cases h1 : Sp.ok l h
  · rw [if_pos (by simp)]; rfl
  · rw [if_neg (by simp)]
    by_cases c : n ≥ l
    · rw [if_pos c, decide_eq_true (show l ≤ n from c)]; rfl
    · rw [if_neg c, decide_eq_false (show ¬ l ≤ n from c)]; rfl
theorem Leq_f (a0 a1 b0 b1 : Int) : span_Leq.f a0 a1 b0 b1 = some (Sp.leq a0 a1 b0 b1) := by
  unfold span_Leq.f Sp.leq
  rw [none_f, none_f]
  simp only [Option.bind_some]
  cases h1 : Sp.ok a0 a1
  · rw [if_pos (by simp)]; rfl
  · rw [if_neg (by simp)]
    cases h2 : Sp.ok b0 b1
    · rw [if_pos (by simp)]; rfl
    · rw [if_neg (by simp)]
      by_cases c : a0 ≥ b0
      · rw [if_pos c, decide_eq_true (show b0 ≤ a0 from c)]; rfl
      · rw [if_neg c, decide_eq_false (show ¬ b0 ≤ a0 from c)]; rfl
theorem clean_f (a0 a1 : Int) : span_clean.f a0 a1 = some (Sp.clean a0 a1) := by
  unfold span_clean.f Sp.clean
  rw [none_f, Empty_f]
  simp only [Option.bind_some]
  cases h1 : Sp.ok a0 a1
  · rw [if_pos (by simp), if_neg (by simp)]
  · rw [if_neg (by simp), if_pos rfl]
theorem Meet_f (k : Nat) (a0 a1 b0 b1 : Int) : span_Meet.f (k + 1) a0 a1 b0 b1 = some (Sp.meet a0 a1 b0 b1) := by
  unfold span_Meet.f Sp.meet
  rw [none_f, none_f]
  simp only [Option.bind_some]
  cases h1 : Sp.ok a0 a1
  · rw [if_pos (by simp), if_neg (by simp)]
    simp only [span_Meet.j0]; rfl
  · rw [if_neg (by simp)]
    simp only [span_Meet.j0]
    cases h2 : Sp.ok b0 b1
    · rw [if_pos (by simp), if_neg (by simp)]; rfl
    · rw [if_neg (by simp), if_pos (by simp), mx_eq, mn_eq, Of_f]; rfl
theorem Mul64_f (x y : Nat) (hx : x < 18446744073709551616) (hy : y < 18446744073709551616) :
    bits_Mul64.f x y = some (((x * y / 18446744073709551616 : Nat) : Int), ((x * y % 18446744073709551616 : Nat) : Int)) := by
  obtain ⟨bd, bt, bw, hhi⟩ := Lib.mul64_hi x y hx hy
  have ba := Lib.half_mul_le (a := x / 4294967296) (b := y / 4294967296) (by omega) (by omega)
  have bb := Lib.half_mul_le (a := x / 4294967296) (b := y % 4294967296) (by omega) (by omega)
  have bc := Lib.half_mul_le (a := x % 4294967296) (b := y / 4294967296) (by omega) (by omega)
  have ba' : x / 4294967296 * (y / 4294967296) < 18446744073709551616 := by omega
  have bb' : x / 4294967296 * (y % 4294967296) < 18446744073709551616 := by omega
  have bc' : x % 4294967296 * (y / 4294967296) < 18446744073709551616 := by omega
  have bh1 : x / 4294967296 * (y / 4294967296) + (x / 4294967296 * (y % 4294967296) + x % 4294967296 * (y % 4294967296) / 4294967296) / 4294967296 < 18446744073709551616 := by omega
  have bh : x / 4294967296 * (y / 4294967296) + (x / 4294967296 * (y % 4294967296) + x % 4294967296 * (y % 4294967296) / 4294967296) / 4294967296 + ((x / 4294967296 * (y % 4294967296) + x % 4294967296 * (y % 4294967296) / 4294967296) % 4294967296 + x % 4294967296 * (y / 4294967296)) / 4294967296 < 18446744073709551616 := by omega
  unfold bits_Mul64.f
  simp only [Mul64.maskN x hx, Mul64.maskN y hy, Mul64.divN, Mul64.mulN, Mul64.addN, Mul64.wrapN _ bd, Mul64.wrapN _ bb', Mul64.wrapN _ bt, Mul64.maskN _ bt, Mul64.wrapN _ bc', Mul64.wrapN _ bw, Mul64.wrapN _ ba', Mul64.wrapN _ bh1, Mul64.wrapN _ bh, Mul64.wrapM (x * y)]
  rw [hhi]

theorem mx_abs {a : Int} (h : -2305843009213693952 ≤ a ∧ a ≤ 2305843009213693952) : IntKind.u64.wrap (mx a (wrap64 (-a))) = (a.natAbs : Int) := by
  rw [w64 (by omega)]
  have e : mx a (-a) = (a.natAbs : Int) := by unfold mx; split <;> omega
  rw [e, u64w (by omega)]
theorem sign_mul {a b : Int} (x y : Nat) (hx : a.natAbs = x) (hy : b.natAbs = y) : a * b = if (decide (a < 0) != decide (b < 0)) = true then -((x * y : Nat) : Int) else ((x * y : Nat) : Int) := by
  by_cases ha : a < 0 <;> by_cases hb : b < 0
  · rw [decide_eq_true ha, decide_eq_true hb, if_neg (by simp), show a = -(x : Int) by omega, show b = -(y : Int) by omega, Int.neg_mul_neg, Int.natCast_mul]
  · rw [decide_eq_true ha, decide_eq_false hb, if_pos (by simp), show a = -(x : Int) by omega, show b = (y : Int) by omega, Int.neg_mul, Int.natCast_mul]
  · rw [decide_eq_false ha, decide_eq_true hb, if_pos (by simp), show a = (x : Int) by omega, show b = -(y : Int) by omega, Int.mul_neg, Int.natCast_mul]
  · rw [decide_eq_false ha, decide_eq_false hb, if_neg (by simp), show a = (x : Int) by omega, show b = (y : Int) by omega, Int.natCast_mul]
theorem tm_eq {a b : Int} (x y : Nat) (hx : a.natAbs = x) (hy : b.natAbs = y) :
    Sp.tm a b = if x * y < 2305843009213693952 then (if (decide (a < 0) != decide (b < 0)) = true then -((x * y : Nat) : Int) else ((x * y : Nat) : Int)) else (if (decide (a < 0) != decide (b < 0)) = true then -2305843009213693952 else 2305843009213693952) := by
  unfold Sp.tm
  rw [sign_mul x y hx hy]
  generalize x * y = p
  cases (decide (a < 0) != decide (b < 0))
  · simp only [Bool.false_eq_true, if_false]
    by_cases c : p < 2305843009213693952
    · rw [if_pos c, if_pos (by omega)]
    · rw [if_neg c, if_neg (by omega), if_neg (by omega)]
  · simp only [if_true]
    by_cases c : p < 2305843009213693952
    · rw [if_pos c, if_pos (by omega)]
    · rw [if_neg c, if_neg (by omega), if_pos (by omega)]

theorem tdiv_range {a b : Int} (ha : -1152921504606846976 ≤ a ∧ a ≤ 1152921504606846976) : -1152921504606846976 ≤ a.tdiv b ∧ a.tdiv b ≤ 1152921504606846976 := by
  have h1 : (a.tdiv b).natAbs ≤ a.natAbs := by
    rw [Int.natAbs_tdiv]; exact Nat.div_le_self _ _
  omega
end Go.Proofs.YtjddafaaplhnfaaDoor.PSpanWidens

set_option linter.unusedVariables false
set_option linter.unusedSimpArgs false
namespace Go.Proofs.YtjddafaaplhnfaaDoor.PSpanWidens
open Go Go.RowKit Go.Deep Go.Proofs.YtjddafaaplhnfaaDoorW.PrintWords Go.Proofs.YtjddafaaplhnfaaDoorW.PrintLast Go.Proofs.YtjddafaaplhnfaaDoorW.PrintMore
attribute [local go_sem] max2_int min2_int
variable {w : World}

theorem seq {w w1 w2 : World} (h : Below w.heap.size w w1) (k : Below w1.heap.size w1 w2) : Below w.heap.size w w2 := h.trans (k.mono h.size)
theorem ret_int {k : IntKind} {a b : Int} (h : a = b) : Ending.returned (.int k a) = .returned (.int k b) := by rw [h]
theorem mul_to (a0 a1 : Int) (x y : Nat) (h0 : a0 = x) (h1 : a1 = y) (hx : x ≤ 1152921504606846976) (hy : y ≤ 1152921504606846976) (hi lo : Int) (e1 : hi = ((x * y / 18446744073709551616 : Nat) : Int)) (e2 : lo = ((x * y % 18446744073709551616 : Nat) : Int)) (w : World) :
    Calls Tryd.prog 61 #[.int .u64 a0, .int .u64 a1] w fun e w' => e = .returned (.tuple #[.int .u64 hi, .int .u64 lo]) ∧ Below w.heap.size w w' :=
  (bits_Mul64.calls a0 a1 _ _ w (by rw [h0, h1, e1, e2]; exact Mul64_f x y (by omega) (by omega))).mono fun e w' h => ⟨h.1, h.2.below⟩

set_option maxRecDepth 100000 in
set_option maxHeartbeats 4000000 in
theorem times_to (a b v : Int) (ha : -1152921504606846976 ≤ a ∧ a ≤ 1152921504606846976) (hb : -1152921504606846976 ≤ b ∧ b ≤ 1152921504606846976) (h : Sp.tm a b = v) (w : World) :
    Calls Tryd.prog 54 #[.int .i64 a, .int .i64 b] w fun e w' => e = .returned (.int .i64 v) ∧ Below w.heap.size w w' := by
  obtain ⟨x, hx⟩ : ∃ x, a.natAbs = x := ⟨_, rfl⟩
  obtain ⟨y, hy⟩ : ∃ y, b.natAbs = y := ⟨_, rfl⟩
  have ht := tm_eq x y hx hy
  rw [h] at ht
  have hx1 : x ≤ 1152921504606846976 := by omega
  have hy1 : y ≤ 1152921504606846976 := by omega
  obtain ⟨p, hp⟩ : ∃ p, x * y = p := ⟨_, rfl⟩
  rw [hp] at ht
  have HX := Lib.hid hx
  have HY := Lib.hid hy
  have HT := Lib.hid ht
  have HP := Lib.hid hp
  obtain ⟨ha1, ha2⟩ := ha
  obtain ⟨hb1, hb2⟩ := hb
  clear hx hy ht h hp
  rcases Int.lt_or_le a 0 with sa | sa <;> rcases Int.lt_or_le b 0 with sb | sb
  all_goals
    try have da := decide_eq_false (Int.not_lt.2 sa)
    try have db := decide_eq_false (Int.not_lt.2 sb)
    by_cases c1 : p < 2305843009213693952
    · have c1' : (p : Int) < 2305843009213693952 := by omega
      clear c1
      go_enter Tryd.func54, Tryd.ntmps54
      go_wp2_with fail
      refine (mul_to _ _ x y (by have := HX.out; omega) (by have := HY.out; omega) hx1 hy1 0 p (by rw [HP.out]; omega) (by rw [HP.out]; omega) _).mono ?_
      rintro e w1 ⟨rfl, hb1⟩
      have HB1 := Lib.hid hb1
      clear hb1
      go_wp2_with fail
      go_ret
      exact ⟨ret_int (by have h := HT.out; rw [if_pos (by omega)] at h; simp [sa, sb, Int.not_lt.2 sa, Int.not_lt.2 sb] at h; omega), HB1.out⟩
    · by_cases c2 : p < 18446744073709551616
      · obtain ⟨lo, hl⟩ : ∃ lo : Int, lo = (p : Int) := ⟨_, rfl⟩
        have c1' : decide (lo < 2305843009213693952) = false := decide_eq_false (by omega)
        have HL := Lib.hid hl
        clear hl
        have HC := Lib.hid c1
        have HC2 := Lib.hid c2
        clear c1 c2
        go_enter Tryd.func54, Tryd.ntmps54
        go_wp2_with fail
        refine (mul_to _ _ x y (by have := HX.out; omega) (by have := HY.out; omega) hx1 hy1 0 lo (by rw [HP.out]; have := HC2.out; omega) (by rw [HP.out, HL.out]; have := HC2.out; omega) _).mono ?_
        rintro e w1 ⟨rfl, hb1⟩
        have HB1 := Lib.hid hb1
        clear hb1
        go_wp2_with fail
        go_ret
        exact ⟨ret_int (by have h := HT.out; rw [if_neg HC.out] at h; simp [sa, sb, Int.not_lt.2 sa, Int.not_lt.2 sb] at h; omega), HB1.out⟩
      · have c3 : (((p / 18446744073709551616 : Nat) : Int) == 0) = false := by rw [beq_eq_false_iff_ne]; omega
        obtain ⟨hi, hh⟩ : ∃ hi : Int, hi = ((p / 18446744073709551616 : Nat) : Int) := ⟨_, rfl⟩
        obtain ⟨lo, hl⟩ : ∃ lo : Int, lo = ((p % 18446744073709551616 : Nat) : Int) := ⟨_, rfl⟩
        rw [← hh] at c3
        have HH := Lib.hid hh
        have HL := Lib.hid hl
        have HC := Lib.hid c1
        clear c1 c2 hh hl
        go_enter Tryd.func54, Tryd.ntmps54
        go_wp2_with fail
        refine (mul_to _ _ x y (by have := HX.out; omega) (by have := HY.out; omega) hx1 hy1 hi lo (by rw [HP.out]; exact HH.out) (by rw [HP.out]; exact HL.out) _).mono ?_
        rintro e w1 ⟨rfl, hb1⟩
        have HB1 := Lib.hid hb1
        clear hb1
        go_wp2_with fail
        go_ret
        exact ⟨ret_int (by have h := HT.out; rw [if_neg HC.out] at h; simp [sa, sb, Int.not_lt.2 sa, Int.not_lt.2 sb] at h; omega), HB1.out⟩

theorem none_to (a b : Int) (v : Bool) (h : (!Sp.ok a b) = v) (w : World) :
    Calls Tryd.prog 37 #[.agg #[.int .i64 a, .int .i64 b]] w fun e w' => e = .returned (.bool v) ∧ Below w.heap.size w w' :=
  (span_none.calls a b v w (by rw [none_f, h])).mono fun e w' h => ⟨h.1, by first | exact h.2 | exact h.2.below⟩
theorem empty_to (w : World) : Calls Tryd.prog 21 #[] w fun e w' => e = .returned (.agg #[.int .i64 1, .int .i64 0]) ∧ Below w.heap.size w w' :=
  (span_Empty.calls 1 0 w rfl).mono fun e w' h => ⟨h.1, by first | exact h.2 | exact h.2.below⟩
theorem full_to (w : World) : Calls Tryd.prog 44 #[] w fun e w' => e = .returned (.agg #[.int .i64 (-1152921504606846976), .int .i64 1152921504606846976]) ∧ Below w.heap.size w w' :=
  (span_Full.calls _ _ w rfl).mono fun e w' h => ⟨h.1, by first | exact h.2 | exact h.2.below⟩
theorem of_to (a b v1 v2 : Int) (h : Sp.of a b = (v1, v2)) (w : World) :
    Calls Tryd.prog 34 #[.int .i64 a, .int .i64 b] w fun e w' => e = .returned (.agg #[.int .i64 v1, .int .i64 v2]) ∧ Below w.heap.size w w' :=
  (span_Of.calls a b v1 v2 w (by rw [Of_f, h])).mono fun e w' h => ⟨h.1, by first | exact h.2 | exact h.2.below⟩
theorem meet_to (a0 a1 b0 b1 v1 v2 : Int) (h : Sp.meet a0 a1 b0 b1 = (v1, v2)) (w : World) :
    Calls Tryd.prog 20 #[.agg #[.int .i64 a0, .int .i64 a1], .agg #[.int .i64 b0, .int .i64 b1]] w fun e w' => e = .returned (.agg #[.int .i64 v1, .int .i64 v2]) ∧ Below w.heap.size w w' :=
  (span_Meet.calls 1 a0 a1 b0 b1 v1 v2 w (by rw [Meet_f, h])).mono fun e w' h => ⟨h.1, by first | exact h.2 | exact h.2.below⟩
theorem has_to (a b n : Int) (v : Bool) (h : Sp.has a b n = v) (w : World) :
    Calls Tryd.prog 24 #[.agg #[.int .i64 a, .int .i64 b], .int .i64 n] w fun e w' => e = .returned (.bool v) ∧ Below w.heap.size w w' :=
  (span_Has.calls a b n v w (by rw [Has_f, h])).mono fun e w' h => ⟨h.1, by first | exact h.2 | exact h.2.below⟩
theorem right_to (a b : Int) (v : Bool) (h : Sp.right a b = v) (w : World) :
    Calls Tryd.prog 14 #[.agg #[.int .i64 a, .int .i64 b]] w fun e w' => e = .returned (.bool v) ∧ Below w.heap.size w w' :=
  (span_Right.calls a b v w (by rw [Right_f, h])).mono fun e w' h => ⟨h.1, by first | exact h.2 | exact h.2.below⟩
theorem leq_to (a0 a1 b0 b1 : Int) (v : Bool) (h : Sp.leq a0 a1 b0 b1 = v) (w : World) :
    Calls Tryd.prog 19 #[.agg #[.int .i64 a0, .int .i64 a1], .agg #[.int .i64 b0, .int .i64 b1]] w fun e w' => e = .returned (.bool v) ∧ Below w.heap.size w w' :=
  (span_Leq.calls a0 a1 b0 b1 v w (by rw [Leq_f, h])).mono fun e w' h => ⟨h.1, by first | exact h.2 | exact h.2.below⟩

theorem cells2 {w1 : World} {b : Nat} {x y : Value} {T : TypeId} (h : w1.heap[b]? = some (.cells #[x, y] T (0, 0))) : w1.cell? ⟨b, 0, none⟩ = some x ∧ w1.cell? ⟨b, 1, none⟩ = some y ∧ w1.frozen? ⟨b, 0, none⟩ = false ∧ w1.frozen? ⟨b, 1, none⟩ = false :=
  ⟨(blk_cell h 0).trans rfl, (blk_cell h 1).trans rfl, blk_frozen h 0, blk_frozen h 1⟩
theorem put2 {w1 : World} {b : Nat} {x y : Value} {T : TypeId} (h : w1.heap[b]? = some (.cells #[x, y] T (0, 0))) (u v : Value) : ((w1.setCell ⟨b, 0, none⟩ u).setCell ⟨b, 1, none⟩ v).heap[b]? = some (.cells #[u, v] T (0, 0)) := by
  have h1 := blk_set h 0 u
  have h2 := blk_set h1 1 v
  simpa using h2
theorem below2 {B : Nat} {a w1 : World} (h : Below B a w1) {b : Nat} (hb : B ≤ b) (u v : Value) : Below B a ((w1.setCell ⟨b, 0, none⟩ u).setCell ⟨b, 1, none⟩ v) := (h.setCell hb u).setCell hb v
theorem box1 (w : World) (o0 : Obj) {w1 : World} (hb : Below (w.alloc o0).heap.size (w.alloc o0) w1) : w1.heap[w.heap.size]? = some o0 ∧ Below w.heap.size w w1 :=
  ⟨blk_below (blk_new w o0) hb, Below.seq_to hb (Below.push (Below.refl _ _) (Nat.le_refl _) _)⟩
theorem box2 (w : World) (o0 o1 : Obj) {w1 : World} (hb : Below ((w.alloc o0).alloc o1).heap.size ((w.alloc o0).alloc o1) w1) : w1.heap[w.heap.size]? = some o0 ∧ w1.heap[w.heap.size + 1]? = some o1 ∧ Below w.heap.size w w1 := by
  refine ⟨blk_below (blk_alloc (blk_new w o0) o1) hb, ?_, Below.seq_to hb (Below.push (Below.push (Below.refl _ _) (Nat.le_refl _) _) (Nat.le_refl _) _)⟩
  have := blk_below (blk_new (w.alloc o0) o1) hb
  simpa using this
theorem box3 (w : World) (o0 o1 o2 : Obj) {w1 : World} (hb : Below (((w.alloc o0).alloc o1).alloc o2).heap.size (((w.alloc o0).alloc o1).alloc o2) w1) :
    w1.heap[w.heap.size]? = some o0 ∧ w1.heap[w.heap.size + 1]? = some o1 ∧ w1.heap[w.heap.size + 2]? = some o2 ∧ Below w.heap.size w w1 := by
  refine ⟨blk_below (blk_alloc (blk_alloc (blk_new w o0) o1) o2) hb, ?_, ?_, Below.seq_to hb (Below.push (Below.push (Below.push (Below.refl _ _) (Nat.le_refl _) _) (Nat.le_refl _) _) (Nat.le_refl _) _)⟩
  · have := blk_below (blk_alloc (blk_new (w.alloc o0) o1) o2) hb
    simpa using this
  · have := blk_below (blk_new ((w.alloc o0).alloc o1) o2) hb
    simpa using this

/-- A row of ints in memory. -/
def IntsAt (w : World) (v : Value) (l : List Int) : Prop :=
  ∃ ao c, v = .slice ao l.length c ∧ l.length ≤ c ∧ l.length ≤ 9223372036854775807 ∧ (l ≠ [] → ∃ b off, ao = some ⟨b, off, none⟩ ∧ b < w.heap.size ∧ ∀ j, j < l.length → w.cell? ⟨b, off + j, none⟩ = some (.int .i64 (l.getD j 0)))
theorem IntsAt.below {w w' : World} {v : Value} {l : List Int} (h : IntsAt w v l) (hb : Below w.heap.size w w') : IntsAt w' v l := by
  obtain ⟨ao, c, e, h0, h1, h2⟩ := h
  refine ⟨ao, c, e, h0, h1, fun hn => ?_⟩
  obtain ⟨b, off, e2, h3, h4⟩ := h2 hn
  exact ⟨b, off, e2, Nat.lt_of_lt_of_le h3 hb.size, fun j hj => (hb.cell (p := ⟨b, off + j, none⟩) h3).trans (h4 j hj)⟩

theorem IntsAt.row {w : World} {v : Value} {l : List Int} (h : IntsAt w v l) : ∃ A c, v = .slice A l.length c ∧ l.length ≤ c ∧ Kd.C (Kd.int .i64) w A l.length l := by
  obtain ⟨ao, c, e, h0, h1, h2⟩ := h
  refine ⟨ao, c, e, h0, rfl, h1, fun hn => ?_⟩
  obtain ⟨b, off, e2, h3, h4⟩ := h2 (by intro e; rw [e] at hn; simp at hn)
  refine ⟨_, e2, fun j p hj => ⟨[.int .i64 p], rfl, rfl, fun i u hu => ?_⟩⟩
  have hjl : j < l.length := (List.getElem?_eq_some_iff.1 hj).1
  cases i with
  | zero =>
    have := h4 j hjl
    simp at hu
    subst hu
    show w.cell? ((⟨b, off, none⟩ : Addr).add (j * 1 + 0)) = some (.int .i64 p)
    rw [show (⟨b, off, none⟩ : Addr).add (j * 1 + 0) = ⟨b, off + j, none⟩ from by unfold Addr.add; split <;> simp_all, this]
    simp [List.getD, hj]
  | succ i => simp at hu

theorem minOf_eq (l : List Int) (h : l ≠ []) : Lib.minOf l = Sp.minL l ∧ Lib.maxOf l = Sp.maxL l := by
  cases l with
  | nil => exact absurd rfl h
  | cons x r =>
    unfold Lib.minOf Lib.maxOf Sp.minL Sp.maxL
    simp

set_option maxHeartbeats 1000000 in
theorem hull_to (l : List Int) (v : Value) (v1 v2 : Int) (hl : IntsAt w v l) (h : Sp.hull l = (v1, v2)) :
    Calls Tryd.prog 22 #[v] w fun e w' => e = .returned (.agg #[.int .i64 v1, .int .i64 v2]) ∧ Below w.heap.size w w' := by
  obtain ⟨ao, c, rfl, hcap, hlen, hc⟩ := hl
  by_cases h0 : l = []
  · subst h0
    obtain ⟨rfl, rfl⟩ : v1 = 1 ∧ v2 = 0 := by simp [Sp.hull] at h; exact ⟨h.1.symm, h.2.symm⟩
    clear h hc hlen hcap
    go_enter Tryd.func22, Tryd.ntmps22
    go_wp2_with fail
    refine (empty_to _).mono ?_
    rintro e w1 ⟨rfl, hb1⟩
    obtain ⟨k0, B1⟩ := box1 _ _ hb1
    obtain ⟨c0, c1, f0, f1⟩ := cells2 k0
    have K0 := Lib.hid k0
    have HB := Lib.hid B1
    clear hb1 k0 B1
    go_wp2_with fail
    exact bodyPost_ret (results_cell_row rfl _ _ w.heap.size 24 #[.int .i64 1, .int .i64 0] (0, 0) _ rfl (put2 K0.out _ _) Tryd.underlying24 rfl (by kernel_rfl)) rfl ⟨rfl, below2 HB.out (Nat.le_refl _) _ _⟩
  · obtain ⟨b, off, rfl, hb, hcell⟩ := hc h0
    have hh : Sp.of (Sp.minL l) (Sp.maxL l) = (v1, v2) := by unfold Sp.hull at h; rw [if_neg h0] at h; exact h
    have hpos : 0 < l.length := by cases l with | nil => exact absurd rfl h0 | cons => simp
    have hne : ((l.length : Int) == 0) = false := by rw [beq_eq_false_iff_ne]; omega
    obtain ⟨m1, m2⟩ := minOf_eq l h0
    have HH := Lib.hid hh
    have HC := Lib.hid hcell
    have M1 := Lib.hid m1
    have M2 := Lib.hid m2
    clear h h0 hc hh hcell m1 m2 hcap
    go_enter Tryd.func22, Tryd.ntmps22
    go_wp2_with fail
    refine (Any.slices_Min_int Tryd.lays114 b off l.length c l _ hpos (Nat.le_refl _) (by omega) (fun j hj => ?_)).mono ?_
    · exact (Below.push (Below.refl w.heap.size w) (Nat.le_refl _) _).cell (p := ⟨b, off + j, none⟩) hb ▸ HC.out j hj
    rintro e w1 ⟨rfl, rfl⟩
    rw [List.take_length, M1.out]
    go_wp2_with fail
    refine (Any.slices_Max_int Tryd.lays113 b off l.length c l _ hpos (Nat.le_refl _) (by omega) (fun j hj => ?_)).mono ?_
    · exact (Below.push (Below.refl w.heap.size w) (Nat.le_refl _) _).cell (p := ⟨b, off + j, none⟩) hb ▸ HC.out j hj
    rintro e w1 ⟨rfl, rfl⟩
    rw [List.take_length, M2.out]
    go_wp2_with fail
    refine (of_to _ _ v1 v2 HH.out _).mono ?_
    rintro e w1 ⟨rfl, hb1⟩
    obtain ⟨k0, B1⟩ := box1 _ _ hb1
    obtain ⟨c0, c1, f0, f1⟩ := cells2 k0
    have K0 := Lib.hid k0
    have HB := Lib.hid B1
    clear hb1 k0 B1
    go_wp2_with fail
    exact bodyPost_ret (results_cell_row rfl _ _ w.heap.size 24 #[.int .i64 v1, .int .i64 v2] (0, 0) _ rfl (put2 K0.out _ _) Tryd.underlying24 rfl (by kernel_rfl)) rfl ⟨rfl, below2 HB.out (Nat.le_refl _) _ _⟩
end Go.Proofs.YtjddafaaplhnfaaDoor.PSpanWidens

set_option linter.unusedVariables false
set_option linter.unusedSimpArgs false
namespace Go.Proofs.YtjddafaaplhnfaaDoor.PSpanWidens
open Go Go.RowKit Go.Deep Go.Proofs.YtjddafaaplhnfaaDoorW.PrintWords Go.Proofs.YtjddafaaplhnfaaDoorW.PrintLast Go.Proofs.YtjddafaaplhnfaaDoorW.PrintMore
variable {w : World}

set_option maxRecDepth 100000 in
set_option maxHeartbeats 4000000 in
theorem narrow_to (a0 a1 b0 b1 v1 v2 : Int) (h : Sp.narrow a0 a1 b0 b1 = (v1, v2)) (w : World) :
    Calls Tryd.prog 16 #[.agg #[.int .i64 a0, .int .i64 a1], .agg #[.int .i64 b0, .int .i64 b1]] w fun e w' => e = .returned (.agg #[.int .i64 v1, .int .i64 v2]) ∧ Below w.heap.size w w' := by
  unfold Sp.narrow at h
  cases h1 : Sp.ok a0 a1
  · obtain ⟨rfl, rfl⟩ : v1 = 1 ∧ v2 = 0 := by rw [h1] at h; simp at h; exact ⟨h.1.symm, h.2.symm⟩
    have H1 := Lib.hid h1
    clear h h1
    go_enter Tryd.func16, Tryd.ntmps16
    go_wp2_with fail
    refine (none_to a0 a1 true (by rw [H1.out]; rfl) _).mono ?_
    rintro e w1 ⟨rfl, hb1⟩
    obtain ⟨ka, kb, kr, B1⟩ := box3 _ _ _ _ hb1
    obtain ⟨qa0, qa1, fa0, fa1⟩ := cells2 ka
    have Ka1 := Lib.hid ka
    obtain ⟨qb0, qb1, fb0, fb1⟩ := cells2 kb
    have Kb1 := Lib.hid kb
    obtain ⟨qr0, qr1, fr0, fr1⟩ := cells2 kr
    have Kr1 := Lib.hid kr
    have HB1 := Lib.hid B1
    clear hb1 B1 ka kb kr
    go_wp2_with fail
    refine (empty_to _).mono ?_
    rintro e w2 ⟨rfl, hb2⟩
    have ka := blk_below Ka1.out hb2
    have kb := blk_below Kb1.out hb2
    have kr := blk_below Kr1.out hb2
    have B2 := seq HB1.out hb2
    clear qa0 qa1 fa0 fa1 Ka1 qb0 qb1 fb0 fb1 Kb1 qr0 qr1 fr0 fr1 Kr1
    obtain ⟨qa0, qa1, fa0, fa1⟩ := cells2 ka
    have Ka2 := Lib.hid ka
    obtain ⟨qb0, qb1, fb0, fb1⟩ := cells2 kb
    have Kb2 := Lib.hid kb
    obtain ⟨qr0, qr1, fr0, fr1⟩ := cells2 kr
    have Kr2 := Lib.hid kr
    have HB2 := Lib.hid B2
    clear hb2 B2 ka kb kr HB1
    go_wp2_with fail
    exact bodyPost_ret (results_cell_row rfl _ _ (w.heap.size + 2) 24 #[.int .i64 1, .int .i64 0] (0, 0) _ rfl (put2 Kr2.out _ _) Tryd.underlying24 rfl (by kernel_rfl)) rfl ⟨rfl, below2 HB2.out (by omega) _ _⟩
  · cases h2 : Sp.ok b0 b1
    · obtain ⟨rfl, rfl⟩ : v1 = 1 ∧ v2 = 0 := by rw [h1, h2] at h; simp at h; exact ⟨h.1.symm, h.2.symm⟩
      have H1 := Lib.hid h1
      have H2 := Lib.hid h2
      clear h h1 h2
      go_enter Tryd.func16, Tryd.ntmps16
      go_wp2_with fail
      refine (none_to a0 a1 false (by rw [H1.out]; rfl) _).mono ?_
      rintro e w1 ⟨rfl, hb1⟩
      obtain ⟨ka, kb, kr, B1⟩ := box3 _ _ _ _ hb1
      obtain ⟨qa0, qa1, fa0, fa1⟩ := cells2 ka
      have Ka1 := Lib.hid ka
      obtain ⟨qb0, qb1, fb0, fb1⟩ := cells2 kb
      have Kb1 := Lib.hid kb
      obtain ⟨qr0, qr1, fr0, fr1⟩ := cells2 kr
      have Kr1 := Lib.hid kr
      have HB1 := Lib.hid B1
      clear hb1 B1 ka kb kr
      go_wp2_with fail
      refine (none_to b0 b1 true (by rw [H2.out]; rfl) _).mono ?_
      rintro e w2 ⟨rfl, hb2⟩
      have ka := blk_below Ka1.out hb2
      have kb := blk_below Kb1.out hb2
      have kr := blk_below Kr1.out hb2
      have B2 := seq HB1.out hb2
      clear qa0 qa1 fa0 fa1 Ka1 qb0 qb1 fb0 fb1 Kb1 qr0 qr1 fr0 fr1 Kr1
      obtain ⟨qa0, qa1, fa0, fa1⟩ := cells2 ka
      have Ka2 := Lib.hid ka
      obtain ⟨qb0, qb1, fb0, fb1⟩ := cells2 kb
      have Kb2 := Lib.hid kb
      obtain ⟨qr0, qr1, fr0, fr1⟩ := cells2 kr
      have Kr2 := Lib.hid kr
      have HB2 := Lib.hid B2
      clear hb2 B2 ka kb kr HB1
      go_wp2_with fail
      refine (empty_to _).mono ?_
      rintro e w3 ⟨rfl, hb3⟩
      have ka := blk_below Ka2.out hb3
      have kb := blk_below Kb2.out hb3
      have kr := blk_below Kr2.out hb3
      have B3 := seq HB2.out hb3
      clear qa0 qa1 fa0 fa1 Ka2 qb0 qb1 fb0 fb1 Kb2 qr0 qr1 fr0 fr1 Kr2
      obtain ⟨qa0, qa1, fa0, fa1⟩ := cells2 ka
      have Ka3 := Lib.hid ka
      obtain ⟨qb0, qb1, fb0, fb1⟩ := cells2 kb
      have Kb3 := Lib.hid kb
      obtain ⟨qr0, qr1, fr0, fr1⟩ := cells2 kr
      have Kr3 := Lib.hid kr
      have HB3 := Lib.hid B3
      clear hb3 B3 ka kb kr HB2
      go_wp2_with fail
      exact bodyPost_ret (results_cell_row rfl _ _ (w.heap.size + 2) 24 #[.int .i64 1, .int .i64 0] (0, 0) _ rfl (put2 Kr3.out _ _) Tryd.underlying24 rfl (by kernel_rfl)) rfl ⟨rfl, below2 HB3.out (by omega) _ _⟩
    · rw [if_pos ⟨h1, h2⟩] at h
      have H := Lib.hid h
      have H1 := Lib.hid h1
      have H2 := Lib.hid h2
      clear h h1 h2
      by_cases c0 : a0 = -1152921504606846976 <;> by_cases c1 : a1 = 1152921504606846976
      · have c0' : (a0 == -1152921504606846976) = true := by rw [beq_iff_eq]; exact c0
        have c1' : (a1 == 1152921504606846976) = true := by rw [beq_iff_eq]; exact c1
        have HO : Hid (Sp.of b0 b1 = (v1, v2)) := by have := H.out; rw [if_pos c0, if_pos c1] at this; exact this
        clear c0 c1 H
        go_enter Tryd.func16, Tryd.ntmps16
        go_wp2_with fail
        refine (none_to a0 a1 false (by rw [H1.out]; rfl) _).mono ?_
        rintro e w1 ⟨rfl, hb1⟩
        obtain ⟨ka, kb, kr, B1⟩ := box3 _ _ _ _ hb1
        obtain ⟨qa0, qa1, fa0, fa1⟩ := cells2 ka
        have Ka1 := Lib.hid ka
        obtain ⟨qb0, qb1, fb0, fb1⟩ := cells2 kb
        have Kb1 := Lib.hid kb
        obtain ⟨qr0, qr1, fr0, fr1⟩ := cells2 kr
        have Kr1 := Lib.hid kr
        have HB1 := Lib.hid B1
        clear hb1 B1 ka kb kr
        go_wp2_with fail
        refine (none_to b0 b1 false (by rw [H2.out]; rfl) _).mono ?_
        rintro e w2 ⟨rfl, hb2⟩
        have ka := blk_below Ka1.out hb2
        have kb := blk_below Kb1.out hb2
        have kr := blk_below Kr1.out hb2
        have B2 := seq HB1.out hb2
        clear qa0 qa1 fa0 fa1 Ka1 qb0 qb1 fb0 fb1 Kb1 qr0 qr1 fr0 fr1 Kr1
        obtain ⟨qa0, qa1, fa0, fa1⟩ := cells2 ka
        have Ka2 := Lib.hid ka
        obtain ⟨qb0, qb1, fb0, fb1⟩ := cells2 kb
        have Kb2 := Lib.hid kb
        obtain ⟨qr0, qr1, fr0, fr1⟩ := cells2 kr
        have Kr2 := Lib.hid kr
        have HB2 := Lib.hid B2
        clear hb2 B2 ka kb kr HB1
        have lt2 : w.heap.size + 2 < w2.heap.size := blk_lt Kr2.out
        have lt1 : w.heap.size + 1 < w2.heap.size := by omega
        have lt0 : w.heap.size < w2.heap.size := by omega
        go_wp2_with fail
        refine (of_to _ _ v1 v2 HO.out _).mono ?_
        rintro e w3 ⟨rfl, hb3⟩
        have kr := blk_below (blk_alloc Kr2.out _) hb3
        have B3 := Below.seq_to hb3 (Below.push HB2.out (Nat.le_refl _) _)
        clear qa0 qa1 fa0 fa1 qb0 qb1 fb0 fb1 qr0 qr1 fr0 fr1
        obtain ⟨qr0, qr1, fr0, fr1⟩ := cells2 kr
        have Kr3 := Lib.hid kr
        have HB3 := Lib.hid B3
        clear hb3 B3 kr
        go_wp2_with fail
        exact bodyPost_ret (results_cell_row rfl _ _ (w.heap.size + 2) 24 #[.int .i64 v1, .int .i64 v2] (0, 0) _ rfl (put2 Kr3.out _ _) Tryd.underlying24 rfl (by kernel_rfl)) rfl ⟨rfl, below2 HB3.out (by omega) _ _⟩
      · have c0' : (a0 == -1152921504606846976) = true := by rw [beq_iff_eq]; exact c0
        have c1' : (a1 == 1152921504606846976) = false := by rw [beq_eq_false_iff_ne]; exact c1
        have HO : Hid (Sp.of b0 a1 = (v1, v2)) := by have := H.out; rw [if_pos c0, if_neg c1] at this; exact this
        clear c0 c1 H
        go_enter Tryd.func16, Tryd.ntmps16
        go_wp2_with fail
        refine (none_to a0 a1 false (by rw [H1.out]; rfl) _).mono ?_
        rintro e w1 ⟨rfl, hb1⟩
        obtain ⟨ka, kb, kr, B1⟩ := box3 _ _ _ _ hb1
        obtain ⟨qa0, qa1, fa0, fa1⟩ := cells2 ka
        have Ka1 := Lib.hid ka
        obtain ⟨qb0, qb1, fb0, fb1⟩ := cells2 kb
        have Kb1 := Lib.hid kb
        obtain ⟨qr0, qr1, fr0, fr1⟩ := cells2 kr
        have Kr1 := Lib.hid kr
        have HB1 := Lib.hid B1
        clear hb1 B1 ka kb kr
        go_wp2_with fail
        refine (none_to b0 b1 false (by rw [H2.out]; rfl) _).mono ?_
        rintro e w2 ⟨rfl, hb2⟩
        have ka := blk_below Ka1.out hb2
        have kb := blk_below Kb1.out hb2
        have kr := blk_below Kr1.out hb2
        have B2 := seq HB1.out hb2
        clear qa0 qa1 fa0 fa1 Ka1 qb0 qb1 fb0 fb1 Kb1 qr0 qr1 fr0 fr1 Kr1
        obtain ⟨qa0, qa1, fa0, fa1⟩ := cells2 ka
        have Ka2 := Lib.hid ka
        obtain ⟨qb0, qb1, fb0, fb1⟩ := cells2 kb
        have Kb2 := Lib.hid kb
        obtain ⟨qr0, qr1, fr0, fr1⟩ := cells2 kr
        have Kr2 := Lib.hid kr
        have HB2 := Lib.hid B2
        clear hb2 B2 ka kb kr HB1
        have lt2 : w.heap.size + 2 < w2.heap.size := blk_lt Kr2.out
        have lt1 : w.heap.size + 1 < w2.heap.size := by omega
        have lt0 : w.heap.size < w2.heap.size := by omega
        go_wp2_with fail
        refine (of_to _ _ v1 v2 HO.out _).mono ?_
        rintro e w3 ⟨rfl, hb3⟩
        have kr := blk_below (blk_alloc Kr2.out _) hb3
        have B3 := Below.seq_to hb3 (Below.push HB2.out (Nat.le_refl _) _)
        clear qa0 qa1 fa0 fa1 qb0 qb1 fb0 fb1 qr0 qr1 fr0 fr1
        obtain ⟨qr0, qr1, fr0, fr1⟩ := cells2 kr
        have Kr3 := Lib.hid kr
        have HB3 := Lib.hid B3
        clear hb3 B3 kr
        go_wp2_with fail
        exact bodyPost_ret (results_cell_row rfl _ _ (w.heap.size + 2) 24 #[.int .i64 v1, .int .i64 v2] (0, 0) _ rfl (put2 Kr3.out _ _) Tryd.underlying24 rfl (by kernel_rfl)) rfl ⟨rfl, below2 HB3.out (by omega) _ _⟩
      · have c0' : (a0 == -1152921504606846976) = false := by rw [beq_eq_false_iff_ne]; exact c0
        have c1' : (a1 == 1152921504606846976) = true := by rw [beq_iff_eq]; exact c1
        have HO : Hid (Sp.of a0 b1 = (v1, v2)) := by have := H.out; rw [if_neg c0, if_pos c1] at this; exact this
        clear c0 c1 H
        go_enter Tryd.func16, Tryd.ntmps16
        go_wp2_with fail
        refine (none_to a0 a1 false (by rw [H1.out]; rfl) _).mono ?_
        rintro e w1 ⟨rfl, hb1⟩
        obtain ⟨ka, kb, kr, B1⟩ := box3 _ _ _ _ hb1
        obtain ⟨qa0, qa1, fa0, fa1⟩ := cells2 ka
        have Ka1 := Lib.hid ka
        obtain ⟨qb0, qb1, fb0, fb1⟩ := cells2 kb
        have Kb1 := Lib.hid kb
        obtain ⟨qr0, qr1, fr0, fr1⟩ := cells2 kr
        have Kr1 := Lib.hid kr
        have HB1 := Lib.hid B1
        clear hb1 B1 ka kb kr
        go_wp2_with fail
        refine (none_to b0 b1 false (by rw [H2.out]; rfl) _).mono ?_
        rintro e w2 ⟨rfl, hb2⟩
        have ka := blk_below Ka1.out hb2
        have kb := blk_below Kb1.out hb2
        have kr := blk_below Kr1.out hb2
        have B2 := seq HB1.out hb2
        clear qa0 qa1 fa0 fa1 Ka1 qb0 qb1 fb0 fb1 Kb1 qr0 qr1 fr0 fr1 Kr1
        obtain ⟨qa0, qa1, fa0, fa1⟩ := cells2 ka
        have Ka2 := Lib.hid ka
        obtain ⟨qb0, qb1, fb0, fb1⟩ := cells2 kb
        have Kb2 := Lib.hid kb
        obtain ⟨qr0, qr1, fr0, fr1⟩ := cells2 kr
        have Kr2 := Lib.hid kr
        have HB2 := Lib.hid B2
        clear hb2 B2 ka kb kr HB1
        have lt2 : w.heap.size + 2 < w2.heap.size := blk_lt Kr2.out
        have lt1 : w.heap.size + 1 < w2.heap.size := by omega
        have lt0 : w.heap.size < w2.heap.size := by omega
        go_wp2_with fail
        refine (of_to _ _ v1 v2 HO.out _).mono ?_
        rintro e w3 ⟨rfl, hb3⟩
        have kr := blk_below (blk_alloc Kr2.out _) hb3
        have B3 := Below.seq_to hb3 (Below.push HB2.out (Nat.le_refl _) _)
        clear qa0 qa1 fa0 fa1 qb0 qb1 fb0 fb1 qr0 qr1 fr0 fr1
        obtain ⟨qr0, qr1, fr0, fr1⟩ := cells2 kr
        have Kr3 := Lib.hid kr
        have HB3 := Lib.hid B3
        clear hb3 B3 kr
        go_wp2_with fail
        exact bodyPost_ret (results_cell_row rfl _ _ (w.heap.size + 2) 24 #[.int .i64 v1, .int .i64 v2] (0, 0) _ rfl (put2 Kr3.out _ _) Tryd.underlying24 rfl (by kernel_rfl)) rfl ⟨rfl, below2 HB3.out (by omega) _ _⟩
      · have c0' : (a0 == -1152921504606846976) = false := by rw [beq_eq_false_iff_ne]; exact c0
        have c1' : (a1 == 1152921504606846976) = false := by rw [beq_eq_false_iff_ne]; exact c1
        have HO : Hid (Sp.of a0 a1 = (v1, v2)) := by have := H.out; rw [if_neg c0, if_neg c1] at this; exact this
        clear c0 c1 H
        go_enter Tryd.func16, Tryd.ntmps16
        go_wp2_with fail
        refine (none_to a0 a1 false (by rw [H1.out]; rfl) _).mono ?_
        rintro e w1 ⟨rfl, hb1⟩
        obtain ⟨ka, kb, kr, B1⟩ := box3 _ _ _ _ hb1
        obtain ⟨qa0, qa1, fa0, fa1⟩ := cells2 ka
        have Ka1 := Lib.hid ka
        obtain ⟨qb0, qb1, fb0, fb1⟩ := cells2 kb
        have Kb1 := Lib.hid kb
        obtain ⟨qr0, qr1, fr0, fr1⟩ := cells2 kr
        have Kr1 := Lib.hid kr
        have HB1 := Lib.hid B1
        clear hb1 B1 ka kb kr
        go_wp2_with fail
        refine (none_to b0 b1 false (by rw [H2.out]; rfl) _).mono ?_
        rintro e w2 ⟨rfl, hb2⟩
        have ka := blk_below Ka1.out hb2
        have kb := blk_below Kb1.out hb2
        have kr := blk_below Kr1.out hb2
        have B2 := seq HB1.out hb2
        clear qa0 qa1 fa0 fa1 Ka1 qb0 qb1 fb0 fb1 Kb1 qr0 qr1 fr0 fr1 Kr1
        obtain ⟨qa0, qa1, fa0, fa1⟩ := cells2 ka
        have Ka2 := Lib.hid ka
        obtain ⟨qb0, qb1, fb0, fb1⟩ := cells2 kb
        have Kb2 := Lib.hid kb
        obtain ⟨qr0, qr1, fr0, fr1⟩ := cells2 kr
        have Kr2 := Lib.hid kr
        have HB2 := Lib.hid B2
        clear hb2 B2 ka kb kr HB1
        have lt2 : w.heap.size + 2 < w2.heap.size := blk_lt Kr2.out
        have lt1 : w.heap.size + 1 < w2.heap.size := by omega
        have lt0 : w.heap.size < w2.heap.size := by omega
        go_wp2_with fail
        refine (of_to _ _ v1 v2 HO.out _).mono ?_
        rintro e w3 ⟨rfl, hb3⟩
        have kr := blk_below (blk_alloc Kr2.out _) hb3
        have B3 := Below.seq_to hb3 (Below.push HB2.out (Nat.le_refl _) _)
        clear qa0 qa1 fa0 fa1 qb0 qb1 fb0 fb1 qr0 qr1 fr0 fr1
        obtain ⟨qr0, qr1, fr0, fr1⟩ := cells2 kr
        have Kr3 := Lib.hid kr
        have HB3 := Lib.hid B3
        clear hb3 B3 kr
        go_wp2_with fail
        exact bodyPost_ret (results_cell_row rfl _ _ (w.heap.size + 2) 24 #[.int .i64 v1, .int .i64 v2] (0, 0) _ rfl (put2 Kr3.out _ _) Tryd.underlying24 rfl (by kernel_rfl)) rfl ⟨rfl, below2 HB3.out (by omega) _ _⟩

theorem clo_to (n : Int) (v : Bool) (h : (!Bd.inn n) = v) (w : World) :
    Calls Tryd.prog 40 #[.int .i64 n] w fun e w' => e = .returned (.bool v) ∧ Below w.heap.size w w' := by
  obtain ⟨b, hb⟩ : ∃ b, Bd.inn n = b := ⟨_, rfl⟩
  rw [hb] at h
  subst h
  have HB := Lib.hid hb
  clear hb
  go_enter Tryd.func40, Tryd.ntmps40
  go_wp2_with fail
  refine ((bound_In.calls n b _ (by rw [In_f, HB.out])).mono fun e w' h => (⟨h.1, h.2.below⟩ : e = .returned (.bool b) ∧ Below _ _ w')).mono ?_
  rintro e w1 ⟨rfl, hb1⟩
  have HB1 := Lib.hid hb1
  clear hb1
  go_wp2_with fail
  go_ret
  exact ⟨rfl, HB1.out⟩

def IdxPost (w : World) (l : List Int) (e : Ending) (w' : World) : Prop :=
  ∃ r : Int, e = .returned (.int .i64 r) ∧ decide (0 ≤ r) = l.any (fun n => !Bd.inn n) ∧ Below w.heap.size w w'
theorem any_take (l : List Int) (k : Nat) (h : k < l.length) : (l.take (k + 1)).any (fun n => !Bd.inn n) = ((l.take k).any (fun n => !Bd.inn n) || !Bd.inn (l.getD k 0)) := by
  rw [List.take_succ_eq_append_getElem h, List.any_append]
  simp [List.getD, h]
theorem any_of_take (l : List Int) (k : Nat) (h : (l.take k).any (fun n => !Bd.inn n) = true) : l.any (fun n => !Bd.inn n) = true := by
  rw [List.any_eq_true] at h ⊢
  obtain ⟨x, hx, h2⟩ := h
  exact ⟨x, List.mem_of_mem_take hx, h2⟩

set_option maxRecDepth 100000 in
set_option maxHeartbeats 1000000 in
theorem index_to (l : List Int) (v : Value) (hl : IntsAt w v l) :
    Calls Tryd.prog 55 #[v, .func (.func 40) #[] #[]] w (IdxPost w l) := by
  obtain ⟨ao, c, rfl, hcap, hlen, hc⟩ := hl
  have HC := Lib.hid hc
  clear hc hcap
  go_enter Tryd.func55, Tryd.ntmps55
  go_wp2_with fail
  go_loopg [8] l.length (fun gk i wr => ∃ k : Nat, i = .int .i64 k ∧ k + gk = l.length ∧ Hid ((l.take k).any (fun n => !Bd.inn n) = false) ∧ Hid (Below w.heap.size w wr))
  case atStart => exact ⟨0, rfl, by omega, Lib.hid (by simp), Lib.hid (Below.refl _ _)⟩
  case round =>
    obtain ⟨k, rfl, hk, HA, HB⟩ := hrel
    by_cases hlt : k < l.length
    · obtain ⟨b, off, rfl, hb, hcell⟩ := HC.out (by intro e; rw [e] at hlt; simp at hlt)
      have q0 := (HB.out.cell (p := ⟨b, off + k, none⟩) hb).trans (hcell k hlt)
      have hnext := any_take l k hlt
      rw [HA.out, Bool.false_or] at hnext
      generalize hx : l.getD k 0 = x at *
      have HN := Lib.hid hnext
      clear hnext hx hcell HC
      cases hi : Bd.inn x
      · have HI := Lib.hid hi
        clear hi
        go_wp2_with fail
        refine (clo_to x true (by rw [HI.out]; rfl) _).mono ?_
        rintro e w1 ⟨rfl, hb1⟩
        have HB1 := Lib.hid (seq HB.out hb1)
        clear hb1
        go_wp2_with fail
        go_ret
        exact ⟨k, rfl, by rw [decide_eq_true (by omega)]; exact (any_of_take l (k + 1) (by rw [HN.out, HI.out]; rfl)).symm, HB1.out⟩
      · have HI := Lib.hid hi
        clear hi
        go_wp2_with fail
        refine (clo_to x false (by rw [HI.out]; rfl) _).mono ?_
        rintro e w1 ⟨rfl, hb1⟩
        have HB1 := Lib.hid (seq HB.out hb1)
        clear hb1 q0
        go_wp2_with fail
        go_roundg (gk - 1)
        case measure => omega
        case rel => exact ⟨k + 1, by go_num, by omega, Lib.hid (by rw [HN.out, HI.out]; rfl), HB1⟩
    · obtain rfl : k = l.length := by omega
      have HA2 : Hid (l.any (fun n => !Bd.inn n) = false) := by have := HA.out; rw [List.take_length] at this; exact this
      clear HA
      go_wp2_with fail
      go_ret
      exact ⟨-1, rfl, by rw [HA2.out]; rfl, HB.out⟩

set_option maxRecDepth 100000 in
set_option maxHeartbeats 1000000 in
theorem contains_to (l : List Int) (v : Value) (hl : IntsAt w v l) (b : Bool) (hb : l.any (fun n => !Bd.inn n) = b) :
    Calls Tryd.prog 39 #[v, .func (.func 40) #[] #[]] w fun e w' => e = .returned (.bool b) ∧ Below w.heap.size w w' := by
  have HL := Lib.hid hl
  have HB := Lib.hid hb
  clear hl hb
  go_enter Tryd.func39, Tryd.ntmps39
  go_wp2_with fail
  refine (index_to l v HL.out).mono ?_
  rintro e w1 ⟨r, rfl, hr, hb1⟩
  rw [HB.out] at hr
  have HB1 := Lib.hid hb1
  clear hb1
  go_wp2_with fail
  go_ret
  exact ⟨rfl, HB1.out⟩

end Go.Proofs.YtjddafaaplhnfaaDoor.PSpanWidens

set_option linter.unusedVariables false
set_option linter.unusedSimpArgs false
namespace Go.Proofs.YtjddafaaplhnfaaDoor.PSpanWidens
open Go Go.RowKit Go.Deep Go.Proofs.YtjddafaaplhnfaaDoorW.PrintWords Go.Proofs.YtjddafaaplhnfaaDoorW.PrintLast Go.Proofs.YtjddafaaplhnfaaDoorW.PrintMore
variable {w : World}

theorem cell_below {w w' : World} {a : Addr} {v : Value} (hb : Below w.heap.size w w') (h : w.cell? a = some v) : w'.cell? a = some v := (hb.cell (World.block_lt_of_cell? _ a h)).trans h
theorem cell_alloc {w : World} {a : Addr} {v : Value} (o : Obj) (h : w.cell? a = some v) : (w.alloc o).cell? a = some v := cell_below (Below.push (Below.refl w.heap.size w) (Nat.le_refl _) o) h
theorem cell_drew {w : World} {a : Addr} {v : Value} (h : w.cell? a = some v) : w.drew.cell? a = some v := h

/-- A new block of ints, as a slice. -/
theorem intsAt_block {w : World} {b : Nat} {T : TypeId} (l : List Int) (hl : l.length ≤ 1000) (h : w.heap[b]? = some (.cells (l.map (Value.int .i64)).toArray T (0, 0))) : IntsAt w (.slice (some ⟨b, 0, none⟩) l.length l.length) l := by
  refine ⟨_, _, rfl, Nat.le_refl _, by omega, fun _ => ⟨b, 0, rfl, blk_lt h, fun j hj => ?_⟩⟩
  rw [Nat.zero_add]
  exact (blk_cell h j).trans (by simp [List.getD, hj])

def ResPost (w : World) (l : List Int) (e : Ending) (w' : World) : Prop := ∃ v, e = .returned v ∧ IntsAt w' v l ∧ Below w.heap.size w w'
theorem ResPost.two {w w1 : World} {b : Nat} {T : TypeId} {x y : Int} (hb : Below w.heap.size w w1) (h : w1.heap[b]? = some (.cells #[.int .i64 x, .int .i64 y] T (0, 0))) :
    ResPost w [x, y] (.returned (.slice (some ⟨b, 0, none⟩) 2 2)) w1 := ⟨_, rfl, intsAt_block [x, y] (by simp) h, hb⟩
theorem ResPost.four {w w1 : World} {b : Nat} {T : TypeId} {x y z u : Int} (hb : Below w.heap.size w w1) (h : w1.heap[b]? = some (.cells #[.int .i64 x, .int .i64 y, .int .i64 z, .int .i64 u] T (0, 0))) :
    ResPost w [x, y, z, u] (.returned (.slice (some ⟨b, 0, none⟩) 4 4)) w1 := ⟨_, rfl, intsAt_block [x, y, z, u] (by simp) h, hb⟩

def W2 (w : World) (a0 a1 b0 b1 : Int) : World := (w.alloc (.cells #[.int .i64 a0, .int .i64 a1] 24)).alloc (.cells #[.int .i64 b0, .int .i64 b1] 24)

set_option maxRecDepth 100000 in
set_option maxHeartbeats 1000000 in
theorem results_0 (a0 a1 b0 b1 : Int) (ha : Sp.ok a0 a1 = true) (hb : Sp.ok b0 b1 = true) (w : World) :
    Calls Tryd.prog 38 #[.int .i64 0, .agg #[.int .i64 a0, .int .i64 a1], .agg #[.int .i64 b0, .int .i64 b1]] w (ResPost w [a0 + b0, a1 + b1]) := by
  obtain ⟨p1, p2, p3⟩ := Sp.ok_iff.1 ha
  obtain ⟨q1, q2, q3⟩ := Sp.ok_iff.1 hb
  have p4 : a0 ≤ 1152921504606846976 := by omega
  have p5 : -1152921504606846976 ≤ a1 := by omega
  have q4 : b0 ≤ 1152921504606846976 := by omega
  have q5 : -1152921504606846976 ≤ b1 := by omega
  clear ha hb p2 q2
  go_enter Tryd.func38, Tryd.ntmps38
  go_wp2_with fail
  go_ret
  exact ResPost.two (Below.push (Below.push (Below.push (Below.refl _ _) (Nat.le_refl _) _) (Nat.le_refl _) _) (Nat.le_refl _) _) (by have := blk_new ((w.alloc (.cells #[.int .i64 a0, .int .i64 a1] 24)).alloc (.cells #[.int .i64 b0, .int .i64 b1] 24)) (.cells #[.int .i64 (a0 + b0), .int .i64 (a1 + b1)] 3); simpa using this)

set_option maxRecDepth 100000 in
set_option maxHeartbeats 1000000 in
theorem results_1 (a0 a1 b0 b1 : Int) (ha : Sp.ok a0 a1 = true) (hb : Sp.ok b0 b1 = true) (w : World) :
    Calls Tryd.prog 38 #[.int .i64 1, .agg #[.int .i64 a0, .int .i64 a1], .agg #[.int .i64 b0, .int .i64 b1]] w (ResPost w [a0 - b1, a1 - b0]) := by
  obtain ⟨p1, p2, p3⟩ := Sp.ok_iff.1 ha
  obtain ⟨q1, q2, q3⟩ := Sp.ok_iff.1 hb
  have p4 : a0 ≤ 1152921504606846976 := by omega
  have p5 : -1152921504606846976 ≤ a1 := by omega
  have q4 : b0 ≤ 1152921504606846976 := by omega
  have q5 : -1152921504606846976 ≤ b1 := by omega
  clear ha hb p2 q2
  go_enter Tryd.func38, Tryd.ntmps38
  go_wp2_with fail
  go_ret
  exact ResPost.two (Below.push (Below.push (Below.push (Below.refl _ _) (Nat.le_refl _) _) (Nat.le_refl _) _) (Nat.le_refl _) _) (by have := blk_new ((w.alloc (.cells #[.int .i64 a0, .int .i64 a1] 24)).alloc (.cells #[.int .i64 b0, .int .i64 b1] 24)) (.cells #[.int .i64 (a0 - b1), .int .i64 (a1 - b0)] 3); simpa using this)

set_option maxRecDepth 100000 in
set_option maxHeartbeats 4000000 in
theorem results_2 (a0 a1 b0 b1 : Int) (ha : Sp.ok a0 a1 = true) (hb : Sp.ok b0 b1 = true) (w : World) :
    Calls Tryd.prog 38 #[.int .i64 2, .agg #[.int .i64 a0, .int .i64 a1], .agg #[.int .i64 b0, .int .i64 b1]] w (ResPost w [Sp.tm a0 b0, Sp.tm a0 b1, Sp.tm a1 b0, Sp.tm a1 b1]) := by
  obtain ⟨p1, p2, p3⟩ := Sp.ok_iff.1 ha
  obtain ⟨q1, q2, q3⟩ := Sp.ok_iff.1 hb
  have p4 : a0 ≤ 1152921504606846976 := by omega
  have p5 : -1152921504606846976 ≤ a1 := by omega
  have q4 : b0 ≤ 1152921504606846976 := by omega
  have q5 : -1152921504606846976 ≤ b1 := by omega
  clear ha hb p2 q2
  go_enter Tryd.func38, Tryd.ntmps38
  go_wp2_with fail
  have x0 : (W2 w a0 a1 b0 b1).cell? ⟨w.heap.size, 0, none⟩ = some (.int .i64 a0) := cell_alloc _ ((blk_cell (blk_new w _) 0).trans rfl)
  have x1 : (W2 w a0 a1 b0 b1).cell? ⟨w.heap.size, 1, none⟩ = some (.int .i64 a1) := cell_alloc _ ((blk_cell (blk_new w _) 1).trans rfl)
  have hk := blk_new (w.alloc (.cells #[.int .i64 a0, .int .i64 a1] 24)) (.cells #[.int .i64 b0, .int .i64 b1] 24)
  have hk' : (W2 w a0 a1 b0 b1).heap[w.heap.size + 1]? = some (.cells #[.int .i64 b0, .int .i64 b1] 24 (0, 0)) := by simpa [W2] using hk
  have x2 : (W2 w a0 a1 b0 b1).cell? ⟨w.heap.size + 1, 0, none⟩ = some (.int .i64 b0) := (blk_cell hk' 0).trans rfl
  have x3 : (W2 w a0 a1 b0 b1).cell? ⟨w.heap.size + 1, 1, none⟩ = some (.int .i64 b1) := (blk_cell hk' 1).trans rfl
  have cur : Below w.heap.size w (W2 w a0 a1 b0 b1) := Below.push (Below.push (Below.refl _ _) (Nat.le_refl _) _) (Nat.le_refl _) _
  clear hk hk'
  change Code.wp _ _ _ _ (W2 w a0 a1 b0 b1)
  generalize W2 w a0 a1 b0 b1 = W at *
  go_cut [6] (fun v6 wx => Hid (ResPost w [Sp.tm a0 b0, Sp.tm a0 b1, Sp.tm a1 b0, Sp.tm a1 b1] (.returned v6) wx))
  case first =>
    replace cur : Below w.heap.size w W.drew := cur.drew
    replace x0 := cell_drew x0
    replace x1 := cell_drew x1
    replace x2 := cell_drew x2
    replace x3 := cell_drew x3
    go_region_held3 (fun wx => wx.cell? ⟨w.heap.size, 0, none⟩ = some (.int .i64 a0) ∧ wx.cell? ⟨w.heap.size, 1, none⟩ = some (.int .i64 a1) ∧ wx.cell? ⟨w.heap.size + 1, 0, none⟩ = some (.int .i64 b0) ∧ wx.cell? ⟨w.heap.size + 1, 1, none⟩ = some (.int .i64 b1))
      (first | exact ⟨x0, x1, x2, x3⟩ | exact ⟨cell_alloc _ x0, cell_alloc _ x1, cell_alloc _ x2, cell_alloc _ x3⟩)
      (first | (go_at_call 54; refine (times_to _ _ _ (by omega) (by omega) rfl _).mono ?_; rintro e wq ⟨rfl, hbq⟩; replace cur := seq cur hbq; replace x0 := cell_below hbq x0; replace x1 := cell_below hbq x1; replace x2 := cell_below hbq x2; replace x3 := cell_below hbq x3))
    all_goals (go_wp2_with fail; go_meet; exact Lib.hid (ResPost.four (Below.push cur (Nat.le_refl _) _) (blk_new wq _)))
  case rest =>
    clear x0 x1 x2 x3 cur
    obtain ⟨v, e1, e2, e3⟩ := hcut.out
    injection e1 with e1
    subst e1
    have HI := Lib.hid e2
    have HB := Lib.hid e3
    clear hcut e2 e3
    go_wp2_with fail
    go_ret
    exact ⟨_, rfl, HI.out, HB.out⟩

end Go.Proofs.YtjddafaaplhnfaaDoor.PSpanWidens

set_option linter.unusedVariables false
set_option linter.unusedSimpArgs false
namespace Go.Proofs.YtjddafaaplhnfaaDoor.PSpanWidens
open Go Go.RowKit Go.Deep Go.Proofs.YtjddafaaplhnfaaDoorW.PrintWords Go.Proofs.YtjddafaaplhnfaaDoorW.PrintLast Go.Proofs.YtjddafaaplhnfaaDoorW.PrintMore
variable {w : World}

theorem info_int : (Tryd.prog.info? 3).map (fun i => (i.zero, i.size, i.bytes)) = some (some (.int .i64 0), 1, 8) := by kernel_rfl
theorem of_any (a b : Int) (w : World) :
    Calls Tryd.prog 34 #[.int .i64 a, .int .i64 b] w fun e w' => e = .returned (.agg #[.int .i64 (Sp.of a b).1, .int .i64 (Sp.of a b).2]) ∧ Below w.heap.size w w' := of_to a b _ _ rfl w
theorem meet_any (a0 a1 b0 b1 : Int) (w : World) :
    Calls Tryd.prog 20 #[.agg #[.int .i64 a0, .int .i64 a1], .agg #[.int .i64 b0, .int .i64 b1]] w fun e w' => e = .returned (.agg #[.int .i64 (Sp.meet a0 a1 b0 b1).1, .int .i64 (Sp.meet a0 a1 b0 b1).2]) ∧ Below w.heap.size w w' := meet_to a0 a1 b0 b1 _ _ rfl w

/-- What the loop over both parts keeps. -/
structure L3 (w wr : World) (a0 a1 u0 u1 v0 v1 : Int) (B : Nat) (v : Value) (l : List Int) : Prop where
  ia : wr.heap[w.heap.size]? = some (.cells #[.int .i64 a0, .int .i64 a1] 24 (0, 0))
  row : wr.heap[B]? = some (.cells #[.int .i64 u0, .int .i64 u1, .int .i64 v0, .int .i64 v1] 24 (0, 0))
  own : wr.ownsRow w.heap.size 3 1 v l.length (l.map (Value.int .i64))
  bel : Below w.heap.size w wr
  sa : v.ownBlock ≠ some w.heap.size
  sb : v.ownBlock ≠ some B
  ge : w.heap.size ≤ B
def outk (a0 a1 u0 u1 v0 v1 : Int) (k : Nat) : List Int := if k = 0 then [] else if k = 1 then Sp.quot a0 a1 (u0, u1) else Sp.quot a0 a1 (u0, u1) ++ Sp.quot a0 a1 (v0, v1)
theorem L3.below {wr wr' : World} {a0 a1 u0 u1 v0 v1 : Int} {B : Nat} {v : Value} {l : List Int} (h : L3 w wr a0 a1 u0 u1 v0 v1 B v l) (hb : Below wr.heap.size wr wr') : L3 w wr' a0 a1 u0 u1 v0 v1 B v l := by
  refine ⟨blk_below h.ia hb, blk_below h.row hb, ?_, seq h.bel hb, h.sa, h.sb, h.ge⟩
  rcases h.own.2 with ⟨rfl, hn⟩ | ⟨g, cap, cur, rfl, hb1, hgg, rest⟩
  · exact ⟨h.own.1, .inl ⟨rfl, hn⟩⟩
  · exact ⟨h.own.1, .inr ⟨g, cap, cur, rfl, hb1, blk_below hgg hb, rest⟩⟩
theorem own_ints {wr : World} {base : Nat} {v : Value} {l : List Int} (hl : l.length ≤ 1000) (h : wr.ownsRow base 3 1 v l.length (l.map (Value.int .i64))) : IntsAt wr v l := by
  have h' := h
  rcases h.2 with ⟨rfl, hn⟩ | ⟨g, cap, cur, rfl, hb1, hgg, h1, h2, h3⟩
  · obtain rfl : l = [] := List.length_eq_zero_iff.1 hn
    exact ⟨none, 0, rfl, by simp, by simp, fun h => absurd rfl h⟩
  · refine ⟨_, _, rfl, h1, by omega, fun _ => ⟨g, 0, rfl, blk_lt hgg, fun j hj => ?_⟩⟩
    have hc := h'.cells (g := g) rfl
    have := hc j (.int .i64 (l.getD j 0)) (by simp [List.getD, hj])
    rwa [add_at] at this

/-- Four numbers more. -/
theorem L3.four {wr wx w' : World} {a0 a1 u0 u1 v0 v1 : Int} {B : Nat} {v v' : Value} {l l' : List Int} (h : L3 w wr a0 a1 u0 u1 v0 v1 B v l) (hx : Below wr.heap.size wr wx) (n4 : List Value) (hn : n4 = l'.map (Value.int .i64))
    (ho : w'.ownsRow w.heap.size 3 1 v' (l.length + l'.length) (l.map (Value.int .i64) ++ n4)) (hg : wx.grownBy w' v.ownBlock) (hv : v'.ownBlock = v.ownBlock ∨ v'.ownBlock = some wx.heap.size) : L3 w w' a0 a1 u0 u1 v0 v1 B v' (l ++ l') := by
  have hX := h.below hx
  have s1 := blk_lt hX.ia
  have s2 := blk_lt hX.row
  refine ⟨(hg.block _ s1 (fun e => h.sa e.symm)).trans hX.ia, (hg.block _ s2 (fun e => h.sb e.symm)).trans hX.row, by rw [List.length_append, List.map_append, ← hn]; exact ho, ?_, ?_, ?_, h.ge⟩
  · refine hX.bel.grown hg hX.bel.size (fun k hk => ?_)
    rcases h.own.2 with ⟨rfl, _⟩ | ⟨g, cap, cur, rfl, hb1, _⟩
    · simp [Value.ownBlock] at hk
    · simp [Value.ownBlock] at hk; omega
  · rcases hv with e | e
    · rw [e]; exact h.sa
    · rw [e]; intro e2; injection e2 with e2; omega
  · rcases hv with e | e
    · rw [e]; exact h.sb
    · rw [e]; intro e2; injection e2 with e2; omega

theorem cell_grown {w w' : World} {row : Option Nat} {a : Addr} {v : Value} (hg : w.grownBy w' row) (h : w.cell? a = some v) (hn : row ≠ some a.block) : w'.cell? a = some v :=
  (World.cell?_of_block (w := w) (hg.block a.block (World.block_lt_of_cell? w _ h) (fun e => hn e.symm))).trans h
theorem quot_wrap {a b : Int} (h : -1152921504606846976 ≤ a ∧ a ≤ 1152921504606846976) : IntKind.i64.wrap (a.tdiv b) = a.tdiv b := by
  have := tdiv_range (b := b) h
  exact IntWalk.i64_in _ (by omega)

def spEq (x0 x1 y0 y1 : Int) : Bool := x0 == y0 && x1 == y1
theorem eq_sp (w : World) (x0 x1 y0 y1 : Int) :
    (Op.equalIn 10000 24 (.agg #[.int .i64 x0, .int .i64 x1]) (.agg #[.int .i64 y0, .int .i64 y1])).run Tryd.prog w = .ok (spEq x0 x1 y0 y1) w := by
  rw [run_equalIn_struct w 9999 24 _ _ (by kernel_rfl) (by kernel_rfl)]
  simp only [Program.fieldsOf, Tryd.underlying24, spEq]
  go_simp
  by_cases h0 : x0 = y0 <;> by_cases h1 : x1 = y1 <;> simp [h0, h1]
attribute [local go_sem high] eq_sp

set_option maxRecDepth 100000 in
set_option maxHeartbeats 8000000 in
theorem results_3 (a0 a1 b0 b1 : Int) (ha : Sp.ok a0 a1 = true) (hb : Sp.ok b0 b1 = true) (w : World) :
    Calls Tryd.prog 38 #[.int .i64 3, .agg #[.int .i64 a0, .int .i64 a1], .agg #[.int .i64 b0, .int .i64 b1]] w (ResPost w (Sp.res 3 a0 a1 b0 b1)) := by
  obtain ⟨p1, p2, p3⟩ := Sp.ok_iff.1 ha
  have p4 : a0 ≤ 1152921504606846976 := by omega
  have p5 : -1152921504606846976 ≤ a1 := by omega
  obtain ⟨i0, hi0, hz0, hz1, hz2⟩ := info_parts info_int
  obtain ⟨⟨u0, u1⟩, hu⟩ : ∃ u, Sp.meet b0 b1 (-1152921504606846976) (-1) = u := ⟨_, rfl⟩
  obtain ⟨⟨v0, v1⟩, hv⟩ : ∃ u, Sp.meet b0 b1 1 1152921504606846976 = u := ⟨_, rfl⟩
  have hres : Sp.res 3 a0 a1 b0 b1 = outk a0 a1 u0 u1 v0 v1 2 := by
    unfold Sp.res outk; rw [hu, hv]; rfl
  have o1 : Sp.of (-1152921504606846976) (-1) = (-1152921504606846976, -1) := by decide +kernel
  have o2 : Sp.of 1 1152921504606846976 = (1, 1152921504606846976) := by decide +kernel
  rw [hres]
  have ub := Sp.meet_neg b0 b1
  have vb := Sp.meet_pos b0 b1
  rw [hu] at ub
  rw [hv] at vb
  have HU := Lib.hid hu
  have HV := Lib.hid hv
  have O1 := Lib.hid o1
  have O2 := Lib.hid o2
  have UB := Lib.hid ub
  have VB := Lib.hid vb
  have hi0' := Lib.hid hi0
  have hz0' := Lib.hid hz0
  have hz1' := Lib.hid hz1
  have hz2' := Lib.hid hz2
  clear ha hb p2 hu hv hres o1 o2 ub vb hi0 hz0 hz1 hz2
  go_enter Tryd.func38, Tryd.ntmps38
  go_wp2_with fail
  have x0 : (W2 w a0 a1 b0 b1).heap[w.heap.size]? = some (.cells #[.int .i64 a0, .int .i64 a1] 24 (0, 0)) := blk_alloc (blk_new w _) _
  have hk := blk_new (w.alloc (.cells #[.int .i64 a0, .int .i64 a1] 24)) (.cells #[.int .i64 b0, .int .i64 b1] 24)
  have hk' : (W2 w a0 a1 b0 b1).heap[w.heap.size + 1]? = some (.cells #[.int .i64 b0, .int .i64 b1] 24 (0, 0)) := by simpa [W2] using hk
  have x2 : (W2 w a0 a1 b0 b1).cell? ⟨w.heap.size + 1, 0, none⟩ = some (.int .i64 b0) := (blk_cell hk' 0).trans rfl
  have x3 : (W2 w a0 a1 b0 b1).cell? ⟨w.heap.size + 1, 1, none⟩ = some (.int .i64 b1) := (blk_cell hk' 1).trans rfl
  have cur : Below w.heap.size w (W2 w a0 a1 b0 b1) := Below.push (Below.push (Below.refl _ _) (Nat.le_refl _) _) (Nat.le_refl _) _
  have hsz : w.heap.size + 2 = (W2 w a0 a1 b0 b1).heap.size := by simp [W2]
  clear hk hk'
  change Code.wp _ _ _ _ (W2 w a0 a1 b0 b1)
  generalize W2 w a0 a1 b0 b1 = W at *
  have HS := Lib.hid hsz
  have X0 := Lib.hid x0
  clear hsz x0
  go_cut [66, 67, 68] (fun v66 v67 v68 wx => ∃ B : Nat, v66 = .slice (some ⟨B, 0, none⟩) 2 2 ∧ v67 = .int .i64 2 ∧ v68 = .int .i64 0 ∧ Hid (W.heap.size ≤ B) ∧ Hid (Below W.heap.size W wx) ∧ Hid (wx.heap[B]? = some (.cells #[.int .i64 u0, .int .i64 u1, .int .i64 v0, .int .i64 v1] 24 (0, 0))))
  case first =>
    clear cur
    have cur : Below W.heap.size W W.drew := (Below.refl _ W).drew
    replace x2 := cell_drew x2
    replace x3 := cell_drew x3
    go_region_held3 (fun wx => wx.cell? ⟨w.heap.size + 1, 0, none⟩ = some (.int .i64 b0) ∧ wx.cell? ⟨w.heap.size + 1, 1, none⟩ = some (.int .i64 b1))
      (first | exact ⟨x2, x3⟩ | exact ⟨cell_alloc _ x2, cell_alloc _ x3⟩)
      (first | (go_at_call 34; refine (of_any _ _ _).mono ?_; rintro e wq ⟨rfl, hbq⟩; replace cur := seq cur hbq; replace x2 := cell_below hbq x2; replace x3 := cell_below hbq x3) | (go_at_call 20; refine (meet_any _ _ _ _ _).mono ?_; rintro e wq ⟨rfl, hbq⟩; replace cur := seq cur hbq; replace x2 := cell_below hbq x2; replace x3 := cell_below hbq x3))
    all_goals (rw [O1.out, O2.out]; dsimp only; rw [HU.out, HV.out]; dsimp only; go_wp2_with fail; go_meet; exact ⟨wq.heap.size, rfl, rfl, rfl, Lib.hid cur.size, Lib.hid (Below.push cur (Nat.le_refl _) _), Lib.hid (blk_new wq _)⟩)
  case rest =>
    obtain ⟨B, rfl, rfl, rfl, HG, HBx, HRow⟩ := hcut
    have H0 : Hid (L3 w wc a0 a1 u0 u1 v0 v1 B (.slice none 0 0) (outk a0 a1 u0 u1 v0 v1 0)) :=
      ⟨blk_below X0.out HBx.out, HRow.out, World.ownsRow_nil _ _ _ _, seq cur HBx.out, by simp [Value.ownBlock], by simp [Value.ownBlock], by have := HG.out; have := HS.out; omega⟩
    clear x2 x3 cur HG HBx HRow X0 HS
    go_wp2_with fail
    go_loopg [7, 68] 2 (fun gk v7 i wr => ∃ k : Nat, i = .int .i64 k ∧ k + gk = 2 ∧ Hid (L3 w wr a0 a1 u0 u1 v0 v1 B v7 (outk a0 a1 u0 u1 v0 v1 k)))
    case atStart => exact ⟨0, rfl, by omega, H0⟩
    case round =>
      clear H0
      obtain ⟨k, rfl, hk, HL⟩ := hrel
      by_cases hlt : k < 2
      · obtain ⟨y0, y1, e0, e1, hy, hnext⟩ : ∃ y0 y1, wr.cell? ⟨B, k * 2, none⟩ = some (.int .i64 y0) ∧ wr.cell? ⟨B, k * 2 + 1, none⟩ = some (.int .i64 y1) ∧ ((y0, y1) = (1, 0) ∨ (y0 ≠ 0 ∧ y1 ≠ 0)) ∧ outk a0 a1 u0 u1 v0 v1 (k + 1) = outk a0 a1 u0 u1 v0 v1 k ++ Sp.quot a0 a1 (y0, y1) := by
          have ub := UB.out
          have vb := VB.out
          rcases (show k = 0 ∨ k = 1 by omega) with rfl | rfl
          · exact ⟨u0, u1, (blk_cell HL.out.row 0).trans rfl, (blk_cell HL.out.row 1).trans rfl, by rcases ub with h | h; exact .inl h; exact .inr (by omega), by simp [outk]⟩
          · exact ⟨v0, v1, (blk_cell HL.out.row 2).trans rfl, (blk_cell HL.out.row 3).trans rfl, by rcases vb with h | h; exact .inl h; exact .inr (by omega), by simp [outk]⟩
        have hlen : (outk a0 a1 u0 u1 v0 v1 k).length ≤ 8 := by
          have hq : ∀ p, (Sp.quot a0 a1 p).length ≤ 4 := fun p => by unfold Sp.quot; split <;> simp
          unfold outk
          split
          · simp
          · split
            · have := hq (u0, u1); omega
            · have := hq (u0, u1); have := hq (v0, v1); rw [List.length_append]; omega
        generalize outk a0 a1 u0 u1 v0 v1 k = L at *
        have HNX := Lib.hid hnext
        have ca0 := (blk_cell HL.out.ia 0).trans (show _ = some (Value.int .i64 a0) from rfl)
        have ca1 := (blk_cell HL.out.ia 1).trans (show _ = some (Value.int .i64 a1) from rfl)
        have hb1 : B < wr.heap.size := blk_lt HL.out.row
        have hb2 : w.heap.size < wr.heap.size := blk_lt HL.out.ia
        clear hnext
        obtain ⟨E, hE⟩ : ∃ E, spEq y0 y1 1 0 = E := ⟨_, rfl⟩
        have HE := Lib.hid hE
        have HY := Lib.hid hy
        clear hE hy
        have HW : Hid (Below wr.heap.size wr (wr.alloc (.cells #[.int .i64 y0, .int .i64 y1] 24))) := Below.push (Below.refl _ _) (Nat.le_refl _) _
        have HN : Hid ((wr.alloc (.cells #[.int .i64 y0, .int .i64 y1] 24)).heap[wr.heap.size]? = some (.cells #[.int .i64 y0, .int .i64 y1] 24 (0, 0))) := blk_new wr _
        go_wp2_with fail
        generalize wr.alloc (.cells #[.int .i64 y0, .int .i64 y1] 24) = W3 at *
        replace ca0 := cell_below HW.out ca0
        replace ca1 := cell_below HW.out ca1
        obtain ⟨z0, z1, -, -⟩ := cells2 HN.out
        clear e0 e1
        go_cut [74] (fun v74 wx => v74 = .bool (!E) ∧ Hid (Below W3.heap.size W3 wx))
        case first =>
          have cur : Below W3.heap.size W3 W3.drew := (Below.refl _ W3).drew
          replace z0 := cell_drew z0
          replace z1 := cell_drew z1
          go_region_held3 (fun wx => wx.cell? ⟨wr.heap.size, 0, none⟩ = some (.int .i64 y0) ∧ wx.cell? ⟨wr.heap.size, 1, none⟩ = some (.int .i64 y1))
            (first | exact ⟨z0, z1⟩)
            (first | (go_at_call 21; refine (empty_to _).mono ?_; rintro e wq ⟨rfl, hbq⟩; replace cur := seq cur hbq; replace z0 := cell_below hbq z0; replace z1 := cell_below hbq z1))
          all_goals (rw [HE.out]; go_wp2_with fail; go_meet; exact ⟨rfl, Lib.hid cur⟩)
        case rest =>
          obtain ⟨rfl, HC⟩ := hcut
          replace ca0 := cell_below HC.out ca0
          replace ca1 := cell_below HC.out ca1
          replace z0 := cell_below HC.out z0
          replace z1 := cell_below HC.out z1
          have HB4 := Lib.hid (seq HW.out HC.out)
          clear HC HW HN
          cases E with
          | true =>
            have hq : Sp.quot a0 a1 (y0, y1) = [] := by
              have := HE.out
              unfold spEq at this
              simp at this
              unfold Sp.quot; rw [if_pos (by rw [this.1, this.2])]
            have HL2 : Hid (L3 w wc a0 a1 u0 u1 v0 v1 B u7 (outk a0 a1 u0 u1 v0 v1 (k + 1))) := by rw [HNX.out, hq, List.append_nil]; exact HL.out.below HB4.out
            clear hq ca0 ca1 z0 z1 HL HB4
            go_wp2_with fail
            go_roundg (gk - 1)
            case measure => omega
            case rel => exact ⟨k + 1, by go_num, by omega, HL2⟩
          | false =>
            have hne : (y0, y1) ≠ (1, 0) := by
              intro e
              injection e with e1 e2
              subst e1 e2
              have := HE.out
              simp [spEq] at this
            have hy : y0 ≠ 0 ∧ y1 ≠ 0 := by rcases HY.out with h | h; exact absurd h hne; exact h
            have hq : Sp.quot a0 a1 (y0, y1) = [a0.tdiv y0, a0.tdiv y1, a1.tdiv y0, a1.tdiv y1] := by unfold Sp.quot; rw [if_neg hne]
            have hy0 := hy.1
            have hy1 := hy.2
            have by0 : (y0 == 0) = false := by rw [beq_eq_false_iff_ne]; exact hy0
            have by1 : (y1 == 0) = false := by rw [beq_eq_false_iff_ne]; exact hy1
            have r00 := quot_wrap (b := y0) (a := a0) ⟨p1, p4⟩
            have r01 := quot_wrap (b := y1) (a := a0) ⟨p1, p4⟩
            have r10 := quot_wrap (b := y0) (a := a1) ⟨p5, p3⟩
            have r11 := quot_wrap (b := y1) (a := a1) ⟨p5, p3⟩
            have hns : u7.ownBlock ≠ some wr.heap.size := by
              intro e
              rcases HL.out.own.2 with ⟨rfl, _⟩ | ⟨g, cap, cur, rfl, _, hgg, _⟩
              · simp [Value.ownBlock] at e
              · simp [Value.ownBlock] at e
                have := blk_lt hgg
                omega
            have hsa := HL.out.sa
            have HLc := Lib.hid (HL.out.below HB4.out)
            have HQ := Lib.hid hq
            have NS := Lib.hid hns
            have SA := Lib.hid hsa
            have hlm : L.length + 4 ≤ maxLen := by unfold maxLen; omega
            clear hne hy hq hns hsa HY
            go_wp2_with fail
            have cur : Below wc.heap.size wc wc.drew := (Below.refl _ wc).drew
            replace ca0 := cell_drew ca0
            replace ca1 := cell_drew ca1
            replace z0 := cell_drew z0
            replace z1 := cell_drew z1
            go_region_held3 (fun wx => wx.cell? ⟨w.heap.size, 0, none⟩ = some (.int .i64 a0) ∧ wx.cell? ⟨w.heap.size, 1, none⟩ = some (.int .i64 a1) ∧ wx.cell? ⟨wr.heap.size, 0, none⟩ = some (.int .i64 y0) ∧ wx.cell? ⟨wr.heap.size, 1, none⟩ = some (.int .i64 y1))
              (first | exact ⟨ca0, ca1, z0, z1⟩ | exact ⟨cell_alloc _ ca0, cell_alloc _ ca1, cell_alloc _ z0, cell_alloc _ z1⟩)
              (first | ((refine step_append_at (by rfl) (.tmp 75) (.tmp 96) 32 (by rfl) w.heap.size 3 i0 (.int .i64 0) 1 8 Tryd.underlying32 hi0'.out hz0'.out hz1'.out hz2'.out rfl (by decide) u7 L.length (L.map (Value.int .i64)) (by rfl) (HLc.out.below (Below.push (Below.drew (Below.refl _ wc)) (Nat.le_refl _) _)).own ⟨wc.heap.size, 0, none⟩ 4 4 [.int .i64 (a0.tdiv y0), .int .i64 (a0.tdiv y1), .int .i64 (a1.tdiv y0), .int .i64 (a1.tdiv y1)] (by rfl) (by simp) (World.news_of_block (cs := #[.int .i64 (a0.tdiv y0), .int .i64 (a0.tdiv y1), .int .i64 (a1.tdiv y0), .int .i64 (a1.tdiv y1)]) (t := 3) (fr := (0, 0)) (blk_new wc.drew _)) (by simp [Value.oneCell']) hlm (by omega) (by have := HLc.out.bel.size; simp; omega) ?_); intro v7 w7 hown7 hg7 hb7; have G7 : Hid (L3 w w7 a0 a1 u0 u1 v0 v1 B v7 (outk a0 a1 u0 u1 v0 v1 (k + 1))) := (by rw [HNX.out, HQ.out]; exact L3.four HLc.out (Below.push (Below.drew (Below.refl _ wc)) (Nat.le_refl _) _) _ rfl hown7 hg7 hb7); replace ca0 := cell_grown hg7 (cell_alloc _ ca0) SA.out; replace ca1 := cell_grown hg7 (cell_alloc _ ca1) SA.out; replace z0 := cell_grown hg7 (cell_alloc _ z0) NS.out; replace z1 := cell_grown hg7 (cell_alloc _ z1) NS.out))
            all_goals
              clear ca0 ca1 z0 z1 HL HB4 HLc by0 by1 r00 r01 r10 r11
              go_wp2_with fail
              go_roundg (gk - 1)
              case measure => omega
              case rel => exact ⟨k + 1, by go_num, by omega, G7⟩
      · obtain rfl : k = 2 := by omega
        go_wp2_with fail
        go_ret
        have hlen : (outk a0 a1 u0 u1 v0 v1 2).length ≤ 8 := by
          have hq : ∀ p, (Sp.quot a0 a1 p).length ≤ 4 := fun p => by unfold Sp.quot; split <;> simp
          have := hq (u0, u1); have := hq (v0, v1)
          show (Sp.quot a0 a1 (u0, u1) ++ Sp.quot a0 a1 (v0, v1)).length ≤ 8
          rw [List.length_append]; omega
        exact ⟨_, rfl, own_ints (by omega) HL.out.own, HL.out.bel⟩
end Go.Proofs.YtjddafaaplhnfaaDoor.PSpanWidens

set_option linter.unusedVariables false
set_option linter.unusedSimpArgs false
namespace Go.Proofs.YtjddafaaplhnfaaDoor.PSpanWidens
open Go Go.RowKit Go.Deep Go.Proofs.YtjddafaaplhnfaaDoorW.PrintWords Go.Proofs.YtjddafaaplhnfaaDoorW.PrintLast Go.Proofs.YtjddafaaplhnfaaDoorW.PrintMore
variable {w : World}

theorem results_to (op a0 a1 b0 b1 : Int) (h0 : 0 ≤ op) (h3 : op ≤ 3) (ha : Sp.ok a0 a1 = true) (hb : Sp.ok b0 b1 = true) (w : World) :
    Calls Tryd.prog 38 #[.int .i64 op, .agg #[.int .i64 a0, .int .i64 a1], .agg #[.int .i64 b0, .int .i64 b1]] w (ResPost w (Sp.res op a0 a1 b0 b1)) := by
  rcases (show op = 0 ∨ op = 1 ∨ op = 2 ∨ op = 3 by omega) with rfl | rfl | rfl | rfl
  · exact results_0 a0 a1 b0 b1 ha hb w
  · exact results_1 a0 a1 b0 b1 ha hb w
  · exact results_2 a0 a1 b0 b1 ha hb w
  · exact results_3 a0 a1 b0 b1 ha hb w

set_option maxRecDepth 100000 in
set_option maxHeartbeats 8000000 in
theorem calc_to (op a0 a1 b0 b1 v1 v2 : Int) (v3 : Bool) (h : Sp.reck op a0 a1 b0 b1 = ((v1, v2), v3)) (w : World) :
    Calls Tryd.prog 11 #[.int .i64 op, .agg #[.int .i64 a0, .int .i64 a1], .agg #[.int .i64 b0, .int .i64 b1]] w fun e w' => e = .returned (.tuple #[.agg #[.int .i64 v1, .int .i64 v2], .bool v3]) ∧ Below w.heap.size w w' := by
  unfold Sp.reck at h
  cases h1 : Sp.ok a0 a1
  · rw [if_pos (.inl h1)] at h
    obtain ⟨⟨rfl, rfl⟩, rfl⟩ : (v1 = 1 ∧ v2 = 0) ∧ v3 = false := by simp at h; exact ⟨⟨h.1.1.symm, h.1.2.symm⟩, h.2⟩
    have H1 := Lib.hid h1
    clear h h1
    go_enter Tryd.func11, Tryd.ntmps11
    go_wp2_with fail
    refine (none_to a0 a1 true (by rw [H1.out]; rfl) _).mono ?_
    rintro e w1 ⟨rfl, hb1⟩
    obtain ⟨ka, kb, kr, B1⟩ := box3 _ _ _ _ hb1
    obtain ⟨qa0, qa1, fa0, fa1⟩ := cells2 ka
    have Ka1 := Lib.hid ka
    obtain ⟨qb0, qb1, fb0, fb1⟩ := cells2 kb
    have Kb1 := Lib.hid kb
    obtain ⟨qr0, qr1, fr0, fr1⟩ := cells2 kr
    have Kr1 := Lib.hid kr
    have HB1 := Lib.hid B1
    clear hb1 B1 ka kb kr
    go_wp2_with fail
    refine (empty_to _).mono ?_
    rintro e w2 ⟨rfl, hb2⟩
    have ka := blk_below Ka1.out hb2
    have kb := blk_below Kb1.out hb2
    have kr := blk_below Kr1.out hb2
    have B2 := seq HB1.out hb2
    clear qa0 qa1 fa0 fa1 Ka1 qb0 qb1 fb0 fb1 Kb1 qr0 qr1 fr0 fr1 Kr1
    obtain ⟨qa0, qa1, fa0, fa1⟩ := cells2 ka
    have Ka2 := Lib.hid ka
    obtain ⟨qb0, qb1, fb0, fb1⟩ := cells2 kb
    have Kb2 := Lib.hid kb
    obtain ⟨qr0, qr1, fr0, fr1⟩ := cells2 kr
    have Kr2 := Lib.hid kr
    have HB2 := Lib.hid B2
    clear hb2 B2 ka kb kr HB1
    go_wp2_with fail
    exact bodyPost_ret (results_ct rfl _ _ (w.heap.size + 2) 24 #[.int .i64 1, .int .i64 0] (0, 0) _ rfl (put2 Kr2.out _ _) Tryd.underlying24 rfl (by kernel_rfl)) rfl ⟨rfl, below2 HB2.out (by omega) _ _⟩
  · cases h2 : Sp.ok b0 b1
    · rw [if_pos (.inr (.inl h2))] at h
      obtain ⟨⟨rfl, rfl⟩, rfl⟩ : (v1 = 1 ∧ v2 = 0) ∧ v3 = false := by simp at h; exact ⟨⟨h.1.1.symm, h.1.2.symm⟩, h.2⟩
      have H1 := Lib.hid h1
      have H2 := Lib.hid h2
      clear h h1 h2
      go_enter Tryd.func11, Tryd.ntmps11
      go_wp2_with fail
      refine (none_to a0 a1 false (by rw [H1.out]; rfl) _).mono ?_
      rintro e w1 ⟨rfl, hb1⟩
      obtain ⟨ka, kb, kr, B1⟩ := box3 _ _ _ _ hb1
      obtain ⟨qa0, qa1, fa0, fa1⟩ := cells2 ka
      have Ka1 := Lib.hid ka
      obtain ⟨qb0, qb1, fb0, fb1⟩ := cells2 kb
      have Kb1 := Lib.hid kb
      obtain ⟨qr0, qr1, fr0, fr1⟩ := cells2 kr
      have Kr1 := Lib.hid kr
      have HB1 := Lib.hid B1
      clear hb1 B1 ka kb kr
      go_wp2_with fail
      refine (none_to b0 b1 true (by rw [H2.out]; rfl) _).mono ?_
      rintro e w2 ⟨rfl, hb2⟩
      have ka := blk_below Ka1.out hb2
      have kb := blk_below Kb1.out hb2
      have kr := blk_below Kr1.out hb2
      have B2 := seq HB1.out hb2
      clear qa0 qa1 fa0 fa1 Ka1 qb0 qb1 fb0 fb1 Kb1 qr0 qr1 fr0 fr1 Kr1
      obtain ⟨qa0, qa1, fa0, fa1⟩ := cells2 ka
      have Ka2 := Lib.hid ka
      obtain ⟨qb0, qb1, fb0, fb1⟩ := cells2 kb
      have Kb2 := Lib.hid kb
      obtain ⟨qr0, qr1, fr0, fr1⟩ := cells2 kr
      have Kr2 := Lib.hid kr
      have HB2 := Lib.hid B2
      clear hb2 B2 ka kb kr HB1
      go_wp2_with fail
      refine (empty_to _).mono ?_
      rintro e w3 ⟨rfl, hb3⟩
      have ka := blk_below Ka2.out hb3
      have kb := blk_below Kb2.out hb3
      have kr := blk_below Kr2.out hb3
      have B3 := seq HB2.out hb3
      clear qa0 qa1 fa0 fa1 Ka2 qb0 qb1 fb0 fb1 Kb2 qr0 qr1 fr0 fr1 Kr2
      obtain ⟨qa0, qa1, fa0, fa1⟩ := cells2 ka
      have Ka3 := Lib.hid ka
      obtain ⟨qb0, qb1, fb0, fb1⟩ := cells2 kb
      have Kb3 := Lib.hid kb
      obtain ⟨qr0, qr1, fr0, fr1⟩ := cells2 kr
      have Kr3 := Lib.hid kr
      have HB3 := Lib.hid B3
      clear hb3 B3 ka kb kr HB2
      go_wp2_with fail
      exact bodyPost_ret (results_ct rfl _ _ (w.heap.size + 2) 24 #[.int .i64 1, .int .i64 0] (0, 0) _ rfl (put2 Kr3.out _ _) Tryd.underlying24 rfl (by kernel_rfl)) rfl ⟨rfl, below2 HB3.out (by omega) _ _⟩
    · by_cases h3 : op < 0
      · rw [if_pos (.inr (.inr (.inl h3)))] at h
        obtain ⟨⟨rfl, rfl⟩, rfl⟩ : (v1 = 1 ∧ v2 = 0) ∧ v3 = false := by simp at h; exact ⟨⟨h.1.1.symm, h.1.2.symm⟩, h.2⟩
        have H1 := Lib.hid h1
        have H2 := Lib.hid h2
        clear h h1 h2
        go_enter Tryd.func11, Tryd.ntmps11
        go_wp2_with fail
        refine (none_to a0 a1 false (by rw [H1.out]; rfl) _).mono ?_
        rintro e w1 ⟨rfl, hb1⟩
        obtain ⟨ka, kb, kr, B1⟩ := box3 _ _ _ _ hb1
        obtain ⟨qa0, qa1, fa0, fa1⟩ := cells2 ka
        have Ka1 := Lib.hid ka
        obtain ⟨qb0, qb1, fb0, fb1⟩ := cells2 kb
        have Kb1 := Lib.hid kb
        obtain ⟨qr0, qr1, fr0, fr1⟩ := cells2 kr
        have Kr1 := Lib.hid kr
        have HB1 := Lib.hid B1
        clear hb1 B1 ka kb kr
        go_wp2_with fail
        refine (none_to b0 b1 false (by rw [H2.out]; rfl) _).mono ?_
        rintro e w2 ⟨rfl, hb2⟩
        have ka := blk_below Ka1.out hb2
        have kb := blk_below Kb1.out hb2
        have kr := blk_below Kr1.out hb2
        have B2 := seq HB1.out hb2
        clear qa0 qa1 fa0 fa1 Ka1 qb0 qb1 fb0 fb1 Kb1 qr0 qr1 fr0 fr1 Kr1
        obtain ⟨qa0, qa1, fa0, fa1⟩ := cells2 ka
        have Ka2 := Lib.hid ka
        obtain ⟨qb0, qb1, fb0, fb1⟩ := cells2 kb
        have Kb2 := Lib.hid kb
        obtain ⟨qr0, qr1, fr0, fr1⟩ := cells2 kr
        have Kr2 := Lib.hid kr
        have HB2 := Lib.hid B2
        clear hb2 B2 ka kb kr HB1
        go_wp2_with fail
        refine (empty_to _).mono ?_
        rintro e w3 ⟨rfl, hb3⟩
        have ka := blk_below Ka2.out hb3
        have kb := blk_below Kb2.out hb3
        have kr := blk_below Kr2.out hb3
        have B3 := seq HB2.out hb3
        clear qa0 qa1 fa0 fa1 Ka2 qb0 qb1 fb0 fb1 Kb2 qr0 qr1 fr0 fr1 Kr2
        obtain ⟨qa0, qa1, fa0, fa1⟩ := cells2 ka
        have Ka3 := Lib.hid ka
        obtain ⟨qb0, qb1, fb0, fb1⟩ := cells2 kb
        have Kb3 := Lib.hid kb
        obtain ⟨qr0, qr1, fr0, fr1⟩ := cells2 kr
        have Kr3 := Lib.hid kr
        have HB3 := Lib.hid B3
        clear hb3 B3 ka kb kr HB2
        go_wp2_with fail
        exact bodyPost_ret (results_ct rfl _ _ (w.heap.size + 2) 24 #[.int .i64 1, .int .i64 0] (0, 0) _ rfl (put2 Kr3.out _ _) Tryd.underlying24 rfl (by kernel_rfl)) rfl ⟨rfl, below2 HB3.out (by omega) _ _⟩
      · have h3' : 0 ≤ op := by omega
        by_cases h4 : 3 < op
        · rw [if_pos (.inr (.inr (.inr h4)))] at h
          obtain ⟨⟨rfl, rfl⟩, rfl⟩ : (v1 = 1 ∧ v2 = 0) ∧ v3 = false := by simp at h; exact ⟨⟨h.1.1.symm, h.1.2.symm⟩, h.2⟩
          have H1 := Lib.hid h1
          have H2 := Lib.hid h2
          clear h h1 h2 h3
          go_enter Tryd.func11, Tryd.ntmps11
          go_wp2_with fail
          refine (none_to a0 a1 false (by rw [H1.out]; rfl) _).mono ?_
          rintro e w1 ⟨rfl, hb1⟩
          obtain ⟨ka, kb, kr, B1⟩ := box3 _ _ _ _ hb1
          obtain ⟨qa0, qa1, fa0, fa1⟩ := cells2 ka
          have Ka1 := Lib.hid ka
          obtain ⟨qb0, qb1, fb0, fb1⟩ := cells2 kb
          have Kb1 := Lib.hid kb
          obtain ⟨qr0, qr1, fr0, fr1⟩ := cells2 kr
          have Kr1 := Lib.hid kr
          have HB1 := Lib.hid B1
          clear hb1 B1 ka kb kr
          go_wp2_with fail
          refine (none_to b0 b1 false (by rw [H2.out]; rfl) _).mono ?_
          rintro e w2 ⟨rfl, hb2⟩
          have ka := blk_below Ka1.out hb2
          have kb := blk_below Kb1.out hb2
          have kr := blk_below Kr1.out hb2
          have B2 := seq HB1.out hb2
          clear qa0 qa1 fa0 fa1 Ka1 qb0 qb1 fb0 fb1 Kb1 qr0 qr1 fr0 fr1 Kr1
          obtain ⟨qa0, qa1, fa0, fa1⟩ := cells2 ka
          have Ka2 := Lib.hid ka
          obtain ⟨qb0, qb1, fb0, fb1⟩ := cells2 kb
          have Kb2 := Lib.hid kb
          obtain ⟨qr0, qr1, fr0, fr1⟩ := cells2 kr
          have Kr2 := Lib.hid kr
          have HB2 := Lib.hid B2
          clear hb2 B2 ka kb kr HB1
          go_wp2_with fail
          refine (empty_to _).mono ?_
          rintro e w3 ⟨rfl, hb3⟩
          have ka := blk_below Ka2.out hb3
          have kb := blk_below Kb2.out hb3
          have kr := blk_below Kr2.out hb3
          have B3 := seq HB2.out hb3
          clear qa0 qa1 fa0 fa1 Ka2 qb0 qb1 fb0 fb1 Kb2 qr0 qr1 fr0 fr1 Kr2
          obtain ⟨qa0, qa1, fa0, fa1⟩ := cells2 ka
          have Ka3 := Lib.hid ka
          obtain ⟨qb0, qb1, fb0, fb1⟩ := cells2 kb
          have Kb3 := Lib.hid kb
          obtain ⟨qr0, qr1, fr0, fr1⟩ := cells2 kr
          have Kr3 := Lib.hid kr
          have HB3 := Lib.hid B3
          clear hb3 B3 ka kb kr HB2
          go_wp2_with fail
          exact bodyPost_ret (results_ct rfl _ _ (w.heap.size + 2) 24 #[.int .i64 1, .int .i64 0] (0, 0) _ rfl (put2 Kr3.out _ _) Tryd.underlying24 rfl (by kernel_rfl)) rfl ⟨rfl, below2 HB3.out (by omega) _ _⟩
        · have h4' : op ≤ 3 := by omega
          rw [if_neg (by rw [h1, h2]; simp; omega)] at h
          obtain ⟨l, hl⟩ : ∃ l, Sp.res op a0 a1 b0 b1 = l := ⟨_, rfl⟩
          rw [hl] at h
          obtain ⟨bey, hbey⟩ : ∃ b, l.any (fun n => !Bd.inn n) = b := ⟨_, rfl⟩
          rw [hbey] at h
          obtain ⟨hz, hhz⟩ : ∃ b, Sp.has b0 b1 0 = b := ⟨_, rfl⟩
          rw [hhz] at h
          injection h with hA hB
          have HA := Lib.hid hA
          have HBY := Lib.hid hbey
          have HZ := Lib.hid hhz
          have HL := Lib.hid hl
          have H1 := Lib.hid h1
          have H2 := Lib.hid h2
          have HV := Lib.hid hB
          clear h1 h2 h3 h4 hA hbey hhz hl hB
          cases bey <;> by_cases o3 : op = 3
          · have o3' : (op == 3) = true := by rw [beq_iff_eq]; exact o3
            obtain rfl : v3 = hz := by have := HV.out; rw [o3'] at this; simpa using this.symm
            have HRES := Lib.hid (fun w => results_to op a0 a1 b0 b1 h3' h4' H1.out H2.out w)
            clear HV o3
            go_enter Tryd.func11, Tryd.ntmps11
            go_wp2_with fail
            refine (none_to a0 a1 false (by rw [H1.out]; rfl) _).mono ?_
            rintro e w1 ⟨rfl, hb1⟩
            obtain ⟨ka, kb, kr, B1⟩ := box3 _ _ _ _ hb1
            obtain ⟨qa0, qa1, fa0, fa1⟩ := cells2 ka
            have Ka1 := Lib.hid ka
            obtain ⟨qb0, qb1, fb0, fb1⟩ := cells2 kb
            have Kb1 := Lib.hid kb
            obtain ⟨qr0, qr1, fr0, fr1⟩ := cells2 kr
            have Kr1 := Lib.hid kr
            have HB1 := Lib.hid B1
            clear hb1 B1 ka kb kr
            go_wp2_with fail
            refine (none_to b0 b1 false (by rw [H2.out]; rfl) _).mono ?_
            rintro e w2 ⟨rfl, hb2⟩
            have ka := blk_below Ka1.out hb2
            have kb := blk_below Kb1.out hb2
            have kr := blk_below Kr1.out hb2
            have B2 := seq HB1.out hb2
            clear qa0 qa1 fa0 fa1 Ka1 qb0 qb1 fb0 fb1 Kb1 qr0 qr1 fr0 fr1 Kr1
            obtain ⟨qa0, qa1, fa0, fa1⟩ := cells2 ka
            have Ka2 := Lib.hid ka
            obtain ⟨qb0, qb1, fb0, fb1⟩ := cells2 kb
            have Kb2 := Lib.hid kb
            obtain ⟨qr0, qr1, fr0, fr1⟩ := cells2 kr
            have Kr2 := Lib.hid kr
            have HB2 := Lib.hid B2
            clear hb2 B2 ka kb kr HB1
            go_wp2_with fail
            refine (HRES.out _).mono ?_
            rw [HL.out]
            rintro e w3 ⟨v, rfl, hI, hb3⟩
            have HI3 := Lib.hid hI
            clear hI
            have ka := blk_below Ka2.out hb3
            have kb := blk_below Kb2.out hb3
            have kr := blk_below Kr2.out hb3
            have B3 := seq HB2.out hb3
            clear qa0 qa1 fa0 fa1 Ka2 qb0 qb1 fb0 fb1 Kb2 qr0 qr1 fr0 fr1 Kr2
            obtain ⟨qa0, qa1, fa0, fa1⟩ := cells2 ka
            have Ka3 := Lib.hid ka
            obtain ⟨qb0, qb1, fb0, fb1⟩ := cells2 kb
            have Kb3 := Lib.hid kb
            obtain ⟨qr0, qr1, fr0, fr1⟩ := cells2 kr
            have Kr3 := Lib.hid kr
            have HB3 := Lib.hid B3
            clear hb3 B3 ka kb kr HB2
            go_wp2_with fail
            refine (contains_to l v HI3.out false HBY.out).mono ?_
            rintro e w4 ⟨rfl, hb4⟩
            have HI4 := Lib.hid (HI3.out.below hb4)
            have ka := blk_below Ka3.out hb4
            have kb := blk_below Kb3.out hb4
            have kr := blk_below Kr3.out hb4
            have B4 := seq HB3.out hb4
            clear qa0 qa1 fa0 fa1 Ka3 qb0 qb1 fb0 fb1 Kb3 qr0 qr1 fr0 fr1 Kr3
            obtain ⟨qa0, qa1, fa0, fa1⟩ := cells2 ka
            have Ka4 := Lib.hid ka
            obtain ⟨qb0, qb1, fb0, fb1⟩ := cells2 kb
            have Kb4 := Lib.hid kb
            obtain ⟨qr0, qr1, fr0, fr1⟩ := cells2 kr
            have Kr4 := Lib.hid kr
            have HB4 := Lib.hid B4
            clear hb4 B4 ka kb kr HB3
            go_wp2_with fail
            refine (hull_to l v v1 v2 HI4.out HA.out).mono ?_
            rintro e w5 ⟨rfl, hb5⟩
            have ka := blk_below Ka4.out hb5
            have kb := blk_below Kb4.out hb5
            have kr := blk_below Kr4.out hb5
            have B5 := seq HB4.out hb5
            clear qa0 qa1 fa0 fa1 Ka4 qb0 qb1 fb0 fb1 Kb4 qr0 qr1 fr0 fr1 Kr4
            obtain ⟨qa0, qa1, fa0, fa1⟩ := cells2 ka
            have Ka5 := Lib.hid ka
            obtain ⟨qb0, qb1, fb0, fb1⟩ := cells2 kb
            have Kb5 := Lib.hid kb
            obtain ⟨qr0, qr1, fr0, fr1⟩ := cells2 kr
            have Kr5 := Lib.hid kr
            have HB5 := Lib.hid B5
            clear hb5 B5 ka kb kr HB4
            go_wp2_with fail
            refine (has_to b0 b1 0 _ HZ.out _).mono ?_
            rintro e w6 ⟨rfl, hb6⟩
            have ka := blk_below Ka5.out hb6
            have kb := blk_below Kb5.out hb6
            have kr := blk_below Kr5.out hb6
            have B6 := seq HB5.out hb6
            clear qa0 qa1 fa0 fa1 Ka5 qb0 qb1 fb0 fb1 Kb5 qr0 qr1 fr0 fr1 Kr5
            obtain ⟨qa0, qa1, fa0, fa1⟩ := cells2 ka
            have Ka6 := Lib.hid ka
            obtain ⟨qb0, qb1, fb0, fb1⟩ := cells2 kb
            have Kb6 := Lib.hid kb
            obtain ⟨qr0, qr1, fr0, fr1⟩ := cells2 kr
            have Kr6 := Lib.hid kr
            have HB6 := Lib.hid B6
            clear hb6 B6 ka kb kr HB5
            go_wp2_with fail
            exact bodyPost_ret (results_ct rfl _ _ (w.heap.size + 2) 24 #[.int .i64 v1, .int .i64 v2] (0, 0) _ rfl (put2 Kr6.out _ _) Tryd.underlying24 rfl (by kernel_rfl)) rfl ⟨rfl, below2 HB6.out (by omega) _ _⟩
          · have o3' : (op == 3) = false := by rw [beq_eq_false_iff_ne]; exact o3
            obtain rfl : v3 = false := by have := HV.out; rw [o3'] at this; simpa using this.symm
            have HRES := Lib.hid (fun w => results_to op a0 a1 b0 b1 h3' h4' H1.out H2.out w)
            clear HV o3
            go_enter Tryd.func11, Tryd.ntmps11
            go_wp2_with fail
            refine (none_to a0 a1 false (by rw [H1.out]; rfl) _).mono ?_
            rintro e w1 ⟨rfl, hb1⟩
            obtain ⟨ka, kb, kr, B1⟩ := box3 _ _ _ _ hb1
            obtain ⟨qa0, qa1, fa0, fa1⟩ := cells2 ka
            have Ka1 := Lib.hid ka
            obtain ⟨qb0, qb1, fb0, fb1⟩ := cells2 kb
            have Kb1 := Lib.hid kb
            obtain ⟨qr0, qr1, fr0, fr1⟩ := cells2 kr
            have Kr1 := Lib.hid kr
            have HB1 := Lib.hid B1
            clear hb1 B1 ka kb kr
            go_wp2_with fail
            refine (none_to b0 b1 false (by rw [H2.out]; rfl) _).mono ?_
            rintro e w2 ⟨rfl, hb2⟩
            have ka := blk_below Ka1.out hb2
            have kb := blk_below Kb1.out hb2
            have kr := blk_below Kr1.out hb2
            have B2 := seq HB1.out hb2
            clear qa0 qa1 fa0 fa1 Ka1 qb0 qb1 fb0 fb1 Kb1 qr0 qr1 fr0 fr1 Kr1
            obtain ⟨qa0, qa1, fa0, fa1⟩ := cells2 ka
            have Ka2 := Lib.hid ka
            obtain ⟨qb0, qb1, fb0, fb1⟩ := cells2 kb
            have Kb2 := Lib.hid kb
            obtain ⟨qr0, qr1, fr0, fr1⟩ := cells2 kr
            have Kr2 := Lib.hid kr
            have HB2 := Lib.hid B2
            clear hb2 B2 ka kb kr HB1
            go_wp2_with fail
            refine (HRES.out _).mono ?_
            rw [HL.out]
            rintro e w3 ⟨v, rfl, hI, hb3⟩
            have HI3 := Lib.hid hI
            clear hI
            have ka := blk_below Ka2.out hb3
            have kb := blk_below Kb2.out hb3
            have kr := blk_below Kr2.out hb3
            have B3 := seq HB2.out hb3
            clear qa0 qa1 fa0 fa1 Ka2 qb0 qb1 fb0 fb1 Kb2 qr0 qr1 fr0 fr1 Kr2
            obtain ⟨qa0, qa1, fa0, fa1⟩ := cells2 ka
            have Ka3 := Lib.hid ka
            obtain ⟨qb0, qb1, fb0, fb1⟩ := cells2 kb
            have Kb3 := Lib.hid kb
            obtain ⟨qr0, qr1, fr0, fr1⟩ := cells2 kr
            have Kr3 := Lib.hid kr
            have HB3 := Lib.hid B3
            clear hb3 B3 ka kb kr HB2
            go_wp2_with fail
            refine (contains_to l v HI3.out false HBY.out).mono ?_
            rintro e w4 ⟨rfl, hb4⟩
            have HI4 := Lib.hid (HI3.out.below hb4)
            have ka := blk_below Ka3.out hb4
            have kb := blk_below Kb3.out hb4
            have kr := blk_below Kr3.out hb4
            have B4 := seq HB3.out hb4
            clear qa0 qa1 fa0 fa1 Ka3 qb0 qb1 fb0 fb1 Kb3 qr0 qr1 fr0 fr1 Kr3
            obtain ⟨qa0, qa1, fa0, fa1⟩ := cells2 ka
            have Ka4 := Lib.hid ka
            obtain ⟨qb0, qb1, fb0, fb1⟩ := cells2 kb
            have Kb4 := Lib.hid kb
            obtain ⟨qr0, qr1, fr0, fr1⟩ := cells2 kr
            have Kr4 := Lib.hid kr
            have HB4 := Lib.hid B4
            clear hb4 B4 ka kb kr HB3
            go_wp2_with fail
            refine (hull_to l v v1 v2 HI4.out HA.out).mono ?_
            rintro e w5 ⟨rfl, hb5⟩
            have ka := blk_below Ka4.out hb5
            have kb := blk_below Kb4.out hb5
            have kr := blk_below Kr4.out hb5
            have B5 := seq HB4.out hb5
            clear qa0 qa1 fa0 fa1 Ka4 qb0 qb1 fb0 fb1 Kb4 qr0 qr1 fr0 fr1 Kr4
            obtain ⟨qa0, qa1, fa0, fa1⟩ := cells2 ka
            have Ka5 := Lib.hid ka
            obtain ⟨qb0, qb1, fb0, fb1⟩ := cells2 kb
            have Kb5 := Lib.hid kb
            obtain ⟨qr0, qr1, fr0, fr1⟩ := cells2 kr
            have Kr5 := Lib.hid kr
            have HB5 := Lib.hid B5
            clear hb5 B5 ka kb kr HB4
            go_wp2_with fail
            exact bodyPost_ret (results_ct rfl _ _ (w.heap.size + 2) 24 #[.int .i64 v1, .int .i64 v2] (0, 0) _ rfl (put2 Kr5.out _ _) Tryd.underlying24 rfl (by kernel_rfl)) rfl ⟨rfl, below2 HB5.out (by omega) _ _⟩
          · have o3' : (op == 3) = true := by rw [beq_iff_eq]; exact o3
            obtain rfl : v3 = true := by have := HV.out; rw [o3'] at this; simpa using this.symm
            have HRES := Lib.hid (fun w => results_to op a0 a1 b0 b1 h3' h4' H1.out H2.out w)
            clear HV o3
            go_enter Tryd.func11, Tryd.ntmps11
            go_wp2_with fail
            refine (none_to a0 a1 false (by rw [H1.out]; rfl) _).mono ?_
            rintro e w1 ⟨rfl, hb1⟩
            obtain ⟨ka, kb, kr, B1⟩ := box3 _ _ _ _ hb1
            obtain ⟨qa0, qa1, fa0, fa1⟩ := cells2 ka
            have Ka1 := Lib.hid ka
            obtain ⟨qb0, qb1, fb0, fb1⟩ := cells2 kb
            have Kb1 := Lib.hid kb
            obtain ⟨qr0, qr1, fr0, fr1⟩ := cells2 kr
            have Kr1 := Lib.hid kr
            have HB1 := Lib.hid B1
            clear hb1 B1 ka kb kr
            go_wp2_with fail
            refine (none_to b0 b1 false (by rw [H2.out]; rfl) _).mono ?_
            rintro e w2 ⟨rfl, hb2⟩
            have ka := blk_below Ka1.out hb2
            have kb := blk_below Kb1.out hb2
            have kr := blk_below Kr1.out hb2
            have B2 := seq HB1.out hb2
            clear qa0 qa1 fa0 fa1 Ka1 qb0 qb1 fb0 fb1 Kb1 qr0 qr1 fr0 fr1 Kr1
            obtain ⟨qa0, qa1, fa0, fa1⟩ := cells2 ka
            have Ka2 := Lib.hid ka
            obtain ⟨qb0, qb1, fb0, fb1⟩ := cells2 kb
            have Kb2 := Lib.hid kb
            obtain ⟨qr0, qr1, fr0, fr1⟩ := cells2 kr
            have Kr2 := Lib.hid kr
            have HB2 := Lib.hid B2
            clear hb2 B2 ka kb kr HB1
            go_wp2_with fail
            refine (HRES.out _).mono ?_
            rw [HL.out]
            rintro e w3 ⟨v, rfl, hI, hb3⟩
            have HI3 := Lib.hid hI
            clear hI
            have ka := blk_below Ka2.out hb3
            have kb := blk_below Kb2.out hb3
            have kr := blk_below Kr2.out hb3
            have B3 := seq HB2.out hb3
            clear qa0 qa1 fa0 fa1 Ka2 qb0 qb1 fb0 fb1 Kb2 qr0 qr1 fr0 fr1 Kr2
            obtain ⟨qa0, qa1, fa0, fa1⟩ := cells2 ka
            have Ka3 := Lib.hid ka
            obtain ⟨qb0, qb1, fb0, fb1⟩ := cells2 kb
            have Kb3 := Lib.hid kb
            obtain ⟨qr0, qr1, fr0, fr1⟩ := cells2 kr
            have Kr3 := Lib.hid kr
            have HB3 := Lib.hid B3
            clear hb3 B3 ka kb kr HB2
            go_wp2_with fail
            refine (contains_to l v HI3.out true HBY.out).mono ?_
            rintro e w4 ⟨rfl, hb4⟩
            have HI4 := Lib.hid (HI3.out.below hb4)
            have ka := blk_below Ka3.out hb4
            have kb := blk_below Kb3.out hb4
            have kr := blk_below Kr3.out hb4
            have B4 := seq HB3.out hb4
            clear qa0 qa1 fa0 fa1 Ka3 qb0 qb1 fb0 fb1 Kb3 qr0 qr1 fr0 fr1 Kr3
            obtain ⟨qa0, qa1, fa0, fa1⟩ := cells2 ka
            have Ka4 := Lib.hid ka
            obtain ⟨qb0, qb1, fb0, fb1⟩ := cells2 kb
            have Kb4 := Lib.hid kb
            obtain ⟨qr0, qr1, fr0, fr1⟩ := cells2 kr
            have Kr4 := Lib.hid kr
            have HB4 := Lib.hid B4
            clear hb4 B4 ka kb kr HB3
            go_wp2_with fail
            refine (hull_to l v v1 v2 HI4.out HA.out).mono ?_
            rintro e w5 ⟨rfl, hb5⟩
            have ka := blk_below Ka4.out hb5
            have kb := blk_below Kb4.out hb5
            have kr := blk_below Kr4.out hb5
            have B5 := seq HB4.out hb5
            clear qa0 qa1 fa0 fa1 Ka4 qb0 qb1 fb0 fb1 Kb4 qr0 qr1 fr0 fr1 Kr4
            obtain ⟨qa0, qa1, fa0, fa1⟩ := cells2 ka
            have Ka5 := Lib.hid ka
            obtain ⟨qb0, qb1, fb0, fb1⟩ := cells2 kb
            have Kb5 := Lib.hid kb
            obtain ⟨qr0, qr1, fr0, fr1⟩ := cells2 kr
            have Kr5 := Lib.hid kr
            have HB5 := Lib.hid B5
            clear hb5 B5 ka kb kr HB4
            go_wp2_with fail
            exact bodyPost_ret (results_ct rfl _ _ (w.heap.size + 2) 24 #[.int .i64 v1, .int .i64 v2] (0, 0) _ rfl (put2 Kr5.out _ _) Tryd.underlying24 rfl (by kernel_rfl)) rfl ⟨rfl, below2 HB5.out (by omega) _ _⟩
          · have o3' : (op == 3) = false := by rw [beq_eq_false_iff_ne]; exact o3
            obtain rfl : v3 = true := by have := HV.out; rw [o3'] at this; simpa using this.symm
            have HRES := Lib.hid (fun w => results_to op a0 a1 b0 b1 h3' h4' H1.out H2.out w)
            clear HV o3
            go_enter Tryd.func11, Tryd.ntmps11
            go_wp2_with fail
            refine (none_to a0 a1 false (by rw [H1.out]; rfl) _).mono ?_
            rintro e w1 ⟨rfl, hb1⟩
            obtain ⟨ka, kb, kr, B1⟩ := box3 _ _ _ _ hb1
            obtain ⟨qa0, qa1, fa0, fa1⟩ := cells2 ka
            have Ka1 := Lib.hid ka
            obtain ⟨qb0, qb1, fb0, fb1⟩ := cells2 kb
            have Kb1 := Lib.hid kb
            obtain ⟨qr0, qr1, fr0, fr1⟩ := cells2 kr
            have Kr1 := Lib.hid kr
            have HB1 := Lib.hid B1
            clear hb1 B1 ka kb kr
            go_wp2_with fail
            refine (none_to b0 b1 false (by rw [H2.out]; rfl) _).mono ?_
            rintro e w2 ⟨rfl, hb2⟩
            have ka := blk_below Ka1.out hb2
            have kb := blk_below Kb1.out hb2
            have kr := blk_below Kr1.out hb2
            have B2 := seq HB1.out hb2
            clear qa0 qa1 fa0 fa1 Ka1 qb0 qb1 fb0 fb1 Kb1 qr0 qr1 fr0 fr1 Kr1
            obtain ⟨qa0, qa1, fa0, fa1⟩ := cells2 ka
            have Ka2 := Lib.hid ka
            obtain ⟨qb0, qb1, fb0, fb1⟩ := cells2 kb
            have Kb2 := Lib.hid kb
            obtain ⟨qr0, qr1, fr0, fr1⟩ := cells2 kr
            have Kr2 := Lib.hid kr
            have HB2 := Lib.hid B2
            clear hb2 B2 ka kb kr HB1
            go_wp2_with fail
            refine (HRES.out _).mono ?_
            rw [HL.out]
            rintro e w3 ⟨v, rfl, hI, hb3⟩
            have HI3 := Lib.hid hI
            clear hI
            have ka := blk_below Ka2.out hb3
            have kb := blk_below Kb2.out hb3
            have kr := blk_below Kr2.out hb3
            have B3 := seq HB2.out hb3
            clear qa0 qa1 fa0 fa1 Ka2 qb0 qb1 fb0 fb1 Kb2 qr0 qr1 fr0 fr1 Kr2
            obtain ⟨qa0, qa1, fa0, fa1⟩ := cells2 ka
            have Ka3 := Lib.hid ka
            obtain ⟨qb0, qb1, fb0, fb1⟩ := cells2 kb
            have Kb3 := Lib.hid kb
            obtain ⟨qr0, qr1, fr0, fr1⟩ := cells2 kr
            have Kr3 := Lib.hid kr
            have HB3 := Lib.hid B3
            clear hb3 B3 ka kb kr HB2
            go_wp2_with fail
            refine (contains_to l v HI3.out true HBY.out).mono ?_
            rintro e w4 ⟨rfl, hb4⟩
            have HI4 := Lib.hid (HI3.out.below hb4)
            have ka := blk_below Ka3.out hb4
            have kb := blk_below Kb3.out hb4
            have kr := blk_below Kr3.out hb4
            have B4 := seq HB3.out hb4
            clear qa0 qa1 fa0 fa1 Ka3 qb0 qb1 fb0 fb1 Kb3 qr0 qr1 fr0 fr1 Kr3
            obtain ⟨qa0, qa1, fa0, fa1⟩ := cells2 ka
            have Ka4 := Lib.hid ka
            obtain ⟨qb0, qb1, fb0, fb1⟩ := cells2 kb
            have Kb4 := Lib.hid kb
            obtain ⟨qr0, qr1, fr0, fr1⟩ := cells2 kr
            have Kr4 := Lib.hid kr
            have HB4 := Lib.hid B4
            clear hb4 B4 ka kb kr HB3
            go_wp2_with fail
            refine (hull_to l v v1 v2 HI4.out HA.out).mono ?_
            rintro e w5 ⟨rfl, hb5⟩
            have ka := blk_below Ka4.out hb5
            have kb := blk_below Kb4.out hb5
            have kr := blk_below Kr4.out hb5
            have B5 := seq HB4.out hb5
            clear qa0 qa1 fa0 fa1 Ka4 qb0 qb1 fb0 fb1 Kb4 qr0 qr1 fr0 fr1 Kr4
            obtain ⟨qa0, qa1, fa0, fa1⟩ := cells2 ka
            have Ka5 := Lib.hid ka
            obtain ⟨qb0, qb1, fb0, fb1⟩ := cells2 kb
            have Kb5 := Lib.hid kb
            obtain ⟨qr0, qr1, fr0, fr1⟩ := cells2 kr
            have Kr5 := Lib.hid kr
            have HB5 := Lib.hid B5
            clear hb5 B5 ka kb kr HB4
            go_wp2_with fail
            exact bodyPost_ret (results_ct rfl _ _ (w.heap.size + 2) 24 #[.int .i64 v1, .int .i64 v2] (0, 0) _ rfl (put2 Kr5.out _ _) Tryd.underlying24 rfl (by kernel_rfl)) rfl ⟨rfl, below2 HB5.out (by omega) _ _⟩

theorem widen_go (a0 a1 b0 b1 : Int) (l : List Int) (hlen : l.length ≤ 1000000) : ∀ (d i : Nat) (k : Nat) (lo hi : Int), l.length - i = d → i ≤ l.length → 2 * d < k →
    span_Widen.l0 k lo hi l (l.length : Int) i a0 a1 b0 b1 = some (if a0 ≤ b0 then a0 else Sp.lowS b0 (l.drop i) lo, if b1 ≤ a1 then a1 else Sp.highS b1 (l.drop i) hi) := by
  intro d
  induction d with
  | zero =>
    intro i k lo hi hd hi2 hk
    obtain ⟨k, rfl⟩ : ∃ m, k = m + 1 := ⟨k - 1, by omega⟩
    have : l.drop i = [] := by rw [List.drop_eq_nil_iff]; omega
    rw [this]
    simp only [span_Widen.l0]
    rw [if_neg (by omega)]
    show _ = some (if a0 ≤ b0 then a0 else lo, if b1 ≤ a1 then a1 else hi)
    by_cases c0 : a0 ≤ b0 <;> by_cases c1 : b1 ≤ a1 <;> simp [c0, c1]
  | succ d ih =>
    intro i k lo hi hd hi2 hk
    obtain ⟨k, rfl⟩ : ∃ m, k = m + 2 := ⟨k - 2, by omega⟩
    have hlt : i < l.length := by omega
    have hr : rd l (i : Int) = l[i] := by unfold rd; simp [List.getD, hlt]
    have hnext := fun lo hi => ih (i + 1) k lo hi (by omega) (by omega) (by omega)
    have hw : wrap64 ((i : Int) + 1) = ((i + 1 : Nat) : Int) := by rw [w64 (by omega)]; omega
    have hlo : Sp.lowS b0 (l.drop i) lo = Sp.lowS b0 (l.drop (i + 1)) (if Bd.inn l[i] = true ∧ l[i] ≤ b0 then max lo l[i] else lo) := by rw [List.drop_eq_getElem_cons hlt]; rfl
    have hhi : Sp.highS b1 (l.drop i) hi = Sp.highS b1 (l.drop (i + 1)) (if Bd.inn l[i] = true ∧ b1 ≤ l[i] then min hi l[i] else hi) := by rw [List.drop_eq_getElem_cons hlt]; rfl
    rw [hlo, hhi]
    rw [show k + 2 = (k + 1) + 1 from rfl]
    simp only [span_Widen.l0]
    rw [if_pos (by omega), if_pos (by omega), if_pos (by omega), hr, In_f]
    simp only [Option.bind_some]
    cases hin : Bd.inn l[i]
    · simp only [Bool.false_eq_true, if_false, false_and]
      simp only [span_Widen.j1]
      rw [In_f, hin]
      simp only [Option.bind_some, Bool.false_eq_true, if_false]
      rw [hw, hnext]
    · simp only [if_true, true_and]
      simp only [span_Widen.j1]
      rw [In_f, hin]
      simp only [Option.bind_some, if_true, decide_eq_true_eq, mx_eq, mn_eq]
      by_cases c0 : l[i] ≤ b0 <;> by_cases c1 : b1 ≤ l[i]
      · rw [if_pos c0, if_pos (show l[i] ≥ b1 from c1), if_pos c0, if_pos c1, hw, hnext]
      · rw [if_pos c0, if_neg (show ¬ l[i] ≥ b1 from c1), if_pos c0, if_neg c1, hw, hnext]
      · rw [if_neg c0, if_pos (show l[i] ≥ b1 from c1), if_neg c0, if_pos c1, hw, hnext]
      · rw [if_neg c0, if_neg (show ¬ l[i] ≥ b1 from c1), if_neg c0, if_neg c1, hw, hnext]
theorem Widen_f (a0 a1 b0 b1 : Int) (l : List Int) (hlen : l.length ≤ 1000000) : span_Widen.f (2 * l.length + 1) a0 a1 b0 b1 l = some (Sp.widen a0 a1 b0 b1 l) := by
  unfold span_Widen.f Sp.widen
  rw [Leq_f]
  simp only [Option.bind_some]
  cases h1 : Sp.leq b0 b1 a0 a1
  · simp only [Bool.false_eq_true, if_false]
    rw [none_f]
    simp only [Option.bind_some]
    cases h2 : Sp.ok a0 a1
    · simp
    · simp only [Bool.not_true, Bool.false_eq_true, if_false]
      have := widen_go a0 a1 b0 b1 l hlen l.length 0 (2 * l.length + 1) (-1152921504606846976) 1152921504606846976 (by omega) (by omega) (by omega)
      rw [List.drop_zero] at this
      rw [if_neg (by simp)]
      exact this
  · simp only [if_true]
    rw [clean_f]; rfl
theorem widen_to (a0 a1 b0 b1 : Int) (l : List Int) (v : Value) (v1 v2 : Int) (hl : IntsAt w v l) (hlen : l.length ≤ 1000000) (h : Sp.widen a0 a1 b0 b1 l = (v1, v2)) :
    Calls Tryd.prog 15 #[.agg #[.int .i64 a0, .int .i64 a1], .agg #[.int .i64 b0, .int .i64 b1], v] w fun e w' => e = .returned (.agg #[.int .i64 v1, .int .i64 v2]) ∧ Below w.heap.size w w' := by
  obtain ⟨A, c, rfl, h0, hC⟩ := hl.row
  exact (span_Widen.calls (2 * l.length + 1) a0 a1 b0 b1 A c l v1 v2 w hC h0 (by rw [Widen_f _ _ _ _ _ hlen, h])).mono fun e w' h => ⟨h.1, by first | exact h.2 | exact h.2.below⟩

set_option maxHeartbeats 400000 in
theorem btext_to (b : Int) (hb : -1152921504606846976 ≤ b ∧ b ≤ 1152921504606846976) (hT : Tabs w) :
    Calls Tryd.prog 50 #[.int .i64 b] w fun e w' => e = .returned (.string ⟨(Lib.itoa b).toArray⟩) ∧ Below w.heap.size w w' := by
  have HT := Lib.hid hT
  obtain ⟨hb1, hb2⟩ := hb
  have hn : Bd.near b = b := by unfold Bd.near; rw [if_neg (by omega), if_neg (by omega)]
  have HN := Lib.hid hn
  have h0' : (b == 4611686018427387904) = false := by rw [beq_eq_false_iff_ne]; omega
  clear hT hn
  go_enter Tryd.func50, Tryd.ntmps50
  go_wp2_with fail
  refine ((bound_Near.calls b b _ (by rw [Near_f, HN.out])).mono fun e w' h => (⟨h.1, by first | exact h.2 | exact h.2.below⟩ : e = .returned (.int .i64 b) ∧ Below _ _ w')).mono ?_
  rintro e w1 ⟨rfl, hb1⟩
  have HB1 := Lib.hid hb1
  clear hb1
  go_wp2_with fail
  refine (Any.strconv_Itoa Tryd.laysM171 b (by omega) (by omega) _ (HT.out.below HB1.out).pow).mono ?_
  rintro e w2 ⟨rfl, k, os, rfl⟩
  have HB2 := Lib.hid (seq HB1.out (below_grow w1 k os))
  go_wp2_with fail
  go_ret
  exact ⟨rfl, HB2.out⟩

theorem btext_s (b : Int) (s : ByteArray) (hs : s = ⟨(Lib.itoa b).toArray⟩) (hb : -1152921504606846976 ≤ b ∧ b ≤ 1152921504606846976) (hT : Tabs w) :
    Calls Tryd.prog 50 #[.int .i64 b] w fun e w' => e = .returned (.string s) ∧ Below w.heap.size w w' := by rw [hs]; exact btext_to b hb hT
theorem ret_str {a b : ByteArray} (h : a.data.toList = b.data.toList) : Ending.returned (.string a) = .returned (.string b) := by
  have : a = b := by cases a; cases b; simp_all
  rw [this]
set_option maxRecDepth 100000 in
set_option maxHeartbeats 1000000 in
theorem text_to (a0 a1 : Int) (s : List UInt8) (h : Sp.text a0 a1 = s) (hT : Tabs w) :
    Calls Tryd.prog 32 #[.agg #[.int .i64 a0, .int .i64 a1]] w fun e w' => e = .returned (.string ⟨s.toArray⟩) ∧ Below w.heap.size w w' := by
  have HT := Lib.hid hT
  clear hT
  unfold Sp.text at h
  cases h1 : Sp.ok a0 a1
  · rw [h1] at h
    obtain rfl : s = [110, 111, 110, 101] := by simpa using h.symm
    have H1 := Lib.hid h1
    clear h h1
    go_enter Tryd.func32, Tryd.ntmps32
    go_wp2_with fail
    refine (none_to a0 a1 true (by rw [H1.out]; rfl) _).mono ?_
    rintro e w1 ⟨rfl, hb1⟩
    have HB1 := Lib.hid (Below.seq_to hb1 (Below.push (Below.refl _ _) (Nat.le_refl _) _))
    clear hb1
    go_wp2_with fail
    go_ret
    exact ⟨rfl, HB1.out⟩
  · rw [h1, if_pos rfl] at h
    obtain ⟨p1, p2, p3⟩ := Sp.ok_iff.1 h1
    have p4 : a0 ≤ 1152921504606846976 := by omega
    have p5 : -1152921504606846976 ≤ a1 := by omega
    have H := Lib.hid h
    have H1 := Lib.hid h1
    have hsz : (Lib.itoa a0).length ≤ 100 ∧ (Lib.itoa a1).length ≤ 100 := ⟨Sp.itoa_len _ (by omega), Sp.itoa_len _ (by omega)⟩
    obtain ⟨s0, hs0⟩ : ∃ s0 : ByteArray, s0 = ⟨(Lib.itoa a0).toArray⟩ := ⟨_, rfl⟩
    obtain ⟨s1, hs1⟩ : ∃ s1 : ByteArray, s1 = ⟨(Lib.itoa a1).toArray⟩ := ⟨_, rfl⟩
    have z0 : s0.size ≤ 100 := by rw [hs0]; simpa [ByteArray.size] using hsz.1
    have z1 : s1.size ≤ 100 := by rw [hs1]; simpa [ByteArray.size] using hsz.2
    have HS0 := Lib.hid hs0
    have HS1 := Lib.hid hs1
    clear h h1 hsz hs0 hs1 p2
    go_enter Tryd.func32, Tryd.ntmps32
    go_wp2_with fail
    refine (none_to a0 a1 false (by rw [H1.out]; rfl) _).mono ?_
    rintro e w1 ⟨rfl, hb1⟩
    obtain ⟨ka, B1⟩ := box1 _ _ hb1
    obtain ⟨x0, x1, -, -⟩ := cells2 ka
    have HB1 := Lib.hid B1
    clear hb1 ka B1
    go_wp2_with fail
    have y0 : ¬ 9223372036854775807 < s0.size + 2 := by omega
    have y1 : ¬ 9223372036854775807 < s0.size + 2 + s1.size := by omega
    have cur : Below w.heap.size w w1.drew := HB1.out.drew
    replace x0 := cell_drew x0
    replace x1 := cell_drew x1
    go_region_held3 (fun wx => wx.cell? ⟨w.heap.size, 0, none⟩ = some (.int .i64 a0) ∧ wx.cell? ⟨w.heap.size, 1, none⟩ = some (.int .i64 a1))
      (first | exact ⟨x0, x1⟩)
      (first | (go_at_call 50; (with_reducible refine (btext_s a0 s0 HS0.out (by omega) (HT.out.below cur)).mono ?_); rintro e wq ⟨rfl, hbq⟩; replace cur := seq cur hbq; replace x0 := cell_below hbq x0; replace x1 := cell_below hbq x1) | (go_at_call 50; (with_reducible refine (btext_s a1 s1 HS1.out (by omega) (HT.out.below cur)).mono ?_); rintro e wq ⟨rfl, hbq⟩; replace cur := seq cur hbq; replace x0 := cell_below hbq x0; replace x1 := cell_below hbq x1))
    all_goals (have HCUR := Lib.hid cur; clear cur x0 x1 y0 y1; go_wp2_with fail; go_ret; exact ⟨ret_str (by rw [HS0.out, HS1.out, ← H.out]; simp), HCUR.out⟩)
end Go.Proofs.YtjddafaaplhnfaaDoor.PSpanWidens

set_option linter.unusedVariables false
set_option linter.unusedSimpArgs false
namespace Go.Proofs.YtjddafaaplhnfaaDoor.PSpanWidens
open Go Go.RowKit Go.Deep Go.Proofs.YtjddafaaplhnfaaDoorW.PrintWords Go.Proofs.YtjddafaaplhnfaaDoorW.PrintLast Go.Proofs.YtjddafaaplhnfaaDoorW.PrintMore
attribute [local go_sem high] eq_sp
variable {w : World}

set_option maxRecDepth 100000 in
set_option maxHeartbeats 8000000 in
theorem alive02 (hT : Tabs w) : Calls Tryd.prog 13 #[] w fun e w' => e = .returned (.bool true) ∧ Below w.heap.size w w' := by
  have HT := Lib.hid hT
  clear hT
  have s1 : spEq (-7) 7 (-7) 7 = true := by decide +kernel
  have s2 : spEq 0 8 0 8 = true := by decide +kernel
  have s3 : spEq 1 3 1 3 = true := by decide +kernel
  go_enter Tryd.func13, Tryd.ntmps13
  go_wp2_with fail
  refine (calc_to 3 1 7 (-2) 2 (-7) 7 true (by decide +kernel) _).mono ?_
  rintro e w1 ⟨rfl, hb1⟩
  have HB1 := Lib.hid hb1
  clear hb1
  go_wp2_with fail
  obtain ⟨x0, x1, -, -⟩ := cells2 (blk_new w1 (.cells #[.int .i64 (-7), .int .i64 7] 24))
  have cur : Below w.heap.size w (w1.alloc (.cells #[.int .i64 (-7), .int .i64 7] 24)) := Below.push HB1.out (Nat.le_refl _) _
  generalize w1.alloc (.cells #[.int .i64 (-7), .int .i64 7] 24) = W at *
  clear HB1
  replace cur : Below w.heap.size w W.drew := cur.drew
  replace x0 := cell_drew x0
  replace x1 := cell_drew x1
  go_region_held3 (fun wx => wx.cell? ⟨w1.heap.size, 0, none⟩ = some (.int .i64 (-7)) ∧ wx.cell? ⟨w1.heap.size, 1, none⟩ = some (.int .i64 7))
    (first | exact ⟨x0, x1⟩ | exact ⟨cell_alloc _ x0, cell_alloc _ x1⟩)
    (first | (go_at_call 15; (refine (widen_to 0 3 0 5 [4, 8] _ 0 8 (by exact intsAt_block [4, 8] (by simp) (blk_new _ _)) (by simp) (by decide +kernel)).mono ?_); rintro e wq ⟨rfl, hbq⟩; replace cur := seq (Below.push cur (Nat.le_refl _) _) hbq; replace x0 := cell_below hbq (cell_alloc _ x0); replace x1 := cell_below hbq (cell_alloc _ x1)) | (go_at_call 21; (with_reducible refine (empty_to _).mono ?_); rintro e wq ⟨rfl, hbq⟩; replace cur := seq cur hbq; replace x0 := cell_below hbq x0; replace x1 := cell_below hbq x1) | (go_at_call 32; (with_reducible refine (text_to 1 0 [110, 111, 110, 101] (by decide +kernel) (HT.out.below cur)).mono ?_); rintro e wq ⟨rfl, hbq⟩; replace cur := seq cur hbq; replace x0 := cell_below hbq x0; replace x1 := cell_below hbq x1) | (go_at_call 44; (with_reducible refine (full_to _).mono ?_); rintro e wq ⟨rfl, hbq⟩; replace cur := seq cur hbq; replace x0 := cell_below hbq x0; replace x1 := cell_below hbq x1) | (go_at_call 14; (with_reducible refine (right_to (-1152921504606846976) 1152921504606846976 true (by decide +kernel) _).mono ?_); rintro e wq ⟨rfl, hbq⟩; replace cur := seq cur hbq; replace x0 := cell_below hbq x0; replace x1 := cell_below hbq x1) | (go_at_call 24; (with_reducible refine (has_to (-7) 7 0 true (by decide +kernel) _).mono ?_); rintro e wq ⟨rfl, hbq⟩; replace cur := seq cur hbq; replace x0 := cell_below hbq x0; replace x1 := cell_below hbq x1) | (go_at_call 22; (refine (hull_to [3, 1] _ 1 3 (by exact intsAt_block [3, 1] (by simp) (blk_new _ _)) (by decide +kernel)).mono ?_); rintro e wq ⟨rfl, hbq⟩; replace cur := seq (Below.push cur (Nat.le_refl _) _) hbq; replace x0 := cell_below hbq (cell_alloc _ x0); replace x1 := cell_below hbq (cell_alloc _ x1)) | (go_at_call 16; (with_reducible refine (narrow_to (-1152921504606846976) 1152921504606846976 (-7) 7 (-7) 7 (by decide +kernel) _).mono ?_); rintro e wq ⟨rfl, hbq⟩; replace cur := seq cur hbq; replace x0 := cell_below hbq x0; replace x1 := cell_below hbq x1))
  all_goals (have HCUR := Lib.hid cur; clear cur x0 x1; go_wp2_with fail; go_ret; exact ⟨rfl, HCUR.out⟩)
end Go.Proofs.YtjddafaaplhnfaaDoor.PSpanWidens

set_option linter.unusedVariables false
set_option linter.unusedSimpArgs false
namespace Go.Proofs.YtjddafaaplhnfaaDoor.PSpanWidens
open Go Go.RowKit Go.ChangeShapes Go.WideShapes Go.ChangeAt Go.Joins Go.WideElems Go.Maps Go.Deep

theorem open_ints' {H : Type} {enc : TypeId × Value → H} {W : World} {a : Option Addr} {len cap : Nat} {d : DataW H} {p : List MemPlace}
    (h : DataW.Trod enc Tryd.prog W 0 (fun _ => true) true 32 (.slice a len cap) d p) : ∃ xs : List Int, IntsAt W (.slice a len cap) xs := by
  obtain ⟨fuel, hf⟩ := h
  rcases open_ints Tryd.underlying32 Tryd.underlying3 (by kernel_rfl) hf with ⟨hcs, _⟩ | ⟨x, l, c, zs, hcs, _, hl, hm, hz, _, hcell, hwz⟩
  · simp [Value.cells] at hcs
    obtain ⟨rfl, rfl, rfl⟩ := hcs
    exact ⟨[], none, 0, rfl, by simp, by simp, fun h => absurd rfl h⟩
  · simp [Value.cells] at hcs
    obtain ⟨rfl, rfl, rfl⟩ := hcs
    rw [if_pos rfl] at hz
    have hlen : (zs.take len).length = len := by simp; omega
    unfold maxLen at hm
    refine ⟨zs.take len, some x, cap, by rw [hlen], by rw [hlen]; omega, by rw [hlen]; omega, fun hn => ?_⟩
    have h00 : 0 < len := by
      rcases Nat.eq_zero_or_pos len with e | e
      · rw [e] at hn; exact absurd rfl hn
      · exact e
    obtain ⟨b, o, sp⟩ := x
    have h0 := hcell 0 (by omega)
    obtain rfl : sp = none := by simpa [Addr.add] using World.cell?_spot h0
    refine ⟨b, o, rfl, ?_, fun j hj => ?_⟩
    · have := World.block_lt_of_cell? W _ h0
      simpa [Addr.add] using this
    · rw [hlen] at hj
      have hi2 := hcell j (by omega)
      rw [add_at] at hi2
      refine hi2.trans ?_
      have hz2 : j < zs.length := by omega
      simp [List.getD, hz2, hj]

/-- A row of pairs of ints, as a slice of structs. -/
def PairsAt (w : World) (v : Value) (l : List (Int × Int)) : Prop :=
  ∃ ao c, v = .slice ao l.length c ∧ l.length ≤ c ∧ l.length ≤ 9223372036854775807 ∧ (l ≠ [] → ∃ b off, ao = some ⟨b, off, none⟩ ∧ b < w.heap.size ∧ ∀ j, j < l.length → w.cell? ⟨b, off + j * 2, none⟩ = some (.int .i64 (l.getD j (0, 0)).1) ∧ w.cell? ⟨b, off + j * 2 + 1, none⟩ = some (.int .i64 (l.getD j (0, 0)).2))
theorem PairsAt.below {w w' : World} {v : Value} {l : List (Int × Int)} (h : PairsAt w v l) (hb : Below w.heap.size w w') : PairsAt w' v l := by
  obtain ⟨ao, c, e, h0, h1, h2⟩ := h
  refine ⟨ao, c, e, h0, h1, fun hn => ?_⟩
  obtain ⟨b, off, e2, h3, h4⟩ := h2 hn
  exact ⟨b, off, e2, Nat.lt_of_lt_of_le h3 hb.size, fun j hj => ⟨(hb.cell (p := ⟨b, off + j * 2, none⟩) h3).trans (h4 j hj).1, (hb.cell (p := ⟨b, off + j * 2 + 1, none⟩) h3).trans (h4 j hj).2⟩⟩

theorem open_twos' {H : Type} {enc : TypeId × Value → H} {W : World} {a : Option Addr} {len cap : Nat} {t e : TypeId} {f0 f1 : Field} {d : DataW H} {p : List MemPlace}
    (ht : Tryd.prog.underlying t = some (.slice e)) (he : Tryd.prog.underlying e = some (.struct #[f0, f1]))
    (ce : Tryd.prog.cellsOf e = 2) (o0 : f0.offset = 0) (o1 : f1.offset = 1) (c0 : Tryd.prog.cellsOf f0.type = 1) (c1 : Tryd.prog.cellsOf f1.type = 1)
    (e0 : Tryd.prog.underlying f0.type = some (.int .i64)) (e1 : Tryd.prog.underlying f1.type = some (.int .i64))
    (h : DataW.Trod enc Tryd.prog W 0 (fun _ => true) true t (.slice a len cap) d p) : ∃ xs : List (Int × Int), PairsAt W (.slice a len cap) xs := by
  obtain ⟨fuel, hf⟩ := h
  rcases open_slice_pairs ht he ce o0 o1 c0 c1 hf with ⟨hcs, _⟩ | ⟨x, l, c, m, n, V0, V1, D0, D1, P0, P1, hcs, _, hl, hm, hmm, _, hx⟩
  · simp [Value.cells] at hcs
    obtain ⟨rfl, rfl, rfl⟩ := hcs
    exact ⟨[], none, 0, rfl, by simp, by simp, fun h => absurd rfl h⟩
  · simp [Value.cells] at hcs
    obtain ⟨rfl, rfl, rfl⟩ := hcs
    rw [if_pos rfl] at hmm
    subst hmm
    unfold maxLen at hm
    have each : ∀ i, i < len → ∃ q : Int × Int, W.cell? (x.add (i * 2)) = some (.int .i64 q.1) ∧ W.cell? (x.add (i * 2 + 1)) = some (.int .i64 q.2) := by
      intro i hi
      obtain ⟨h1, h2, h3, h4⟩ := hx i (by omega)
      obtain ⟨y0, g0, _⟩ := DataW.trod_int e0 h3
      obtain ⟨y1, g1, _⟩ := DataW.trod_int e1 h4
      simp only [List.cons.injEq, and_true] at g0 g1
      exact ⟨(y0, y1), by rw [h1, g0], by rw [h2, g1]⟩
    obtain ⟨q, hq⟩ := choose_lt each
    have hlq : ((List.range len).map q).length = len := by simp
    refine ⟨(List.range len).map q, some x, m, by rw [hlq], by rw [hlq]; exact hl, by rw [hlq]; omega, fun hn => ?_⟩
    have h00 : 0 < len := by
      rcases Nat.eq_zero_or_pos len with e | e
      · exact absurd (List.eq_nil_of_length_eq_zero (hlq.trans e)) hn
      · exact e
    obtain ⟨b, o, sp⟩ := x
    have h0 := (hx 0 (by omega)).1
    obtain rfl : sp = none := by simpa [Addr.add] using World.cell?_spot h0
    refine ⟨b, o, rfl, ?_, fun j hj => ?_⟩
    · have := World.block_lt_of_cell? W _ h0
      simpa [Addr.add] using this
    · have hj' : j < len := by rw [hlq] at hj; exact hj
      obtain ⟨g0, g1⟩ := hq j hj'
      have hg : ((List.range len).map q).getD j (0, 0) = q j := by simp [List.getD, hj']
      rw [hg]
      rw [add_at] at g0 g1
      exact ⟨g0, by rwa [← Nat.add_assoc] at g1⟩

theorem open_two' {H : Type} {enc : TypeId × Value → H} {W : World} {T : TypeId} {f0 f1 : Field} {v : Value} {d : DataW H} {p : List MemPlace} {b0 : Nat}
    (hs : Tryd.prog.underlying T = some (.struct #[f0, f1])) (hone : oneCellFields Tryd.prog #[f0, f1] = true) (hC : Tryd.prog.cellsOf T = 2) (e0 : Tryd.prog.underlying f0.type = some (.int .i64)) (e1 : Tryd.prog.underlying f1.type = some (.int .i64))
    (hv : Value.okWide Tryd.prog W .any b0 T v) (h : DataW.Trod enc Tryd.prog W 0 (fun _ => true) true T v d p) :
    ∃ a b : Int, v = .agg #[.int .i64 a, .int .i64 b] ∧ d = .agg [.lit (.int .i64 a), .lit (.int .i64 b)] ∧ p = [] ∧ (Lit.int .i64 a).wf = true ∧ (Lit.int .i64 b).wf = true := by
  obtain ⟨v0, v1, y0, y1, n, rfl, rfl, rfl, h0, h1⟩ := open_agg2 hs hone hC hv h
  obtain ⟨a, ea, rfl, wa⟩ := DataW.trod_int e0 h0
  obtain ⟨b, eb, rfl, wb⟩ := DataW.trod_int e1 h1
  injection ea with ea
  injection eb with eb
  subst ea; subst eb
  exact ⟨a, b, rfl, rfl, rfl, wa, wb⟩
theorem shut_two' {H : Type} {enc : TypeId × Value → H} {W : World} {T : TypeId} {f0 f1 : Field} {a b : Int} {sp : Nat → Bool}
    (hs : Tryd.prog.underlying T = some (.struct #[f0, f1])) (hone : oneCellFields Tryd.prog #[f0, f1] = true) (hC : Tryd.prog.cellsOf T = 2) (e0 : Tryd.prog.underlying f0.type = some (.int .i64)) (e1 : Tryd.prog.underlying f1.type = some (.int .i64))
    (wa : (Lit.int .i64 a).wf = true) (wb : (Lit.int .i64 b).wf = true) :
    DataW.Trod enc Tryd.prog W 0 sp true T (.agg #[.int .i64 a, .int .i64 b]) (.agg [.lit (.int .i64 a), .lit (.int .i64 b)]) [] :=
  shut_agg2 (y0 := (.lit (.int .i64 a), [])) (y1 := (.lit (.int .i64 b), [])) hs hone hC ⟨1, by simp [DataW.trod, e0, wa]⟩ ⟨1, by simp [DataW.trod, e1, wb]⟩
end Go.Proofs.YtjddafaaplhnfaaDoor.PSpanWidens
