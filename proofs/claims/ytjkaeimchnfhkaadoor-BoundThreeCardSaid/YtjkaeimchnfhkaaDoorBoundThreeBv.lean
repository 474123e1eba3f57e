/- What the printed functions of package bound come to: plain numbers. -/
import Derived.Test.YtjkaeimchnfhkaaDoorPBoundThreex5
import Derived.Test.YtjkaeimchnfhkaaDoorPBoundThreex6
import Derived.Test.YtjkaeimchnfhkaaDoorPBoundThreex8
import Derived.Test.YtjkaeimchnfhkaaDoorPBoundThreex9
import Derived.Test.YtjkaeimchnfhkaaDoorBp
import Derived.Shelf.Bits.Mul64
import Derived.IntWalk
set_option linter.unusedVariables false
set_option linter.unusedSimpArgs false
namespace Go.Proofs.YtjkaeimchnfhkaaDoor.PBoundThree
open Go.RowKit Go.Proofs.YtjkaeimchnfhkaaDoorW.PrintWords Go.Proofs.YtjkaeimchnfhkaaDoorW.PrintLast Go.Proofs.YtjkaeimchnfhkaaDoorW.PrintMore Go.Shelf

theorem w64 {n : Int} (h : -9223372036854775808 ≤ n ∧ n ≤ 9223372036854775807) : wrap64 n = n := by unfold wrap64; omega
theorem u64w {n : Int} (h : 0 ≤ n ∧ n ≤ 18446744073709551615) : IntKind.u64.wrap n = n := (IntKind.wrap_u64 _).trans (Int.emod_eq_of_lt (by omega) (by omega))

theorem In_f (a : Int) : bound_In.f a = some (Bd.inn a) := by
  unfold bound_In.f Bd.inn
  by_cases h : a ≥ -1152921504606846976
  · rw [if_pos h, decide_eq_true (show -1152921504606846976 ≤ a from h), Bool.true_and]
  · rw [if_neg h, decide_eq_false (show ¬ -1152921504606846976 ≤ a from h), Bool.false_and]
theorem told_t (a : Int) : bound_told.f a true = some (Bd.told a) := by
  unfold bound_told.f Bd.told
  rw [if_pos rfl, In_f]
  simp only [Option.bind_some]
  split <;> rfl
theorem told_f (a : Int) : bound_told.f a false = some (0, 10) := rfl
theorem Mul64_f (x y : Nat) (hx : x < 18446744073709551616) (hy : y < 18446744073709551616) :
    bits_Mul64.f x y = some (((x * y / 18446744073709551616 : Nat) : Int), ((x * y % 18446744073709551616 : Nat) : Int)) := by
  obtain ⟨bd, bt, bw, hhi⟩ := Lib.mul64_hi x y hx hy
  have ba := Lib.half_mul_le (a := x / 4294967296) (b := y / 4294967296) (by omega) (by omega)
  have bb := Lib.half_mul_le (a := x / 4294967296) (b := y % 4294967296) (by omega) (by omega)
  have bc := Lib.half_mul_le (a := x % 4294967296) (b := y / 4294967296) (by omega) (by omega)
  have ba' : x / 4294967296 * (y / 4294967296) < 18446744073709551616 := by omega
  have bb' : x / 4294967296 * (y % 4294967296) < 18446744073709551616 := by omega
  have bc' : x % 4294967296 * (y / 4294967296) < 18446744073709551616 := by omega
  have bh1 : x / 4294967296 * (y / 4294967296) + (x / 4294967296 * (y % 4294967296) + x % 4294967296 * (y % 4294967296) / 4294967296) / 4294967296 < 18446744073709551616 := by omega
  have bh : x / 4294967296 * (y / 4294967296) + (x / 4294967296 * (y % 4294967296) + x % 4294967296 * (y % 4294967296) / 4294967296) / 4294967296 + ((x / 4294967296 * (y % 4294967296) + x % 4294967296 * (y % 4294967296) / 4294967296) % 4294967296 + x % 4294967296 * (y / 4294967296)) / 4294967296 < 18446744073709551616 := by omega
  unfold bits_Mul64.f
  simp only [Mul64.maskN x hx, Mul64.maskN y hy, Mul64.divN, Mul64.mulN, Mul64.addN, Mul64.wrapN _ bd, Mul64.wrapN _ bb', Mul64.wrapN _ bt, Mul64.maskN _ bt, Mul64.wrapN _ bc', Mul64.wrapN _ bw, Mul64.wrapN _ ba', Mul64.wrapN _ bh1, Mul64.wrapN _ bh, Mul64.wrapM (x * y)]
  rw [hhi]

theorem mx_abs {a : Int} (h : -2305843009213693952 ≤ a ∧ a ≤ 2305843009213693952) : IntKind.u64.wrap (mx a (wrap64 (-a))) = (a.natAbs : Int) := by
  rw [w64 (by omega)]
  have e : mx a (-a) = (a.natAbs : Int) := by unfold mx; split <;> omega
  rw [e, u64w (by omega)]

theorem sign_mul {a b : Int} (x y : Nat) (hx : a.natAbs = x) (hy : b.natAbs = y) : a * b = if (decide (a < 0) != decide (b < 0)) = true then -((x * y : Nat) : Int) else ((x * y : Nat) : Int) := by
  by_cases ha : a < 0 <;> by_cases hb : b < 0
  · rw [decide_eq_true ha, decide_eq_true hb, if_neg (by simp), show a = -(x : Int) by omega, show b = -(y : Int) by omega, Int.neg_mul_neg, Int.natCast_mul]
  · rw [decide_eq_true ha, decide_eq_false hb, if_pos (by simp), show a = -(x : Int) by omega, show b = (y : Int) by omega, Int.neg_mul, Int.natCast_mul]
  · rw [decide_eq_false ha, decide_eq_true hb, if_pos (by simp), show a = (x : Int) by omega, show b = -(y : Int) by omega, Int.mul_neg, Int.natCast_mul]
  · rw [decide_eq_false ha, decide_eq_false hb, if_neg (by simp), show a = (x : Int) by omega, show b = (y : Int) by omega, Int.natCast_mul]

theorem times_f (k : Nat) {a b : Int} (ha : Bd.inn a = true) (hb : Bd.inn b = true) : bound_times.f (k + 1) a b = some (if Bd.inn (a * b) = true then (a * b, true) else (0, false)) := by
  rw [Bd.inn_iff] at ha hb
  unfold bound_times.f
  rw [mx_abs (by omega), mx_abs (by omega)]
  obtain ⟨x, hx⟩ : ∃ x, a.natAbs = x := ⟨_, rfl⟩
  obtain ⟨y, hy⟩ : ∃ y, b.natAbs = y := ⟨_, rfl⟩
  have hs := sign_mul x y hx hy
  rw [hx, hy, Mul64_f x y (by omega) (by omega)]
  simp only [Option.bind_some]
  rw [hs]
  generalize x * y = p
  by_cases h1 : ((p / 18446744073709551616 : Nat) : Int) > 0
  · rw [if_pos h1]
    have : Bd.inn (if (decide (a < 0) != decide (b < 0)) = true then -(p : Int) else (p : Int)) = false := by rw [Bd.inn_not]; split <;> omega
    rw [this]; rfl
  · rw [if_neg h1]
    obtain e : p % 18446744073709551616 = p := by omega
    rw [e]
    by_cases h2 : (p : Int) > 1152921504606846976
    · rw [decide_eq_true h2]
      have : Bd.inn (if (decide (a < 0) != decide (b < 0)) = true then -(p : Int) else (p : Int)) = false := by rw [Bd.inn_not]; split <;> omega
      rw [this]; rfl
    · rw [decide_eq_false h2]
      have : Bd.inn (if (decide (a < 0) != decide (b < 0)) = true then -(p : Int) else (p : Int)) = true := by rw [Bd.inn_iff]; split <;> omega
      rw [this, if_pos rfl]
      simp only [bound_times.j0]
      rw [if_neg (by simp), w64 (n := (p : Int)) (by omega), w64 (n := -(p : Int)) (by omega)]
      split <;> rfl

theorem tdiv_range {a b : Int} (ha : Bd.inn a = true) (hb : b ≠ 0) : -1152921504606846976 ≤ a.tdiv b ∧ a.tdiv b ≤ 1152921504606846976 := by
  rw [Bd.inn_iff] at ha
  have h1 : (a.tdiv b).natAbs ≤ a.natAbs := by
    rw [Int.natAbs_tdiv]; exact Nat.div_le_self _ _
  omega

theorem Calc_f (k : Nat) (op a b : Int) : bound_Calc.f (k + 2) op a b = some (Bd.calc' op a b) := by
  unfold bound_Calc.f Bd.calc'
  by_cases h0 : op < 0
  · rw [if_pos h0, if_pos (.inl h0)]; rfl
  · rw [if_neg h0]
    by_cases h3 : op > 3
    · rw [if_pos h3, if_pos (.inr (.inl h3))]; rfl
    · rw [if_neg h3, In_f, In_f]
      simp only [Option.bind_some]
      cases ha : Bd.inn a
      · rw [if_neg (by simp), if_pos (.inr (.inr (.inl rfl)))]; rfl
      · rw [if_pos rfl]
        cases hb : Bd.inn b
        · rw [if_pos (.inr (.inr (.inr rfl)))]; rfl
        · rw [if_neg (by simp; omega)]
          have ha' := Bd.inn_iff.1 ha
          have hb' := Bd.inn_iff.1 hb
          simp only [bound_Calc.j0]
          rw [if_neg (by simp)]
          by_cases o1 : op = 1
          · rw [if_pos o1, if_neg (by omega), if_pos o1, w64 (n := -b) (by omega), w64 (by omega), told_t, Int.sub_eq_add_neg]; rfl
          · rw [if_neg o1]
            by_cases o0 : op = 0
            · rw [if_pos o0, if_pos o0, w64 (by omega), told_t]; rfl
            · rw [if_neg o0, if_neg o0, if_neg o1]
              by_cases o2 : op = 2
              · rw [if_pos o2, if_pos o2, times_f k ha hb]
                simp only [Option.bind_some]
                cases hp : Bd.inn (a * b)
                · rw [if_neg (by simp), told_f]
                  simp only [Option.bind_some, Bd.told, hp]; rfl
                · rw [if_pos rfl, told_t]; rfl
              · rw [if_neg o2, if_neg o2]
                by_cases hz : b = 0
                · rw [if_pos hz, if_pos hz]
                · rw [if_neg hz, if_neg hz]
                  have := tdiv_range ha hz
                  rw [w64 (by omega), told_t]; rfl

theorem Right_f (b : Int) : bound_Right.f b = some (Bd.right b) := by
  unfold bound_Right.f Bd.right
  by_cases h1 : b ≥ -2305843009213693952
  · rw [if_pos h1, decide_eq_true (show -2305843009213693952 ≤ b from h1)]
    by_cases h2 : b ≤ 2305843009213693952
    · rw [if_pos h2, decide_eq_true h2]; rfl
    · rw [if_neg h2, decide_eq_false h2]; rfl
  · rw [if_neg h1, decide_eq_false (show ¬ -2305843009213693952 ≤ b from h1)]; rfl
theorem Near_f (b : Int) : bound_Near.f b = some (Bd.near b) := by
  unfold bound_Near.f Bd.near mx
  split
  · rfl
  · split
    · rfl
    · rfl
theorem Add_f (a b : Int) : bound_Add.f a b = some (Bd.add a b) := by
  unfold bound_Add.f Bd.add
  rw [Near_f, Near_f]
  simp only [Option.bind_some]
  by_cases h1 : Bd.near a = 4611686018427387904
  · rw [if_pos h1, if_pos h1]
  · rw [if_neg h1, if_neg h1]
    by_cases h2 : Bd.near b = 4611686018427387904
    · rw [if_pos h2, if_pos h2]
    · rw [if_neg h2, if_neg h2]
      have := Bd.near_cases a
      have := Bd.near_cases b
      rw [w64 (by omega), Near_f]; rfl
theorem Leq_f (a b : Int) : bound_Leq.f a b = some (Bd.leq a b) := by
  unfold bound_Leq.f Bd.leq
  rw [Near_f, Near_f]; rfl
end Go.Proofs.YtjkaeimchnfhkaaDoor.PBoundThree
