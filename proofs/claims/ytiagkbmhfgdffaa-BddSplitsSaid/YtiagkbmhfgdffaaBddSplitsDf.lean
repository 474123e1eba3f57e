/- What the printed functions of the document's chapter 07 come to: numbers' bits, rows of booleans. -/
import Derived.Test.YtiagkbmhfgdffaaPBddSplitsx47
import Derived.Test.YtiagkbmhfgdffaaPBddSplitsx40
import Derived.Test.YtiagkbmhfgdffaaGe
set_option linter.unusedVariables false
set_option linter.unusedSimpArgs false
namespace Go.Proofs.Ytiagkbmhfgdffaa.PBddSplits
open Go.RowKit Go.Proofs.YtiagkbmhfgdffaaW.PrintWords Go.Proofs.YtiagkbmhfgdffaaW.PrintLast Go.Proofs.YtiagkbmhfgdffaaW.PrintMore

theorem w64 {n : Int} (h : -9223372036854775808 ≤ n ∧ n ≤ 9223372036854775807) : wrap64 n = n := by unfold wrap64; omega
theorem Bit_l0 (v : Nat) (hv : v < 64) : ∀ (d k x : Nat) (i : Nat), i + d = v → d < k → x < 9223372036854775808 → helmsmanref07_Bit.l0 k (x : Int) (v : Int) (i : Int) = some (x / 2 ^ d % 2 == 1)
  | d, 0, _, _, _, h, _ => by omega
  | 0, k + 1, x, i, hi, hk, hx => by
    rw [helmsmanref07_Bit.l0, if_neg (by omega)]
    congr 1
    rw [Int.tmod_eq_emod_of_nonneg (by omega), Nat.pow_zero, Nat.div_one, Bool.eq_iff_iff]
    simp
    omega
  | d + 1, k + 1, x, i, hi, hk, hx => by
    rw [helmsmanref07_Bit.l0, if_pos (by omega)]
    have e1 : wrap64 (Int.tdiv (x : Int) 2) = ((x / 2 : Nat) : Int) := by
      rw [Int.tdiv_eq_ediv_of_nonneg (by omega), w64 (by omega)]; omega
    have e2 : wrap64 ((i : Int) + 1) = ((i + 1 : Nat) : Int) := by rw [w64 (by omega)]; omega
    rw [e1, e2, Bit_l0 v hv d k (x / 2) (i + 1) (by omega) (by omega) (by omega), Nat.div_div_eq_div_mul, Nat.mul_comm, ← Nat.pow_succ]
theorem Bit_f {n v k : Nat} (hn : n < 9223372036854775808) (hv : v < 64) (hk : v < k) : helmsmanref07_Bit.f k (n : Int) (v : Int) = some (bitN n v) := by
  unfold helmsmanref07_Bit.f
  exact Bit_l0 v hv v k n 0 (by omega) hk hn
theorem with_l0 (n v : Nat) (b : Bool) (hn : n < 4096) (hv : v < 12) : ∀ (d k : Nat) (i : Nat), i + d = v → d + v + 1 < k → helmsmanref07_with.l0 k (n : Int) (v : Int) b ((2 ^ i : Nat) : Int) (i : Int) = some ((withN n v b : Nat) : Int)
  | d, 0, _, _, h => by omega
  | 0, k + 1, i, hi, hk => by
    obtain rfl : i = v := by omega
    have hp : (2 : Nat) ^ i ≤ 2048 := Nat.pow_le_pow_right (by decide) (show i ≤ 11 by omega)
    rw [helmsmanref07_with.l0, if_neg (by omega), Bit_f (by omega) (by omega) (by omega), Option.bind_some]
    unfold withN
    by_cases h : bitN n i = b
    · rw [if_pos (by rw [h]; simp), if_pos h]
    · rw [if_neg (by simpa using h), if_neg h]
      cases b
      · have hb : bitN n i = true := by simpa using h
        have hl := bit_le hb
        rw [if_neg (by decide), if_neg (by decide)]
        generalize 2 ^ i = p at *
        rw [w64 (by omega)]
        congr 1; omega
      · rw [if_pos rfl, if_pos rfl]
        generalize 2 ^ i = p at *
        rw [w64 (by omega)]
        congr 1
  | d + 1, k + 1, i, hi, hk => by
    have hp : (2 : Nat) ^ i ≤ 2048 := Nat.pow_le_pow_right (by decide) (show i ≤ 11 by omega)
    rw [helmsmanref07_with.l0, if_pos (by omega)]
    have e1 : wrap64 (((2 ^ i : Nat) : Int) * 2) = ((2 ^ (i + 1) : Nat) : Int) := by
      rw [Nat.pow_succ]
      generalize 2 ^ i = p at *
      rw [w64 (by omega)]; omega
    have e2 : wrap64 ((i : Int) + 1) = ((i + 1 : Nat) : Int) := by rw [w64 (by omega)]; omega
    rw [e1, e2, with_l0 n v b hn hv d k (i + 1) (by omega) (by omega)]
theorem with_f {n v : Nat} {b : Bool} (hn : n < 4096) (hv : v < 12) : helmsmanref07_with.f 30 (n : Int) (v : Int) b = some ((withN n v b : Nat) : Int) := by
  unfold helmsmanref07_with.f
  exact with_l0 n v b hn hv v 30 0 (by omega) (by omega)
theorem at_f {T : List Bool} {n : Nat} (hT : T.length = 4096) (hn : n < 4096) : helmsmanref07_at.f T (n : Int) = some (T.getD n false) := by
  unfold helmsmanref07_at.f
  rw [if_pos (by omega), if_pos (by omega)]
  rfl
/-- What one op says of a number. -/
theorem one_f {o : Op7} {m : Nat} (hm : mayOp m o = true) {A B C : List Bool} (hA : 0 < needs o.kind → A.length = 4096) (hB : 1 < needs o.kind → B.length = 4096) (hC : 2 < needs o.kind → C.length = 4096) {n : Nat} (hn : n < 4096) :
    helmsmanref07_one.f 30 o.kind o.v o.a o.b o.c o.yes A B C (n : Int) = some (oneT o A B C n) := by
  obtain ⟨h1, h2, _, _, _, h6⟩ := mayOp_parts hm
  have hk : o.kind = 0 ∨ o.kind = 1 ∨ o.kind = 2 ∨ o.kind = 3 ∨ o.kind = 4 ∨ o.kind = 5 ∨ o.kind = 6 ∨ o.kind = 7 ∨ o.kind = 8 := by omega
  have W : ∀ (b : Bool), 0 ≤ o.v ∧ o.v ≤ 11 → helmsmanref07_with.f 30 (n : Int) o.v b = some ((withN n o.v.toNat b : Nat) : Int) ∧ withN n o.v.toNat b < 4096 := fun b hv => by
    obtain ⟨v, hv'⟩ := Int.eq_ofNat_of_zero_le hv.1
    rw [hv', Int.toNat_natCast]
    exact ⟨with_f hn (by omega), withN_lt (K := 12) b hn (by omega)⟩
  unfold helmsmanref07_one.f oneT
  rcases hk with hk | hk | hk | hk | hk | hk | hk | hk | hk <;> rw [hk] at hA hB hC h6 ⊢ <;> simp only [needs] at hA hB hC <;> simp at hA hB hC h6 ⊢
  · obtain ⟨v, hv⟩ := Int.eq_ofNat_of_zero_le h6.1
    rw [hv, Int.toNat_natCast, Bit_f (by omega) (by omega) (by omega)]
  · rw [at_f hA hn]; simp
  · rw [at_f hA hn, at_f hB hn]; simp only [List.getD_eq_getElem?_getD]; cases A[n]?.getD false <;> simp
  · rw [at_f hA hn, at_f hB hn]; simp only [List.getD_eq_getElem?_getD]; cases A[n]?.getD false <;> simp
  · rw [at_f hA hn, at_f hB hn]; simp
  · rw [at_f hA hn, at_f hB hn, at_f hC hn]; simp only [List.getD_eq_getElem?_getD]; cases A[n]?.getD false <;> simp
  · obtain ⟨w1, w2⟩ := W o.yes h6
    rw [w1, Option.bind_some, at_f hA w2]; simp
  · obtain ⟨w1, w2⟩ := W false h6
    obtain ⟨w3, w4⟩ := W true h6
    rw [w1, Option.bind_some, at_f hA w2, w3, Option.bind_some, Option.bind_some, at_f hA w4]
    simp only [List.getD_eq_getElem?_getD]
    cases A[withN n o.v.toNat false]?.getD false <;> simp
  · obtain ⟨w1, w2⟩ := W (B.getD n false) h6
    rw [at_f hB hn, Option.bind_some, w1, Option.bind_some, at_f hA w2]; simp
theorem Constant_l0 : ∀ (d k i : Nat), i + d = 4096 → d < k → helmsmanref07_Constant.l0 k (List.replicate i true) (i : Int) = some (List.replicate 4096 true)
  | d, 0, _, _, h => by omega
  | 0, k + 1, i, hi, hk => by
    obtain rfl : i = 4096 := by omega
    rw [helmsmanref07_Constant.l0, if_neg (by decide)]
  | d + 1, k + 1, i, hi, hk => by
    rw [helmsmanref07_Constant.l0, if_pos (by omega), if_pos (by rw [List.length_replicate]; omega), ← List.replicate_succ', w64 (by omega)]
    exact Constant_l0 d k (i + 1) (by omega) (by omega)
theorem Constant_f : helmsmanref07_Constant.f 4097 = some (List.replicate 4096 true) := by
  unfold helmsmanref07_Constant.f
  exact Constant_l0 4096 4097 0 (by omega) (by omega)
theorem Start_f : helmsmanref07_Start.f 4097 = some [List.replicate 4096 false, List.replicate 4096 true] := by
  unfold helmsmanref07_Start.f
  rw [if_pos (by decide), Constant_f, Option.bind_some]
end Go.Proofs.Ytiagkbmhfgdffaa.PBddSplits
