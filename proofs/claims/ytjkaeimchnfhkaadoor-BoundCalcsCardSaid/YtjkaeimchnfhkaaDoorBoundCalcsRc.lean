/- What the printed functions of the document's package 01 come to: what is reckoned. -/
import Derived.Test.YtjkaeimchnfhkaaDoorPBoundCalcsx10
import Derived.Test.YtjkaeimchnfhkaaDoorBoundCalcsBv
set_option linter.unusedVariables false
set_option linter.unusedSimpArgs false
namespace Go.Proofs.YtjkaeimchnfhkaaDoor.PBoundCalcs
open Go.RowKit Go.Proofs.YtjkaeimchnfhkaaDoorW.PrintWords Go.Proofs.YtjkaeimchnfhkaaDoorW.PrintLast Go.Proofs.YtjkaeimchnfhkaaDoorW.PrintMore

theorem rTop : helmsmanref01_Top.f = some 1152921504606846976 := rfl
theorem rIn_f (a : Int) : helmsmanref01_In.f a = some (Bd.inn a) := by
  unfold helmsmanref01_In.f Bd.inn
  rw [rTop]
  simp only [Option.bind_some]
  rw [w64 (by omega)]
  by_cases h : a ≥ -1152921504606846976
  · rw [if_pos h, decide_eq_true (show -1152921504606846976 ≤ a from h), Bool.true_and]
  · rw [if_neg h, decide_eq_false (show ¬ -1152921504606846976 ≤ a from h), Bool.false_and]
theorem rsize_f {a : Int} (h : -1152921504606846976 ≤ a ∧ a ≤ 1152921504606846976) : helmsmanref01_size.f a = some (a.natAbs : Int) := by
  unfold helmsmanref01_size.f
  split
  · rw [w64 (by omega)]; congr 1; omega
  · congr 1; omega
theorem half (a b : Int) : a * b = a * 2 * (b / 2) + a * (b % 2) := by
  have h := Int.mul_ediv_add_emod b 2
  calc a * b = a * (2 * (b / 2) + b % 2) := by rw [h]
    _ = a * 2 * (b / 2) + a * (b % 2) := by rw [Int.mul_add, Int.mul_assoc]

theorem rloop (d : Nat) : ∀ (k : Nat) (a b out : Int), 0 ≤ a → (0 < b → a ≤ 2305843009213693952) → a ≤ 4611686018427387904 → 0 ≤ b → b < 2 ^ d → b ≤ 1152921504606846976 → 0 ≤ out → out ≤ 1152921504606846976 → 2 * d < k →
    helmsmanref01_times.l0 k a b out = some (if out + a * b ≤ 1152921504606846976 then (out + a * b, true) else (0, false)) := by
  induction d with
  | zero =>
    intro k a b out ha ha2 ha4 hb hb2 hb3 ho ho2 hk
    obtain ⟨k, rfl⟩ : ∃ m, k = m + 1 := ⟨k - 1, by omega⟩
    obtain rfl : b = 0 := by simp at hb2; omega
    simp only [helmsmanref01_times.l0]
    rw [if_neg (by omega), Int.mul_zero, Int.add_zero, if_pos ho2]
  | succ d ih =>
    intro k a b out ha ha2 ha4 hb hb2 hb3 ho ho2 hk
    obtain ⟨k, rfl⟩ : ∃ m, k = m + 2 := ⟨k - 2, by omega⟩
    by_cases h0 : 0 < b
    · have ha' := ha2 h0
      have hh := half a b
      have hm : b.tmod 2 = b % 2 := Int.tmod_eq_emod_of_nonneg hb
      have hd : b.tdiv 2 = b / 2 := Int.tdiv_eq_ediv_of_nonneg hb
      have hm01 : b % 2 = 0 ∨ b % 2 = 1 := by omega
      have hp : (2 : Int) ^ (d + 1) = 2 ^ d * 2 := Int.pow_succ 2 d
      have hb' : b / 2 < 2 ^ d := by omega
      -- what is behind the first step
      have step : ∀ o, 0 ≤ o → o ≤ 3458764513820540928 → o + a * 2 * (b / 2) = out + a * b → helmsmanref01_times.j1 (k + 1) a b o = some (if out + a * b ≤ 1152921504606846976 then (out + a * b, true) else (0, false)) := by
        intro o h1 h2 h3
        have hnn : 0 ≤ a * 2 * (b / 2) := Int.mul_nonneg (by omega) (by omega)
        simp only [helmsmanref01_times.j1]
        have rTop : helmsmanref01_Top.f = some 1152921504606846976 := rfl
        rw [rTop]
        simp only [Option.bind_some]
        by_cases c1 : o > 1152921504606846976
        · rw [if_pos c1, if_neg (by omega)]
        · rw [if_neg c1, hd, w64 (by omega), w64 (by omega)]
          by_cases c2 : b / 2 > 0
          · rw [if_pos c2]
            by_cases c3 : a > 1152921504606846976
            · rw [if_pos c3]
              have : a * 2 * 1 ≤ a * 2 * (b / 2) := Int.mul_le_mul_of_nonneg_left (by omega) (by omega)
              rw [if_neg (by omega)]
            · rw [if_neg c3, ih k (a * 2) (b / 2) o (by omega) (fun _ => by omega) (by omega) (by omega) hb' (by omega) h1 (by omega) (by omega), h3]
          · rw [if_neg c2, ih k (a * 2) (b / 2) o (by omega) (fun h => by omega) (by omega) (by omega) hb' (by omega) h1 (by omega) (by omega), h3]
      simp only [helmsmanref01_times.l0]
      rw [if_pos h0, hm]
      rcases hm01 with e | e
      · rw [if_neg (by omega)]
        exact step out ho (by omega) (by rw [hh, e]; omega)
      · rw [if_pos e, w64 (by omega)]
        exact step (out + a) (by omega) (by omega) (by rw [hh, e]; omega)
    · obtain rfl : b = 0 := by omega
      simp only [helmsmanref01_times.l0]
      rw [if_neg (by omega), Int.mul_zero, Int.add_zero, if_pos ho2]

theorem sign_div {a b : Int} (x y : Nat) (hx : a.natAbs = x) (hy : b.natAbs = y) : a.tdiv b = if (decide (a < 0) != decide (b < 0)) = true then -((x / y : Nat) : Int) else ((x / y : Nat) : Int) := by
  have hxy : (x : Int).tdiv (y : Int) = ((x / y : Nat) : Int) := rfl
  by_cases ha : a < 0 <;> by_cases hb : b < 0
  · rw [decide_eq_true ha, decide_eq_true hb, if_neg (by simp), show a = -(x : Int) by omega, show b = -(y : Int) by omega, Int.neg_tdiv, Int.tdiv_neg, Int.neg_neg, hxy]
  · rw [decide_eq_true ha, decide_eq_false hb, if_pos (by simp), show a = -(x : Int) by omega, show b = (y : Int) by omega, Int.neg_tdiv, hxy]
  · rw [decide_eq_false ha, decide_eq_true hb, if_pos (by simp), show a = (x : Int) by omega, show b = -(y : Int) by omega, Int.tdiv_neg, hxy]
  · rw [decide_eq_false ha, decide_eq_false hb, if_neg (by simp), show a = (x : Int) by omega, show b = (y : Int) by omega, hxy]

theorem j3_f (k : Nat) (n : Int) (x9 x68 : Bool) (hn : -4611686018427387904 ≤ n ∧ n ≤ 4611686018427387904) :
    helmsmanref01_Calc.j3 (k + 1) n x9 x68 = some (if x9 = true then Bd.told (if x68 = true then -n else n) else (0, 10)) := by
  simp only [helmsmanref01_Calc.j3]
  cases x68 <;> cases x9 <;> simp only [reduceIte, Bool.false_eq_true]
  · rw [rIn_f]
    simp only [Option.bind_some, Bd.told]
    split <;> rfl
  · rw [w64 (by omega), rIn_f]
    simp only [Option.bind_some, Bd.told]
    split <;> rfl

theorem rCalc_f (op a b : Int) : helmsmanref01_Calc.f 200 op a b = some (Bd.calc' op a b) := by
  unfold helmsmanref01_Calc.f Bd.calc'
  by_cases h0 : op < 0
  · rw [if_pos h0, if_pos (.inl h0)]; rfl
  · rw [if_neg h0]
    by_cases h3 : op > 3
    · rw [if_pos h3, if_pos (.inr (.inl h3))]; rfl
    · rw [if_neg h3, rIn_f, rIn_f]
      simp only [Option.bind_some]
      cases ha : Bd.inn a
      · rw [if_neg (by simp), if_pos (.inr (.inr (.inl rfl)))]; rfl
      · rw [if_pos rfl]
        cases hb : Bd.inn b
        · rw [if_pos (.inr (.inr (.inr rfl)))]; rfl
        · rw [if_neg (by simp; omega)]
          have ha' := Bd.inn_iff.1 ha
          have hb' := Bd.inn_iff.1 hb
          simp only [Bool.not_true]
          show helmsmanref01_Calc.j0 (199 + 1) op a b false = _
          simp only [helmsmanref01_Calc.j0]
          rw [if_neg (by simp)]
          -- the product, and the quotient
          obtain ⟨x, hx⟩ : ∃ x, a.natAbs = x := ⟨_, rfl⟩
          obtain ⟨y, hy⟩ : ∃ y, b.natAbs = y := ⟨_, rfl⟩
          have j1 : ∀ k, 190 ≤ k → ∀ z, (z = true → op = 3 ∧ b = 0) → (op = 3 → b = 0 → z = true) → helmsmanref01_Calc.j1 (k + 1) op a b z = some (if op = 0 then Bd.told (a + b) else if op = 1 then Bd.told (a - b) else if op = 2 then Bd.told (a * b) else if b = 0 then (0, 11) else Bd.told (a.tdiv b)) := by
            intro k hk z hz hz2
            obtain ⟨k, rfl⟩ : ∃ m, k = m + 2 := ⟨k - 2, by omega⟩
            simp only [helmsmanref01_Calc.j1]
            cases z with
            | true =>
              obtain ⟨e1, e2⟩ := hz rfl
              rw [if_pos rfl, if_neg (by omega), if_neg (by omega), if_neg (by omega), if_pos e2]
            | false =>
              rw [if_neg (by simp)]
              have j2 : ∀ n x9, op ≤ 1 → (-4611686018427387904 ≤ n ∧ n ≤ 4611686018427387904) → helmsmanref01_Calc.j2 (k + 2) op a b n x9 = some (if x9 = true then Bd.told n else (0, 10)) := by
                intro n x9 ho hn
                simp only [helmsmanref01_Calc.j2]
                rw [if_neg (by omega), j3_f _ _ _ _ hn, if_neg (show ¬ false = true by simp)]
              have j2' : ∀ n x9, 1 < op → (-4611686018427387904 ≤ n ∧ n ≤ 4611686018427387904) → helmsmanref01_Calc.j2 (k + 2) op a b n x9 = some (if x9 = true then Bd.told (if (decide (a < 0) != decide (b < 0)) = true then -n else n) else (0, 10)) := by
                intro n x9 ho hn
                simp only [helmsmanref01_Calc.j2]
                rw [if_pos (by omega), j3_f _ _ _ _ hn]
              by_cases o0 : op = 0
              · rw [if_pos o0, if_pos o0, w64 (by omega), j2 _ _ (by omega) (by omega), if_pos rfl]
              · rw [if_neg o0, if_neg o0]
                by_cases o1 : op = 1
                · rw [if_pos o1, if_pos o1, w64 (by omega), j2 _ _ (by omega) (by omega), if_pos rfl]
                · rw [if_neg o1, if_neg o1]
                  rw [rsize_f (by omega), rsize_f (by omega)]
                  simp only [Option.bind_some]
                  rw [hx, hy]
                  by_cases o2 : op = 2
                  · rw [if_pos o2, if_pos o2]
                    unfold helmsmanref01_times.f
                    rw [rloop 61 (k + 2) x y 0 (by omega) (fun _ => by omega) (by omega) (by omega) (by omega) (by omega) (by omega) (by omega) (by omega)]
                    rw [sign_mul x y hx hy]
                    simp only [Option.bind_some, Int.zero_add]
                    rw [← Int.natCast_mul]
                    generalize x * y = p
                    by_cases hp : (p : Int) ≤ 1152921504606846976
                    · rw [if_pos hp, j2' _ _ (by omega) (by simp only; omega), if_pos rfl]
                    · rw [if_neg hp, j2' _ _ (by omega) (by simp only; omega), if_neg (by simp)]
                      unfold Bd.told
                      rw [if_neg (by rw [Bool.not_eq_true, Bd.inn_not]; split <;> omega)]
                  · have o3 : op = 3 := by omega
                    rw [if_neg o2, if_neg o2, if_pos o3]
                    have hb0 : b ≠ 0 := fun e => by have := hz2 o3 e; cases this
                    have hy0 : (y : Int) ≠ 0 := by omega
                    rw [if_neg hy0, if_neg hb0, show (x : Int).tdiv (y : Int) = ((x / y : Nat) : Int) from rfl]
                    rw [sign_div x y hx hy]
                    have := Nat.div_le_self x y
                    generalize x / y = q at *
                    rw [w64 (by omega), j2' _ _ (by omega) (by omega), if_pos rfl]
          by_cases o3 : op = 3
          · rw [if_pos o3]
            exact j1 198 (by omega) _ (fun h => ⟨o3, by simpa using h⟩) (fun _ h => by simpa using h)
          · rw [if_neg o3]
            exact j1 198 (by omega) _ (fun h => by cases h) (fun h => absurd h o3)
end Go.Proofs.YtjkaeimchnfhkaaDoor.PBoundCalcs
