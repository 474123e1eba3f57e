/- Plain numerals: a bound's text, the bound that a text is; what is written is read as what it was. -/
import Derived.Test.YtjkaeimchnfhkaaDoorBp
import Derived.Lib.AtoiAll
import Derived.Lib.ItoaNum
set_option linter.unusedVariables false
set_option linter.unusedSimpArgs false
namespace Go.Proofs.YtjkaeimchnfhkaaDoor.Bd
open Go

def text (b : Int) : List UInt8 := if near b = 4611686018427387904 then [110, 111, 110, 101] else Lib.itoa (near b)
def parse (l : List UInt8) : Int × Int :=
  if l = [110, 111, 110, 101] then (4611686018427387904, 0) else
  match Lib.atoiAll l with
  | .ok n => if right n = true ∧ text n = l then (n, 0) else (0, 1)
  | _ => (0, 1)

theorem dig_nat (p : Nat) (h : p < 10) : (UInt8.ofNat (48 + p)).toNat = 48 + p := by simp; omega
theorem dec_ne (u : Nat) : Lib.decDigits u ≠ [] := by
  rw [Lib.decDigits]; split <;> simp
/-- The first byte is a digit. -/
theorem dec_head (u : Nat) : ∃ c r, Lib.decDigits u = c :: r ∧ 48 ≤ c.toNat ∧ c.toNat ≤ 57 := by
  induction u using Nat.strongRecOn with
  | _ u ih =>
    by_cases h : u < 10
    · refine ⟨UInt8.ofNat (48 + u), [], by rw [Lib.decDigits, dif_pos h], ?_, ?_⟩ <;> rw [dig_nat u h] <;> omega
    · obtain ⟨c, r, e, h1, h2⟩ := ih (u / 10) (by omega)
      exact ⟨c, r ++ [UInt8.ofNat (48 + u % 10)], by rw [Lib.decDigits, dif_neg h, e]; rfl, h1, h2⟩

theorem parse10_append (l r : List UInt8) (a b : Nat) (h : Lib.parseUint10 a l = .ok b) : Lib.parseUint10 a (l ++ r) = Lib.parseUint10 b r := by
  induction l generalizing a with
  | nil => simp only [Lib.parseUint10] at h; injection h with h; subst h; rfl
  | cons c t ih =>
    simp only [List.cons_append, Lib.parseUint10] at h ⊢
    split at h
    · rename_i hc
      rw [if_pos hc]
      split at h
      · cases h
      · rename_i hb
        rw [if_neg hb]
        split at h
        · cases h
        · rename_i hd
          rw [if_neg hd]
          exact ih _ h
    · cases h
theorem parse10_dec (u : Nat) (h : u < 9223372036854775808) : Lib.parseUint10 0 (Lib.decDigits u) = .ok u := by
  induction u using Nat.strongRecOn with
  | _ u ih =>
    by_cases h1 : u < 10
    · rw [Lib.decDigits, dif_pos h1]
      simp only [Lib.parseUint10]
      rw [dig_nat u h1, if_pos (by omega), if_neg (by omega), if_neg (by omega)]
      congr 1; omega
    · rw [Lib.decDigits, dif_neg h1, parse10_append _ _ _ _ (ih (u / 10) (by omega) (by omega))]
      simp only [Lib.parseUint10]
      rw [dig_nat (u % 10) (by omega), if_pos (by omega), if_neg (by omega), if_neg (by omega)]
      congr 1; omega

theorem atoi_itoa (n : Int) (h : -4611686018427387904 ≤ n ∧ n ≤ 4611686018427387904) : Lib.atoiAll (Lib.itoa n) = .ok n := by
  unfold Lib.itoa
  by_cases hn : n < 0
  · rw [if_pos hn]
    simp only [Lib.atoiAll]
    rw [if_pos (by right; rfl)]
    unfold Lib.parseMag
    rw [if_neg (dec_ne _), parse10_dec _ (by omega)]
    simp
    rw [if_neg (by omega)]
    congr 1
    omega
  · rw [if_neg hn]
    obtain ⟨c, r, e, h1, h2⟩ := dec_head n.toNat
    have hp := parse10_dec n.toNat (by omega)
    rw [e] at hp ⊢
    simp only [Lib.atoiAll]
    rw [if_neg (by omega)]
    unfold Lib.parseMag
    rw [if_neg (by simp), hp]
    simp only
    rw [if_neg (by omega), if_neg (by omega), if_neg (by omega)]
    congr 1
    omega

theorem itoa_head (n : Int) : ∃ c r, Lib.itoa n = c :: r ∧ c.toNat ≤ 57 := by
  unfold Lib.itoa
  split
  · exact ⟨45, _, rfl, by decide⟩
  · obtain ⟨c, r, e, h1, h2⟩ := dec_head n.toNat
    exact ⟨c, r, e, h2⟩
theorem itoa_not (n : Int) : Lib.itoa n ≠ [110, 111, 110, 101] := by
  obtain ⟨c, r, e, h⟩ := itoa_head n
  rw [e]
  intro h2
  injection h2 with h3 _
  subst h3
  exact absurd h (by decide)
theorem text_near (b : Int) : text (near b) = text b := by
  unfold text; rw [near_of_right (near_right b)]

theorem parse_text (b : Int) : parse (text b) = (near b, 0) := by
  unfold parse
  by_cases h : near b = 4611686018427387904
  · have e : text b = [110, 111, 110, 101] := by unfold text; rw [if_pos h]
    rw [e, if_pos rfl, h]
  · have e : text b = Lib.itoa (near b) := by unfold text; rw [if_neg h]
    have hc := near_cases b
    rw [e, if_neg (itoa_not _), atoi_itoa _ (by omega)]
    simp only
    rw [if_pos ⟨near_right b, by rw [text_near, e]⟩]
/-- What is read is written as it was. -/
theorem parse_ok {l : List UInt8} {n : Int} (h : parse l = (n, 0)) : text n = l ∧ right n = true := by
  unfold parse at h
  split at h
  · rename_i e
    injection h with h _
    subst h
    exact ⟨by rw [e]; rfl, rfl⟩
  · split at h
    · split at h
      · rename_i hc
        injection h with h _
        subst h
        exact ⟨hc.2, hc.1⟩
      · injection h with _ h
        exact absurd h (by decide)
    · injection h with _ h
      exact absurd h (by decide)
theorem parse_err (l : List UInt8) : (parse l).2 = 0 ∨ parse l = (0, 1) := by
  unfold parse
  split
  · exact .inl rfl
  · split
    · split
      · exact .inl rfl
      · exact .inr rfl
    · exact .inr rfl
end Go.Proofs.YtjkaeimchnfhkaaDoor.Bd
