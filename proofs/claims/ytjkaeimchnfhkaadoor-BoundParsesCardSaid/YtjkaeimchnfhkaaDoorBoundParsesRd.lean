/- What the printed functions of the document's package 01 come to: a number's digits. -/
import Derived.Test.YtjkaeimchnfhkaaDoorPBoundParsesx44
import Derived.Test.YtjkaeimchnfhkaaDoorBoundParsesBv
import Derived.Test.YtjkaeimchnfhkaaDoorBs
import Derived.Lib.ItoaLen
import Derived.Laws.Strings
set_option linter.unusedVariables false
set_option linter.unusedSimpArgs false
namespace Go.Proofs.YtjkaeimchnfhkaaDoor.PBoundParses
open Go Go.RowKit Go.Proofs.YtjkaeimchnfhkaaDoorW.PrintWords Go.Proofs.YtjkaeimchnfhkaaDoorW.PrintLast Go.Proofs.YtjkaeimchnfhkaaDoorW.PrintMore

theorem one_digit : ∀ p : Fin 10, ((⟨#[48, 49, 50, 51, 52, 53, 54, 55, 56, 57]⟩ : ByteArray).extract p.val (p.val + 1)).data.toList = [UInt8.ofNat (48 + p.val)] := by decide +kernel
theorem bytes_of {s : ByteArray} {l : List UInt8} (h : s.data.toList = l) : s = ⟨l.toArray⟩ := by rw [← h]
theorem dec_len (u : Nat) : ∀ d, u < 10 ^ (d + 1) → (Lib.decDigits u).length ≤ d + 1 := by
  induction u using Nat.strongRecOn with
  | _ u ih =>
    intro d hd
    rw [Lib.decDigits]
    split
    · simp
    · cases d with
      | zero => omega
      | succ d =>
        rw [List.length_append]
        have := ih (u / 10) (by omega) d (by rw [Nat.pow_succ] at hd; omega)
        simp; omega
theorem rdigits_f (d : Nat) : ∀ (k u : Nat), u < 10 ^ (d + 1) → u ≤ 9223372036854775807 → d + 2 ≤ k → d ≤ 30 → helmsmanref01_digits.f k (u : Int) = some ⟨(Lib.decDigits u).toArray⟩ := by
  have base : ∀ (k u : Nat), u < 10 → 1 ≤ k → helmsmanref01_digits.f k (u : Int) = some ⟨(Lib.decDigits u).toArray⟩ := by
    intro k u h hk
    obtain ⟨k, rfl⟩ : ∃ m, k = m + 1 := ⟨k - 1, by omega⟩
    simp only [helmsmanref01_digits.f]
    rw [w64 (by omega), if_pos (by omega), if_pos (by omega), if_pos (by omega), if_pos (by omega), Lib.decDigits, dif_pos h]
    congr 1
    apply bytes_of
    have := one_digit ⟨u, h⟩
    rw [← this]
    have e1 : (u : Int).toNat = u := by omega
    have e2 : ((u : Int) + 1).toNat = u + 1 := by omega
    rw [e1, e2]
  induction d with
  | zero =>
    intro k u h1 h2 hk _
    exact base k u (by simpa using h1) (by omega)
  | succ d ih =>
    intro k u h1 h2 hk h30
    obtain ⟨k, rfl⟩ : ∃ m, k = m + 1 := ⟨k - 1, by omega⟩
    by_cases h : u < 10
    · exact base (k + 1) u h (by omega)
    · simp only [helmsmanref01_digits.f]
      have e1 : (u : Int).tdiv 10 = ((u / 10 : Nat) : Int) := rfl
      have e2 : (u : Int).tmod 10 = ((u % 10 : Nat) : Int) := rfl
      rw [Nat.pow_succ] at h1
      rw [if_neg (by omega), e1, e2, w64 (by omega), ih k (u / 10) (by omega) (by omega) (by omega) (by omega), base k (u % 10) (by omega) (by omega)]
      simp only [Option.bind_some]
      have hl := dec_len (u / 10) d (by omega)
      have hs : (⟨(Lib.decDigits (u / 10)).toArray⟩ : ByteArray).size ≤ d + 1 := by simpa [ByteArray.size] using hl
      have hs2 : (⟨(Lib.decDigits (u % 10)).toArray⟩ : ByteArray).size = 1 := by
        rw [Lib.decDigits, dif_pos (by omega)]; rfl
      rw [if_pos (by omega)]
      congr 1
      apply bytes_of
      rw [Lib.decDigits.eq_def u, dif_neg h, Lib.decDigits.eq_def (u % 10), dif_pos (show u % 10 < 10 by omega)]
      simp
theorem rDigits_f (n : Int) (h : -4611686018427387904 ≤ n ∧ n ≤ 4611686018427387904) : helmsmanref01_Digits.f 30 n = some ⟨(Lib.itoa n).toArray⟩ := by
  unfold helmsmanref01_Digits.f Lib.itoa
  by_cases h0 : n < 0
  · rw [if_pos h0, if_pos h0, w64 (by omega), show -n = ((n.natAbs : Nat) : Int) by omega, rdigits_f 18 30 n.natAbs (by omega) (by omega) (by omega) (by omega)]
    simp only [Option.bind_some]
    have hl := dec_len n.natAbs 18 (by omega)
    have hs : (⟨(Lib.decDigits n.natAbs).toArray⟩ : ByteArray).size ≤ 19 := by simpa [ByteArray.size] using hl
    rw [if_pos (by omega)]
    congr 1
  · rw [if_neg h0, if_neg h0]
    have hd := rdigits_f 18 30 n.toNat (by omega) (by omega) (by omega) (by omega)
    rw [show ((n.toNat : Nat) : Int) = n by omega] at hd
    rw [hd]; rfl
end Go.Proofs.YtjkaeimchnfhkaaDoor.PBoundParses
