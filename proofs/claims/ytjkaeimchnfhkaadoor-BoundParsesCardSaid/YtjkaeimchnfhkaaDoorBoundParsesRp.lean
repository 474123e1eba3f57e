/- What the printed functions of the document's package 01 come to: the bound that a text is. -/
import Derived.Test.YtjkaeimchnfhkaaDoorPBoundParsesx45
import Derived.Test.YtjkaeimchnfhkaaDoorBoundParsesRn
import Derived.Test.YtjkaeimchnfhkaaDoorBoundParsesRd
set_option linter.unusedVariables false
set_option linter.unusedSimpArgs false
namespace Go.Proofs.YtjkaeimchnfhkaaDoor.PBoundParses
open Go Go.RowKit Go.Proofs.YtjkaeimchnfhkaaDoorW.PrintWords Go.Proofs.YtjkaeimchnfhkaaDoorW.PrintLast Go.Proofs.YtjkaeimchnfhkaaDoorW.PrintMore

/-- The number that digits spell, behind another one; none: some sign is no digit, or there are too many. -/
def spell (n : Int) : List UInt8 → Option Int
  | [] => some n
  | c :: r => if c.toNat < 48 ∨ 57 < c.toNat ∨ 230584300921369395 < n then none else spell (n * 10 + (c.toNat - 48)) r
theorem spell_append (l r : List UInt8) (n m : Int) (h : spell n l = some m) : spell n (l ++ r) = spell m r := by
  induction l generalizing n with
  | nil => simp only [spell] at h; injection h with h; subst h; rfl
  | cons c t ih =>
    simp only [List.cons_append, spell] at h ⊢
    split at h
    · cases h
    · rename_i hc; rw [if_neg hc]; exact ih _ h
theorem spell_dec (u : Nat) (h : u ≤ 2305843009213693952) : spell 0 (Lib.decDigits u) = some (u : Int) := by
  induction u using Nat.strongRecOn with
  | _ u ih =>
    by_cases h1 : u < 10
    · rw [Lib.decDigits, dif_pos h1]
      simp only [spell]
      have e := Bd.dig_nat u h1
      rw [if_neg (by omega), e]
      congr 1; omega
    · rw [Lib.decDigits, dif_neg h1, spell_append _ _ _ _ (ih (u / 10) (by omega) (by omega))]
      simp only [spell]
      have e := Bd.dig_nat (u % 10) (by omega)
      rw [if_neg (by omega), e]
      congr 1; omega

/-- What stands behind the loop. -/
def fin1 (s : List UInt8) (m : Int) : Int × Int := if Bd.right m = true ∧ m ≠ 4611686018427387904 ∧ Lib.itoa m = s then (m, 0) else (0, 1)
def fin (s : List UInt8) (neg : Bool) (n : Int) : Int × Int := fin1 s (if neg = true then -n else n)
theorem j3_f (k : Nat) (s : ByteArray) (m : Int) (hk : 30 ≤ k) : helmsmanref01_Parse.j3 (k + 1) s m = some (if Bd.right m = true ∧ m ≠ 4611686018427387904 ∧ Lib.itoa m = s.data.toList then (m, 0) else (0, 1)) := by
  simp only [helmsmanref01_Parse.j3]
  rw [rRight_f]
  simp only [Option.bind_some]
  cases hr : Bd.right m
  · rw [if_neg (by simp), if_neg (by simp)]
  · rw [if_pos rfl, rNone]
    simp only [Option.bind_some]
    by_cases hn : m = 4611686018427387904
    · rw [if_pos hn, if_neg (by simp [hn])]
    · rw [if_neg hn]
      have := Bd.right_iff.1 hr
      have hd : helmsmanref01_Digits.f k m = some ⟨(Lib.itoa m).toArray⟩ := by
        obtain ⟨d, rfl⟩ : ∃ d, k = 30 + d := ⟨k - 30, by omega⟩
        clear hk
        induction d with
        | zero => exact rDigits_f m (by omega)
        | succ d ih => exact helmsmanref01_Digits.mono _ _ _ ih
      rw [hd]
      simp only [Option.bind_some]
      rw [ByteArray.toList_eq, ByteArray.toList_eq]
      by_cases he : Lib.itoa m = s.data.toList
      · rw [if_pos he, if_pos ⟨by simp, hn, he⟩]
      · rw [if_neg he, if_neg (fun h => he h.2.2)]

theorem bt_drop (s : ByteArray) (i : Nat) (h : i < s.size) : s.data.toList.drop i = s[i] :: s.data.toList.drop (i + 1) := by
  have h' : i < s.data.toList.length := by simpa using h
  rw [List.drop_eq_getElem_cons h']; rfl
theorem loop_f (s : ByteArray) (neg : Bool) (hs : s.size ≤ 1000) : ∀ (d : Nat) (k i : Nat) (n : Int), s.size - i = d → i ≤ s.size → d + 32 < k → 0 ≤ n → n ≤ 2305843009213693959 →
    helmsmanref01_Parse.l0 k s (if neg then 1 else 0) n i = some (match spell n (s.data.toList.drop i) with | none => (0, 1) | some m => fin s.data.toList neg m) := by
  intro d
  induction d with
  | zero =>
    intro k i n hd hi hk h0 h1
    obtain ⟨k, rfl⟩ : ∃ m, k = m + 2 := ⟨k - 2, by omega⟩
    have : s.data.toList.drop i = [] := by rw [List.drop_eq_nil_iff]; simp; omega
    rw [this]
    simp only [spell]
    simp only [helmsmanref01_Parse.l0]
    rw [if_neg (by omega)]
    cases neg
    · simp only [Bool.false_eq_true, if_false]
      rw [if_neg (by omega), j3_f _ _ _ (by omega)]; rfl
    · simp only [if_true]
      rw [w64 (by omega), j3_f _ _ _ (by omega)]; rfl
  | succ d ih =>
    intro k i n hd hi hk h0 h1
    obtain ⟨k, rfl⟩ : ∃ m, k = m + 1 := ⟨k - 1, by omega⟩
    have hlt : i < s.size := by omega
    rw [bt_drop s i hlt]
    simp only [spell]
    have hb : bt s (i : Int) = (s[i].toNat : Int) := by
      unfold bt
      rw [dif_pos (by simpa using hlt)]; rfl
    have h255 := s[i].toNat_lt
    simp only [helmsmanref01_Parse.l0]
    rw [if_pos (by omega), if_pos (by omega), hb]
    by_cases c1 : (s[i].toNat : Int) < 48
    · rw [if_pos c1, if_pos (by omega)]
    · rw [if_neg c1]
      by_cases c2 : (s[i].toNat : Int) > 57
      · rw [if_pos c2, if_pos (by omega)]
      · rw [if_neg c2, rEdge]
        simp only [Option.bind_some]
        rw [show wrap64 (Int.tdiv 2305843009213693952 10) = 230584300921369395 by decide +kernel]
        by_cases c3 : n > 230584300921369395
        · rw [if_pos c3, if_pos (by omega)]
        · rw [if_neg c3, if_neg (show ¬ (s[i].toNat < 48 ∨ 57 < s[i].toNat ∨ 230584300921369395 < n) by omega), w64 (n := n * 10) (by omega), show ((s[i].toNat : Int) - 48) % 256 = (s[i].toNat : Int) - 48 by omega, w64 (by omega), w64 (by omega)]
          exact ih k (i + 1) _ (by omega) (by omega) (by omega) (by omega) (by omega)

theorem fin_err (s : List UInt8) (neg : Bool) (n : Int) : fin s neg n = (0, 1) ∨ (∃ m, fin s neg n = (m, 0) ∧ Lib.itoa m = s ∧ Bd.right m = true ∧ m ≠ 4611686018427387904) := by
  unfold fin
  generalize (if neg = true then -n else n) = m
  unfold fin1
  split
  · rename_i h; exact .inr ⟨_, rfl, h.2.2, h.1, h.2.1⟩
  · exact .inl rfl

/-- A text that is no numeral of a bound is none. -/
theorem parse_none {s : List UInt8} (h0 : s ≠ [110, 111, 110, 101]) (h : ∀ m, Bd.right m = true → m ≠ 4611686018427387904 → Lib.itoa m ≠ s) : Bd.parse s = (0, 1) := by
  rcases Bd.parse_err s with e | e
  · have hp : Bd.parse s = ((Bd.parse s).1, 0) := by rw [← e]
    obtain ⟨h1, h2⟩ := Bd.parse_ok hp
    generalize (Bd.parse s).1 = m at *
    exfalso
    unfold Bd.text at h1
    rw [Bd.near_of_right h2] at h1
    split at h1
    · exact h0 h1.symm
    · exact h m h2 (by assumption) h1
  · exact e
theorem parse_num {s : List UInt8} {m : Int} (h1 : Bd.right m = true) (h2 : m ≠ 4611686018427387904) (h3 : Lib.itoa m = s) : Bd.parse s = (m, 0) := by
  have := Bd.parse_text m
  rw [Bd.near_of_right h1, show Bd.text m = s from by unfold Bd.text; rw [Bd.near_of_right h1, if_neg h2, h3]] at this
  exact this

theorem plain_eq (s : List UInt8) (h0 : s ≠ [110, 111, 110, 101]) (neg : Bool) (hneg : neg = true ↔ s.head? = some 45) :
    (match spell 0 (if neg then s.drop 1 else s) with | none => (0, 1) | some m => fin s neg m) = Bd.parse s := by
  by_cases hex : ∃ m, Bd.right m = true ∧ m ≠ 4611686018427387904 ∧ Lib.itoa m = s
  · obtain ⟨m, h1, h2, h3⟩ := hex
    rw [parse_num h1 h2 h3]
    have hr := Bd.right_iff.1 h1
    by_cases hm : m < 0
    · have e : s = 45 :: Lib.decDigits m.natAbs := by rw [← h3]; unfold Lib.itoa; rw [if_pos hm]
      obtain rfl : neg = true := hneg.2 (by rw [e]; rfl)
      have e2 : (if true = true then s.drop 1 else s) = Lib.decDigits m.natAbs := by rw [if_pos rfl, e]; rfl
      rw [e2, spell_dec _ (by omega)]
      show fin1 s (-((m.natAbs : Nat) : Int)) = (m, 0)
      rw [show -((m.natAbs : Nat) : Int) = m by omega]
      unfold fin1
      rw [if_pos ⟨h1, h2, h3⟩]
    · have e : s = Lib.decDigits m.toNat := by rw [← h3]; unfold Lib.itoa; rw [if_neg hm]
      have hneg' : neg = false := by
        cases neg
        · rfl
        · have := hneg.1 rfl
          obtain ⟨c, r, e3, h4, _⟩ := Bd.dec_head m.toNat
          rw [e, e3] at this
          simp at this
          subst this
          exact absurd h4 (by decide)
      subst hneg'
      have e2 : (if false = true then s.drop 1 else s) = Lib.decDigits m.toNat := by rw [if_neg (by simp), e]
      rw [e2, spell_dec _ (by omega)]
      show fin1 s ((m.toNat : Nat) : Int) = (m, 0)
      rw [show ((m.toNat : Nat) : Int) = m by omega]
      unfold fin1
      rw [if_pos ⟨h1, h2, h3⟩]
  · rw [parse_none h0 (fun m h1 h2 h3 => hex ⟨m, h1, h2, h3⟩)]
    split
    · rfl
    · rename_i m _
      rcases fin_err s neg m with e | ⟨q, e, h3, h1, h2⟩
      · exact e
      · exact absurd ⟨q, h1, h2, h3⟩ hex

theorem rParse_f (s : ByteArray) (hs : s.size ≤ 100) : helmsmanref01_Parse.f 200 s = some (Bd.parse s.data.toList) := by
  unfold helmsmanref01_Parse.f
  rw [ByteArray.toList_eq]
  by_cases h0 : s.data.toList = [110, 111, 110, 101]
  · rw [if_pos h0, rNone]
    simp only [Option.bind_some]
    rw [h0]; rfl
  · rw [if_neg h0]
    by_cases hz : (s.size : Int) > 0
    · rw [if_pos hz, if_pos (by omega)]
      have hz' : 0 < s.size := by omega
      have hd := bt_drop s 0 hz'
      rw [List.drop_zero] at hd
      have hb : bt s 0 = (s[0].toNat : Int) := by
        unfold bt
        rw [dif_pos (by simpa using hz')]; rfl
      rw [hb]
      show helmsmanref01_Parse.j0 (199 + 1) s 0 _ = _
      simp only [helmsmanref01_Parse.j0]
      by_cases c : s[0].toNat = 45
      · have c' : s[0] = 45 := UInt8.toNat_inj.1 c
        rw [if_pos (by rw [c]; rfl)]
        show helmsmanref01_Parse.j1 (198 + 1) s 1 = _
        simp only [helmsmanref01_Parse.j1]
        have := loop_f s true (by omega) (s.size - 1) 198 1 0 rfl (by omega) (by omega) (by omega) (by omega)
        have hp := plain_eq s.data.toList h0 true ⟨fun _ => by rw [hd, c']; rfl, fun _ => rfl⟩
        simp only [if_true] at this hp
        rw [show ((1 : Nat) : Int) = 1 from rfl] at this
        rw [this, hp]
      · have c' : s[0] ≠ 45 := fun e => c (by rw [e]; rfl)
        rw [if_neg (by rw [beq_iff_eq]; omega)]
        show helmsmanref01_Parse.j1 (198 + 1) s 0 = _
        simp only [helmsmanref01_Parse.j1]
        have := loop_f s false (by omega) (s.size - 0) 198 0 0 rfl (by omega) (by omega) (by omega) (by omega)
        have hp := plain_eq s.data.toList h0 false ⟨(fun h => by cases h), (fun h => by rw [hd] at h; simp at h; exact absurd h c')⟩
        simp only [Bool.false_eq_true, if_false, List.drop_zero] at this hp
        rw [show ((0 : Nat) : Int) = 0 from rfl] at this
        rw [this, hp]
    · rw [if_neg hz]
      have hd : s.data.toList = [] := by
        have : s.size = 0 := by omega
        have h2 : s.data.toList.length = 0 := by simpa using this
        exact List.length_eq_zero_iff.1 h2
      show helmsmanref01_Parse.j0 (199 + 1) s 0 false = _
      simp only [helmsmanref01_Parse.j0]
      rw [if_neg (by simp)]
      show helmsmanref01_Parse.j1 (198 + 1) s 0 = _
      simp only [helmsmanref01_Parse.j1]
      have := loop_f s false (by omega) (s.size - 0) 198 0 0 rfl (by omega) (by omega) (by omega) (by omega)
      have hp := plain_eq s.data.toList h0 false ⟨(fun h => by cases h), (fun h => by rw [hd] at h; simp at h)⟩
      simp only [Bool.false_eq_true, if_false, List.drop_zero] at this hp
      rw [show ((0 : Nat) : Int) = 0 from rfl] at this
      rw [this, hp]
end Go.Proofs.YtjkaeimchnfhkaaDoor.PBoundParses
