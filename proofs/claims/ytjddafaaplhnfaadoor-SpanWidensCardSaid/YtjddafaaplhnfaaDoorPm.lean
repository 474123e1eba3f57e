/- Texts of this claim, one behind the other: Bp, Bs, Sq, Se, Sn, Ap, Tb, St. -/
import Derived.Lib.AtoiAll
import Derived.Lib.ItoaNum
import Derived.WalkKit
import Derived.Maps.AppendAt
import Derived.Deep.RegionLaw
import Derived.Lib.Hide
import Derived.Test.YtjddafaaplhnfaaDoorShelf
import Derived.Test.YtjddafaaplhnfaaDoorRows
import Derived.Lib.LaidTab
import Derived.Test.YtjddafaaplhnfaaDoorWMore
import Derived.Test.YtjddafaaplhnfaaDoorWFour
set_option linter.unusedVariables false
namespace Go.Proofs.YtjddafaaplhnfaaDoor.Bd

def inn (n : Int) : Bool := decide (-1152921504606846976 ≤ n) && decide (n ≤ 1152921504606846976)
theorem inn_iff {n : Int} : inn n = true ↔ -1152921504606846976 ≤ n ∧ n ≤ 1152921504606846976 := by simp [inn]
theorem inn_not {n : Int} : inn n = false ↔ n < -1152921504606846976 ∨ 1152921504606846976 < n := by
  rw [← Bool.not_eq_true, inn_iff]; omega
def told (n : Int) : Int × Int := if inn n = true then (n, 0) else (0, 10)
def calc' (op a b : Int) : Int × Int :=
  if op < 0 ∨ 3 < op ∨ inn a = false ∨ inn b = false then (0, 1) else
  if op = 0 then told (a + b) else if op = 1 then told (a - b) else if op = 2 then told (a * b) else if b = 0 then (0, 11) else told (a.tdiv b)
def right (b : Int) : Bool := (decide (-2305843009213693952 ≤ b) && decide (b ≤ 2305843009213693952)) || b == 4611686018427387904
theorem right_iff {b : Int} : right b = true ↔ (-2305843009213693952 ≤ b ∧ b ≤ 2305843009213693952) ∨ b = 4611686018427387904 := by simp [right]
def near (b : Int) : Int := if b > 2305843009213693952 then 4611686018427387904 else if b < -2305843009213693952 then -2305843009213693952 else b
def add (a b : Int) : Int := if near a = 4611686018427387904 then 4611686018427387904 else if near b = 4611686018427387904 then 4611686018427387904 else near (near a + near b)
def leq (a b : Int) : Bool := decide (near a ≤ near b)

theorem near_right (b : Int) : right (near b) = true := by
  rw [right_iff]; unfold near; split
  · omega
  · split <;> omega
theorem near_of_right {b : Int} (h : right b = true) : near b = b := by
  rw [right_iff] at h; unfold near; split
  · omega
  · split <;> omega
theorem near_cases (b : Int) : near b = 4611686018427387904 ∨ (-2305843009213693952 ≤ near b ∧ near b ≤ 2305843009213693952) := by
  have := near_right b
  rw [right_iff] at this
  omega
theorem add_right (a b : Int) : right (add a b) = true := by
  unfold add
  split
  · rfl
  · split
    · rfl
    · exact near_right _
theorem add_comm (a b : Int) : add a b = add b a := by
  unfold add
  by_cases h1 : near a = 4611686018427387904
  · rw [if_pos h1]; by_cases h2 : near b = 4611686018427387904
    · rw [if_pos h2]
    · rw [if_neg h2, if_pos h1]
  · rw [if_neg h1]
    by_cases h2 : near b = 4611686018427387904
    · rw [if_pos h2, if_pos h2]
    · rw [if_neg h2, if_neg h2, if_neg h1, Int.add_comm]

theorem tdiv_mul_self {a b : Int} (hb : b ≠ 0) : (a * b).tdiv b = a := Int.mul_tdiv_cancel a hb

theorem calc_in {op a b n : Int} (h : calc' op a b = (n, 0)) : inn a = true ∧ inn b = true ∧ inn n = true := by
  have ht : ∀ x, told x = (n, 0) → inn n = true := fun x h => by
    unfold told at h
    split at h
    · injection h with h _; subst h; assumption
    · injection h with _ h; exact absurd h (by decide)
  unfold calc' at h
  split at h
  · injection h with _ h; exact absurd h (by decide)
  · rename_i hc
    have ha : inn a = true := by
      cases hh : inn a
      · exact absurd (.inr (.inr (.inl hh))) hc
      · rfl
    have hb : inn b = true := by
      cases hh : inn b
      · exact absurd (.inr (.inr (.inr hh))) hc
      · rfl
    refine ⟨ha, hb, ?_⟩
    split at h
    · exact ht _ h
    · split at h
      · exact ht _ h
      · split at h
        · exact ht _ h
        · split at h
          · injection h with _ h; exact absurd h (by decide)
          · exact ht _ h
theorem told_ok {x n : Int} (h : told x = (n, 0)) : n = x ∧ inn x = true := by
  unfold told at h
  split at h
  · injection h with h _; exact ⟨h.symm, by assumption⟩
  · injection h with _ h; exact absurd h (by decide)
theorem calc_of {a b : Int} (ha : inn a = true) (hb : inn b = true) : calc' 0 a b = told (a + b) ∧ calc' 1 a b = told (a - b) ∧ calc' 2 a b = told (a * b) ∧ (b ≠ 0 → calc' 3 a b = told (a.tdiv b)) := by
  refine ⟨?_, ?_, ?_, fun h => ?_⟩ <;> unfold calc' <;> rw [if_neg (by rw [ha, hb]; simp)]
  · rfl
  · rfl
  · rfl
  · rw [if_neg (by decide), if_neg (by decide), if_neg (by decide), if_neg h]
theorem plus_undo {a b s : Int} (h : calc' 0 a b = (s, 0)) : calc' 1 s b = (a, 0) := by
  obtain ⟨ha, hb, hs⟩ := calc_in h
  rw [(calc_of ha hb).1] at h
  obtain ⟨e, _⟩ := told_ok h
  rw [(calc_of hs hb).2.1, e, Int.add_sub_cancel]
  unfold told; rw [if_pos ha]
theorem times_undo {a b p : Int} (h : calc' 2 a b = (p, 0)) (h0 : b ≠ 0) : calc' 3 p b = (a, 0) := by
  obtain ⟨ha, hb, hs⟩ := calc_in h
  rw [(calc_of ha hb).2.2.1] at h
  obtain ⟨e, _⟩ := told_ok h
  rw [(calc_of hs hb).2.2.2 h0, e, Int.mul_tdiv_cancel a h0]
  unfold told; rw [if_pos ha]

/-- What two whole numbers are not above, their sum is not above. -/
theorem sound {x y a b : Int} (hx : inn x = true) (hy : inn y = true) (h1 : leq x a = true) (h2 : leq y b = true) : leq (x + y) (add a b) = true := by
  rw [inn_iff] at hx hy
  unfold leq at *
  rw [decide_eq_true_eq] at *
  rw [near_of_right (add_right a b)]
  unfold add
  have e1 : near x = x := by unfold near; rw [if_neg (by omega), if_neg (by omega)]
  have e2 : near y = y := by unfold near; rw [if_neg (by omega), if_neg (by omega)]
  have e3 : near (x + y) = x + y := by unfold near; rw [if_neg (by omega), if_neg (by omega)]
  rw [e1] at h1
  rw [e2] at h2
  rw [e3]
  by_cases c1 : near a = 4611686018427387904
  · rw [if_pos c1]; omega
  · rw [if_neg c1]
    by_cases c2 : near b = 4611686018427387904
    · rw [if_pos c2]; omega
    · rw [if_neg c2]
      generalize near a = p at *
      generalize near b = q at *
      unfold near
      split
      · omega
      · split <;> omega

def cut (x y : Int) : Bool := (x != 4611686018427387904) && ((y != 4611686018427387904) && (decide (x + y < -2305843009213693952) || decide (x + y > 2305843009213693952)))
theorem three {a b c : Int} (ha : right a = true) (hb : right b = true) (hc : right c = true) (h1 : cut a b = false) (h2 : cut b c = false) : add (add a b) c = add a (add b c) := by
  have na := near_of_right ha
  have nb := near_of_right hb
  have nc := near_of_right hc
  have rab := near_of_right (add_right a b)
  have rbc := near_of_right (add_right b c)
  rw [right_iff] at ha hb hc
  by_cases a0 : a = 4611686018427387904
  · subst a0
    have e : add 4611686018427387904 b = 4611686018427387904 := by unfold add; rw [na, if_pos rfl]
    have e2 : ∀ z, add 4611686018427387904 z = 4611686018427387904 := fun z => by unfold add; rw [na, if_pos rfl]
    rw [e, e2, e2]
  · by_cases b0 : b = 4611686018427387904
    · subst b0
      have e2 : ∀ z, add 4611686018427387904 z = 4611686018427387904 := fun z => by unfold add; rw [nb, if_pos rfl]
      rw [e2, add_comm a, e2, e2]
    · by_cases c0 : c = 4611686018427387904
      · subst c0
        have e2 : ∀ z, add z 4611686018427387904 = 4611686018427387904 := fun z => by rw [add_comm]; unfold add; rw [nc, if_pos rfl]
        rw [e2, e2, e2]
      · have g1 : -2305843009213693952 ≤ a + b ∧ a + b ≤ 2305843009213693952 := by
          simp [cut, a0, b0] at h1; omega
        have g2 : -2305843009213693952 ≤ b + c ∧ b + c ≤ 2305843009213693952 := by
          simp [cut, b0, c0] at h2; omega
        have n0 : ∀ z : Int, -2305843009213693952 ≤ z ∧ z ≤ 2305843009213693952 → near z = z := fun z h => by unfold near; rw [if_neg (by omega), if_neg (by omega)]
        have e1 : add a b = a + b := by unfold add; rw [na, nb, if_neg a0, if_neg b0, n0 _ g1]
        have e2 : add b c = b + c := by unfold add; rw [nb, nc, if_neg b0, if_neg c0, n0 _ g2]
        rw [e1, e2]
        unfold add
        rw [na, nc, n0 _ g1, n0 _ g2, if_neg (by omega), if_neg c0, if_neg a0, if_neg (by omega), Int.add_assoc]
end Go.Proofs.YtjddafaaplhnfaaDoor.Bd

set_option linter.unusedVariables false
set_option linter.unusedSimpArgs false
namespace Go.Proofs.YtjddafaaplhnfaaDoor.Bd
open Go

def text (b : Int) : List UInt8 := if near b = 4611686018427387904 then [110, 111, 110, 101] else Lib.itoa (near b)
def parse (l : List UInt8) : Int × Int :=
  if l = [110, 111, 110, 101] then (4611686018427387904, 0) else
  match Lib.atoiAll l with
  | .ok n => if right n = true ∧ text n = l then (n, 0) else (0, 1)
  | _ => (0, 1)

theorem dig_nat (p : Nat) (h : p < 10) : (UInt8.ofNat (48 + p)).toNat = 48 + p := by simp; omega
theorem dec_ne (u : Nat) : Lib.decDigits u ≠ [] := by
  rw [Lib.decDigits]; split <;> simp
/-- The first byte is a digit. -/
theorem dec_head (u : Nat) : ∃ c r, Lib.decDigits u = c :: r ∧ 48 ≤ c.toNat ∧ c.toNat ≤ 57 := by
  induction u using Nat.strongRecOn with
  | _ u ih =>
    by_cases h : u < 10
    · refine ⟨UInt8.ofNat (48 + u), [], by rw [Lib.decDigits, dif_pos h], ?_, ?_⟩ <;> rw [dig_nat u h] <;> omega
    · obtain ⟨c, r, e, h1, h2⟩ := ih (u / 10) (by omega)
      exact ⟨c, r ++ [UInt8.ofNat (48 + u % 10)], by rw [Lib.decDigits, dif_neg h, e]; rfl, h1, h2⟩

theorem parse10_append (l r : List UInt8) (a b : Nat) (h : Lib.parseUint10 a l = .ok b) : Lib.parseUint10 a (l ++ r) = Lib.parseUint10 b r := by
  induction l generalizing a with
  | nil => simp only [Lib.parseUint10] at h; injection h with h; subst h; rfl
  | cons c t ih =>
    simp only [List.cons_append, Lib.parseUint10] at h ⊢
    split at h
    · rename_i hc
      rw [if_pos hc]
      split at h
      · cases h
      · rename_i hb
        rw [if_neg hb]
        split at h
        · cases h
        · rename_i hd
          rw [if_neg hd]
          exact ih _ h
    · cases h
theorem parse10_dec (u : Nat) (h : u < 9223372036854775808) : Lib.parseUint10 0 (Lib.decDigits u) = .ok u := by
  induction u using Nat.strongRecOn with
  | _ u ih =>
    by_cases h1 : u < 10
    · rw [Lib.decDigits, dif_pos h1]
      simp only [Lib.parseUint10]
      rw [dig_nat u h1, if_pos (by omega), if_neg (by omega), if_neg (by omega)]
      congr 1; omega
    · rw [Lib.decDigits, dif_neg h1, parse10_append _ _ _ _ (ih (u / 10) (by omega) (by omega))]
      simp only [Lib.parseUint10]
      rw [dig_nat (u % 10) (by omega), if_pos (by omega), if_neg (by omega), if_neg (by omega)]
      congr 1; omega

theorem atoi_itoa (n : Int) (h : -4611686018427387904 ≤ n ∧ n ≤ 4611686018427387904) : Lib.atoiAll (Lib.itoa n) = .ok n := by
  unfold Lib.itoa
  by_cases hn : n < 0
  · rw [if_pos hn]
    simp only [Lib.atoiAll]
    rw [if_pos (by right; rfl)]
    unfold Lib.parseMag
    rw [if_neg (dec_ne _), parse10_dec _ (by omega)]
    simp
    rw [if_neg (by omega)]
    congr 1
    omega
  · rw [if_neg hn]
    obtain ⟨c, r, e, h1, h2⟩ := dec_head n.toNat
    have hp := parse10_dec n.toNat (by omega)
    rw [e] at hp ⊢
    simp only [Lib.atoiAll]
    rw [if_neg (by omega)]
    unfold Lib.parseMag
    rw [if_neg (by simp), hp]
    simp only
    rw [if_neg (by omega), if_neg (by omega), if_neg (by omega)]
    congr 1
    omega

theorem itoa_head (n : Int) : ∃ c r, Lib.itoa n = c :: r ∧ c.toNat ≤ 57 := by
  unfold Lib.itoa
  split
  · exact ⟨45, _, rfl, by decide⟩
  · obtain ⟨c, r, e, h1, h2⟩ := dec_head n.toNat
    exact ⟨c, r, e, h2⟩
theorem itoa_not (n : Int) : Lib.itoa n ≠ [110, 111, 110, 101] := by
  obtain ⟨c, r, e, h⟩ := itoa_head n
  rw [e]
  intro h2
  injection h2 with h3 _
  subst h3
  exact absurd h (by decide)
theorem text_near (b : Int) : text (near b) = text b := by
  unfold text; rw [near_of_right (near_right b)]

theorem parse_text (b : Int) : parse (text b) = (near b, 0) := by
  unfold parse
  by_cases h : near b = 4611686018427387904
  · have e : text b = [110, 111, 110, 101] := by unfold text; rw [if_pos h]
    rw [e, if_pos rfl, h]
  · have e : text b = Lib.itoa (near b) := by unfold text; rw [if_neg h]
    have hc := near_cases b
    rw [e, if_neg (itoa_not _), atoi_itoa _ (by omega)]
    simp only
    rw [if_pos ⟨near_right b, by rw [text_near, e]⟩]
/-- What is read is written as it was. -/
theorem parse_ok {l : List UInt8} {n : Int} (h : parse l = (n, 0)) : text n = l ∧ right n = true := by
  unfold parse at h
  split at h
  · rename_i e
    injection h with h _
    subst h
    exact ⟨by rw [e]; rfl, rfl⟩
  · split at h
    · split at h
      · rename_i hc
        injection h with h _
        subst h
        exact ⟨hc.2, hc.1⟩
      · injection h with _ h
        exact absurd h (by decide)
    · injection h with _ h
      exact absurd h (by decide)
theorem parse_err (l : List UInt8) : (parse l).2 = 0 ∨ parse l = (0, 1) := by
  unfold parse
  split
  · exact .inl rfl
  · split
    · split
      · exact .inl rfl
      · exact .inr rfl
    · exact .inr rfl
end Go.Proofs.YtjddafaaplhnfaaDoor.Bd

set_option linter.unusedVariables false
set_option linter.unusedSimpArgs false
namespace Go.Proofs.YtjddafaaplhnfaaDoor.Sp
open Bd

/-- A span that has numbers. -/
def ok (l h : Int) : Bool := decide (-1152921504606846976 ≤ l) && (decide (l ≤ h) && decide (h ≤ 1152921504606846976))
theorem ok_iff {l h : Int} : ok l h = true ↔ -1152921504606846976 ≤ l ∧ l ≤ h ∧ h ≤ 1152921504606846976 := by simp [ok]
theorem ok_not {l h : Int} : ok l h = false ↔ ¬ (-1152921504606846976 ≤ l ∧ l ≤ h ∧ h ≤ 1152921504606846976) := by
  rw [← Bool.not_eq_true, ok_iff]
def right (l h : Int) : Bool := ok l h || (l == 1 && h == 0)
def has (l h n : Int) : Bool := ok l h && (decide (l ≤ n) && decide (n ≤ h))
theorem has_iff {l h n : Int} : has l h n = true ↔ ok l h = true ∧ l ≤ n ∧ n ≤ h := by simp [has]
def of (l h : Int) : Int × Int := if max l (-1152921504606846976) ≤ min h 1152921504606846976 then (max l (-1152921504606846976), min h 1152921504606846976) else (1, 0)
def leq (a0 a1 b0 b1 : Int) : Bool := !ok a0 a1 || (ok b0 b1 && (decide (b0 ≤ a0) && decide (a1 ≤ b1)))
def clean (a0 a1 : Int) : Int × Int := if ok a0 a1 = true then (a0, a1) else (1, 0)
def join (a0 a1 b0 b1 : Int) : Int × Int := if ok a0 a1 = true then (if ok b0 b1 = true then (min a0 b0, max a1 b1) else (a0, a1)) else clean b0 b1
def meet (a0 a1 b0 b1 : Int) : Int × Int := if ok a0 a1 = true ∧ ok b0 b1 = true then of (max a0 b0) (min a1 b1) else (1, 0)
def lowS (n : Int) (steps : List Int) (at0 : Int) : Int := steps.foldl (fun a s => if inn s = true ∧ s ≤ n then max a s else a) at0
def highS (n : Int) (steps : List Int) (at0 : Int) : Int := steps.foldl (fun a s => if inn s = true ∧ n ≤ s then min a s else a) at0
def widen (a0 a1 b0 b1 : Int) (steps : List Int) : Int × Int :=
  if leq b0 b1 a0 a1 = true then clean a0 a1 else if ok a0 a1 = false then (b0, b1) else
  (if a0 ≤ b0 then a0 else lowS b0 steps (-1152921504606846976), if b1 ≤ a1 then a1 else highS b1 steps 1152921504606846976)
def narrow (a0 a1 b0 b1 : Int) : Int × Int :=
  if ok a0 a1 = true ∧ ok b0 b1 = true then of (if a0 = -1152921504606846976 then b0 else a0) (if a1 = 1152921504606846976 then b1 else a1) else (1, 0)
def minL : List Int → Int
  | [] => 0
  | x :: r => r.foldl min x
def maxL : List Int → Int
  | [] => 0
  | x :: r => r.foldl max x
def hull (l : List Int) : Int × Int := if l = [] then (1, 0) else of (minL l) (maxL l)
/-- A product, as far as it is between two bounds. -/
def tm (a b : Int) : Int := if -2305843009213693952 < a * b ∧ a * b < 2305843009213693952 then a * b else if a * b < 0 then -2305843009213693952 else 2305843009213693952
def quot (a0 a1 : Int) (p : Int × Int) : List Int := if p = (1, 0) then [] else [a0.tdiv p.1, a0.tdiv p.2, a1.tdiv p.1, a1.tdiv p.2]
def res (op a0 a1 b0 b1 : Int) : List Int :=
  if op = 0 then [a0 + b0, a1 + b1] else if op = 1 then [a0 - b1, a1 - b0] else if op = 2 then [tm a0 b0, tm a0 b1, tm a1 b0, tm a1 b1] else
  quot a0 a1 (meet b0 b1 (-1152921504606846976) (-1)) ++ quot a0 a1 (meet b0 b1 1 1152921504606846976)
def reck (op a0 a1 b0 b1 : Int) : (Int × Int) × Bool :=
  if ok a0 a1 = false ∨ ok b0 b1 = false ∨ op < 0 ∨ 3 < op then ((1, 0), false) else
  (hull (res op a0 a1 b0 b1), (res op a0 a1 b0 b1).any (fun n => !inn n) || (op == 3 && has b0 b1 0))
def text (a0 a1 : Int) : List UInt8 := if ok a0 a1 = true then Lib.itoa a0 ++ [46, 46] ++ Lib.itoa a1 else [110, 111, 110, 101]

theorem dec_len (u : Nat) : ∀ d, u < 10 ^ (d + 1) → (Lib.decDigits u).length ≤ d + 1 := by
  induction u using Nat.strongRecOn with
  | _ u ih =>
    intro d hd
    rw [Lib.decDigits]
    split
    · simp
    · cases d with
      | zero => omega
      | succ d =>
        rw [List.length_append]
        have := ih (u / 10) (by omega) d (by rw [Nat.pow_succ] at hd; omega)
        simp; omega
theorem itoa_len (n : Int) (h : -4611686018427387904 ≤ n ∧ n ≤ 4611686018427387904) : (Lib.itoa n).length ≤ 100 := by
  unfold Lib.itoa
  split
  · have := dec_len n.natAbs 18 (by omega)
    simp; omega
  · have := dec_len n.toNat 18 (by omega)
    omega

theorem of_right (l h : Int) : right (of l h).1 (of l h).2 = true := by
  unfold of right
  split
  · have : ok (max l (-1152921504606846976)) (min h 1152921504606846976) = true := by rw [ok_iff]; omega
    simp only [this, Bool.true_or]
  · rfl
theorem of_id {l h : Int} (hk : ok l h = true) : of l h = (l, h) := by
  rw [ok_iff] at hk
  unfold of
  rw [show max l (-1152921504606846976) = l by omega, show min h 1152921504606846976 = h by omega, if_pos hk.2.1]
theorem meet_neg (b0 b1 : Int) : meet b0 b1 (-1152921504606846976) (-1) = (1, 0) ∨ ((meet b0 b1 (-1152921504606846976) (-1)).1 ≤ -1 ∧ (meet b0 b1 (-1152921504606846976) (-1)).2 ≤ -1) := by
  unfold meet
  split
  · unfold of
    split
    · right; dsimp only; omega
    · exact .inl rfl
  · exact .inl rfl
theorem meet_pos (b0 b1 : Int) : meet b0 b1 1 1152921504606846976 = (1, 0) ∨ (1 ≤ (meet b0 b1 1 1152921504606846976).1 ∧ 1 ≤ (meet b0 b1 1 1152921504606846976).2) := by
  unfold meet
  split
  · unfold of
    split
    · right; dsimp only; omega
    · exact .inl rfl
  · exact .inl rfl
end Go.Proofs.YtjddafaaplhnfaaDoor.Sp

set_option linter.unusedVariables false
set_option linter.unusedSimpArgs false
namespace Go.Proofs.YtjddafaaplhnfaaDoor.Sp
open Bd

theorem lowS_spec (n : Int) (l : List Int) : ∀ x : Int, -1152921504606846976 ≤ x → x ≤ n ∨ x = -1152921504606846976 → (lowS n l x = x ∨ ∃ s ∈ l, inn s = true ∧ s ≤ n ∧ lowS n l x = s) ∧ x ≤ lowS n l x := by
  induction l with
  | nil => intro x _ _; exact ⟨.inl rfl, Int.le_refl _⟩
  | cons s r ih =>
    intro x h0 h1
    unfold lowS
    simp only [List.foldl_cons]
    by_cases c : inn s = true ∧ s ≤ n
    · rw [if_pos c]
      have hs := inn_iff.1 c.1
      by_cases c2 : x ≤ s
      · rw [show max x s = s by omega]
        obtain ⟨h, hle⟩ := ih s (by omega) (.inl c.2)
        refine ⟨.inr ?_, ?_⟩
        · rcases h with h | ⟨t, ht, h3, h4, h5⟩
          · exact ⟨s, by simp, c.1, c.2, h⟩
          · exact ⟨t, by simp [ht], h3, h4, h5⟩
        · exact Int.le_trans c2 hle
      · rw [show max x s = x by omega]
        obtain ⟨h, hle⟩ := ih x h0 h1
        refine ⟨?_, hle⟩
        rcases h with h | ⟨t, ht, h3, h4, h5⟩
        · exact .inl h
        · exact .inr ⟨t, by simp [ht], h3, h4, h5⟩
    · rw [if_neg c]
      obtain ⟨h, hle⟩ := ih x h0 h1
      refine ⟨?_, hle⟩
      rcases h with h | ⟨t, ht, h3, h4, h5⟩
      · exact .inl h
      · exact .inr ⟨t, by simp [ht], h3, h4, h5⟩
theorem highS_spec (n : Int) (l : List Int) : ∀ x : Int, (highS n l x = x ∨ ∃ s ∈ l, inn s = true ∧ n ≤ s ∧ highS n l x = s) ∧ highS n l x ≤ x := by
  induction l with
  | nil => intro x; exact ⟨.inl rfl, Int.le_refl _⟩
  | cons s r ih =>
    intro x
    unfold highS
    simp only [List.foldl_cons]
    by_cases c : inn s = true ∧ n ≤ s
    · rw [if_pos c]
      by_cases c2 : s ≤ x
      · rw [show min x s = s by omega]
        obtain ⟨h, hle⟩ := ih s
        refine ⟨.inr ?_, Int.le_trans hle c2⟩
        rcases h with h | ⟨t, ht, h3, h4, h5⟩
        · exact ⟨s, by simp, c.1, c.2, h⟩
        · exact ⟨t, by simp [ht], h3, h4, h5⟩
      · rw [show min x s = x by omega]
        obtain ⟨h, hle⟩ := ih x
        refine ⟨?_, hle⟩
        rcases h with h | ⟨t, ht, h3, h4, h5⟩
        · exact .inl h
        · exact .inr ⟨t, by simp [ht], h3, h4, h5⟩
    · rw [if_neg c]
      obtain ⟨h, hle⟩ := ih x
      refine ⟨?_, hle⟩
      rcases h with h | ⟨t, ht, h3, h4, h5⟩
      · exact .inl h
      · exact .inr ⟨t, by simp [ht], h3, h4, h5⟩

def cntL (steps : List Int) (x : Int) : Nat := steps.countP (fun s => inn s && decide (s < x)) + (if -1152921504606846976 < x then 1 else 0)
def cntH (steps : List Int) (x : Int) : Nat := steps.countP (fun s => inn s && decide (x < s)) + (if x < 1152921504606846976 then 1 else 0)
theorem count_lt {l : List Int} {p q : Int → Bool} (h : ∀ x, p x = true → q x = true) {s : Int} (hs : s ∈ l) (h1 : q s = true) (h2 : p s = false) : l.countP p < l.countP q := by
  induction l with
  | nil => simp at hs
  | cons a r ih =>
    simp only [List.countP_cons]
    have hle : r.countP p ≤ r.countP q := List.countP_mono_left (fun x _ => h x)
    rcases List.mem_cons.1 hs with rfl | hs
    · rw [h1, h2]; simp; omega
    · have := ih hs
      cases hp : p a
      · cases q a <;> simp <;> omega
      · rw [h a hp]; simp; omega
theorem cntL_le (steps : List Int) (x : Int) : cntL steps x ≤ steps.length + 1 := by
  unfold cntL
  have := List.countP_le_length (p := fun s => inn s && decide (s < x)) (l := steps)
  split <;> omega
theorem cntH_le (steps : List Int) (x : Int) : cntH steps x ≤ steps.length + 1 := by
  unfold cntH
  have := List.countP_le_length (p := fun s => inn s && decide (x < s)) (l := steps)
  split <;> omega
theorem cntL_lt (steps : List Int) {x y : Int} (hxy : y < x) (hx : -1152921504606846976 ≤ y) (h : y = -1152921504606846976 ∨ ∃ s ∈ steps, inn s = true ∧ y = s) : cntL steps y < cntL steps x := by
  unfold cntL
  have mono : ∀ z : Int, (inn z && decide (z < y)) = true → (inn z && decide (z < x)) = true := by
    intro z hz
    simp at hz ⊢
    exact ⟨hz.1, by omega⟩
  rcases h with h | ⟨s, hs, h1, h2⟩
  · have hle := List.countP_mono_left (l := steps) (fun z _ => mono z)
    rw [if_neg (by omega), if_pos (by omega)]
    omega
  · subst h2
    have := count_lt mono hs (by simp [h1, hxy]) (by simp)
    split <;> split <;> omega
theorem cntH_lt (steps : List Int) {x y : Int} (hxy : x < y) (hx : y ≤ 1152921504606846976) (h : y = 1152921504606846976 ∨ ∃ s ∈ steps, inn s = true ∧ y = s) : cntH steps y < cntH steps x := by
  unfold cntH
  have mono : ∀ z : Int, (inn z && decide (y < z)) = true → (inn z && decide (x < z)) = true := by
    intro z hz
    simp at hz ⊢
    exact ⟨hz.1, by omega⟩
  rcases h with h | ⟨s, hs, h1, h2⟩
  · have hle := List.countP_mono_left (l := steps) (fun z _ => mono z)
    rw [if_neg (by omega), if_pos (by omega)]
    omega
  · subst h2
    have := count_lt mono hs (by simp [h1, hxy]) (by simp)
    split <;> split <;> omega

/-- What stands, and how often it has changed. -/
def Inv (steps : List Int) (a0 a1 : Int) (c : Nat) : Prop :=
  ((a0, a1) = ((1, 0) : Int × Int) ∧ c = 0) ∨ (ok a0 a1 = true ∧ c + (cntL steps a0 + cntH steps a1) ≤ 2 * steps.length + 3)
theorem Inv.end {steps : List Int} {a0 a1 : Int} {c : Nat} (h : Inv steps a0 a1 c) : c ≤ 2 * steps.length + 4 := by
  rcases h with ⟨_, h⟩ | ⟨_, h⟩ <;> omega
theorem Inv.step {steps : List Int} {a0 a1 b0 b1 n0 n1 : Int} {c : Nat} (h : Inv steps a0 a1 c) (hw : widen a0 a1 b0 b1 steps = (n0, n1)) : Inv steps n0 n1 (if (n0, n1) = (a0, a1) then c else c + 1) := by
  unfold widen at hw
  by_cases hl : leq b0 b1 a0 a1 = true
  · rw [if_pos hl] at hw
    have he : (n0, n1) = (a0, a1) := by
      rw [← hw]
      unfold clean
      rcases h with ⟨h, _⟩ | ⟨h, _⟩
      · injection h with h1 h2
        subst h1 h2
        rw [if_neg (by decide +kernel)]
      · rw [if_pos h]
    rw [if_pos he]
    injection he with e1 e2
    subst e1 e2
    exact h
  · rw [if_neg hl] at hw
    have hb : ok b0 b1 = true := by
      cases hh : ok b0 b1
      · exact absurd (by unfold leq; rw [hh]; rfl) hl
      · rfl
    have hb' := ok_iff.1 hb
    by_cases ha : ok a0 a1 = false
    · rw [if_pos ha] at hw
      injection hw with e1 e2
      subst e1 e2
      rcases h with ⟨h, hc⟩ | ⟨h, _⟩
      · injection h with h1 h2
        subst h1 h2 hc
        rw [if_neg (by intro e; injection e with e1 e2; omega)]
        have := cntL_le steps b0
        have := cntH_le steps b1
        exact .inr ⟨hb, by omega⟩
      · rw [h] at ha; cases ha
    · rw [if_neg ha] at hw
      have ha : ok a0 a1 = true := by simpa using ha
      have ha' := ok_iff.1 ha
      rcases h with ⟨h, _⟩ | ⟨_, hc⟩
      · injection h with h1 h2
        subst h1 h2
        exact absurd ha (by decide +kernel)
      · injection hw with e1 e2
        have out : ¬ (a0 ≤ b0 ∧ b1 ≤ a1) := fun hh => hl (by unfold leq; rw [hb, ha]; simp [hh.1, hh.2])
        have hL : (a0 ≤ b0 ∧ n0 = a0) ∨ (n0 < a0 ∧ -1152921504606846976 ≤ n0 ∧ cntL steps n0 < cntL steps a0) := by
          by_cases c0 : a0 ≤ b0
          · rw [if_pos c0] at e1; exact .inl ⟨c0, e1.symm⟩
          · rw [if_neg c0] at e1
            obtain ⟨hs, hge⟩ := lowS_spec b0 steps (-1152921504606846976) (by omega) (.inr rfl)
            rw [e1] at hs hge
            have hlt : n0 < a0 := by
              rcases hs with hs | ⟨s, _, _, h3, h4⟩
              · omega
              · omega
            refine .inr ⟨hlt, hge, cntL_lt steps hlt hge ?_⟩
            rcases hs with hs | ⟨s, h1, h2, _, h4⟩
            · exact .inl hs
            · exact .inr ⟨s, h1, h2, h4⟩
        have hH : (b1 ≤ a1 ∧ n1 = a1) ∨ (a1 < n1 ∧ n1 ≤ 1152921504606846976 ∧ cntH steps n1 < cntH steps a1) := by
          by_cases c0 : b1 ≤ a1
          · rw [if_pos c0] at e2; exact .inl ⟨c0, e2.symm⟩
          · rw [if_neg c0] at e2
            obtain ⟨hs, hge⟩ := highS_spec b1 steps 1152921504606846976
            rw [e2] at hs hge
            have hlt : a1 < n1 := by
              rcases hs with hs | ⟨s, _, _, h3, h4⟩
              · omega
              · omega
            refine .inr ⟨hlt, hge, cntH_lt steps hlt hge ?_⟩
            rcases hs with hs | ⟨s, h1, h2, _, h4⟩
            · exact .inl hs
            · exact .inr ⟨s, h1, h2, h4⟩
        have hne : (n0, n1) ≠ (a0, a1) := by
          intro e
          injection e with e1 e2
          rcases hL with h | h
          · rcases hH with g | g
            · exact out ⟨h.1, g.1⟩
            · omega
          · omega
        rw [if_neg hne]
        refine .inr ⟨ok_iff.2 ?_, ?_⟩
        · rcases hL with h | h <;> rcases hH with g | g <;> omega
        · rcases hL with h | h <;> rcases hH with g | g
          · exact absurd ⟨h.1, g.1⟩ out
          · rw [h.2]; omega
          · rw [g.2]; omega
          · omega
end Go.Proofs.YtjddafaaplhnfaaDoor.Sp

set_option linter.unusedVariables false
set_option linter.unusedSimpArgs false
namespace Go.Proofs.YtjddafaaplhnfaaDoor.Sp
open Bd
theorem leq_iff {a0 a1 b0 b1 : Int} : leq a0 a1 b0 b1 = true ↔ ok a0 a1 = false ∨ (ok b0 b1 = true ∧ b0 ≤ a0 ∧ a1 ≤ b1) := by simp [leq]
theorem leq_self (a0 a1 : Int) : leq a0 a1 a0 a1 = true := by
  rw [leq_iff]
  cases h : ok a0 a1
  · exact .inl rfl
  · exact .inr ⟨rfl, Int.le_refl _, Int.le_refl _⟩
theorem lowS_bd {n : Int} (steps : List Int) (h : -1152921504606846976 ≤ n) : -1152921504606846976 ≤ lowS n steps (-1152921504606846976) ∧ lowS n steps (-1152921504606846976) ≤ n := by
  obtain ⟨h1, h2⟩ := lowS_spec n steps (-1152921504606846976) (Int.le_refl _) (.inr rfl)
  refine ⟨h2, ?_⟩
  rcases h1 with h1 | ⟨s, _, _, h3, h4⟩ <;> omega
theorem highS_bd {n : Int} (steps : List Int) (h : n ≤ 1152921504606846976) : highS n steps 1152921504606846976 ≤ 1152921504606846976 ∧ n ≤ highS n steps 1152921504606846976 := by
  obtain ⟨h1, h2⟩ := highS_spec n steps 1152921504606846976
  refine ⟨h2, ?_⟩
  rcases h1 with h1 | ⟨s, _, _, h3, h4⟩ <;> omega
theorem leq_widen (a0 a1 b0 b1 : Int) (steps : List Int) : leq a0 a1 (widen a0 a1 b0 b1 steps).1 (widen a0 a1 b0 b1 steps).2 = true ∧ leq b0 b1 (widen a0 a1 b0 b1 steps).1 (widen a0 a1 b0 b1 steps).2 = true := by
  unfold widen
  by_cases hl : leq b0 b1 a0 a1 = true
  · rw [if_pos hl]
    unfold clean
    cases ha : ok a0 a1
    · rw [if_neg (by simp)]
      rw [leq_iff, ha] at hl
      rcases hl with hl | hl
      · exact ⟨by rw [leq_iff, ha]; exact .inl rfl, by rw [leq_iff, hl]; exact .inl rfl⟩
      · exact absurd hl.1 (by simp)
    · rw [if_pos rfl]; exact ⟨leq_self _ _, hl⟩
  · rw [if_neg hl]
    have hb : ok b0 b1 = true := by
      cases h : ok b0 b1
      · exact absurd (leq_iff.2 (.inl h)) hl
      · rfl
    cases ha : ok a0 a1
    · rw [if_pos rfl]; exact ⟨by rw [leq_iff, ha]; exact .inl rfl, leq_self _ _⟩
    · rw [if_neg (by simp)]
      have ha' := ok_iff.1 ha
      have hb' := ok_iff.1 hb
      obtain ⟨l1, l2⟩ := lowS_bd steps (n := b0) hb'.1
      obtain ⟨g1, g2⟩ := highS_bd steps (n := b1) hb'.2.2
      generalize lowS b0 steps (-1152921504606846976) = x at *
      generalize highS b1 steps 1152921504606846976 = y at *
      dsimp only
      rw [leq_iff, leq_iff, ok_iff]
      split <;> split <;> constructor <;> right <;> omega
theorem leq_meet_narrow (a0 a1 b0 b1 : Int) : leq (meet a0 a1 b0 b1).1 (meet a0 a1 b0 b1).2 (narrow a0 a1 b0 b1).1 (narrow a0 a1 b0 b1).2 = true := by
  unfold meet narrow
  by_cases h : ok a0 a1 = true ∧ ok b0 b1 = true
  · rw [if_pos h, if_pos h]
    have ha' := ok_iff.1 h.1
    have hb' := ok_iff.1 h.2
    unfold of
    by_cases c : max (max a0 b0) (-1152921504606846976) ≤ min (min a1 b1) 1152921504606846976
    · rw [if_pos c, leq_iff]
      right
      rw [if_pos (by split <;> split <;> omega), ok_iff]
      dsimp only
      split <;> split <;> omega
    · rw [if_neg c]; rfl
  · rw [if_neg h, if_neg h]; rfl
theorem narrow_between {a0 a1 b0 b1 : Int} (h : leq b0 b1 a0 a1 = true) : leq b0 b1 (narrow a0 a1 b0 b1).1 (narrow a0 a1 b0 b1).2 = true ∧ leq (narrow a0 a1 b0 b1).1 (narrow a0 a1 b0 b1).2 a0 a1 = true := by
  rw [leq_iff] at h
  unfold narrow
  rcases h with h | ⟨h1, h2, h3⟩
  · rw [if_neg (by rw [h]; simp)]
    exact ⟨leq_iff.2 (.inl h), rfl⟩
  · cases hb : ok b0 b1
    · rw [if_neg (by simp)]; exact ⟨leq_iff.2 (.inl hb), rfl⟩
    · rw [if_pos ⟨h1, rfl⟩]
      have ha' := ok_iff.1 h1
      have hb' := ok_iff.1 hb
      unfold of
      rw [if_pos (by split <;> split <;> omega), leq_iff, leq_iff, ok_iff]
      dsimp only
      refine ⟨.inr ?_, .inr ⟨h1, ?_⟩⟩
      · split <;> split <;> omega
      · split <;> split <;> omega
/-- The document's step: the greatest one that is not above a number. -/
def lowR (n : Int) (steps : List Int) (at0 : Int) : Int := steps.foldl (fun a s => if inn s = true ∧ s ≤ n ∧ a < s then s else a) at0
theorem lowR_eq (n : Int) (steps : List Int) : ∀ x, lowR n steps x = lowS n steps x := by
  unfold lowR lowS
  induction steps with
  | nil => intro x; rfl
  | cons s r ih =>
    intro x
    simp only [List.foldl_cons]
    rw [ih]
    congr 1
    by_cases c : inn s = true ∧ s ≤ n
    · rw [if_pos c]
      by_cases c2 : x < s
      · rw [if_pos ⟨c.1, c.2, c2⟩]; omega
      · rw [if_neg (fun h => c2 h.2.2)]; omega
    · rw [if_neg c, if_neg (fun h => c ⟨h.1, h.2.1⟩)]
/-- The steps with their signs turned. -/
def minus (steps : List Int) : List Int := (steps.filter inn).map fun s => -s
theorem inn_neg (s : Int) : inn (-s) = inn s := by
  have : inn (-s) = true ↔ inn s = true := by rw [inn_iff, inn_iff]; omega
  cases h1 : inn (-s) <;> cases h2 : inn s <;> simp_all
theorem minus_eq (n : Int) (steps : List Int) : ∀ x, -(lowS (-n) (minus steps) (-x)) = highS n steps x := by
  unfold lowS highS minus
  induction steps with
  | nil => intro x; simp
  | cons s r ih =>
    intro x
    cases hs : inn s
    · simp only [List.filter_cons, hs, List.foldl_cons]
      rw [if_neg (by simp)]
      simpa [hs] using ih x
    · simp only [List.filter_cons, hs, List.foldl_cons, if_true, List.map_cons, inn_neg, true_and]
      by_cases c : n ≤ s
      · rw [if_pos c, if_pos (by omega), show max (-x) (-s) = -(min x s) by omega]; exact ih _
      · rw [if_neg c, if_neg (by omega)]; exact ih _
end Go.Proofs.YtjddafaaplhnfaaDoor.Sp

set_option linter.unusedVariables false
set_option linter.unusedSimpArgs false
namespace Go.Proofs.YtjddafaaplhnfaaDoor
open Go Go.RowKit

theorem add_at (b o j : Nat) : (⟨b, o, none⟩ : Addr).add j = ⟨b, o + j, none⟩ := by unfold Addr.add; split <;> simp_all
/-- 'append(s, x...)', x a row that lies in memory. -/
theorem step_append_at {P : Program} {w : World} {ops : Array Oper} {o : Oper} {a : Act} {K : Act → World → Prop} {Q : Exit → Act → World → Prop} {E : Prop} (hgd : o.guard = none) (s x : Operand) (t : TypeId)
    (ho : o.op = .call { callee := .builtin .append, args := #[s, x], argTypes := #[t, t] })
    (base : Nat) (e : TypeId) (i : TypeInfo) (z : Value) (size bytes : Nat) (ht : P.underlying t = some (.slice e)) (hi : P.info? e = some i) (hz : i.zero = some z)
    (hsize : i.size = size) (hby : i.bytes = bytes) (hzs : z.cells.size = size) (hsz : 0 < size)
    (v : Value) (n : Nat) (xs : List Value) (hs : a.eval s = v) (hown : w.ownsRow base e size v n xs)
    (ad : Addr) (m c : Nat) (news : List Value) (hx : a.eval x = .slice (some ad) m c) (hl : news.length = m * size) (hnews : ∀ j u, news[j]? = some u → w.cell? (ad.add j) = some u) (h1 : ∀ u ∈ news, u.oneCell' = true)
    (h63 : n + m ≤ maxLen) (hbytes : (n + m) * bytes ≤ 140737488355328) (hbase : base ≤ w.heap.size)
    (h : ∀ v' w', w'.ownsRow base e size v' (n + m) (xs ++ news) → w.grownBy w' v.ownBlock → (v'.ownBlock = v.ownBlock ∨ v'.ownBlock = some w.heap.size) → K (a.put o.dst v') w') :
    if Region.wanted o (yielded ops a.tmps) = true then Oper.wp P o a w K Q else E := by
  have hw : Region.wanted o (yielded ops a.tmps) = true := by simp [Region.wanted, hgd]
  rw [if_pos hw]
  obtain ⟨v', w', hr, h2, h3, h4, h5⟩ := run_append_own_at (P := P) w base t o.type e i z size bytes ht hi hz hsize hby hzs hsz v n xs hown ad m c news hl hnews h1 h63 hbytes hbase
  unfold Oper.wp execOp
  simp only [ho, resolve, invoke, builtin, Sem.run_bind, Sem.run_pure, Result.andThen_ok, List.map_toArray, List.map_cons, List.map_nil, hs, hx, hr]
  exact h v' w' h2 h3 h5
/-- The same, outside a region that draws. -/
theorem wpList_append_at {P : Program} {w : World} {ops : Array Oper} {rest : List Oper} {o : Oper} {a : Act} {Q : Exit → Act → World → Prop} (hgd : o.guard = none) (s x : Operand) (t : TypeId)
    (ho : o.op = .call { callee := .builtin .append, args := #[s, x], argTypes := #[t, t] })
    (base : Nat) (e : TypeId) (i : TypeInfo) (z : Value) (size bytes : Nat) (ht : P.underlying t = some (.slice e)) (hi : P.info? e = some i) (hz : i.zero = some z)
    (hsize : i.size = size) (hby : i.bytes = bytes) (hzs : z.cells.size = size) (hsz : 0 < size)
    (v : Value) (n : Nat) (xs : List Value) (hs : a.eval s = v) (hown : w.ownsRow base e size v n xs)
    (ad : Addr) (m c : Nat) (news : List Value) (hx : a.eval x = .slice (some ad) m c) (hl : news.length = m * size) (hnews : ∀ j u, news[j]? = some u → w.cell? (ad.add j) = some u) (h1 : ∀ u ∈ news, u.oneCell' = true)
    (h63 : n + m ≤ maxLen) (hbytes : (n + m) * bytes ≤ 140737488355328) (hbase : base ≤ w.heap.size)
    (h : ∀ v' w', w'.ownsRow base e size v' (n + m) (xs ++ news) → w.grownBy w' v.ownBlock → (v'.ownBlock = v.ownBlock ∨ v'.ownBlock = some w.heap.size) → wpList P ops Q rest (a.put o.dst v') w') : wpList P ops Q (o :: rest) a w := by
  refine wpList_plain hgd fun K hK => ?_
  obtain ⟨v', w', hr, h2, h3, h4, h5⟩ := run_append_own_at (P := P) w base t o.type e i z size bytes ht hi hz hsize hby hzs hsz v n xs hown ad m c news hl hnews h1 h63 hbytes hbase
  unfold Oper.wp execOp
  simp only [ho, resolve, invoke, builtin, Sem.run_bind, Sem.run_pure, Result.andThen_ok, List.map_toArray, List.map_cons, List.map_nil, hs, hx, hr]
  exact hK _ _ (h v' w' h2 h3 h5)
end Go.Proofs.YtjddafaaplhnfaaDoor

set_option linter.unusedVariables false
set_option linter.unusedSimpArgs false
namespace Go.Proofs.YtjddafaaplhnfaaDoor
open Go.RowKit

theorem Below.drewN' {B : Nat} {a w : World} (h : Below B a w) (n : Nat) : Below B a (w.drewN n) := ⟨h.os, h.tape, h.output, h.size, h.block⟩
theorem Below.push {B : Nat} {a w : World} (h : Below B a w) (hB : B ≤ a.heap.size) (o : Obj) : Below B a (w.alloc o) := h.alloc (Nat.le_trans hB h.size) o
theorem Below.seq_to {w wx w2 : World} (k : Below wx.heap.size wx w2) (h : Below w.heap.size w wx) : Below w.heap.size w w2 := h.trans (k.mono h.size)

structure Tabs (w : World) : Prop where
  pow : Lib.TabIs Tryd.prog w "internal/strconv.uint64pow10" .u64 Lib.pow10Tab

theorem var_below {w w' : World} {n : String} {cs : Array Value} (h : w.var? Tryd.prog n = some cs) (hb : Below w.heap.size w w') : w'.var? Tryd.prog n = some cs := by
  unfold World.var? at h ⊢
  cases hg : Tryd.prog.globalNamed n with
  | none => rw [hg] at h; cases h
  | some g =>
    rw [hg] at h
    simp only [Option.bind_some] at h ⊢
    have hlt : g < w.heap.size := by
      apply Classical.byContradiction
      intro hn
      rw [Array.getElem?_eq_none (by omega)] at h
      cases h
    rw [hb.block g hlt]
    exact h
theorem Tabs.below {w w' : World} (h : Tabs w) (hb : Below w.heap.size w w') : Tabs w' := ⟨var_below h.pow hb⟩
theorem below_grow (w : World) (n : Nat) (os : Array Obj) : Below w.heap.size w (Go.Sort.grow (w.drewN n) os) :=
  ⟨rfl, rfl, rfl, by simp [Go.Sort.grow, World.drewN], fun k hk => by show (w.heap ++ os)[k]? = w.heap[k]?; exact Array.getElem?_append_left hk⟩

theorem tab_pow : Tryd.prog.globalNamed "internal/strconv.uint64pow10" = some 0 := by kernel_rfl
theorem tab_powT : (Tryd.prog.globals[0]?).map (·.type) = some 87 := by kernel_rfl
theorem tab_cellsU64 : Tryd.prog.cellsOf 75 = 1 := by kernel_rfl
theorem tab_cellsTab : Tryd.prog.cellsOf 87 = 20 := by kernel_rfl
end Go.Proofs.YtjddafaaplhnfaaDoor

set_option linter.unusedVariables false
set_option linter.unusedSimpArgs false
namespace Go.Proofs.YtjddafaaplhnfaaDoor
open Go Go.RowKit Go.Proofs.YtjddafaaplhnfaaDoorW.PrintWords
/-- A world with two boxes written. -/
def put2 (w1 : World) (ga gb : Nat) (x0 x1 y0 y1 : Value) : World := (((w1.setCell ⟨ga, 0, none⟩ x0).setCell ⟨ga, 1, none⟩ x1).setCell ⟨gb, 0, none⟩ y0).setCell ⟨gb, 1, none⟩ y1
theorem put2_a {w1 : World} {ga gb : Nat} {a0 a1 : Value} {T : TypeId} (x0 x1 y0 y1 : Value) (pa : w1.heap[ga]? = some (.cells #[a0, a1] T (0, 0))) (ne : ga ≠ gb) : (put2 w1 ga gb x0 x1 y0 y1).heap[ga]? = some (.cells #[x0, x1] T (0, 0)) := by
  have h := blk_far (p := ⟨gb, 1, none⟩) (blk_far (p := ⟨gb, 0, none⟩) (blk_set (blk_set pa 0 x0) 1 x1) ne y0) ne y1
  exact h
theorem put2_b {w1 : World} {ga gb : Nat} {b0 b1 : Value} {T : TypeId} (x0 x1 y0 y1 : Value) (pb : w1.heap[gb]? = some (.cells #[b0, b1] T (0, 0))) (ne : ga ≠ gb) : (put2 w1 ga gb x0 x1 y0 y1).heap[gb]? = some (.cells #[y0, y1] T (0, 0)) := by
  have h := blk_set (blk_set (blk_far (p := ⟨ga, 1, none⟩) (blk_far (p := ⟨ga, 0, none⟩) pb ne.symm x0) ne.symm x1) 0 y0) 1 y1
  exact h
theorem put2_far {w1 : World} {ga gb k : Nat} {o : Obj} (x0 x1 y0 y1 : Value) (p : w1.heap[k]? = some o) (n1 : k ≠ ga) (n2 : k ≠ gb) : (put2 w1 ga gb x0 x1 y0 y1).heap[k]? = some o := by
  unfold put2
  rw [Below.heap_setCell _ _ _ _ n2, Below.heap_setCell _ _ _ _ n2, Below.heap_setCell _ _ _ _ n1, Below.heap_setCell _ _ _ _ n1]
  exact p
theorem put2_below {a w1 : World} {B ga gb : Nat} (x0 x1 y0 y1 : Value) (h : Below B a w1) (h1 : B ≤ ga) (h2 : B ≤ gb) : Below B a (put2 w1 ga gb x0 x1 y0 y1) :=
  (((h.setCell h1 _).setCell h1 _).setCell h2 _).setCell h2 _
end Go.Proofs.YtjddafaaplhnfaaDoor
