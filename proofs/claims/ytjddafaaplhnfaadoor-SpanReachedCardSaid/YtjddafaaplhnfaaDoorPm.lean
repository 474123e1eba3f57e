/- Texts of this claim, one behind the other: Bp, Bs, Sq, Sr, So, Ap, Tb, St. -/
import Derived.Lib.AtoiAll
import Derived.Lib.ItoaNum
import Derived.WalkKit
import Derived.Maps.AppendAt
import Derived.Deep.RegionLaw
import Derived.Lib.Hide
import Derived.Test.YtjddafaaplhnfaaDoorShelf
import Derived.Test.YtjddafaaplhnfaaDoorRows
import Derived.Lib.LaidTab
import Derived.Test.YtjddafaaplhnfaaDoorWMore
import Derived.Test.YtjddafaaplhnfaaDoorWFour
set_option linter.unusedVariables false
namespace Go.Proofs.YtjddafaaplhnfaaDoor.Bd

def inn (n : Int) : Bool := decide (-1152921504606846976 ≤ n) && decide (n ≤ 1152921504606846976)
theorem inn_iff {n : Int} : inn n = true ↔ -1152921504606846976 ≤ n ∧ n ≤ 1152921504606846976 := by simp [inn]
theorem inn_not {n : Int} : inn n = false ↔ n < -1152921504606846976 ∨ 1152921504606846976 < n := by
  rw [← Bool.not_eq_true, inn_iff]; omega
def told (n : Int) : Int × Int := if inn n = true then (n, 0) else (0, 10)
def calc' (op a b : Int) : Int × Int :=
  if op < 0 ∨ 3 < op ∨ inn a = false ∨ inn b = false then (0, 1) else
  if op = 0 then told (a + b) else if op = 1 then told (a - b) else if op = 2 then told (a * b) else if b = 0 then (0, 11) else told (a.tdiv b)
def right (b : Int) : Bool := (decide (-2305843009213693952 ≤ b) && decide (b ≤ 2305843009213693952)) || b == 4611686018427387904
theorem right_iff {b : Int} : right b = true ↔ (-2305843009213693952 ≤ b ∧ b ≤ 2305843009213693952) ∨ b = 4611686018427387904 := by simp [right]
def near (b : Int) : Int := if b > 2305843009213693952 then 4611686018427387904 else if b < -2305843009213693952 then -2305843009213693952 else b
def add (a b : Int) : Int := if near a = 4611686018427387904 then 4611686018427387904 else if near b = 4611686018427387904 then 4611686018427387904 else near (near a + near b)
def leq (a b : Int) : Bool := decide (near a ≤ near b)

theorem near_right (b : Int) : right (near b) = true := by
  rw [right_iff]; unfold near; split
  · omega
  · split <;> omega
theorem near_of_right {b : Int} (h : right b = true) : near b = b := by
  rw [right_iff] at h; unfold near; split
  · omega
  · split <;> omega
theorem near_cases (b : Int) : near b = 4611686018427387904 ∨ (-2305843009213693952 ≤ near b ∧ near b ≤ 2305843009213693952) := by
  have := near_right b
  rw [right_iff] at this
  omega
theorem add_right (a b : Int) : right (add a b) = true := by
  unfold add
  split
  · rfl
  · split
    · rfl
    · exact near_right _
theorem add_comm (a b : Int) : add a b = add b a := by
  unfold add
  by_cases h1 : near a = 4611686018427387904
  · rw [if_pos h1]; by_cases h2 : near b = 4611686018427387904
    · rw [if_pos h2]
    · rw [if_neg h2, if_pos h1]
  · rw [if_neg h1]
    by_cases h2 : near b = 4611686018427387904
    · rw [if_pos h2, if_pos h2]
    · rw [if_neg h2, if_neg h2, if_neg h1, Int.add_comm]

theorem tdiv_mul_self {a b : Int} (hb : b ≠ 0) : (a * b).tdiv b = a := Int.mul_tdiv_cancel a hb

theorem calc_in {op a b n : Int} (h : calc' op a b = (n, 0)) : inn a = true ∧ inn b = true ∧ inn n = true := by
  have ht : ∀ x, told x = (n, 0) → inn n = true := fun x h => by
    unfold told at h
    split at h
    · injection h with h _; subst h; assumption
    · injection h with _ h; exact absurd h (by decide)
  unfold calc' at h
  split at h
  · injection h with _ h; exact absurd h (by decide)
  · rename_i hc
    have ha : inn a = true := by
      cases hh : inn a
      · exact absurd (.inr (.inr (.inl hh))) hc
      · rfl
    have hb : inn b = true := by
      cases hh : inn b
      · exact absurd (.inr (.inr (.inr hh))) hc
      · rfl
    refine ⟨ha, hb, ?_⟩
    split at h
    · exact ht _ h
    · split at h
      · exact ht _ h
      · split at h
        · exact ht _ h
        · split at h
          · injection h with _ h; exact absurd h (by decide)
          · exact ht _ h
theorem told_ok {x n : Int} (h : told x = (n, 0)) : n = x ∧ inn x = true := by
  unfold told at h
  split at h
  · injection h with h _; exact ⟨h.symm, by assumption⟩
  · injection h with _ h; exact absurd h (by decide)
theorem calc_of {a b : Int} (ha : inn a = true) (hb : inn b = true) : calc' 0 a b = told (a + b) ∧ calc' 1 a b = told (a - b) ∧ calc' 2 a b = told (a * b) ∧ (b ≠ 0 → calc' 3 a b = told (a.tdiv b)) := by
  refine ⟨?_, ?_, ?_, fun h => ?_⟩ <;> unfold calc' <;> rw [if_neg (by rw [ha, hb]; simp)]
  · rfl
  · rfl
  · rfl
  · rw [if_neg (by decide), if_neg (by decide), if_neg (by decide), if_neg h]
theorem plus_undo {a b s : Int} (h : calc' 0 a b = (s, 0)) : calc' 1 s b = (a, 0) := by
  obtain ⟨ha, hb, hs⟩ := calc_in h
  rw [(calc_of ha hb).1] at h
  obtain ⟨e, _⟩ := told_ok h
  rw [(calc_of hs hb).2.1, e, Int.add_sub_cancel]
  unfold told; rw [if_pos ha]
theorem times_undo {a b p : Int} (h : calc' 2 a b = (p, 0)) (h0 : b ≠ 0) : calc' 3 p b = (a, 0) := by
  obtain ⟨ha, hb, hs⟩ := calc_in h
  rw [(calc_of ha hb).2.2.1] at h
  obtain ⟨e, _⟩ := told_ok h
  rw [(calc_of hs hb).2.2.2 h0, e, Int.mul_tdiv_cancel a h0]
  unfold told; rw [if_pos ha]

/-- What two whole numbers are not above, their sum is not above. -/
theorem sound {x y a b : Int} (hx : inn x = true) (hy : inn y = true) (h1 : leq x a = true) (h2 : leq y b = true) : leq (x + y) (add a b) = true := by
  rw [inn_iff] at hx hy
  unfold leq at *
  rw [decide_eq_true_eq] at *
  rw [near_of_right (add_right a b)]
  unfold add
  have e1 : near x = x := by unfold near; rw [if_neg (by omega), if_neg (by omega)]
  have e2 : near y = y := by unfold near; rw [if_neg (by omega), if_neg (by omega)]
  have e3 : near (x + y) = x + y := by unfold near; rw [if_neg (by omega), if_neg (by omega)]
  rw [e1] at h1
  rw [e2] at h2
  rw [e3]
  by_cases c1 : near a = 4611686018427387904
  · rw [if_pos c1]; omega
  · rw [if_neg c1]
    by_cases c2 : near b = 4611686018427387904
    · rw [if_pos c2]; omega
    · rw [if_neg c2]
      generalize near a = p at *
      generalize near b = q at *
      unfold near
      split
      · omega
      · split <;> omega

def cut (x y : Int) : Bool := (x != 4611686018427387904) && ((y != 4611686018427387904) && (decide (x + y < -2305843009213693952) || decide (x + y > 2305843009213693952)))
theorem three {a b c : Int} (ha : right a = true) (hb : right b = true) (hc : right c = true) (h1 : cut a b = false) (h2 : cut b c = false) : add (add a b) c = add a (add b c) := by
  have na := near_of_right ha
  have nb := near_of_right hb
  have nc := near_of_right hc
  have rab := near_of_right (add_right a b)
  have rbc := near_of_right (add_right b c)
  rw [right_iff] at ha hb hc
  by_cases a0 : a = 4611686018427387904
  · subst a0
    have e : add 4611686018427387904 b = 4611686018427387904 := by unfold add; rw [na, if_pos rfl]
    have e2 : ∀ z, add 4611686018427387904 z = 4611686018427387904 := fun z => by unfold add; rw [na, if_pos rfl]
    rw [e, e2, e2]
  · by_cases b0 : b = 4611686018427387904
    · subst b0
      have e2 : ∀ z, add 4611686018427387904 z = 4611686018427387904 := fun z => by unfold add; rw [nb, if_pos rfl]
      rw [e2, add_comm a, e2, e2]
    · by_cases c0 : c = 4611686018427387904
      · subst c0
        have e2 : ∀ z, add z 4611686018427387904 = 4611686018427387904 := fun z => by rw [add_comm]; unfold add; rw [nc, if_pos rfl]
        rw [e2, e2, e2]
      · have g1 : -2305843009213693952 ≤ a + b ∧ a + b ≤ 2305843009213693952 := by
          simp [cut, a0, b0] at h1; omega
        have g2 : -2305843009213693952 ≤ b + c ∧ b + c ≤ 2305843009213693952 := by
          simp [cut, b0, c0] at h2; omega
        have n0 : ∀ z : Int, -2305843009213693952 ≤ z ∧ z ≤ 2305843009213693952 → near z = z := fun z h => by unfold near; rw [if_neg (by omega), if_neg (by omega)]
        have e1 : add a b = a + b := by unfold add; rw [na, nb, if_neg a0, if_neg b0, n0 _ g1]
        have e2 : add b c = b + c := by unfold add; rw [nb, nc, if_neg b0, if_neg c0, n0 _ g2]
        rw [e1, e2]
        unfold add
        rw [na, nc, n0 _ g1, n0 _ g2, if_neg (by omega), if_neg c0, if_neg a0, if_neg (by omega), Int.add_assoc]
end Go.Proofs.YtjddafaaplhnfaaDoor.Bd

set_option linter.unusedVariables false
set_option linter.unusedSimpArgs false
namespace Go.Proofs.YtjddafaaplhnfaaDoor.Bd
open Go

def text (b : Int) : List UInt8 := if near b = 4611686018427387904 then [110, 111, 110, 101] else Lib.itoa (near b)
def parse (l : List UInt8) : Int × Int :=
  if l = [110, 111, 110, 101] then (4611686018427387904, 0) else
  match Lib.atoiAll l with
  | .ok n => if right n = true ∧ text n = l then (n, 0) else (0, 1)
  | _ => (0, 1)

theorem dig_nat (p : Nat) (h : p < 10) : (UInt8.ofNat (48 + p)).toNat = 48 + p := by simp; omega
theorem dec_ne (u : Nat) : Lib.decDigits u ≠ [] := by
  rw [Lib.decDigits]; split <;> simp
/-- The first byte is a digit. -/
theorem dec_head (u : Nat) : ∃ c r, Lib.decDigits u = c :: r ∧ 48 ≤ c.toNat ∧ c.toNat ≤ 57 := by
  induction u using Nat.strongRecOn with
  | _ u ih =>
    by_cases h : u < 10
    · refine ⟨UInt8.ofNat (48 + u), [], by rw [Lib.decDigits, dif_pos h], ?_, ?_⟩ <;> rw [dig_nat u h] <;> omega
    · obtain ⟨c, r, e, h1, h2⟩ := ih (u / 10) (by omega)
      exact ⟨c, r ++ [UInt8.ofNat (48 + u % 10)], by rw [Lib.decDigits, dif_neg h, e]; rfl, h1, h2⟩

theorem parse10_append (l r : List UInt8) (a b : Nat) (h : Lib.parseUint10 a l = .ok b) : Lib.parseUint10 a (l ++ r) = Lib.parseUint10 b r := by
  induction l generalizing a with
  | nil => simp only [Lib.parseUint10] at h; injection h with h; subst h; rfl
  | cons c t ih =>
    simp only [List.cons_append, Lib.parseUint10] at h ⊢
    split at h
    · rename_i hc
      rw [if_pos hc]
      split at h
      · cases h
      · rename_i hb
        rw [if_neg hb]
        split at h
        · cases h
        · rename_i hd
          rw [if_neg hd]
          exact ih _ h
    · cases h
theorem parse10_dec (u : Nat) (h : u < 9223372036854775808) : Lib.parseUint10 0 (Lib.decDigits u) = .ok u := by
  induction u using Nat.strongRecOn with
  | _ u ih =>
    by_cases h1 : u < 10
    · rw [Lib.decDigits, dif_pos h1]
      simp only [Lib.parseUint10]
      rw [dig_nat u h1, if_pos (by omega), if_neg (by omega), if_neg (by omega)]
      congr 1; omega
    · rw [Lib.decDigits, dif_neg h1, parse10_append _ _ _ _ (ih (u / 10) (by omega) (by omega))]
      simp only [Lib.parseUint10]
      rw [dig_nat (u % 10) (by omega), if_pos (by omega), if_neg (by omega), if_neg (by omega)]
      congr 1; omega

theorem atoi_itoa (n : Int) (h : -4611686018427387904 ≤ n ∧ n ≤ 4611686018427387904) : Lib.atoiAll (Lib.itoa n) = .ok n := by
  unfold Lib.itoa
  by_cases hn : n < 0
  · rw [if_pos hn]
    simp only [Lib.atoiAll]
    rw [if_pos (by right; rfl)]
    unfold Lib.parseMag
    rw [if_neg (dec_ne _), parse10_dec _ (by omega)]
    simp
    rw [if_neg (by omega)]
    congr 1
    omega
  · rw [if_neg hn]
    obtain ⟨c, r, e, h1, h2⟩ := dec_head n.toNat
    have hp := parse10_dec n.toNat (by omega)
    rw [e] at hp ⊢
    simp only [Lib.atoiAll]
    rw [if_neg (by omega)]
    unfold Lib.parseMag
    rw [if_neg (by simp), hp]
    simp only
    rw [if_neg (by omega), if_neg (by omega), if_neg (by omega)]
    congr 1
    omega

theorem itoa_head (n : Int) : ∃ c r, Lib.itoa n = c :: r ∧ c.toNat ≤ 57 := by
  unfold Lib.itoa
  split
  · exact ⟨45, _, rfl, by decide⟩
  · obtain ⟨c, r, e, h1, h2⟩ := dec_head n.toNat
    exact ⟨c, r, e, h2⟩
theorem itoa_not (n : Int) : Lib.itoa n ≠ [110, 111, 110, 101] := by
  obtain ⟨c, r, e, h⟩ := itoa_head n
  rw [e]
  intro h2
  injection h2 with h3 _
  subst h3
  exact absurd h (by decide)
theorem text_near (b : Int) : text (near b) = text b := by
  unfold text; rw [near_of_right (near_right b)]

theorem parse_text (b : Int) : parse (text b) = (near b, 0) := by
  unfold parse
  by_cases h : near b = 4611686018427387904
  · have e : text b = [110, 111, 110, 101] := by unfold text; rw [if_pos h]
    rw [e, if_pos rfl, h]
  · have e : text b = Lib.itoa (near b) := by unfold text; rw [if_neg h]
    have hc := near_cases b
    rw [e, if_neg (itoa_not _), atoi_itoa _ (by omega)]
    simp only
    rw [if_pos ⟨near_right b, by rw [text_near, e]⟩]
/-- What is read is written as it was. -/
theorem parse_ok {l : List UInt8} {n : Int} (h : parse l = (n, 0)) : text n = l ∧ right n = true := by
  unfold parse at h
  split at h
  · rename_i e
    injection h with h _
    subst h
    exact ⟨by rw [e]; rfl, rfl⟩
  · split at h
    · split at h
      · rename_i hc
        injection h with h _
        subst h
        exact ⟨hc.2, hc.1⟩
      · injection h with _ h
        exact absurd h (by decide)
    · injection h with _ h
      exact absurd h (by decide)
theorem parse_err (l : List UInt8) : (parse l).2 = 0 ∨ parse l = (0, 1) := by
  unfold parse
  split
  · exact .inl rfl
  · split
    · split
      · exact .inl rfl
      · exact .inr rfl
    · exact .inr rfl
end Go.Proofs.YtjddafaaplhnfaaDoor.Bd

set_option linter.unusedVariables false
set_option linter.unusedSimpArgs false
namespace Go.Proofs.YtjddafaaplhnfaaDoor.Sp
open Bd

/-- A span that has numbers. -/
def ok (l h : Int) : Bool := decide (-1152921504606846976 ≤ l) && (decide (l ≤ h) && decide (h ≤ 1152921504606846976))
theorem ok_iff {l h : Int} : ok l h = true ↔ -1152921504606846976 ≤ l ∧ l ≤ h ∧ h ≤ 1152921504606846976 := by simp [ok]
theorem ok_not {l h : Int} : ok l h = false ↔ ¬ (-1152921504606846976 ≤ l ∧ l ≤ h ∧ h ≤ 1152921504606846976) := by
  rw [← Bool.not_eq_true, ok_iff]
def right (l h : Int) : Bool := ok l h || (l == 1 && h == 0)
def has (l h n : Int) : Bool := ok l h && (decide (l ≤ n) && decide (n ≤ h))
theorem has_iff {l h n : Int} : has l h n = true ↔ ok l h = true ∧ l ≤ n ∧ n ≤ h := by simp [has]
def of (l h : Int) : Int × Int := if max l (-1152921504606846976) ≤ min h 1152921504606846976 then (max l (-1152921504606846976), min h 1152921504606846976) else (1, 0)
def leq (a0 a1 b0 b1 : Int) : Bool := !ok a0 a1 || (ok b0 b1 && (decide (b0 ≤ a0) && decide (a1 ≤ b1)))
def clean (a0 a1 : Int) : Int × Int := if ok a0 a1 = true then (a0, a1) else (1, 0)
def join (a0 a1 b0 b1 : Int) : Int × Int := if ok a0 a1 = true then (if ok b0 b1 = true then (min a0 b0, max a1 b1) else (a0, a1)) else clean b0 b1
def meet (a0 a1 b0 b1 : Int) : Int × Int := if ok a0 a1 = true ∧ ok b0 b1 = true then of (max a0 b0) (min a1 b1) else (1, 0)
def lowS (n : Int) (steps : List Int) (at0 : Int) : Int := steps.foldl (fun a s => if inn s = true ∧ s ≤ n then max a s else a) at0
def highS (n : Int) (steps : List Int) (at0 : Int) : Int := steps.foldl (fun a s => if inn s = true ∧ n ≤ s then min a s else a) at0
def widen (a0 a1 b0 b1 : Int) (steps : List Int) : Int × Int :=
  if leq b0 b1 a0 a1 = true then clean a0 a1 else if ok a0 a1 = false then (b0, b1) else
  (if a0 ≤ b0 then a0 else lowS b0 steps (-1152921504606846976), if b1 ≤ a1 then a1 else highS b1 steps 1152921504606846976)
def narrow (a0 a1 b0 b1 : Int) : Int × Int :=
  if ok a0 a1 = true ∧ ok b0 b1 = true then of (if a0 = -1152921504606846976 then b0 else a0) (if a1 = 1152921504606846976 then b1 else a1) else (1, 0)
def minL : List Int → Int
  | [] => 0
  | x :: r => r.foldl min x
def maxL : List Int → Int
  | [] => 0
  | x :: r => r.foldl max x
def hull (l : List Int) : Int × Int := if l = [] then (1, 0) else of (minL l) (maxL l)
/-- A product, as far as it is between two bounds. -/
def tm (a b : Int) : Int := if -2305843009213693952 < a * b ∧ a * b < 2305843009213693952 then a * b else if a * b < 0 then -2305843009213693952 else 2305843009213693952
def quot (a0 a1 : Int) (p : Int × Int) : List Int := if p = (1, 0) then [] else [a0.tdiv p.1, a0.tdiv p.2, a1.tdiv p.1, a1.tdiv p.2]
def res (op a0 a1 b0 b1 : Int) : List Int :=
  if op = 0 then [a0 + b0, a1 + b1] else if op = 1 then [a0 - b1, a1 - b0] else if op = 2 then [tm a0 b0, tm a0 b1, tm a1 b0, tm a1 b1] else
  quot a0 a1 (meet b0 b1 (-1152921504606846976) (-1)) ++ quot a0 a1 (meet b0 b1 1 1152921504606846976)
def reck (op a0 a1 b0 b1 : Int) : (Int × Int) × Bool :=
  if ok a0 a1 = false ∨ ok b0 b1 = false ∨ op < 0 ∨ 3 < op then ((1, 0), false) else
  (hull (res op a0 a1 b0 b1), (res op a0 a1 b0 b1).any (fun n => !inn n) || (op == 3 && has b0 b1 0))
def text (a0 a1 : Int) : List UInt8 := if ok a0 a1 = true then Lib.itoa a0 ++ [46, 46] ++ Lib.itoa a1 else [110, 111, 110, 101]

theorem dec_len (u : Nat) : ∀ d, u < 10 ^ (d + 1) → (Lib.decDigits u).length ≤ d + 1 := by
  induction u using Nat.strongRecOn with
  | _ u ih =>
    intro d hd
    rw [Lib.decDigits]
    split
    · simp
    · cases d with
      | zero => omega
      | succ d =>
        rw [List.length_append]
        have := ih (u / 10) (by omega) d (by rw [Nat.pow_succ] at hd; omega)
        simp; omega
theorem itoa_len (n : Int) (h : -4611686018427387904 ≤ n ∧ n ≤ 4611686018427387904) : (Lib.itoa n).length ≤ 100 := by
  unfold Lib.itoa
  split
  · have := dec_len n.natAbs 18 (by omega)
    simp; omega
  · have := dec_len n.toNat 18 (by omega)
    omega

theorem of_right (l h : Int) : right (of l h).1 (of l h).2 = true := by
  unfold of right
  split
  · have : ok (max l (-1152921504606846976)) (min h 1152921504606846976) = true := by rw [ok_iff]; omega
    simp only [this, Bool.true_or]
  · rfl
theorem of_id {l h : Int} (hk : ok l h = true) : of l h = (l, h) := by
  rw [ok_iff] at hk
  unfold of
  rw [show max l (-1152921504606846976) = l by omega, show min h 1152921504606846976 = h by omega, if_pos hk.2.1]
theorem meet_neg (b0 b1 : Int) : meet b0 b1 (-1152921504606846976) (-1) = (1, 0) ∨ ((meet b0 b1 (-1152921504606846976) (-1)).1 ≤ -1 ∧ (meet b0 b1 (-1152921504606846976) (-1)).2 ≤ -1) := by
  unfold meet
  split
  · unfold of
    split
    · right; dsimp only; omega
    · exact .inl rfl
  · exact .inl rfl
theorem meet_pos (b0 b1 : Int) : meet b0 b1 1 1152921504606846976 = (1, 0) ∨ (1 ≤ (meet b0 b1 1 1152921504606846976).1 ∧ 1 ≤ (meet b0 b1 1 1152921504606846976).2) := by
  unfold meet
  split
  · unfold of
    split
    · right; dsimp only; omega
    · exact .inl rfl
  · exact .inl rfl
end Go.Proofs.YtjddafaaplhnfaaDoor.Sp

set_option linter.unusedVariables false
set_option linter.unusedSimpArgs false
namespace Go.Proofs.YtjddafaaplhnfaaDoor.Sp
open Bd

/-- A number, cut just beyond the ends. -/
def kk (n : Int) : Int := max (-1152921504606846977) (min 1152921504606846977 n)
theorem kk_inn {x y : Int} (h : kk x = kk y) : inn x = inn y := by
  have : inn x = true ↔ inn y = true := by rw [inn_iff, inn_iff]; unfold kk at h; omega
  cases hx : inn x <;> cases hy : inn y <;> simp_all
theorem of_kk {a b c d : Int} (h1 : kk a = kk c) (h2 : kk b = kk d) : of a b = of c d := by
  unfold kk at h1 h2
  unfold of
  by_cases c1 : max a (-1152921504606846976) ≤ min b 1152921504606846976
  · rw [if_pos c1, if_pos (by omega)]
    congr 1 <;> omega
  · rw [if_neg c1, if_neg (by omega)]
theorem foldmin (r : List Int) : ∀ x : Int, (r.foldl min x = x ∨ r.foldl min x ∈ r) ∧ r.foldl min x ≤ x ∧ ∀ y ∈ r, r.foldl min x ≤ y := by
  induction r with
  | nil => intro x; exact ⟨.inl rfl, Int.le_refl _, by simp⟩
  | cons z r ih =>
    intro x
    simp only [List.foldl_cons]
    obtain ⟨h1, h2, h3⟩ := ih (min x z)
    refine ⟨?_, by omega, fun y hy => ?_⟩
    · rcases h1 with h | h
      · by_cases c : x ≤ z
        · left; rw [h]; omega
        · right; rw [h, show min x z = z by omega]; simp
      · right; simp [h]
    · rcases List.mem_cons.1 hy with rfl | hy
      · omega
      · exact h3 y hy
theorem foldmax (r : List Int) : ∀ x : Int, (r.foldl max x = x ∨ r.foldl max x ∈ r) ∧ x ≤ r.foldl max x ∧ ∀ y ∈ r, y ≤ r.foldl max x := by
  induction r with
  | nil => intro x; exact ⟨.inl rfl, Int.le_refl _, by simp⟩
  | cons z r ih =>
    intro x
    simp only [List.foldl_cons]
    obtain ⟨h1, h2, h3⟩ := ih (max x z)
    refine ⟨?_, by omega, fun y hy => ?_⟩
    · rcases h1 with h | h
      · by_cases c : z ≤ x
        · left; rw [h]; omega
        · right; rw [h, show max x z = z by omega]; simp
      · right; simp [h]
    · rcases List.mem_cons.1 hy with rfl | hy
      · omega
      · exact h3 y hy
theorem minL_spec {l : List Int} (h : l ≠ []) : minL l ∈ l ∧ ∀ y ∈ l, minL l ≤ y := by
  cases l with
  | nil => exact absurd rfl h
  | cons x r =>
    obtain ⟨h1, h2, h3⟩ := foldmin r x
    refine ⟨?_, fun y hy => ?_⟩
    · show r.foldl min x ∈ x :: r
      rcases h1 with h | h
      · rw [h]; simp
      · exact List.mem_cons_of_mem _ h
    · show r.foldl min x ≤ y
      rcases List.mem_cons.1 hy with rfl | hy
      · exact h2
      · exact h3 y hy
theorem maxL_spec {l : List Int} (h : l ≠ []) : maxL l ∈ l ∧ ∀ y ∈ l, y ≤ maxL l := by
  cases l with
  | nil => exact absurd rfl h
  | cons x r =>
    obtain ⟨h1, h2, h3⟩ := foldmax r x
    refine ⟨?_, fun y hy => ?_⟩
    · show r.foldl max x ∈ x :: r
      rcases h1 with h | h
      · rw [h]; simp
      · exact List.mem_cons_of_mem _ h
    · show y ≤ r.foldl max x
      rcases List.mem_cons.1 hy with rfl | hy
      · exact h2
      · exact h3 y hy
/-- Each of the one is as one of the other. -/
def Cov (l m : List Int) : Prop := ∀ x ∈ l, ∃ y ∈ m, kk x = kk y
theorem kk_mono {x y : Int} (h : x ≤ y) : kk x ≤ kk y := by unfold kk; omega
theorem hull_cov {l m : List Int} (h1 : Cov l m) (h2 : Cov m l) : hull l = hull m := by
  unfold hull
  by_cases hl : l = []
  · have hm : m = [] := by
      cases m with
      | nil => rfl
      | cons y r => obtain ⟨x, hx, _⟩ := h2 y (by simp); rw [hl] at hx; simp at hx
    rw [if_pos hl, if_pos hm]
  · have hm : m ≠ [] := by
      intro e
      cases l with
      | nil => exact hl rfl
      | cons x r => obtain ⟨y, hy, _⟩ := h1 x (by simp); rw [e] at hy; simp at hy
    rw [if_neg hl, if_neg hm]
    obtain ⟨a1, a2⟩ := minL_spec hl
    obtain ⟨b1, b2⟩ := minL_spec hm
    obtain ⟨c1, c2⟩ := maxL_spec hl
    obtain ⟨d1, d2⟩ := maxL_spec hm
    refine of_kk (Int.le_antisymm ?_ ?_) (Int.le_antisymm ?_ ?_)
    · obtain ⟨x, hx, he⟩ := h2 _ b1
      rw [he]; exact kk_mono (a2 x hx)
    · obtain ⟨x, hx, he⟩ := h1 _ a1
      rw [he]; exact kk_mono (b2 x hx)
    · obtain ⟨x, hx, he⟩ := h1 _ c1
      rw [he]; exact kk_mono (d2 x hx)
    · obtain ⟨x, hx, he⟩ := h2 _ d1
      rw [he]; exact kk_mono (c2 x hx)
theorem any_cov {l m : List Int} (h1 : Cov l m) (h2 : Cov m l) : (l.any fun n => !inn n) = m.any fun n => !inn n := by
  have : ∀ {l m : List Int}, Cov l m → (l.any fun n => !inn n) = true → (m.any fun n => !inn n) = true := by
    intro l m h h0
    rw [List.any_eq_true] at h0 ⊢
    obtain ⟨x, hx, h0⟩ := h0
    obtain ⟨y, hy, he⟩ := h x hx
    exact ⟨y, hy, by rw [← kk_inn he]; exact h0⟩
  have g1 := this h1
  have g2 := this h2
  cases h : (l.any fun n => !inn n) <;> cases h' : (m.any fun n => !inn n) <;> simp_all

/-- What the document reckons of two numbers. -/
def rt (a b : Int) : Int := if inn (a * b) = true then a * b else if decide (a < 0) != decide (b < 0) then -2305843009213693952 else 2305843009213693952
theorem rt_kk (a b : Int) : kk (rt a b) = kk (tm a b) := by
  unfold rt tm
  have hs : (a < 0 ∧ b < 0 → 0 < a * b) ∧ (a < 0 ∧ 0 < b → a * b < 0) ∧ (0 < a ∧ b < 0 → a * b < 0) ∧ (0 < a ∧ 0 < b → 0 < a * b) ∧ (a = 0 → a * b = 0) ∧ (b = 0 → a * b = 0) := by
    refine ⟨fun h => Int.mul_pos_of_neg_of_neg h.1 h.2, fun h => Int.mul_neg_of_neg_of_pos h.1 h.2, fun h => Int.mul_neg_of_pos_of_neg h.1 h.2, fun h => Int.mul_pos h.1 h.2, fun h => by rw [h]; simp, fun h => by rw [h]; simp⟩
  generalize a * b = p at *
  cases hi : inn p
  · rw [inn_not] at hi
    rw [if_neg (by simp)]
    by_cases ha : a < 0 <;> by_cases hb : b < 0
    · simp only [ha, hb, decide_true, bne_self_eq_false, Bool.false_eq_true, if_false]
      unfold kk; split <;> (try split) <;> omega
    · simp only [ha, hb, decide_true, decide_false, Bool.bne_false, if_true]
      unfold kk; split <;> (try split) <;> omega
    · simp only [ha, hb, decide_true, decide_false, Bool.false_bne, if_true]
      unfold kk; split <;> (try split) <;> omega
    · simp only [ha, hb, decide_false, bne_self_eq_false, Bool.false_eq_true, if_false]
      unfold kk; split <;> (try split) <;> omega
  · rw [inn_iff] at hi
    rw [if_pos rfl, if_pos (by omega)]
def rv (op a y : Int) : Int := if op = 0 then a + y else if op = 1 then a - y else if op = 2 then rt a y else a.tdiv y
def R (op a0 a1 : Int) (l : List Int) : List Int := l.flatMap fun y => if op = 3 ∧ y = 0 then [] else [rv op a0 y, rv op a1 y]
def ys (op b0 b1 : Int) : List Int := [b0, b1] ++ (if op = 3 ∧ has b0 b1 1 = true then [1] else []) ++ (if op = 3 ∧ has b0 b1 (-1) = true then [-1] else [])
theorem mem_R {op a0 a1 : Int} {l : List Int} {x : Int} : x ∈ R op a0 a1 l ↔ ∃ y ∈ l, ¬ (op = 3 ∧ y = 0) ∧ (x = rv op a0 y ∨ x = rv op a1 y) := by
  unfold R
  rw [List.mem_flatMap]
  constructor
  · rintro ⟨y, hy, hx⟩
    by_cases c : op = 3 ∧ y = 0
    · rw [if_pos c] at hx; simp at hx
    · rw [if_neg c] at hx; exact ⟨y, hy, c, by simpa using hx⟩
  · rintro ⟨y, hy, c, hx⟩
    exact ⟨y, hy, by rw [if_neg c]; simpa using hx⟩
theorem mem_quot {a0 a1 x : Int} {p : Int × Int} : x ∈ quot a0 a1 p ↔ p ≠ (1, 0) ∧ ∃ y, (y = p.1 ∨ y = p.2) ∧ (x = a0.tdiv y ∨ x = a1.tdiv y) := by
  unfold quot
  by_cases c : p = (1, 0)
  · rw [if_pos c]; simp [c]
  · rw [if_neg c]
    constructor
    · intro h
      simp only [List.mem_cons, List.not_mem_nil, or_false] at h
      refine ⟨c, ?_⟩
      rcases h with h | h | h | h
      · exact ⟨_, .inl rfl, .inl h⟩
      · exact ⟨_, .inr rfl, .inl h⟩
      · exact ⟨_, .inl rfl, .inr h⟩
      · exact ⟨_, .inr rfl, .inr h⟩
    · rintro ⟨-, y, rfl | rfl, h | h⟩ <;> simp [h]
theorem meet_neg' {b0 b1 : Int} (h : ok b0 b1 = true) : meet b0 b1 (-1152921504606846976) (-1) = if b0 ≤ -1 then (b0, min b1 (-1)) else (1, 0) := by
  have h' := ok_iff.1 h
  unfold meet
  rw [if_pos ⟨h, by decide⟩]
  unfold of
  by_cases c : b0 ≤ -1
  · rw [if_pos c, if_pos (by omega)]; congr 1 <;> omega
  · rw [if_neg c, if_neg (by omega)]
theorem meet_pos' {b0 b1 : Int} (h : ok b0 b1 = true) : meet b0 b1 1 1152921504606846976 = if 1 ≤ b1 then (max b0 1, b1) else (1, 0) := by
  have h' := ok_iff.1 h
  unfold meet
  rw [if_pos ⟨h, by decide⟩]
  unfold of
  by_cases c : 1 ≤ b1
  · rw [if_pos c, if_pos (by omega)]; congr 1 <;> omega
  · rw [if_neg c, if_neg (by omega)]
/-- The divisors that count. -/
theorem divs {b0 b1 y : Int} (h : ok b0 b1 = true) : (y ∈ ys 3 b0 b1 ∧ y ≠ 0) ↔ ((b0 ≤ -1 ∧ (y = b0 ∨ y = min b1 (-1))) ∨ (1 ≤ b1 ∧ (y = max b0 1 ∨ y = b1))) := by
  have h' := ok_iff.1 h
  have e1 : has b0 b1 1 = true ↔ b0 ≤ 1 ∧ 1 ≤ b1 := by rw [has_iff]; simp [h]
  have e2 : has b0 b1 (-1) = true ↔ b0 ≤ -1 ∧ -1 ≤ b1 := by rw [has_iff]; simp [h]
  have hm : y ∈ ys 3 b0 b1 ↔ (y = b0 ∨ y = b1 ∨ (b0 ≤ 1 ∧ 1 ≤ b1 ∧ y = 1) ∨ (b0 ≤ -1 ∧ -1 ≤ b1 ∧ y = -1)) := by
    unfold ys
    simp only [true_and, e1, e2]
    by_cases c1 : b0 ≤ 1 ∧ 1 ≤ b1 <;> by_cases c2 : b0 ≤ -1 ∧ -1 ≤ b1
    · rw [if_pos c1, if_pos c2]; simp [c1, c2, or_assoc]
    · rw [if_pos c1, if_neg c2]; simp; omega
    · rw [if_neg c1, if_pos c2]; simp; omega
    · rw [if_neg c1, if_neg c2]; simp; omega
  rw [hm]
  omega
theorem R3 {a0 a1 b0 b1 : Int} (h : ok b0 b1 = true) (x : Int) : x ∈ R 3 a0 a1 (ys 3 b0 b1) ↔ x ∈ res 3 a0 a1 b0 b1 := by
  have hr : res 3 a0 a1 b0 b1 = quot a0 a1 (meet b0 b1 (-1152921504606846976) (-1)) ++ quot a0 a1 (meet b0 b1 1 1152921504606846976) := rfl
  rw [hr, List.mem_append, meet_neg' h, meet_pos' h, mem_R, mem_quot, mem_quot]
  have hv : ∀ a y, rv 3 a y = a.tdiv y := fun a y => rfl
  have hd := fun y => divs (y := y) h
  have h' := ok_iff.1 h
  constructor
  · rintro ⟨y, hy, hc, hx⟩
    rw [hv, hv] at hx
    rcases (hd y).1 ⟨hy, fun e => hc ⟨rfl, e⟩⟩ with ⟨c, g⟩ | ⟨c, g⟩
    · left; rw [if_pos c]
      exact ⟨by intro e; injection e with e1 e2; omega, y, g, hx⟩
    · right; rw [if_pos c]
      exact ⟨by intro e; injection e with e1 e2; omega, y, g, hx⟩
  · rintro (⟨hne, y, g, hx⟩ | ⟨hne, y, g, hx⟩)
    · by_cases c : b0 ≤ -1
      · rw [if_pos c] at g
        have := (hd y).2 (.inl ⟨c, g⟩)
        exact ⟨y, this.1, fun e => this.2 e.2, hx⟩
      · rw [if_neg c] at hne; exact absurd rfl hne
    · by_cases c : 1 ≤ b1
      · rw [if_pos c] at g
        have := (hd y).2 (.inr ⟨c, g⟩)
        exact ⟨y, this.1, fun e => this.2 e.2, hx⟩
      · rw [if_neg c] at hne; exact absurd rfl hne
theorem hull_two {x y : Int} : hull [x, y] = of (min x y) (max x y) := rfl
theorem R_law {op a0 a1 b0 b1 : Int} (h0 : 0 ≤ op) (h3 : op ≤ 3) (ha : ok a0 a1 = true) (hb : ok b0 b1 = true) :
    hull (R op a0 a1 (ys op b0 b1)) = hull (res op a0 a1 b0 b1) ∧ ((R op a0 a1 (ys op b0 b1)).any fun n => !inn n) = (res op a0 a1 b0 b1).any fun n => !inn n := by
  have ha' := ok_iff.1 ha
  have hb' := ok_iff.1 hb
  rcases (show op = 0 ∨ op = 1 ∨ op = 2 ∨ op = 3 by omega) with rfl | rfl | rfl | rfl
  · have e : R 0 a0 a1 (ys 0 b0 b1) = [a0 + b0, a1 + b0, a0 + b1, a1 + b1] := by simp [R, ys, rv]
    have e2 : res 0 a0 a1 b0 b1 = [a0 + b0, a1 + b1] := rfl
    rw [e, e2]
    refine ⟨?_, ?_⟩
    · show of (min (min (min (a0 + b0) (a1 + b0)) (a0 + b1)) (a1 + b1)) (max (max (max (a0 + b0) (a1 + b0)) (a0 + b1)) (a1 + b1)) = of (min (a0 + b0) (a1 + b1)) (max (a0 + b0) (a1 + b1))
      congr 1 <;> omega
    · simp only [List.any_cons, List.any_nil, Bool.or_false]
      rw [Bool.eq_iff_iff]
      simp only [Bool.or_eq_true, Bool.not_eq_true', inn_not]
      omega
  · have e : R 1 a0 a1 (ys 1 b0 b1) = [a0 - b0, a1 - b0, a0 - b1, a1 - b1] := by simp [R, ys, rv]
    have e2 : res 1 a0 a1 b0 b1 = [a0 - b1, a1 - b0] := rfl
    rw [e, e2]
    refine ⟨?_, ?_⟩
    · show of (min (min (min (a0 - b0) (a1 - b0)) (a0 - b1)) (a1 - b1)) (max (max (max (a0 - b0) (a1 - b0)) (a0 - b1)) (a1 - b1)) = of (min (a0 - b1) (a1 - b0)) (max (a0 - b1) (a1 - b0))
      congr 1 <;> omega
    · simp only [List.any_cons, List.any_nil, Bool.or_false]
      rw [Bool.eq_iff_iff]
      simp only [Bool.or_eq_true, Bool.not_eq_true', inn_not]
      omega
  · have e : R 2 a0 a1 (ys 2 b0 b1) = [rt a0 b0, rt a1 b0, rt a0 b1, rt a1 b1] := by simp [R, ys, rv]
    have e2 : res 2 a0 a1 b0 b1 = [tm a0 b0, tm a0 b1, tm a1 b0, tm a1 b1] := rfl
    rw [e, e2]
    have c1 : Cov [rt a0 b0, rt a1 b0, rt a0 b1, rt a1 b1] [tm a0 b0, tm a0 b1, tm a1 b0, tm a1 b1] := by
      intro x hx
      simp only [List.mem_cons, List.not_mem_nil, or_false] at hx
      rcases hx with rfl | rfl | rfl | rfl <;> exact ⟨_, by simp, rt_kk _ _⟩
    have c2 : Cov [tm a0 b0, tm a0 b1, tm a1 b0, tm a1 b1] [rt a0 b0, rt a1 b0, rt a0 b1, rt a1 b1] := by
      intro x hx
      simp only [List.mem_cons, List.not_mem_nil, or_false] at hx
      rcases hx with rfl | rfl | rfl | rfl <;> exact ⟨_, by simp, (rt_kk _ _).symm⟩
    exact ⟨hull_cov c1 c2, any_cov c1 c2⟩
  · have c1 : Cov (R 3 a0 a1 (ys 3 b0 b1)) (res 3 a0 a1 b0 b1) := fun x hx => ⟨x, (R3 hb x).1 hx, rfl⟩
    have c2 : Cov (res 3 a0 a1 b0 b1) (R 3 a0 a1 (ys 3 b0 b1)) := fun x hx => ⟨x, (R3 hb x).2 hx, rfl⟩
    exact ⟨hull_cov c1 c2, any_cov c1 c2⟩
end Go.Proofs.YtjddafaaplhnfaaDoor.Sp

set_option linter.unusedVariables false
set_option linter.unusedSimpArgs false
namespace Go.Proofs.YtjddafaaplhnfaaDoor.Sp
open Bd
theorem mul_mid {a x b : Int} (k : Int) (h1 : a ≤ x) (h2 : x ≤ b) : (a * k ≤ x * k ∨ b * k ≤ x * k) ∧ (x * k ≤ a * k ∨ x * k ≤ b * k) := by
  by_cases c : 0 ≤ k
  · exact ⟨.inl (Int.mul_le_mul_of_nonneg_right h1 c), .inr (Int.mul_le_mul_of_nonneg_right h2 c)⟩
  · exact ⟨.inr (Int.mul_le_mul_of_nonpos_right h2 (by omega)), .inl (Int.mul_le_mul_of_nonpos_right h1 (by omega))⟩
theorem mul_ends {a0 a1 b0 b1 x y : Int} (h1 : a0 ≤ x) (h2 : x ≤ a1) (h3 : b0 ≤ y) (h4 : y ≤ b1) :
    (∃ p, (p = a0 * b0 ∨ p = a0 * b1 ∨ p = a1 * b0 ∨ p = a1 * b1) ∧ p ≤ x * y) ∧ (∃ p, (p = a0 * b0 ∨ p = a0 * b1 ∨ p = a1 * b0 ∨ p = a1 * b1) ∧ x * y ≤ p) := by
  obtain ⟨u, v⟩ := mul_mid x h3 h4
  obtain ⟨u0, v0⟩ := mul_mid b0 h1 h2
  obtain ⟨u1, v1⟩ := mul_mid b1 h1 h2
  rw [Int.mul_comm b0 x, Int.mul_comm y x, Int.mul_comm b1 x] at u v
  generalize x * b0 = m0 at *
  generalize x * b1 = m1 at *
  generalize x * y = m at *
  constructor
  · rcases u with u | u
    · rcases u0 with u0 | u0
      · exact ⟨_, .inl rfl, by omega⟩
      · exact ⟨_, .inr (.inr (.inl rfl)), by omega⟩
    · rcases u1 with u1 | u1
      · exact ⟨_, .inr (.inl rfl), by omega⟩
      · exact ⟨_, .inr (.inr (.inr rfl)), by omega⟩
  · rcases v with v | v
    · rcases v0 with v0 | v0
      · exact ⟨_, .inl rfl, by omega⟩
      · exact ⟨_, .inr (.inr (.inl rfl)), by omega⟩
    · rcases v1 with v1 | v1
      · exact ⟨_, .inr (.inl rfl), by omega⟩
      · exact ⟨_, .inr (.inr (.inr rfl)), by omega⟩
theorem ediv_anti {x y z : Int} (hx : 0 ≤ x) (hy : 0 < y) (h : y ≤ z) : x / z ≤ x / y := by
  rw [Int.le_ediv_iff_mul_le hy]
  have h0 : 0 ≤ x / z := Int.ediv_nonneg hx (by omega)
  have h1 : x / z * y ≤ x / z * z := Int.mul_le_mul_of_nonneg_left h h0
  have h2 := Int.ediv_mul_le x (show z ≠ 0 by omega)
  omega
theorem tdiv_mono {a b y : Int} (hy : 0 < y) (h : a ≤ b) : a.tdiv y ≤ b.tdiv y := by
  by_cases ha : 0 ≤ a
  · rw [Int.tdiv_eq_ediv_of_nonneg ha, Int.tdiv_eq_ediv_of_nonneg (by omega)]
    exact Int.ediv_le_ediv hy h
  · have e : a.tdiv y = -((-a) / y) := by
      rw [← Int.tdiv_eq_ediv_of_nonneg (by omega), Int.neg_tdiv]; omega
    by_cases hb : 0 ≤ b
    · rw [e, Int.tdiv_eq_ediv_of_nonneg hb]
      have := Int.ediv_nonneg (show 0 ≤ -a by omega) (Int.le_of_lt hy)
      have := Int.ediv_nonneg hb (Int.le_of_lt hy)
      omega
    · have e' : b.tdiv y = -((-b) / y) := by
        rw [← Int.tdiv_eq_ediv_of_nonneg (by omega), Int.neg_tdiv]; omega
      rw [e, e']
      have := Int.ediv_le_ediv hy (show -b ≤ -a by omega)
      omega
/-- A quotient by a divisor between two of one sign lies between the quotients by these. -/
theorem tdiv_pos_mid {x c y d : Int} (h0 : 0 < c) (h1 : c ≤ y) (h2 : y ≤ d) : (x.tdiv c ≤ x.tdiv y ∨ x.tdiv d ≤ x.tdiv y) ∧ (x.tdiv y ≤ x.tdiv c ∨ x.tdiv y ≤ x.tdiv d) := by
  by_cases hx : 0 ≤ x
  · rw [Int.tdiv_eq_ediv_of_nonneg hx, Int.tdiv_eq_ediv_of_nonneg hx, Int.tdiv_eq_ediv_of_nonneg hx]
    exact ⟨.inr (ediv_anti hx (by omega) h2), .inl (ediv_anti hx h0 h1)⟩
  · have e : ∀ y, x.tdiv y = -((-x) / y) := fun y => by
      rw [← Int.tdiv_eq_ediv_of_nonneg (by omega), Int.neg_tdiv]; omega
    rw [e, e, e]
    have p := ediv_anti (x := -x) (by omega) (show 0 < y by omega) h2
    have q := ediv_anti (x := -x) (by omega) h0 h1
    exact ⟨.inl (by omega), .inr (by omega)⟩
theorem tdiv_ends_pos {a0 a1 x c y d : Int} (h1 : a0 ≤ x) (h2 : x ≤ a1) (h0 : 0 < c) (h3 : c ≤ y) (h4 : y ≤ d) :
    (∃ p, (p = a0.tdiv c ∨ p = a0.tdiv d ∨ p = a1.tdiv c ∨ p = a1.tdiv d) ∧ p ≤ x.tdiv y) ∧ (∃ p, (p = a0.tdiv c ∨ p = a0.tdiv d ∨ p = a1.tdiv c ∨ p = a1.tdiv d) ∧ x.tdiv y ≤ p) := by
  have m0 := tdiv_mono (show 0 < y by omega) h1
  have m1 := tdiv_mono (show 0 < y by omega) h2
  obtain ⟨u, v⟩ := tdiv_pos_mid (x := a0) h0 h3 h4
  obtain ⟨u', v'⟩ := tdiv_pos_mid (x := a1) h0 h3 h4
  constructor
  · rcases u with u | u
    · exact ⟨_, .inl rfl, by omega⟩
    · exact ⟨_, .inr (.inl rfl), by omega⟩
  · rcases v' with v' | v'
    · exact ⟨_, .inr (.inr (.inl rfl)), by omega⟩
    · exact ⟨_, .inr (.inr (.inr rfl)), by omega⟩
theorem tdiv_ends_neg {a0 a1 x c y d : Int} (h1 : a0 ≤ x) (h2 : x ≤ a1) (h0 : d < 0) (h3 : c ≤ y) (h4 : y ≤ d) :
    (∃ p, (p = a0.tdiv c ∨ p = a0.tdiv d ∨ p = a1.tdiv c ∨ p = a1.tdiv d) ∧ p ≤ x.tdiv y) ∧ (∃ p, (p = a0.tdiv c ∨ p = a0.tdiv d ∨ p = a1.tdiv c ∨ p = a1.tdiv d) ∧ x.tdiv y ≤ p) := by
  have e : ∀ x y : Int, x.tdiv y = -(x.tdiv (-y)) := fun x y => by rw [Int.tdiv_neg]; omega
  obtain ⟨⟨p, hp, h5⟩, ⟨q, hq, h6⟩⟩ := tdiv_ends_pos h1 h2 (show 0 < -d by omega) (show -d ≤ -y by omega) (show -y ≤ -c by omega)
  rw [e x y, e a0 c, e a0 d, e a1 c, e a1 d]
  refine ⟨⟨-q, ?_, by omega⟩, ⟨-p, ?_, by omega⟩⟩
  · rcases hq with hq | hq | hq | hq <;> omega
  · rcases hp with hp | hp | hp | hp <;> omega
theorem tdiv_small {x y : Int} (hx : inn x = true) : inn (x.tdiv y) = true := by
  rw [inn_iff] at hx ⊢
  have h := Int.natAbs_tdiv_le_natAbs x y
  omega
/-- What lies between two of a row, and is no number too great, is in the row's hull. -/
theorem has_hull {l : List Int} {p q n : Int} (hp : p ∈ l) (hq : q ∈ l) (h1 : p ≤ n) (h2 : n ≤ q) (hn : inn n = true) : has (hull l).1 (hull l).2 n = true := by
  have hne : l ≠ [] := by intro e; rw [e] at hp; simp at hp
  unfold hull
  rw [if_neg hne]
  have a := (minL_spec hne).2 p hp
  have b := (maxL_spec hne).2 q hq
  rw [inn_iff] at hn
  unfold of
  rw [if_pos (by omega), has_iff, ok_iff]
  dsimp only
  omega
theorem over_of {l : List Int} {p : Int} (hp : p ∈ l) (h : inn p = false) : (l.any fun n => !inn n) = true := by
  rw [List.any_eq_true]; exact ⟨p, hp, by rw [h]; rfl⟩
theorem reck_ok {op a0 a1 b0 b1 : Int} (h0 : 0 ≤ op) (h3 : op ≤ 3) (ha : ok a0 a1 = true) (hb : ok b0 b1 = true) :
    reck op a0 a1 b0 b1 = (hull (res op a0 a1 b0 b1), (res op a0 a1 b0 b1).any (fun n => !inn n) || (op == 3 && has b0 b1 0)) := by
  unfold reck
  rw [if_neg]
  rintro (h | h | h | h)
  · rw [ha] at h; cases h
  · rw [hb] at h; cases h
  · omega
  · omega
theorem told_cases (z : Int) : (inn z = true ∧ told z = (z, 0)) ∨ (inn z = false ∧ told z = (0, 10)) := by
  unfold told
  cases h : inn z
  · exact .inr ⟨rfl, by rw [if_neg (by simp)]⟩
  · exact .inl ⟨rfl, by rw [if_pos rfl]⟩
/-- SpanSound. -/
theorem sound {op a0 a1 b0 b1 x y : Int} (h0 : 0 ≤ op) (h3 : op ≤ 3) (hx : has a0 a1 x = true) (hy : has b0 b1 y = true) :
    ((calc' op x y).2 = 0 ∧ has (reck op a0 a1 b0 b1).1.1 (reck op a0 a1 b0 b1).1.2 (calc' op x y).1 = true) ∨ ((calc' op x y).2 ≠ 0 ∧ (reck op a0 a1 b0 b1).2 = true) := by
  obtain ⟨ha, hx1, hx2⟩ := has_iff.1 hx
  obtain ⟨hb, hy1, hy2⟩ := has_iff.1 hy
  have ha' := ok_iff.1 ha
  have hb' := ok_iff.1 hb
  have ix : inn x = true := inn_iff.2 (by omega)
  have iy : inn y = true := inn_iff.2 (by omega)
  rw [reck_ok h0 h3 ha hb]
  have hc : ¬ (op < 0 ∨ 3 < op ∨ inn x = false ∨ inn y = false) := by
    rw [ix, iy]; rintro (h | h | h | h) <;> first | omega | cases h
  have main : ∀ z : Int, (∃ p ∈ res op a0 a1 b0 b1, p ≤ z) → (∃ p ∈ res op a0 a1 b0 b1, z ≤ p) → 
      ((told z).2 = 0 ∧ has (hull (res op a0 a1 b0 b1)).1 (hull (res op a0 a1 b0 b1)).2 (told z).1 = true) ∨ ((told z).2 ≠ 0 ∧ ((res op a0 a1 b0 b1).any (fun n => !inn n) || (op == 3 && has b0 b1 0)) = true) := by
    rintro z ⟨p, hp, h1⟩ ⟨q, hq, h2⟩
    rcases told_cases z with ⟨h, e⟩ | ⟨h, e⟩ <;> rw [e]
    · exact .inl ⟨rfl, has_hull hp hq h1 h2 h⟩
    · refine .inr ⟨by decide, ?_⟩
      rw [inn_not] at h
      have : ((res op a0 a1 b0 b1).any fun n => !inn n) = true := by
        rcases h with h | h
        · exact over_of hp (inn_not.2 (by omega))
        · exact over_of hq (inn_not.2 (by omega))
      rw [this, Bool.true_or]
  rcases (show op = 0 ∨ op = 1 ∨ op = 2 ∨ op = 3 by omega) with rfl | rfl | rfl | rfl
  · have e : calc' 0 x y = told (x + y) := by unfold calc'; rw [if_neg hc]; rfl
    rw [e]
    exact main _ ⟨a0 + b0, by simp [res], by omega⟩ ⟨a1 + b1, by simp [res], by omega⟩
  · have e : calc' 1 x y = told (x - y) := by unfold calc'; rw [if_neg hc]; rfl
    rw [e]
    exact main _ ⟨a0 - b1, by simp [res], by omega⟩ ⟨a1 - b0, by simp [res], by omega⟩
  · have e : calc' 2 x y = told (x * y) := by unfold calc'; rw [if_neg hc]; rfl
    rw [e]
    obtain ⟨⟨p, hp, h1⟩, ⟨q, hq, h2⟩⟩ := mul_ends hx1 hx2 hy1 hy2
    have er : res 2 a0 a1 b0 b1 = [tm a0 b0, tm a0 b1, tm a1 b0, tm a1 b1] := rfl
    have mem : ∀ p, (p = a0 * b0 ∨ p = a0 * b1 ∨ p = a1 * b0 ∨ p = a1 * b1) → ∃ r ∈ res 2 a0 a1 b0 b1, r = (if -2305843009213693952 < p ∧ p < 2305843009213693952 then p else if p < 0 then -2305843009213693952 else 2305843009213693952) := by
      intro p hp
      rw [er]
      rcases hp with rfl | rfl | rfl | rfl
      · exact ⟨tm a0 b0, by simp, rfl⟩
      · exact ⟨tm a0 b1, by simp, rfl⟩
      · exact ⟨tm a1 b0, by simp, rfl⟩
      · exact ⟨tm a1 b1, by simp, rfl⟩
    obtain ⟨r, hr, er1⟩ := mem p hp
    obtain ⟨s, hs, es1⟩ := mem q hq
    generalize x * y = z at *
    rcases told_cases z with ⟨h, e⟩ | ⟨h, e⟩
    · have h' := inn_iff.1 h
      refine main z ⟨r, hr, ?_⟩ ⟨s, hs, ?_⟩
      · rw [er1]; split <;> (try split) <;> omega
      · rw [es1]; split <;> (try split) <;> omega
    · rw [e]
      refine .inr ⟨by decide, ?_⟩
      rw [inn_not] at h
      have : ((res 2 a0 a1 b0 b1).any fun n => !inn n) = true := by
        rcases h with h | h
        · exact over_of hr (inn_not.2 (by rw [er1]; split <;> (try split) <;> omega))
        · exact over_of hs (inn_not.2 (by rw [es1]; split <;> (try split) <;> omega))
      rw [this, Bool.true_or]
  · by_cases hy0 : y = 0
    · have e : calc' 3 x y = (0, 11) := by unfold calc'; rw [if_neg hc]; simp [hy0]
      rw [e]
      refine .inr ⟨by decide, ?_⟩
      rw [hy0] at hy
      rw [hy]; simp
    · have e : calc' 3 x y = told (x.tdiv y) := by unfold calc'; rw [if_neg hc]; simp [hy0]
      rw [e]
      have er : res 3 a0 a1 b0 b1 = quot a0 a1 (meet b0 b1 (-1152921504606846976) (-1)) ++ quot a0 a1 (meet b0 b1 1 1152921504606846976) := rfl
      rw [meet_neg' hb, meet_pos' hb] at er
      by_cases c : y < 0
      · rw [if_pos (show b0 ≤ -1 by omega)] at er
        obtain ⟨⟨p, hp, h1⟩, ⟨q, hq, h2⟩⟩ := tdiv_ends_neg (d := min b1 (-1)) hx1 hx2 (by omega) hy1 (by omega)
        have mem : ∀ p, (p = a0.tdiv b0 ∨ p = a0.tdiv (min b1 (-1)) ∨ p = a1.tdiv b0 ∨ p = a1.tdiv (min b1 (-1))) → p ∈ res 3 a0 a1 b0 b1 := by
          intro p hp
          rw [er, List.mem_append]; left
          unfold quot
          rw [if_neg (by intro e; injection e with e1 e2; omega)]
          simpa using hp
        exact main _ ⟨p, mem p hp, h1⟩ ⟨q, mem q hq, h2⟩
      · rw [if_pos (show 1 ≤ b1 by omega)] at er
        obtain ⟨⟨p, hp, h1⟩, ⟨q, hq, h2⟩⟩ := tdiv_ends_pos (c := max b0 1) (d := b1) hx1 hx2 (by omega) (by omega) hy2
        have mem : ∀ p, (p = a0.tdiv (max b0 1) ∨ p = a0.tdiv b1 ∨ p = a1.tdiv (max b0 1) ∨ p = a1.tdiv b1) → p ∈ res 3 a0 a1 b0 b1 := by
          intro p hp
          rw [er, List.mem_append]; right
          unfold quot
          rw [if_neg (by intro e; injection e with e1 e2; omega)]
          simpa using hp
        exact main _ ⟨p, mem p hp, h1⟩ ⟨q, mem q hq, h2⟩
/-- Each of what is reckoned that is no number too great comes of some numbers of both. -/
theorem comes {op a0 a1 b0 b1 z : Int} (h0 : 0 ≤ op) (h3 : op ≤ 3) (ha : ok a0 a1 = true) (hb : ok b0 b1 = true) (hz : z ∈ res op a0 a1 b0 b1) (hi : inn z = true) :
    ∃ x y : Int, (x = a0 ∨ x = a1) ∧ (y = b0 ∨ y = b1 ∨ y = -1 ∨ y = 1) ∧ has b0 b1 y = true ∧ calc' op x y = (z, 0) := by
  have ha' := ok_iff.1 ha
  have hb' := ok_iff.1 hb
  have hA : ∀ x, (x = a0 ∨ x = a1) → inn x = true := fun x h => inn_iff.2 (by omega)
  have hB : ∀ y, (y = b0 ∨ y = b1) → inn y = true ∧ has b0 b1 y = true := fun y h => ⟨inn_iff.2 (by omega), by rw [has_iff, hb]; exact ⟨rfl, by omega⟩⟩
  have tz : told z = (z, 0) := by unfold told; rw [if_pos hi]
  have fin : ∀ x y, (x = a0 ∨ x = a1) → (y = b0 ∨ y = b1 ∨ y = -1 ∨ y = 1) → has b0 b1 y = true → inn y = true → (if op = 0 then told (x + y) else if op = 1 then told (x - y) else if op = 2 then told (x * y) else if y = 0 then (0, 11) else told (x.tdiv y)) = (z, 0) →
      ∃ x y : Int, (x = a0 ∨ x = a1) ∧ (y = b0 ∨ y = b1 ∨ y = -1 ∨ y = 1) ∧ has b0 b1 y = true ∧ calc' op x y = (z, 0) := by
    intro x y hx hy hh iy e
    refine ⟨x, y, hx, hy, hh, ?_⟩
    unfold calc'
    rw [if_neg, e]
    rw [hA x hx, iy]
    rintro (h | h | h | h) <;> first | omega | cases h
  rcases (show op = 0 ∨ op = 1 ∨ op = 2 ∨ op = 3 by omega) with rfl | rfl | rfl | rfl
  · simp only [res, if_true, List.mem_cons, List.not_mem_nil, or_false] at hz
    rcases hz with rfl | rfl
    · exact fin a0 b0 (.inl rfl) (.inl rfl) (hB _ (.inl rfl)).2 (hB _ (.inl rfl)).1 tz
    · exact fin a1 b1 (.inr rfl) (.inr (.inl rfl)) (hB _ (.inr rfl)).2 (hB _ (.inr rfl)).1 tz
  · have e : res 1 a0 a1 b0 b1 = [a0 - b1, a1 - b0] := rfl
    rw [e] at hz
    simp only [List.mem_cons, List.not_mem_nil, or_false] at hz
    rcases hz with rfl | rfl
    · exact fin a0 b1 (.inl rfl) (.inr (.inl rfl)) (hB _ (.inr rfl)).2 (hB _ (.inr rfl)).1 tz
    · exact fin a1 b0 (.inr rfl) (.inl rfl) (hB _ (.inl rfl)).2 (hB _ (.inl rfl)).1 tz
  · have e : res 2 a0 a1 b0 b1 = [tm a0 b0, tm a0 b1, tm a1 b0, tm a1 b1] := rfl
    rw [e] at hz
    have ht : ∀ x y, z = tm x y → told (x * y) = (z, 0) := by
      intro x y h
      have : x * y = z := by
        have hi' := inn_iff.1 hi
        rw [h] at hi' ⊢
        unfold tm at hi' ⊢
        generalize x * y = p at *
        split at hi' <;> (try split at hi') <;> split <;> (try split) <;> omega
      rw [this, tz]
    simp only [List.mem_cons, List.not_mem_nil, or_false] at hz
    rcases hz with h | h | h | h
    · exact fin a0 b0 (.inl rfl) (.inl rfl) (hB _ (.inl rfl)).2 (hB _ (.inl rfl)).1 (ht _ _ h)
    · exact fin a0 b1 (.inl rfl) (.inr (.inl rfl)) (hB _ (.inr rfl)).2 (hB _ (.inr rfl)).1 (ht _ _ h)
    · exact fin a1 b0 (.inr rfl) (.inl rfl) (hB _ (.inl rfl)).2 (hB _ (.inl rfl)).1 (ht _ _ h)
    · exact fin a1 b1 (.inr rfl) (.inr (.inl rfl)) (hB _ (.inr rfl)).2 (hB _ (.inr rfl)).1 (ht _ _ h)
  · have hz' := (R3 (a0 := a0) (a1 := a1) hb z).2 hz
    obtain ⟨y, hy, hc, hx⟩ := mem_R.1 hz'
    have hv : ∀ a y, rv 3 a y = a.tdiv y := fun a y => rfl
    rw [hv, hv] at hx
    have hy0 : y ≠ 0 := fun e => hc ⟨rfl, e⟩
    have hY : (y = b0 ∨ y = b1 ∨ y = -1 ∨ y = 1) ∧ has b0 b1 y = true := by
      unfold ys at hy
      simp only [List.mem_append, List.mem_cons, List.not_mem_nil, or_false] at hy
      rcases hy with ((hy | hy) | hy) | hy
      · exact ⟨.inl hy, (hB y (.inl hy)).2⟩
      · exact ⟨.inr (.inl hy), (hB y (.inr hy)).2⟩
      · split at hy
        · rename_i g; simp at hy; subst hy; exact ⟨.inr (.inr (.inr rfl)), g.2⟩
        · simp at hy
      · split at hy
        · rename_i g; simp at hy; subst hy; exact ⟨.inr (.inr (.inl rfl)), g.2⟩
        · simp at hy
    have iy : inn y = true := by
      have := has_iff.1 hY.2
      exact inn_iff.2 (by omega)
    rcases hx with hx | hx
    · exact fin a0 y (.inl rfl) hY.1 hY.2 iy (by simp only [show ((3 : Int) = 0) = False by simp, show ((3 : Int) = 1) = False by simp, show ((3 : Int) = 2) = False by simp, if_false]; rw [if_neg hy0, ← hx, tz])
    · exact fin a1 y (.inr rfl) hY.1 hY.2 iy (by simp only [show ((3 : Int) = 0) = False by simp, show ((3 : Int) = 1) = False by simp, show ((3 : Int) = 2) = False by simp, if_false]; rw [if_neg hy0, ← hx, tz])
/-- SpanReached: each end that was not cut comes of some numbers. -/
theorem reached {op a0 a1 b0 b1 : Int} (h0 : 0 ≤ op) (h3 : op ≤ 3) (ha : ok a0 a1 = true) (hb : ok b0 b1 = true) (hne : (reck op a0 a1 b0 b1).1 ≠ (1, 0)) :
    ((reck op a0 a1 b0 b1).1.1 = -1152921504606846976 ∨ ∃ x y : Int, (x = a0 ∨ x = a1) ∧ (y = b0 ∨ y = b1 ∨ y = -1 ∨ y = 1) ∧ has b0 b1 y = true ∧ calc' op x y = ((reck op a0 a1 b0 b1).1.1, 0)) ∧
    ((reck op a0 a1 b0 b1).1.2 = 1152921504606846976 ∨ ∃ x y : Int, (x = a0 ∨ x = a1) ∧ (y = b0 ∨ y = b1 ∨ y = -1 ∨ y = 1) ∧ has b0 b1 y = true ∧ calc' op x y = ((reck op a0 a1 b0 b1).1.2, 0)) := by
  rw [reck_ok h0 h3 ha hb] at hne ⊢
  dsimp only at hne ⊢
  have hl : res op a0 a1 b0 b1 ≠ [] := by
    intro e; apply hne; unfold hull; rw [if_pos e]
  have c : max (minL (res op a0 a1 b0 b1)) (-1152921504606846976) ≤ min (maxL (res op a0 a1 b0 b1)) 1152921504606846976 := by
    apply Classical.byContradiction
    intro c; apply hne; unfold hull; rw [if_neg hl]; unfold of; rw [if_neg c]
  have e : hull (res op a0 a1 b0 b1) = (max (minL (res op a0 a1 b0 b1)) (-1152921504606846976), min (maxL (res op a0 a1 b0 b1)) 1152921504606846976) := by
    unfold hull; rw [if_neg hl]; unfold of; rw [if_pos c]
  rw [e]
  dsimp only
  have m1 := (minL_spec hl).1
  have m2 := (maxL_spec hl).1
  have mm := (maxL_spec hl).2 _ m1
  constructor
  · by_cases g : minL (res op a0 a1 b0 b1) ≤ -1152921504606846976
    · left; omega
    · right
      rw [show max (minL (res op a0 a1 b0 b1)) (-1152921504606846976) = minL (res op a0 a1 b0 b1) by omega]
      exact comes h0 h3 ha hb m1 (inn_iff.2 (by omega))
  · by_cases g : 1152921504606846976 ≤ maxL (res op a0 a1 b0 b1)
    · left; omega
    · right
      rw [show min (maxL (res op a0 a1 b0 b1)) 1152921504606846976 = maxL (res op a0 a1 b0 b1) by omega]
      exact comes h0 h3 ha hb m2 (inn_iff.2 (by omega))
end Go.Proofs.YtjddafaaplhnfaaDoor.Sp

set_option linter.unusedVariables false
set_option linter.unusedSimpArgs false
namespace Go.Proofs.YtjddafaaplhnfaaDoor
open Go Go.RowKit

theorem add_at (b o j : Nat) : (⟨b, o, none⟩ : Addr).add j = ⟨b, o + j, none⟩ := by unfold Addr.add; split <;> simp_all
/-- 'append(s, x...)', x a row that lies in memory. -/
theorem step_append_at {P : Program} {w : World} {ops : Array Oper} {o : Oper} {a : Act} {K : Act → World → Prop} {Q : Exit → Act → World → Prop} {E : Prop} (hgd : o.guard = none) (s x : Operand) (t : TypeId)
    (ho : o.op = .call { callee := .builtin .append, args := #[s, x], argTypes := #[t, t] })
    (base : Nat) (e : TypeId) (i : TypeInfo) (z : Value) (size bytes : Nat) (ht : P.underlying t = some (.slice e)) (hi : P.info? e = some i) (hz : i.zero = some z)
    (hsize : i.size = size) (hby : i.bytes = bytes) (hzs : z.cells.size = size) (hsz : 0 < size)
    (v : Value) (n : Nat) (xs : List Value) (hs : a.eval s = v) (hown : w.ownsRow base e size v n xs)
    (ad : Addr) (m c : Nat) (news : List Value) (hx : a.eval x = .slice (some ad) m c) (hl : news.length = m * size) (hnews : ∀ j u, news[j]? = some u → w.cell? (ad.add j) = some u) (h1 : ∀ u ∈ news, u.oneCell' = true)
    (h63 : n + m ≤ maxLen) (hbytes : (n + m) * bytes ≤ 140737488355328) (hbase : base ≤ w.heap.size)
    (h : ∀ v' w', w'.ownsRow base e size v' (n + m) (xs ++ news) → w.grownBy w' v.ownBlock → (v'.ownBlock = v.ownBlock ∨ v'.ownBlock = some w.heap.size) → K (a.put o.dst v') w') :
    if Region.wanted o (yielded ops a.tmps) = true then Oper.wp P o a w K Q else E := by
  have hw : Region.wanted o (yielded ops a.tmps) = true := by simp [Region.wanted, hgd]
  rw [if_pos hw]
  obtain ⟨v', w', hr, h2, h3, h4, h5⟩ := run_append_own_at (P := P) w base t o.type e i z size bytes ht hi hz hsize hby hzs hsz v n xs hown ad m c news hl hnews h1 h63 hbytes hbase
  unfold Oper.wp execOp
  simp only [ho, resolve, invoke, builtin, Sem.run_bind, Sem.run_pure, Result.andThen_ok, List.map_toArray, List.map_cons, List.map_nil, hs, hx, hr]
  exact h v' w' h2 h3 h5
/-- The same, outside a region that draws. -/
theorem wpList_append_at {P : Program} {w : World} {ops : Array Oper} {rest : List Oper} {o : Oper} {a : Act} {Q : Exit → Act → World → Prop} (hgd : o.guard = none) (s x : Operand) (t : TypeId)
    (ho : o.op = .call { callee := .builtin .append, args := #[s, x], argTypes := #[t, t] })
    (base : Nat) (e : TypeId) (i : TypeInfo) (z : Value) (size bytes : Nat) (ht : P.underlying t = some (.slice e)) (hi : P.info? e = some i) (hz : i.zero = some z)
    (hsize : i.size = size) (hby : i.bytes = bytes) (hzs : z.cells.size = size) (hsz : 0 < size)
    (v : Value) (n : Nat) (xs : List Value) (hs : a.eval s = v) (hown : w.ownsRow base e size v n xs)
    (ad : Addr) (m c : Nat) (news : List Value) (hx : a.eval x = .slice (some ad) m c) (hl : news.length = m * size) (hnews : ∀ j u, news[j]? = some u → w.cell? (ad.add j) = some u) (h1 : ∀ u ∈ news, u.oneCell' = true)
    (h63 : n + m ≤ maxLen) (hbytes : (n + m) * bytes ≤ 140737488355328) (hbase : base ≤ w.heap.size)
    (h : ∀ v' w', w'.ownsRow base e size v' (n + m) (xs ++ news) → w.grownBy w' v.ownBlock → (v'.ownBlock = v.ownBlock ∨ v'.ownBlock = some w.heap.size) → wpList P ops Q rest (a.put o.dst v') w') : wpList P ops Q (o :: rest) a w := by
  refine wpList_plain hgd fun K hK => ?_
  obtain ⟨v', w', hr, h2, h3, h4, h5⟩ := run_append_own_at (P := P) w base t o.type e i z size bytes ht hi hz hsize hby hzs hsz v n xs hown ad m c news hl hnews h1 h63 hbytes hbase
  unfold Oper.wp execOp
  simp only [ho, resolve, invoke, builtin, Sem.run_bind, Sem.run_pure, Result.andThen_ok, List.map_toArray, List.map_cons, List.map_nil, hs, hx, hr]
  exact hK _ _ (h v' w' h2 h3 h5)
end Go.Proofs.YtjddafaaplhnfaaDoor

set_option linter.unusedVariables false
set_option linter.unusedSimpArgs false
namespace Go.Proofs.YtjddafaaplhnfaaDoor
open Go.RowKit

theorem Below.drewN' {B : Nat} {a w : World} (h : Below B a w) (n : Nat) : Below B a (w.drewN n) := ⟨h.os, h.tape, h.output, h.size, h.block⟩
theorem Below.push {B : Nat} {a w : World} (h : Below B a w) (hB : B ≤ a.heap.size) (o : Obj) : Below B a (w.alloc o) := h.alloc (Nat.le_trans hB h.size) o
theorem Below.seq_to {w wx w2 : World} (k : Below wx.heap.size wx w2) (h : Below w.heap.size w wx) : Below w.heap.size w w2 := h.trans (k.mono h.size)

structure Tabs (w : World) : Prop where
  pow : Lib.TabIs Tryd.prog w "internal/strconv.uint64pow10" .u64 Lib.pow10Tab

theorem var_below {w w' : World} {n : String} {cs : Array Value} (h : w.var? Tryd.prog n = some cs) (hb : Below w.heap.size w w') : w'.var? Tryd.prog n = some cs := by
  unfold World.var? at h ⊢
  cases hg : Tryd.prog.globalNamed n with
  | none => rw [hg] at h; cases h
  | some g =>
    rw [hg] at h
    simp only [Option.bind_some] at h ⊢
    have hlt : g < w.heap.size := by
      apply Classical.byContradiction
      intro hn
      rw [Array.getElem?_eq_none (by omega)] at h
      cases h
    rw [hb.block g hlt]
    exact h
theorem Tabs.below {w w' : World} (h : Tabs w) (hb : Below w.heap.size w w') : Tabs w' := ⟨var_below h.pow hb⟩
theorem below_grow (w : World) (n : Nat) (os : Array Obj) : Below w.heap.size w (Go.Sort.grow (w.drewN n) os) :=
  ⟨rfl, rfl, rfl, by simp [Go.Sort.grow, World.drewN], fun k hk => by show (w.heap ++ os)[k]? = w.heap[k]?; exact Array.getElem?_append_left hk⟩

theorem tab_pow : Tryd.prog.globalNamed "internal/strconv.uint64pow10" = some 0 := by kernel_rfl
theorem tab_powT : (Tryd.prog.globals[0]?).map (·.type) = some 87 := by kernel_rfl
theorem tab_cellsU64 : Tryd.prog.cellsOf 75 = 1 := by kernel_rfl
theorem tab_cellsTab : Tryd.prog.cellsOf 87 = 20 := by kernel_rfl
end Go.Proofs.YtjddafaaplhnfaaDoor

set_option linter.unusedVariables false
set_option linter.unusedSimpArgs false
namespace Go.Proofs.YtjddafaaplhnfaaDoor
open Go Go.RowKit Go.Proofs.YtjddafaaplhnfaaDoorW.PrintWords
/-- A world with two boxes written. -/
def put2 (w1 : World) (ga gb : Nat) (x0 x1 y0 y1 : Value) : World := (((w1.setCell ⟨ga, 0, none⟩ x0).setCell ⟨ga, 1, none⟩ x1).setCell ⟨gb, 0, none⟩ y0).setCell ⟨gb, 1, none⟩ y1
theorem put2_a {w1 : World} {ga gb : Nat} {a0 a1 : Value} {T : TypeId} (x0 x1 y0 y1 : Value) (pa : w1.heap[ga]? = some (.cells #[a0, a1] T (0, 0))) (ne : ga ≠ gb) : (put2 w1 ga gb x0 x1 y0 y1).heap[ga]? = some (.cells #[x0, x1] T (0, 0)) := by
  have h := blk_far (p := ⟨gb, 1, none⟩) (blk_far (p := ⟨gb, 0, none⟩) (blk_set (blk_set pa 0 x0) 1 x1) ne y0) ne y1
  exact h
theorem put2_b {w1 : World} {ga gb : Nat} {b0 b1 : Value} {T : TypeId} (x0 x1 y0 y1 : Value) (pb : w1.heap[gb]? = some (.cells #[b0, b1] T (0, 0))) (ne : ga ≠ gb) : (put2 w1 ga gb x0 x1 y0 y1).heap[gb]? = some (.cells #[y0, y1] T (0, 0)) := by
  have h := blk_set (blk_set (blk_far (p := ⟨ga, 1, none⟩) (blk_far (p := ⟨ga, 0, none⟩) pb ne.symm x0) ne.symm x1) 0 y0) 1 y1
  exact h
theorem put2_far {w1 : World} {ga gb k : Nat} {o : Obj} (x0 x1 y0 y1 : Value) (p : w1.heap[k]? = some o) (n1 : k ≠ ga) (n2 : k ≠ gb) : (put2 w1 ga gb x0 x1 y0 y1).heap[k]? = some o := by
  unfold put2
  rw [Below.heap_setCell _ _ _ _ n2, Below.heap_setCell _ _ _ _ n2, Below.heap_setCell _ _ _ _ n1, Below.heap_setCell _ _ _ _ n1]
  exact p
theorem put2_below {a w1 : World} {B ga gb : Nat} (x0 x1 y0 y1 : Value) (h : Below B a w1) (h1 : B ≤ ga) (h2 : B ≤ gb) : Below B a (put2 w1 ga gb x0 x1 y0 y1) :=
  (((h.setCell h1 _).setCell h1 _).setCell h2 _).setCell h2 _
end Go.Proofs.YtjddafaaplhnfaaDoor
