/- Plain numbers of package bound: what is reckoned, what is near, what is added. -/
set_option linter.unusedVariables false
namespace Go.Proofs.YtjkaeimchnfhkaaDoor.Bd

def inn (n : Int) : Bool := decide (-1152921504606846976 ≤ n) && decide (n ≤ 1152921504606846976)
theorem inn_iff {n : Int} : inn n = true ↔ -1152921504606846976 ≤ n ∧ n ≤ 1152921504606846976 := by simp [inn]
theorem inn_not {n : Int} : inn n = false ↔ n < -1152921504606846976 ∨ 1152921504606846976 < n := by
  rw [← Bool.not_eq_true, inn_iff]; omega
def told (n : Int) : Int × Int := if inn n = true then (n, 0) else (0, 10)
def calc' (op a b : Int) : Int × Int :=
  if op < 0 ∨ 3 < op ∨ inn a = false ∨ inn b = false then (0, 1) else
  if op = 0 then told (a + b) else if op = 1 then told (a - b) else if op = 2 then told (a * b) else if b = 0 then (0, 11) else told (a.tdiv b)
def right (b : Int) : Bool := (decide (-2305843009213693952 ≤ b) && decide (b ≤ 2305843009213693952)) || b == 4611686018427387904
theorem right_iff {b : Int} : right b = true ↔ (-2305843009213693952 ≤ b ∧ b ≤ 2305843009213693952) ∨ b = 4611686018427387904 := by simp [right]
def near (b : Int) : Int := if b > 2305843009213693952 then 4611686018427387904 else if b < -2305843009213693952 then -2305843009213693952 else b
def add (a b : Int) : Int := if near a = 4611686018427387904 then 4611686018427387904 else if near b = 4611686018427387904 then 4611686018427387904 else near (near a + near b)
def leq (a b : Int) : Bool := decide (near a ≤ near b)

theorem near_right (b : Int) : right (near b) = true := by
  rw [right_iff]; unfold near; split
  · omega
  · split <;> omega
theorem near_of_right {b : Int} (h : right b = true) : near b = b := by
  rw [right_iff] at h; unfold near; split
  · omega
  · split <;> omega
theorem near_cases (b : Int) : near b = 4611686018427387904 ∨ (-2305843009213693952 ≤ near b ∧ near b ≤ 2305843009213693952) := by
  have := near_right b
  rw [right_iff] at this
  omega
theorem add_right (a b : Int) : right (add a b) = true := by
  unfold add
  split
  · rfl
  · split
    · rfl
    · exact near_right _
theorem add_comm (a b : Int) : add a b = add b a := by
  unfold add
  by_cases h1 : near a = 4611686018427387904
  · rw [if_pos h1]; by_cases h2 : near b = 4611686018427387904
    · rw [if_pos h2]
    · rw [if_neg h2, if_pos h1]
  · rw [if_neg h1]
    by_cases h2 : near b = 4611686018427387904
    · rw [if_pos h2, if_pos h2]
    · rw [if_neg h2, if_neg h2, if_neg h1, Int.add_comm]

theorem tdiv_mul_self {a b : Int} (hb : b ≠ 0) : (a * b).tdiv b = a := Int.mul_tdiv_cancel a hb

theorem calc_in {op a b n : Int} (h : calc' op a b = (n, 0)) : inn a = true ∧ inn b = true ∧ inn n = true := by
  have ht : ∀ x, told x = (n, 0) → inn n = true := fun x h => by
    unfold told at h
    split at h
    · injection h with h _; subst h; assumption
    · injection h with _ h; exact absurd h (by decide)
  unfold calc' at h
  split at h
  · injection h with _ h; exact absurd h (by decide)
  · rename_i hc
    have ha : inn a = true := by
      cases hh : inn a
      · exact absurd (.inr (.inr (.inl hh))) hc
      · rfl
    have hb : inn b = true := by
      cases hh : inn b
      · exact absurd (.inr (.inr (.inr hh))) hc
      · rfl
    refine ⟨ha, hb, ?_⟩
    split at h
    · exact ht _ h
    · split at h
      · exact ht _ h
      · split at h
        · exact ht _ h
        · split at h
          · injection h with _ h; exact absurd h (by decide)
          · exact ht _ h
theorem told_ok {x n : Int} (h : told x = (n, 0)) : n = x ∧ inn x = true := by
  unfold told at h
  split at h
  · injection h with h _; exact ⟨h.symm, by assumption⟩
  · injection h with _ h; exact absurd h (by decide)
theorem calc_of {a b : Int} (ha : inn a = true) (hb : inn b = true) : calc' 0 a b = told (a + b) ∧ calc' 1 a b = told (a - b) ∧ calc' 2 a b = told (a * b) ∧ (b ≠ 0 → calc' 3 a b = told (a.tdiv b)) := by
  refine ⟨?_, ?_, ?_, fun h => ?_⟩ <;> unfold calc' <;> rw [if_neg (by rw [ha, hb]; simp)]
  · rfl
  · rfl
  · rfl
  · rw [if_neg (by decide), if_neg (by decide), if_neg (by decide), if_neg h]
theorem plus_undo {a b s : Int} (h : calc' 0 a b = (s, 0)) : calc' 1 s b = (a, 0) := by
  obtain ⟨ha, hb, hs⟩ := calc_in h
  rw [(calc_of ha hb).1] at h
  obtain ⟨e, _⟩ := told_ok h
  rw [(calc_of hs hb).2.1, e, Int.add_sub_cancel]
  unfold told; rw [if_pos ha]
theorem times_undo {a b p : Int} (h : calc' 2 a b = (p, 0)) (h0 : b ≠ 0) : calc' 3 p b = (a, 0) := by
  obtain ⟨ha, hb, hs⟩ := calc_in h
  rw [(calc_of ha hb).2.2.1] at h
  obtain ⟨e, _⟩ := told_ok h
  rw [(calc_of hs hb).2.2.2 h0, e, Int.mul_tdiv_cancel a h0]
  unfold told; rw [if_pos ha]

/-- What two whole numbers are not above, their sum is not above. -/
theorem sound {x y a b : Int} (hx : inn x = true) (hy : inn y = true) (h1 : leq x a = true) (h2 : leq y b = true) : leq (x + y) (add a b) = true := by
  rw [inn_iff] at hx hy
  unfold leq at *
  rw [decide_eq_true_eq] at *
  rw [near_of_right (add_right a b)]
  unfold add
  have e1 : near x = x := by unfold near; rw [if_neg (by omega), if_neg (by omega)]
  have e2 : near y = y := by unfold near; rw [if_neg (by omega), if_neg (by omega)]
  have e3 : near (x + y) = x + y := by unfold near; rw [if_neg (by omega), if_neg (by omega)]
  rw [e1] at h1
  rw [e2] at h2
  rw [e3]
  by_cases c1 : near a = 4611686018427387904
  · rw [if_pos c1]; omega
  · rw [if_neg c1]
    by_cases c2 : near b = 4611686018427387904
    · rw [if_pos c2]; omega
    · rw [if_neg c2]
      generalize near a = p at *
      generalize near b = q at *
      unfold near
      split
      · omega
      · split <;> omega

def cut (x y : Int) : Bool := (x != 4611686018427387904) && ((y != 4611686018427387904) && (decide (x + y < -2305843009213693952) || decide (x + y > 2305843009213693952)))
theorem three {a b c : Int} (ha : right a = true) (hb : right b = true) (hc : right c = true) (h1 : cut a b = false) (h2 : cut b c = false) : add (add a b) c = add a (add b c) := by
  have na := near_of_right ha
  have nb := near_of_right hb
  have nc := near_of_right hc
  have rab := near_of_right (add_right a b)
  have rbc := near_of_right (add_right b c)
  rw [right_iff] at ha hb hc
  by_cases a0 : a = 4611686018427387904
  · subst a0
    have e : add 4611686018427387904 b = 4611686018427387904 := by unfold add; rw [na, if_pos rfl]
    have e2 : ∀ z, add 4611686018427387904 z = 4611686018427387904 := fun z => by unfold add; rw [na, if_pos rfl]
    rw [e, e2, e2]
  · by_cases b0 : b = 4611686018427387904
    · subst b0
      have e2 : ∀ z, add 4611686018427387904 z = 4611686018427387904 := fun z => by unfold add; rw [nb, if_pos rfl]
      rw [e2, add_comm a, e2, e2]
    · by_cases c0 : c = 4611686018427387904
      · subst c0
        have e2 : ∀ z, add z 4611686018427387904 = 4611686018427387904 := fun z => by rw [add_comm]; unfold add; rw [nc, if_pos rfl]
        rw [e2, e2, e2]
      · have g1 : -2305843009213693952 ≤ a + b ∧ a + b ≤ 2305843009213693952 := by
          simp [cut, a0, b0] at h1; omega
        have g2 : -2305843009213693952 ≤ b + c ∧ b + c ≤ 2305843009213693952 := by
          simp [cut, b0, c0] at h2; omega
        have n0 : ∀ z : Int, -2305843009213693952 ≤ z ∧ z ≤ 2305843009213693952 → near z = z := fun z h => by unfold near; rw [if_neg (by omega), if_neg (by omega)]
        have e1 : add a b = a + b := by unfold add; rw [na, nb, if_neg a0, if_neg b0, n0 _ g1]
        have e2 : add b c = b + c := by unfold add; rw [nb, nc, if_neg b0, if_neg c0, n0 _ g2]
        rw [e1, e2]
        unfold add
        rw [na, nc, n0 _ g1, n0 _ g2, if_neg (by omega), if_neg c0, if_neg a0, if_neg (by omega), Int.add_assoc]
end Go.Proofs.YtjkaeimchnfhkaaDoor.Bd
