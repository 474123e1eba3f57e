/- Plain law: two refs to which all numbers' bits lead alike are the same; the refs of a build are there. -/
import Derived.Test.YtknoigebkpapoaaDoorCa
import Derived.Test.YtknoigebkpapoaaDoorNb
import Derived.Test.YtknoigebkpapoaaDoorRo
import Derived.Test.YtknoigebkpapoaaDoorSv
set_option linter.unusedVariables false
set_option linter.unusedSimpArgs false
namespace Go.Proofs.YtknoigebkpapoaaDoor

theorem Ar.wk_congr {t t' : Int → Bool} {L : List Nd} (ok : Ar.Ok L) (h : ∀ v : Int, 0 ≤ v → v < 12 → t v = t' v) : ∀ (n : Nat) (r : Int), Ar.wk t L n r = Ar.wk t' L n r
  | 0, _ => rfl
  | n + 1, r => by
    unfold Ar.wk
    by_cases hn : Ar.isN L r
    · have hc := Ar.ok_child ok hn
      rw [if_pos hn, if_pos hn, h _ hc.1 hc.2.1, Ar.wk_congr ok h n]
    · rw [if_neg hn, if_neg hn]
/-- A number that has given bits. -/
def bitsOf (t : Nat → Bool) : Nat → Nat
  | 0 => 0
  | n + 1 => bitsOf t n + (if t n then 2 ^ n else 0)
theorem bitsOf_lt (t : Nat → Bool) : ∀ n, bitsOf t n < 2 ^ n
  | 0 => by simp [bitsOf]
  | n + 1 => by
    have := bitsOf_lt t n
    unfold bitsOf
    rw [Nat.pow_succ]
    split <;> omega
theorem bitsOf_bit (t : Nat → Bool) : ∀ n v, v < n → (bitsOf t n / 2 ^ v % 2 == 1) = t v
  | 0, _, h => by omega
  | n + 1, v, h => by
    unfold bitsOf
    have hl := bitsOf_lt t n
    by_cases hv : v = n
    · subst hv
      cases ht : t v
      · simp [Nat.div_eq_of_lt hl]
      · have : (bitsOf t v + 2 ^ v) / 2 ^ v = 1 := by
          rw [Nat.add_div_right _ (Nat.two_pow_pos v), Nat.div_eq_of_lt hl]
        simp [this]
    · have ih := bitsOf_bit t n v (by omega)
      rw [← ih]
      cases t n
      · simp
      · have e : 2 ^ n = 2 ^ v * (2 * 2 ^ (n - v - 1)) := by
          rw [← Nat.mul_assoc, ← Nat.pow_succ, ← Nat.pow_add]
          congr 1
          omega
        have e2 : (bitsOf t n + 2 ^ n) / 2 ^ v = bitsOf t n / 2 ^ v + 2 * 2 ^ (n - v - 1) := by
          rw [e, Nat.add_mul_div_left _ _ (Nat.two_pow_pos v)]
        simp only [if_true, e2]
        congr 1
        omega
theorem bt_nat (n v : Nat) (h : n < 18446744073709551616) : bt (n : Int) (v : Int) = (n / 2 ^ v % 2 == 1) := by
  rw [bt_shr (by omega) (by omega)]
  unfold shr
  have e : ((n : Int) / 2 ^ v) = ((n / 2 ^ v : Nat) : Int) := by rw [Int.natCast_ediv]; simp
  rw [e]
  have : ((n / 2 ^ v : Nat) : Int) % 2 = ((n / 2 ^ v % 2 : Nat) : Int) := by omega
  rw [this]
  rw [Bool.eq_iff_iff]
  simp
  omega
theorem Ar.same_bits {L : List Nd} (ok : Ar.Ok L) {r s : Int} (hr : Ar.has L r) (hs : Ar.has L s) (h : ∀ j : Nat, j < 4096 → Ar.walk (bt (j : Int)) L r = Ar.walk (bt (j : Int)) L s) : r = s := by
  refine Ar.canon ok (max r.toNat s.toNat + 1) r s (by omega) (by omega) hr hs (fun t => ?_)
  have hl := bitsOf_lt (fun n => t (n : Int)) 12
  have h1 := h (bitsOf (fun n => t (n : Int)) 12) (by simpa using hl)
  have hb : ∀ v : Int, 0 ≤ v → v < 12 → bt (bitsOf (fun n => t (n : Int)) 12 : Nat) v = t v := fun v h0 h1 => by
    obtain ⟨n, rfl⟩ := Int.eq_ofNat_of_zero_le h0
    rw [bt_nat _ _ (by omega), bitsOf_bit _ 12 n (by omega)]
  unfold Ar.walk at h1 ⊢
  rw [Ar.wk_congr ok hb, Ar.wk_congr ok hb] at h1
  exact h1

theorem Ar.bldR_has (lim : Int) (xs : List Nd) : ∀ x ∈ (Ar.bldR lim xs).2, Ar.has (Ar.bldR lim xs).1 x := by
  have h : ∀ (xs : List Nd) (p : List Nd × List Int), (∀ x ∈ p.2, Ar.has p.1 x) → ∀ x ∈ (xs.foldl (Ar.stepR lim) p).2, Ar.has (xs.foldl (Ar.stepR lim) p).1 x := by
    intro xs
    induction xs with
    | nil => intro p hp; exact hp
    | cons o l ih =>
      intro p hp
      refine ih _ (fun x hx => ?_)
      unfold Ar.stepR at hx ⊢
      dsimp only at hx ⊢
      have hpre := Ar.mk_prefix lim p.1 o.v o.l o.h
      split at hx
      · rename_i he
        rcases List.mem_append.1 hx with hx | hx
        · exact Ar.has_pre hpre (hp x hx)
        · simp only [List.mem_cons, List.not_mem_nil, or_false] at hx
          subst hx
          exact Ar.mk_has (lim := lim) (v := o.v) (lo := o.l) (hi := o.h) (L := p.1) (by rw [← he])
      · exact Ar.has_pre hpre (hp x hx)
  exact h xs ([], []) (fun x hx => by cases hx)
/-- Do the bits of all numbers up to some lead alike? -/
def sameB (L : List Nd) (r s : Int) (m : Nat) : Bool := (List.range m).all fun j => Ar.wk (bt (j : Int)) L (r.toNat + 1) r == Ar.wk (bt (j : Int)) L (s.toNat + 1) s
theorem sameB_succ (L : List Nd) (r s : Int) (m : Nat) : sameB L r s (m + 1) = (sameB L r s m && (Ar.wk (bt (m : Int)) L (r.toNat + 1) r == Ar.wk (bt (m : Int)) L (s.toNat + 1) s)) := by
  simp [sameB, List.range_succ, List.all_append]
theorem sameB_all {L : List Nd} (ok : Ar.Ok L) {r s : Int} (hr : Ar.has L r) (hs : Ar.has L s) : sameB L r s 4096 = (r == s) := by
  rw [Bool.eq_iff_iff]
  constructor
  · intro h
    simp only [sameB, List.all_eq_true, List.mem_range] at h
    have := Ar.same_bits ok hr hs (fun j hj => by have := h j hj; simpa [Ar.walk] using this)
    simp [this]
  · intro h
    have : r = s := by simpa using h
    subst this
    simp [sameB]
end Go.Proofs.YtknoigebkpapoaaDoor
