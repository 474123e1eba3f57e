/- The plain law of moving a diagram from arena to arena: what is held already comes again; how many nodes may come. -/
import Derived.Test.YtknoigebkpapoaaDoorSs
set_option linter.unusedVariables false
set_option linter.unusedSimpArgs false
namespace Go.Proofs.YtknoigebkpapoaaDoor
namespace Ar

theorem has_pre {L L' : List Nd} (h : L <+: L') {r : Int} (hr : has L r) : has L' r := by
  have := h.length_le
  exact ⟨hr.1, by have := hr.2; omega⟩
theorem getD_pre {L L' : List Nd} (h : L <+: L') {i : Nat} (hi : i < L.length) : L'.getD i ⟨0, 0, 0⟩ = L.getD i ⟨0, 0, 0⟩ := by
  obtain ⟨M, rfl⟩ := h
  simp [List.getD, List.getElem?_append_left hi]
theorem nd_pre {L L' : List Nd} (h : L <+: L') {r : Int} (hr : r < L.length) : nd L' r = nd L r := by
  unfold nd
  by_cases h0 : 0 ≤ r
  · rw [if_pos h0, if_pos h0, getD_pre h (by omega)]
  · rw [if_neg h0, if_neg h0]
theorem var_pre {L L' : List Nd} (h : L <+: L') {r : Int} (hr : r < L.length) : var L' r = var L r := by
  have hl := h.length_le
  unfold var
  by_cases h0 : 0 ≤ r
  · rw [if_pos (show isN L' r from ⟨h0, by omega⟩), if_pos (show isN L r from ⟨h0, hr⟩), nd_pre h hr]
  · rw [if_neg (show ¬ isN L' r from fun c => h0 c.1), if_neg (show ¬ isN L r from fun c => h0 c.1)]
theorem ordered_pre {L L' : List Nd} (h : L <+: L') {v lo hi : Int} (ho : ordered L v lo hi) : ordered L' v lo hi := by
  obtain ⟨h1, h2, h3, h4⟩ := ho
  exact ⟨has_pre h h1, has_pre h h2, by rw [var_pre h h1.2]; exact h3, by rw [var_pre h h2.2]; exact h4⟩
theorem idx_pre {L L' : List Nd} (h : L <+: L') {n : Nd} (hn : n ∈ L) : L'.idxOf n = L.idxOf n := by
  obtain ⟨M, rfl⟩ := h
  rw [List.idxOf_append, if_pos hn]

/-- The ways of mk. -/
theorem mk_cases (lim : Int) (L : List Nd) (v lo hi : Int) :
    (∃ n, n ≠ 0 ∧ mk lim L v lo hi = (L, 0, n)) ∨ (0 ≤ v ∧ v < 12 ∧ ordered L v lo hi ∧
      ((lo = hi ∧ mk lim L v lo hi = (L, lo, 0)) ∨
       (lo ≠ hi ∧ (⟨v, lo, hi⟩ : Nd) ∈ L ∧ mk lim L v lo hi = (L, ((L.idxOf (⟨v, lo, hi⟩ : Nd) : Nat) : Int), 0)) ∨
       (lo ≠ hi ∧ (⟨v, lo, hi⟩ : Nd) ∉ L ∧ ¬ lim ≤ L.length ∧ mk lim L v lo hi = (L ++ [⟨v, lo, hi⟩], (L.length : Int), 0)))) := by
  unfold mk
  by_cases hv : v < 0 ∨ 12 ≤ v
  · exact .inl ⟨52, by decide, by rw [if_pos hv]⟩
  · by_cases ho : ordered L v lo hi
    · rw [if_neg hv, if_neg (fun h => h ho)]
      by_cases he : lo = hi
      · exact .inr ⟨by omega, by omega, ho, .inl ⟨he, by rw [if_pos he]⟩⟩
      · rw [if_neg he]
        by_cases hm : (⟨v, lo, hi⟩ : Nd) ∈ L
        · exact .inr ⟨by omega, by omega, ho, .inr (.inl ⟨he, hm, by rw [if_pos hm]⟩)⟩
        · rw [if_neg hm]
          by_cases hl : lim ≤ L.length
          · exact .inl ⟨50, by decide, by rw [if_pos hl]⟩
          · exact .inr ⟨by omega, by omega, ho, .inr (.inr ⟨he, hm, hl, by rw [if_neg hl]⟩)⟩
    · exact .inl ⟨51, by decide, by rw [if_neg hv, if_pos ho]⟩

theorem mk_prefix (lim : Int) (L : List Nd) (v lo hi : Int) : L <+: (mk lim L v lo hi).1 := by
  rcases mk_cases lim L v lo hi with ⟨n, _, h⟩ | ⟨_, _, _, ⟨_, h⟩ | ⟨_, _, h⟩ | ⟨_, _, _, h⟩⟩ <;> rw [h]
  · exact List.prefix_refl _
  · exact List.prefix_refl _
  · exact List.prefix_refl _
  · exact List.prefix_append _ _
theorem mk_length (lim : Int) (L : List Nd) (v lo hi : Int) : (mk lim L v lo hi).1.length ≤ L.length + 1 := by
  rcases mk_cases lim L v lo hi with ⟨n, _, h⟩ | ⟨_, _, _, ⟨_, h⟩ | ⟨_, _, h⟩ | ⟨_, _, _, h⟩⟩ <;> rw [h] <;> simp
theorem mk_mono {lim : Int} {L L' : List Nd} {v lo hi x : Int} (h : mk lim L v lo hi = (L, x, 0)) (hp : L <+: L') : mk lim L' v lo hi = (L', x, 0) := by
  rcases mk_cases lim L v lo hi with ⟨n, hn, e⟩ | ⟨h1, h2, ho, ⟨he, e⟩ | ⟨he, hm, e⟩ | ⟨he, hm, hl, e⟩⟩
  · rw [e] at h; cases h; exact absurd rfl hn
  · rw [e] at h; cases h
    unfold mk
    rw [if_neg (by omega), if_neg (fun c => c (ordered_pre hp ho)), if_pos he]
  · rw [e] at h; cases h
    unfold mk
    rw [if_neg (by omega), if_neg (fun c => c (ordered_pre hp ho)), if_neg he, if_pos (hp.subset hm), idx_pre hp hm]
  · rw [e] at h
    have := congrArg (fun p => p.1.length) h
    simp at this
theorem mk_idem {lim : Int} {L L' : List Nd} {v lo hi x : Int} (h : mk lim L v lo hi = (L', x, 0)) : mk lim L' v lo hi = (L', x, 0) := by
  rcases mk_cases lim L v lo hi with ⟨n, hn, e⟩ | ⟨h1, h2, ho, ⟨he, e⟩ | ⟨he, hm, e⟩ | ⟨he, hm, hl, e⟩⟩
  · rw [e] at h; cases h; exact absurd rfl hn
  · rw [e] at h; cases h; exact e
  · rw [e] at h; cases h; exact e
  · rw [e] at h; cases h
    unfold mk
    rw [if_neg (by omega), if_neg (fun c => c (ordered_pre (List.prefix_append _ _) ho)), if_neg he, if_pos (by simp)]
    rw [List.idxOf_append, if_neg hm]
    simp
theorem mk_err {lim : Int} {L : List Nd} {v lo hi : Int} (h : (mk lim L v lo hi).2.2 ≠ 0) : mk lim L v lo hi = (L, 0, (mk lim L v lo hi).2.2) := by
  rcases mk_cases lim L v lo hi with ⟨n, hn, e⟩ | ⟨h1, h2, ho, ⟨he, e⟩ | ⟨he, hm, e⟩ | ⟨he, hm, hl, e⟩⟩
  · rw [e]
  · rw [e] at h; exact absurd rfl h
  · rw [e] at h; exact absurd rfl h
  · rw [e] at h; exact absurd rfl h

/-- A diagram moved: by so many steps down. -/
def mv (lim : Int) (La : List Nd) : Nat → List Nd → Int → List Nd × Int × Int
  | 0, Lt, f => (Lt, f, 0)
  | n + 1, Lt, f =>
    if isN La f then
      if (mv lim La n Lt (nd La f).l).2.2 ≠ 0 then ((mv lim La n Lt (nd La f).l).1, 0, (mv lim La n Lt (nd La f).l).2.2) else
      if (mv lim La n (mv lim La n Lt (nd La f).l).1 (nd La f).h).2.2 ≠ 0 then
        ((mv lim La n (mv lim La n Lt (nd La f).l).1 (nd La f).h).1, 0, (mv lim La n (mv lim La n Lt (nd La f).l).1 (nd La f).h).2.2) else
      mk lim (mv lim La n (mv lim La n Lt (nd La f).l).1 (nd La f).h).1 (nd La f).v (mv lim La n Lt (nd La f).l).2.1 (mv lim La n (mv lim La n Lt (nd La f).l).1 (nd La f).h).2.1
    else (Lt, f, 0)

theorem mv_not {lim : Int} {La : List Nd} {n : Nat} {Lt : List Nd} {f : Int} (h : ¬ isN La f) : mv lim La n Lt f = (Lt, f, 0) := by
  cases n with
  | zero => rfl
  | succ n => unfold mv; rw [if_neg h]

theorem ok_child {La : List Nd} (ok : Ok La) {f : Int} (h : isN La f) :
    0 ≤ (nd La f).v ∧ (nd La f).v < 12 ∧ (nd La f).l ≠ (nd La f).h ∧ low ≤ (nd La f).l ∧ (nd La f).l < f ∧ low ≤ (nd La f).h ∧ (nd La f).h < f ∧ (nd La f).v < var La (nd La f).l ∧ (nd La f).v < var La (nd La f).h := by
  obtain ⟨h0, h1⟩ := h
  have hl : f.toNat < La.length := by omega
  have e : nd La f = La[f.toNat] := by unfold nd; rw [if_pos h0]; simp [List.getD, hl]
  have := ok.each f.toNat hl
  rw [e]
  refine ⟨this.1, this.2.1, this.2.2.1, this.2.2.2.1, by omega, this.2.2.2.2.2.1, by omega, this.2.2.2.2.2.2.2.1, this.2.2.2.2.2.2.2.2⟩

theorem mv_stable {lim : Int} {La : List Nd} (ok : Ok La) : ∀ (n m : Nat) (Lt : List Nd) (f : Int), f < n → f < m → mv lim La n Lt f = mv lim La m Lt f
  | 0, m, Lt, f, h, _ => by rw [mv_not (n := m) (fun c => by have := c.1; omega)]; rfl
  | n + 1, 0, Lt, f, _, h => by rw [mv_not (n := n + 1) (fun c => by have := c.1; omega)]; rfl
  | n + 1, m + 1, Lt, f, h1, h2 => by
    by_cases hf : isN La f
    · have hc := ok_child ok hf
      unfold mv
      rw [if_pos hf, if_pos hf]
      have el := mv_stable (lim := lim) ok n m Lt (nd La f).l (by omega) (by omega)
      rw [← el, ← mv_stable ok n m (mv lim La n Lt (nd La f).l).1 (nd La f).h (by omega) (by omega)]
    · rw [mv_not hf, mv_not hf]

theorem mv_prefix {lim : Int} {La : List Nd} : ∀ (n : Nat) (Lt : List Nd) (f : Int), Lt <+: (mv lim La n Lt f).1
  | 0, Lt, f => List.prefix_refl _
  | n + 1, Lt, f => by
    unfold mv
    have p1 := mv_prefix (lim := lim) (La := La) n Lt (nd La f).l
    have p2 := mv_prefix (lim := lim) (La := La) n (mv lim La n Lt (nd La f).l).1 (nd La f).h
    split
    · split
      · exact p1
      · split
        · exact p1.trans p2
        · exact (p1.trans p2).trans (mk_prefix _ _ _ _ _)
    · exact List.prefix_refl _

/-- What one way through a node comes to. -/
theorem mv_node {lim : Int} {La : List Nd} {n : Nat} {Lt : List Nd} {f : Int} (hf : isN La f) {L1 L2 : List Nd} {x1 x2 : Int} (h1 : mv lim La n Lt (nd La f).l = (L1, x1, 0)) (h2 : mv lim La n L1 (nd La f).h = (L2, x2, 0)) :
    mv lim La (n + 1) Lt f = mk lim L2 (nd La f).v x1 x2 := by
  unfold mv
  rw [if_pos hf, h1]
  simp only [ne_eq, not_true_eq_false, if_false]
  rw [h2]
  simp
theorem mv_low {lim : Int} {La : List Nd} {n : Nat} {Lt : List Nd} {f : Int} (hf : isN La f) {L1 : List Nd} {x1 e : Int} (h1 : mv lim La n Lt (nd La f).l = (L1, x1, e)) (he : e ≠ 0) : mv lim La (n + 1) Lt f = (L1, 0, e) := by
  unfold mv
  rw [if_pos hf, h1]
  simp [he]
theorem mv_high {lim : Int} {La : List Nd} {n : Nat} {Lt : List Nd} {f : Int} (hf : isN La f) {L1 L2 : List Nd} {x1 x2 e : Int} (h1 : mv lim La n Lt (nd La f).l = (L1, x1, 0)) (h2 : mv lim La n L1 (nd La f).h = (L2, x2, e)) (he : e ≠ 0) :
    mv lim La (n + 1) Lt f = (L2, 0, e) := by
  unfold mv
  rw [if_pos hf, h1]
  simp only [ne_eq, not_true_eq_false, if_false]
  rw [h2]
  simp [he]
/-- .. and back. -/
theorem mv_inv {lim : Int} {La : List Nd} {n : Nat} {Lt L' : List Nd} {f x : Int} (hf : isN La f) (h : mv lim La (n + 1) Lt f = (L', x, 0)) :
    ∃ L1 L2 x1 x2, mv lim La n Lt (nd La f).l = (L1, x1, 0) ∧ mv lim La n L1 (nd La f).h = (L2, x2, 0) ∧ mk lim L2 (nd La f).v x1 x2 = (L', x, 0) := by
  rcases h1 : mv lim La n Lt (nd La f).l with ⟨L1, x1, e1⟩
  by_cases he1 : e1 = 0
  · subst he1
    rcases h2 : mv lim La n L1 (nd La f).h with ⟨L2, x2, e2⟩
    by_cases he2 : e2 = 0
    · subst he2
      exact ⟨L1, L2, x1, x2, rfl, h2, by rw [← mv_node hf h1 h2]; exact h⟩
    · rw [mv_high hf h1 h2 he2] at h; cases h; exact absurd rfl he2
  · rw [mv_low hf h1 he1] at h; cases h; exact absurd rfl he1

theorem mv_mono {lim : Int} {La : List Nd} : ∀ (n : Nat) (Lt L' : List Nd) (f x : Int), mv lim La n Lt f = (Lt, x, 0) → Lt <+: L' → mv lim La n L' f = (L', x, 0)
  | 0, Lt, L', f, x, h, _ => by simp [mv] at h; simp [mv, h]
  | n + 1, Lt, L', f, x, h, hp => by
    by_cases hf : isN La f
    · obtain ⟨L1, L2, x1, x2, h1, h2, h3⟩ := mv_inv hf h
      have q1 : Lt <+: L1 := by have := mv_prefix (lim := lim) (La := La) n Lt (nd La f).l; rw [h1] at this; exact this
      have q2 : L1 <+: L2 := by have := mv_prefix (lim := lim) (La := La) n L1 (nd La f).h; rw [h2] at this; exact this
      have q3 : L2 <+: Lt := by have := mk_prefix lim L2 (nd La f).v x1 x2; rw [h3] at this; exact this
      have e1 : L1 = Lt := (q1.eq_of_length (by have := q1.length_le; have := q2.length_le; have := q3.length_le; omega)).symm
      subst e1
      have e2 : L2 = L1 := (q2.eq_of_length (by have := q2.length_le; have := q3.length_le; omega)).symm
      subst e2
      rw [mv_node hf (mv_mono n _ L' _ _ h1 hp) (mv_mono n _ L' _ _ h2 hp)]
      exact mk_mono h3 hp
    · rw [mv_not hf] at h ⊢; cases h; rfl

theorem mv_idem {lim : Int} {La : List Nd} : ∀ (n : Nat) (Lt L' : List Nd) (f x : Int), mv lim La n Lt f = (L', x, 0) → mv lim La n L' f = (L', x, 0)
  | 0, Lt, L', f, x, h => by simp [mv] at h; simp [mv, h]
  | n + 1, Lt, L', f, x, h => by
    by_cases hf : isN La f
    · obtain ⟨L1, L2, x1, x2, h1, h2, h3⟩ := mv_inv hf h
      have q2 : L1 <+: L2 := by have := mv_prefix (lim := lim) (La := La) n L1 (nd La f).h; rw [h2] at this; exact this
      have q3 : L2 <+: L' := by have := mk_prefix lim L2 (nd La f).v x1 x2; rw [h3] at this; exact this
      rw [mv_node hf (mv_mono n _ L' _ _ (mv_idem n _ _ _ _ h1) (q2.trans q3)) (mv_mono n _ L' _ _ (mv_idem n _ _ _ _ h2) q3)]
      exact mk_idem h3
    · rw [mv_not hf] at h ⊢; cases h; rfl

/-- How many nodes may come. -/
def cost (La : List Nd) (f : Int) : Nat := 2 ^ (12 - (var La f).toNat) - 1
theorem two_pow_pos (n : Nat) : 0 < 2 ^ n := Nat.pos_of_ne_zero (by simp)
theorem cost_not {La : List Nd} {f : Int} (h : ¬ isN La f) : cost La f = 0 := by simp [cost, var, h]
theorem cost_node {La : List Nd} (ok : Ok La) {f : Int} (h : isN La f) : cost La (nd La f).l + cost La (nd La f).h + 1 ≤ cost La f := by
  have hc := ok_child ok h
  have hv : var La f = (nd La f).v := by simp [var, h]
  have step : ∀ c : Int, (nd La f).v < c → 2 ^ (12 - c.toNat) ≤ 2 ^ (12 - (nd La f).v.toNat - 1) := fun c hcc => Nat.pow_le_pow_right (by decide) (by omega)
  have h1 := step _ hc.2.2.2.2.2.2.2.1
  have h2 := step _ hc.2.2.2.2.2.2.2.2
  have h3 : 2 ^ (12 - (nd La f).v.toNat) = 2 * 2 ^ (12 - (nd La f).v.toNat - 1) := by
    rw [← Nat.pow_succ']
    congr 1
    omega
  have p1 := two_pow_pos (12 - (var La (nd La f).l).toNat)
  have p2 := two_pow_pos (12 - (var La (nd La f).h).toNat)
  unfold cost
  rw [hv]
  omega
theorem cost_le (La : List Nd) (f : Int) : cost La f ≤ 4095 := by
  have : 2 ^ (12 - (var La f).toNat) ≤ 2 ^ 12 := Nat.pow_le_pow_right (by decide) (by omega)
  unfold cost
  omega
theorem mv_length {lim : Int} {La : List Nd} (ok : Ok La) : ∀ (n : Nat) (Lt : List Nd) (f : Int), (mv lim La n Lt f).1.length ≤ Lt.length + cost La f
  | 0, Lt, f => by simp [mv]
  | n + 1, Lt, f => by
    by_cases hf : isN La f
    · have hc := cost_node ok hf
      have l1 := mv_length (lim := lim) ok n Lt (nd La f).l
      have l2 := mv_length (lim := lim) ok n (mv lim La n Lt (nd La f).l).1 (nd La f).h
      unfold mv
      rw [if_pos hf]
      split
      · show (mv lim La n Lt (nd La f).l).1.length ≤ _; omega
      · split
        · show (mv lim La n (mv lim La n Lt (nd La f).l).1 (nd La f).h).1.length ≤ _; omega
        · have := mk_length lim (mv lim La n (mv lim La n Lt (nd La f).l).1 (nd La f).h).1 (nd La f).v (mv lim La n Lt (nd La f).l).2.1 (mv lim La n (mv lim La n Lt (nd La f).l).1 (nd La f).h).2.1
          omega
    · rw [mv_not hf]; simp

end Ar
end Go.Proofs.YtknoigebkpapoaaDoor
