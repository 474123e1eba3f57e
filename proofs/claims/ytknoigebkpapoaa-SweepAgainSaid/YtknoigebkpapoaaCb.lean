/- The plain law of an arena that was compacted: it has just what was marked; compacted once more it is the same. -/
import Derived.Test.YtknoigebkpapoaaCa
set_option linter.unusedVariables false
set_option linter.unusedSimpArgs false
namespace Go.Proofs.Ytknoigebkpapoaa
namespace Ar
variable {L L' La Lt : List Nd} {lim : Int} {t : Int → Bool}

theorem mk_node (ok : Ok L) {v lo hi x : Int} (h : mk lim L v lo hi = (L', x, 0)) (hne : lo ≠ hi) :
    isN L' x ∧ nd L' x = ⟨v, lo, hi⟩ ∧ lo < x ∧ hi < x ∧ (L' = L ∨ (x = L.length ∧ L'.length = L.length + 1)) := by
  have ok' : Ok L' := by have := mk_ok (lim := lim) ok v lo hi; rw [h] at this; exact this
  have main : isN L' x ∧ nd L' x = ⟨v, lo, hi⟩ ∧ (L' = L ∨ (x = L.length ∧ L'.length = L.length + 1)) := by
    rcases mk_cases lim L v lo hi with ⟨n, hn, e⟩ | ⟨h1, h2, ho, ⟨rfl, e⟩ | ⟨_, hm, e⟩ | ⟨_, hm, _, e⟩⟩ <;> rw [e] at h <;> simp only [Prod.mk.injEq] at h
    · exact absurd h.2.2 hn
    · exact absurd rfl hne
    · obtain ⟨rfl, rfl, _⟩ := h
      have hi' := List.idxOf_lt_length_of_mem hm
      exact ⟨⟨by omega, by omega⟩, by rw [nd_at hi', List.getElem_idxOf hi'], .inl rfl⟩
    · obtain ⟨rfl, rfl, _⟩ := h
      have hi' : L.length < (L ++ [(⟨v, lo, hi⟩ : Nd)]).length := by simp
      exact ⟨⟨by omega, by omega⟩, by rw [nd_at hi']; simp, .inr ⟨rfl, by simp⟩⟩
  have hc := ok_child ok' main.1
  rw [main.2.1] at hc
  exact ⟨main.1, main.2.1, hc.2.2.2.2.1, hc.2.2.2.2.2.2.1, main.2.2⟩

/-- What a move of a node is made of. -/
theorem mv_parts (ok : Ok La) {n : Nat} {f x : Int} (hf : f < n + 1) (hn : isN La f) (okt : Ok Lt) (h : mv lim La (n + 1) Lt f = (L', x, 0)) :
    ∃ L1 x1 L2 x2, mv lim La n Lt (nd La f).l = (L1, x1, 0) ∧ mv lim La n L1 (nd La f).h = (L2, x2, 0) ∧ mk lim L2 (nd La f).v x1 x2 = (L', x, 0) ∧ Ok L1 ∧ Ok L2 ∧ Ok L' ∧ Lt <+: L1 ∧ L1 <+: L2 ∧ L2 <+: L' ∧ x1 ≠ x2 := by
  have hc := ok_child ok hn
  have h0 := hn.1
  have h1 := hn.2
  obtain ⟨L1, x1, e1, m1⟩ : ∃ L1 x1 e1, mv lim La n Lt (nd La f).l = (L1, x1, e1) := ⟨_, _, _, rfl⟩
  by_cases he1 : e1 = 0
  · subst he1
    obtain ⟨L2, x2, e2, m2⟩ : ∃ L2 x2 e2, mv lim La n L1 (nd La f).h = (L2, x2, e2) := ⟨_, _, _, rfl⟩
    by_cases he2 : e2 = 0
    · subst he2
      obtain ⟨ok1, hx1, hl1, hw1⟩ := mv_walk ok n Lt _ L1 x1 (by omega) ⟨hc.2.2.2.1, by omega⟩ okt m1
      obtain ⟨ok2, hx2, hl2, hw2⟩ := mv_walk ok n L1 _ L2 x2 (by omega) ⟨hc.2.2.2.2.2.1, by omega⟩ ok1 m2
      rw [mv_node hn m1 m2] at h
      have hp01 : Lt <+: L1 := by have := mv_prefix (lim := lim) (La := La) n Lt (nd La f).l; rw [m1] at this; exact this
      have hp12 : L1 <+: L2 := by have := mv_prefix (lim := lim) (La := La) n L1 (nd La f).h; rw [m2] at this; exact this
      have hp2 : L2 <+: L' := by have := mk_prefix lim L2 (nd La f).v x1 x2; rw [h] at this; exact this
      have ok' : Ok L' := by have := mk_ok (lim := lim) ok2 (nd La f).v x1 x2; rw [h] at this; exact this
      refine ⟨L1, x1, L2, x2, m1, m2, h, ok1, ok2, ok', hp01, hp12, hp2, fun e => ?_⟩
      have heq : (nd La f).l = (nd La f).h := by
        refine canon ok (f.toNat + 1) _ _ (by omega) (by omega) ⟨hc.2.2.2.1, by omega⟩ ⟨hc.2.2.2.2.2.1, by omega⟩ (fun t => ?_)
        rw [← hw1, ← hw2, ← e, walk_pre ok1 hp12 hx1]
      exact hc.2.2.1 heq
    · rw [mv] at h
      rw [if_pos hn, m1] at h
      simp only [m2] at h
      simp [he2] at h
  · rw [mv_low hn m1 he1] at h
    simp only [Prod.mk.injEq] at h
    exact absurd h.2.2 he1

/-- What was moved, moved once more out of where it is. -/
theorem mv_again (ok : Ok La) : ∀ (n : Nat) (Lt : List Nd) (f : Int) (L' : List Nd) (x : Int), f < n → has La f → Ok Lt → mv lim La n Lt f = (L', x, 0) →
    ∀ Lb, Ok Lb → L' <+: Lb → ∀ m : Nat, x < m → mv lim Lb m Lt x = (L', x, 0)
  | 0, Lt, f, L', x, hf, hh, okt, h, Lb, okb, hp, m, hm => by
    rw [mv_not (fun c => by have := c.1; omega)] at h
    simp only [Prod.mk.injEq, and_true] at h
    obtain ⟨rfl, rfl⟩ := h
    exact mv_not (fun c => by have := c.1; omega)
  | n + 1, Lt, f, L', x, hf, hh, okt, h, Lb, okb, hp, m, hm => by
    by_cases hn : isN La f
    · obtain ⟨L1, x1, L2, x2, m1, m2, hk, ok1, ok2, ok', p1, p2, p3, hne⟩ := mv_parts ok hf hn okt h
      have hc := ok_child ok hn
      have h1 := hn.2
      obtain ⟨hnx, hnd, hl, hh', _⟩ := mk_node ok2 hk hne
      have hpl := hp.length_le
      have hnb : isN Lb x := ⟨hnx.1, by have := hnx.2; omega⟩
      have hndb : nd Lb x = ⟨(nd La f).v, x1, x2⟩ := (nd_pre hp hnx.2).trans hnd
      obtain ⟨m, rfl⟩ : ∃ k, m = k + 1 := ⟨m - 1, by have := hnx.1; omega⟩
      have q1 := mv_again ok n Lt _ L1 x1 (by omega) ⟨hc.2.2.2.1, by omega⟩ okt m1 Lb okb (p2.trans (p3.trans hp)) m (by omega)
      have q2 := mv_again ok n L1 _ L2 x2 (by omega) ⟨hc.2.2.2.2.2.1, by omega⟩ ok1 m2 Lb okb (p3.trans hp) m (by omega)
      have e1 : mv lim Lb m Lt (nd Lb x).l = (L1, x1, 0) := by rw [hndb]; exact q1
      have e2 : mv lim Lb m L1 (nd Lb x).h = (L2, x2, 0) := by rw [hndb]; exact q2
      rw [mv_node hnb e1 e2, hndb]
      exact hk
    · rw [mv_not hn] at h
      simp only [Prod.mk.injEq, and_true] at h
      obtain ⟨rfl, rfl⟩ := h
      have hneg : f < 0 := Classical.byContradiction fun c => hn ⟨by omega, hh.2⟩
      exact mv_not (fun c => by have := c.1; omega)
theorem mvAll_again (ok : Ok La) : ∀ (roots : List Int) (L : List Nd) (acc : List Int) (L' : List Nd) (out : List Int), Ok L → (∀ r ∈ roots, has La r) → mvAll lim La roots L acc = (L', out, 0) →
    ∀ Lb, Ok Lb → L' <+: Lb → ∃ ys : List Int, out = acc ++ ys ∧ mvAll lim Lb ys L acc = (L', out, 0)
  | [], L, acc, L', out, okl, _, h, Lb, okb, hp => ⟨[], by simp only [mvAll, Prod.mk.injEq] at h; simp [h.2.1], by simpa only [mvAll] using h⟩
  | r :: rs, L, acc, L', out, okl, hr, h, Lb, okb, hp => by
    obtain ⟨L1, x1, e1, m1⟩ : ∃ L1 x1 e1, mv lim La (r.toNat + 1) L r = (L1, x1, e1) := ⟨_, _, _, rfl⟩
    rw [mvAll, m1] at h
    by_cases he : e1 = 0
    · subst he
      simp only [ne_eq, not_true_eq_false, if_false] at h
      obtain ⟨ok1, hx, hl, hw⟩ := mv_walk ok _ L r L1 x1 (by omega) (hr r (by simp)) okl m1
      obtain ⟨_, hp', _⟩ := mvAll_walk ok rs L1 (acc ++ [x1]) L' out ok1 (fun q hq => hr q (by simp [hq])) h
      obtain ⟨ys, rfl, ha⟩ := mvAll_again ok rs L1 (acc ++ [x1]) L' out ok1 (fun q hq => hr q (by simp [hq])) h Lb okb hp
      refine ⟨x1 :: ys, by simp, ?_⟩
      rw [mvAll, mv_again ok _ L r L1 x1 (by omega) (hr r (by simp)) okl m1 Lb okb (hp'.trans hp) _ (by omega)]
      simp only [ne_eq, not_true_eq_false, if_false]
      exact ha
    · simp only [ne_eq, he, not_false_eq_true, if_true, Prod.mk.injEq] at h
      exact h.2.2.elim
end Ar
end Go.Proofs.Ytknoigebkpapoaa
