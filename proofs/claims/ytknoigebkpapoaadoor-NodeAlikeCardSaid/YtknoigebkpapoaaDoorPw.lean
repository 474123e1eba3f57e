/- The plain law of what is moved: it leads all bits where it did. -/
import Derived.Test.YtknoigebkpapoaaDoorWk
import Derived.Test.YtknoigebkpapoaaDoorSc
set_option linter.unusedVariables false
set_option linter.unusedSimpArgs false
namespace Go.Proofs.YtknoigebkpapoaaDoor
open Go.RowKit Go.Deep
namespace Ar
variable {L L' La : List Nd} {lim : Int} {t : Int → Bool}

theorem wk_fuel (ok : Ok L) : ∀ (n m : Nat) (r : Int), r < n → r < m → wk t L n r = wk t L m r
  | 0, m, r, h, _ => by rw [wk_not (f := m) (fun c => by have := c.1; omega), wk_not (f := 0) (fun c => by have := c.1; omega)]
  | n + 1, 0, r, _, h => by rw [wk_not (f := n + 1) (fun c => by have := c.1; omega), wk_not (f := 0) (fun c => by have := c.1; omega)]
  | n + 1, m + 1, r, h1, h2 => by
    unfold wk
    by_cases hn : isN L r
    · have hc := ok_child ok hn
      rw [if_pos hn, if_pos hn]
      split
      · exact wk_fuel ok n m _ (by omega) (by omega)
      · exact wk_fuel ok n m _ (by omega) (by omega)
    · rw [if_neg hn, if_neg hn]
theorem wk_pre (ok : Ok L) (hp : L <+: L') : ∀ (n : Nat) (r : Int), r < L.length → wk t L' n r = wk t L n r
  | 0, r, _ => rfl
  | n + 1, r, h => by
    unfold wk
    have hl := hp.length_le
    by_cases hn : isN L r
    · have hc := ok_child ok hn
      have hn' : isN L' r := ⟨hn.1, by omega⟩
      rw [if_pos hn, if_pos hn', nd_pre hp h]
      split
      · exact wk_pre ok hp n _ (by omega)
      · exact wk_pre ok hp n _ (by omega)
    · have hn' : ¬ isN L' r := fun c => hn ⟨c.1, h⟩
      rw [if_neg hn, if_neg hn']
def walk (t : Int → Bool) (L : List Nd) (r : Int) : Int := wk t L (r.toNat + 1) r
theorem walk_pre (ok : Ok L) (hp : L <+: L') {r : Int} (h : r < L.length) : walk t L' r = walk t L r := wk_pre ok hp _ r h
theorem walk_not {r : Int} (h : ¬ isN L r) : walk t L r = r := wk_not h _
theorem walk_node (ok : Ok L) {r : Int} (h : isN L r) : walk t L r = if t (nd L r).v then walk t L (nd L r).h else walk t L (nd L r).l := by
  have hc := ok_child ok h
  have h0 := h.1
  unfold walk
  rw [wk, if_pos h]
  split
  · exact wk_fuel ok _ _ _ (by omega) (by omega)
  · exact wk_fuel ok _ _ _ (by omega) (by omega)

theorem mk_ok (ok : Ok L) (v lo hi : Int) : Ok (mk lim L v lo hi).1 := by
  rcases mk_cases lim L v lo hi with ⟨n, _, h⟩ | ⟨h1, h2, ho, ⟨_, h⟩ | ⟨_, _, h⟩ | ⟨hne, hm, _, h⟩⟩ <;> rw [h]
  · exact ok
  · exact ok
  · exact ok
  · exact ok_add ok h1 h2 ho hne hm
theorem mk_walk (ok : Ok L) {v lo hi x : Int} (h : mk lim L v lo hi = (L', x, 0)) : x < L'.length ∧ low ≤ x ∧ walk t L' x = if t v then walk t L' hi else walk t L' lo := by
  have ok' : Ok L' := by have := mk_ok (lim := lim) ok v lo hi; rw [h] at this; exact this
  have hlow : low < 0 := by decide
  rcases mk_cases lim L v lo hi with ⟨n, hn, e⟩ | ⟨h1, h2, ho, ⟨rfl, e⟩ | ⟨_, hm, e⟩ | ⟨hne, hm, _, e⟩⟩ <;> rw [e] at h <;> simp only [Prod.mk.injEq] at h
  · exact absurd h.2.2 hn
  · obtain ⟨rfl, rfl, _⟩ := h
    exact ⟨ho.1.2, ho.1.1, by simp⟩
  · obtain ⟨rfl, rfl, _⟩ := h
    have hi' := List.idxOf_lt_length_of_mem hm
    have hn : isN L ((L.idxOf (⟨v, lo, hi⟩ : Nd) : Nat) : Int) := ⟨by omega, by omega⟩
    have hnd : nd L ((L.idxOf (⟨v, lo, hi⟩ : Nd) : Nat) : Int) = ⟨v, lo, hi⟩ := by rw [nd_at hi', List.getElem_idxOf hi']
    refine ⟨by omega, by omega, ?_⟩
    rw [walk_node ok hn, hnd]
  · obtain ⟨rfl, rfl, _⟩ := h
    have hi' : L.length < (L ++ [(⟨v, lo, hi⟩ : Nd)]).length := by simp
    have hn : isN (L ++ [(⟨v, lo, hi⟩ : Nd)]) (L.length : Int) := ⟨by omega, by omega⟩
    have hnd : nd (L ++ [(⟨v, lo, hi⟩ : Nd)]) (L.length : Int) = ⟨v, lo, hi⟩ := by rw [nd_at hi']; simp
    refine ⟨by omega, by omega, ?_⟩
    rw [walk_node ok' hn, hnd]

theorem mv_walk (ok : Ok La) : ∀ (n : Nat) (Lt : List Nd) (f : Int) (L' : List Nd) (x : Int), f < n → has La f → Ok Lt → mv lim La n Lt f = (L', x, 0) →
    Ok L' ∧ x < L'.length ∧ low ≤ x ∧ ∀ t, walk t L' x = walk t La f
  | 0, Lt, f, L', x, hf, hh, okt, h => by
    rw [mv_not (fun c => by have := c.1; omega)] at h
    simp only [Prod.mk.injEq, and_true] at h
    obtain ⟨rfl, rfl⟩ := h
    exact ⟨okt, by omega, hh.1, fun t => by rw [walk_not (fun c => by have := c.1; omega), walk_not (fun c => by have := c.1; omega)]⟩
  | n + 1, Lt, f, L', x, hf, hh, okt, h => by
    by_cases hn : isN La f
    · have hc := ok_child ok hn
      have h0 := hn.1
      have h1 := hn.2
      obtain ⟨L1, x1, e1, m1⟩ : ∃ L1 x1 e1, mv lim La n Lt (nd La f).l = (L1, x1, e1) := ⟨_, _, _, rfl⟩
      by_cases he1 : e1 = 0
      · subst he1
        obtain ⟨L2, x2, e2, m2⟩ : ∃ L2 x2 e2, mv lim La n L1 (nd La f).h = (L2, x2, e2) := ⟨_, _, _, rfl⟩
        by_cases he2 : e2 = 0
        · subst he2
          obtain ⟨ok1, hx1, hl1, hw1⟩ := mv_walk ok n Lt _ L1 x1 (by omega) ⟨hc.2.2.2.1, by omega⟩ okt m1
          obtain ⟨ok2, hx2, hl2, hw2⟩ := mv_walk ok n L1 _ L2 x2 (by omega) ⟨hc.2.2.2.2.2.1, by omega⟩ ok1 m2
          rw [mv_node hn m1 m2] at h
          have hp12 : L1 <+: L2 := by have := mv_prefix (lim := lim) (La := La) n L1 (nd La f).h; rw [m2] at this; exact this
          have hp2 : L2 <+: L' := by have := mk_prefix lim L2 (nd La f).v x1 x2; rw [h] at this; exact this
          have ok' : Ok L' := by have := mk_ok (lim := lim) ok2 (nd La f).v x1 x2; rw [h] at this; exact this
          have hl12 := hp12.length_le
          obtain ⟨a1, a2, _⟩ := mk_walk (t := fun _ => true) ok2 h
          refine ⟨ok', a1, a2, fun t => ?_⟩
          rw [(mk_walk (t := t) ok2 h).2.2, walk_node ok hn, walk_pre ok2 hp2 hx2, walk_pre ok2 hp2 (r := x1) (by omega), walk_pre ok1 hp12 hx1, hw1, hw2]
        · rw [mv] at h
          rw [if_pos hn, m1] at h
          simp only [m2] at h
          simp [he2] at h
      · rw [mv_low hn m1 he1] at h
        simp only [Prod.mk.injEq] at h
        exact absurd h.2.2 he1
    · rw [mv_not hn] at h
      simp only [Prod.mk.injEq, and_true] at h
      obtain ⟨rfl, rfl⟩ := h
      have hneg : f < 0 := Classical.byContradiction fun c => hn ⟨by omega, hh.2⟩
      exact ⟨okt, by omega, hh.1, fun t => by rw [walk_not (fun c => by have := c.1; omega), walk_not hn]⟩

theorem mvAll_walk (ok : Ok La) : ∀ (roots : List Int) (L : List Nd) (acc : List Int) (L' : List Nd) (out : List Int), Ok L → (∀ r ∈ roots, has La r) → mvAll lim La roots L acc = (L', out, 0) →
    Ok L' ∧ L <+: L' ∧ ∃ ys : List Int, out = acc ++ ys ∧ ys.length = roots.length ∧ ∀ i (h : i < roots.length) (h' : i < ys.length), ys[i] < L'.length ∧ low ≤ ys[i] ∧ ∀ t, walk t L' ys[i] = walk t La roots[i]
  | [], L, acc, L', out, okl, _, h => by
    simp only [mvAll, Prod.mk.injEq, and_true] at h
    obtain ⟨rfl, rfl⟩ := h
    exact ⟨okl, List.prefix_refl _, [], by simp, rfl, fun i h => by simp at h⟩
  | r :: rs, L, acc, L', out, okl, hr, h => by
    obtain ⟨L1, x1, e1, m1⟩ : ∃ L1 x1 e1, mv lim La (r.toNat + 1) L r = (L1, x1, e1) := ⟨_, _, _, rfl⟩
    have hp : L <+: L1 := by have := mv_prefix (lim := lim) (La := La) (r.toNat + 1) L r; rw [m1] at this; exact this
    rw [mvAll, m1] at h
    by_cases he : e1 = 0
    · subst he
      simp only [ne_eq, not_true_eq_false, if_false] at h
      obtain ⟨ok1, hx, hl, hw⟩ := mv_walk ok _ L r L1 x1 (by omega) (hr r (by simp)) okl m1
      obtain ⟨ok', hp', ys, rfl, hy, hall⟩ := mvAll_walk ok rs L1 (acc ++ [x1]) L' out ok1 (fun q hq => hr q (by simp [hq])) h
      have hl' := hp'.length_le
      refine ⟨ok', hp.trans hp', x1 :: ys, by simp, by simp [hy], fun i h h' => ?_⟩
      cases i with
      | zero => exact ⟨by simp; omega, hl, fun t => by simp only [List.getElem_cons_zero]; rw [walk_pre ok1 hp' hx, hw]⟩
      | succ i => exact hall i (by simpa using h) (by simpa using h')
    · simp only [ne_eq, he, not_false_eq_true, if_true, Prod.mk.injEq] at h
      exact h.2.2.elim
end Ar
end Go.Proofs.YtknoigebkpapoaaDoor
