/- The plain law of an arena that was compacted: it has as many nodes as were marked, and all of them are needed. -/
import Derived.Test.YtknoigebkpapoaaCb
set_option linter.unusedVariables false
set_option linter.unusedSimpArgs false
namespace Go.Proofs.Ytknoigebkpapoaa
namespace Ar
variable {L L' La Lt : List Nd} {lim : Int} {t : Int → Bool}

/-- A node of La that has its like in Lt. -/
def pres (La Lt : List Nd) (k : Nat) : Prop := ∃ x : Nat, x < Lt.length ∧ ∀ t, walk t Lt x = walk t La k
open Classical in
noncomputable def cnt (La Lt : List Nd) : Nat := (List.range La.length).countP (fun k => decide (pres La Lt k))
theorem pres_mono (ok : Ok Lt) (hp : Lt <+: L') {k : Nat} (h : pres La Lt k) : pres La L' k := by
  obtain ⟨x, hx, hw⟩ := h
  exact ⟨x, Nat.lt_of_lt_of_le hx hp.length_le, fun t => (walk_pre ok hp (by omega)).trans (hw t)⟩
structure Inv (La Lt : List Nd) : Prop where
  ok : Ok Lt
  cnt : cnt La Lt = Lt.length
  cl : ∀ k, k < La.length → pres La Lt k → (∀ c : Nat, c < La.length → ((nd La k).l = c ∨ (nd La k).h = c) → pres La Lt c)

theorem countP_one {p q : Nat → Bool} {f : Nat} (hpf : p f = false) : ∀ n, f < n → (∀ k, k < n → (q k = true ↔ p k = true ∨ k = f)) → (List.range n).countP q = (List.range n).countP p + 1 := by
  have same : ∀ n, n ≤ f → (∀ k, k < n → (q k = true ↔ p k = true ∨ k = f)) → (List.range n).countP q = (List.range n).countP p := by
    intro n hn h
    refine List.countP_congr (fun k hk => ?_)
    have hk' : k < n := by simpa using hk
    rw [h k hk']
    constructor
    · rintro (h1 | h1)
      · exact h1
      · omega
    · exact .inl
  intro n
  induction n with
  | zero => intro h; omega
  | succ n ih =>
    intro hf h
    rw [List.range_succ, List.countP_append, List.countP_append]
    by_cases e : f = n
    · subst e
      rw [same f (Nat.le_refl _) (fun k hk => h k (by omega))]
      have : q f = true := (h f (by omega)).2 (.inr rfl)
      simp [this, hpf]
    · rw [ih (by omega) (fun k hk => h k (by omega))]
      have : q n = p n := by
        have := h n (by omega)
        rw [Bool.eq_iff_iff, this]
        constructor
        · rintro (h1 | h1)
          · exact h1
          · omega
        · exact .inl
      simp [this]
      omega

def from_ (La : List Nd) (f : Int) (k : Nat) : Prop := ∀ rs : List Int, Reach La rs f → Reach La rs k

theorem mv_held (ok : Ok La) : ∀ (n : Nat) (Lt : List Nd) (f : Int) (L' : List Nd) (x : Int), f < n → has La f → Inv La Lt → mv lim La n Lt f = (L', x, 0) →
    Inv La L' ∧ (isN La f → pres La L' f.toNat) ∧ ∀ k, k < La.length → pres La L' k → pres La Lt k ∨ from_ La f k
  | 0, Lt, f, L', x, hf, hh, I, h => by
    rw [mv_not (fun c => by have := c.1; omega)] at h
    simp only [Prod.mk.injEq, and_true] at h
    obtain ⟨rfl, rfl⟩ := h
    exact ⟨I, fun c => by have := c.1; omega, fun k _ h => .inl h⟩
  | n + 1, Lt, f, L', x, hf, hh, I, h => by
    by_cases hn : isN La f
    · obtain ⟨L1, x1, L2, x2, m1, m2, hk, ok1, ok2, ok', p1, p2, p3, hne⟩ := mv_parts ok hf hn I.ok h
      have hc := ok_child ok hn
      have h1 := hn.2
      obtain ⟨I1, c1, r1⟩ := mv_held ok n Lt _ L1 x1 (by omega) ⟨hc.2.2.2.1, by omega⟩ I m1
      obtain ⟨I2, c2, r2⟩ := mv_held ok n L1 _ L2 x2 (by omega) ⟨hc.2.2.2.2.2.1, by omega⟩ I1 m2
      obtain ⟨hnx, hnd, hl, hh', hnew⟩ := mk_node ok2 hk hne
      obtain ⟨okx, hx, hlx, hw⟩ := mv_walk ok (n + 1) Lt f L' x hf hh I.ok h
      obtain ⟨g, rfl⟩ : ∃ g : Nat, f = g := ⟨f.toNat, by have := hn.1; omega⟩
      obtain ⟨y, rfl⟩ : ∃ y : Nat, x = y := ⟨x.toNat, by have := hnx.1; omega⟩
      have hg : g < La.length := by omega
      have hpf : pres La L' g := ⟨y, by omega, hw⟩
      have old : ∀ k, k < La.length → pres La L2 k → pres La Lt k ∨ from_ La g k := by
        intro k hkl hp
        rcases r2 k hkl hp with h2 | h2
        · rcases r1 k hkl h2 with h3 | h3
          · exact .inl h3
          · exact .inr (fun rs hr => h3 rs (.low hr hn))
        · exact .inr (fun rs hr => h2 rs (.high hr hn))
      rcases hnew with rfl | ⟨hyl, hlen⟩
      · exact ⟨I2, fun _ => hpf, fun k hkl hp => old k hkl hp⟩
      · have split : ∀ k, k < La.length → (pres La L' k ↔ pres La L2 k ∨ k = g) := by
          intro k hkl
          constructor
          · rintro ⟨z, hz, hwz⟩
            by_cases e : z < L2.length
            · exact .inl ⟨z, e, fun t => by rw [← walk_pre ok2 p3 (by omega)]; exact hwz t⟩
            · have hzy : z = y := by omega
              subst hzy
              have hlow : low < 0 := by decide
              have := canon ok (La.length + 1) (k : Int) (g : Int) (by omega) (by omega) ⟨by omega, by omega⟩ hh (fun t => (hwz t).symm.trans (hw t))
              exact .inr (by omega)
          · rintro (h2 | rfl)
            · exact pres_mono ok2 p3 h2
            · exact hpf
        have hnot : ¬ pres La L2 g := by
          rintro ⟨z, hz, hwz⟩
          have hlow : low < 0 := by decide
          have := canon ok' (L'.length + 1) (z : Int) (y : Int) (by omega) (by omega) ⟨by omega, by omega⟩ ⟨by omega, by omega⟩ (fun t => by rw [hw t, ← hwz t]; exact walk_pre ok2 p3 (by omega))
          omega
        refine ⟨⟨ok', ?_, ?_⟩, fun _ => hpf, ?_⟩
        · have := countP_one (p := fun k => @decide (pres La L2 k) (Classical.propDecidable _)) (q := fun k => @decide (pres La L' k) (Classical.propDecidable _)) (f := g) (by simpa using hnot) La.length hg (fun k hkl => by simpa using split k hkl)
          have h2 := I2.cnt
          unfold cnt at h2 ⊢
          rw [this, h2, hlen]
        · intro k hkl hp c hcl hch
          rcases (split k hkl).1 hp with h2 | rfl
          · exact pres_mono ok2 p3 (I2.cl k hkl h2 c hcl hch)
          · rcases hch with hch | hch
            · have := c1 ⟨by omega, by omega⟩
              rw [hch] at this
              exact pres_mono ok2 p3 (pres_mono ok1 p2 this)
            · have := c2 ⟨by omega, by omega⟩
              rw [hch] at this
              exact pres_mono ok2 p3 this
        · intro k hkl hp
          rcases (split k hkl).1 hp with h2 | rfl
          · exact old k hkl h2
          · exact .inr (fun rs hr => hr)
    · rw [mv_not hn] at h
      simp only [Prod.mk.injEq, and_true] at h
      obtain ⟨rfl, rfl⟩ := h
      exact ⟨I, fun c => absurd c hn, fun k _ h => .inl h⟩

theorem mvAll_held (ok : Ok La) : ∀ (roots : List Int) (L : List Nd) (acc : List Int) (L' : List Nd) (out : List Int), Inv La L → (∀ r ∈ roots, has La r) → mvAll lim La roots L acc = (L', out, 0) →
    Inv La L' ∧ (∀ r ∈ roots, isN La r → pres La L' r.toNat) ∧ ∀ k, k < La.length → pres La L' k → pres La L k ∨ Reach La roots k
  | [], L, acc, L', out, I, _, h => by
    simp only [mvAll, Prod.mk.injEq, and_true] at h
    obtain ⟨rfl, rfl⟩ := h
    exact ⟨I, fun r h => by simp at h, fun k _ h => .inl h⟩
  | r :: rs, L, acc, L', out, I, hr, h => by
    obtain ⟨L1, x1, e1, m1⟩ : ∃ L1 x1 e1, mv lim La (r.toNat + 1) L r = (L1, x1, e1) := ⟨_, _, _, rfl⟩
    rw [mvAll, m1] at h
    by_cases he : e1 = 0
    · subst he
      simp only [ne_eq, not_true_eq_false, if_false] at h
      obtain ⟨I1, c1, r1⟩ := mv_held ok _ L r L1 x1 (by omega) (hr r (by simp)) I m1
      obtain ⟨_, hp', _⟩ := mvAll_walk ok rs L1 (acc ++ [x1]) L' out I1.ok (fun q hq => hr q (by simp [hq])) h
      obtain ⟨I2, c2, r2⟩ := mvAll_held ok rs L1 (acc ++ [x1]) L' out I1 (fun q hq => hr q (by simp [hq])) h
      have lift : ∀ k : Int, Reach La rs k → Reach La (r :: rs) k := by
        intro k hk
        induction hk with
        | root h => exact .root (by simp [h])
        | low _ hn ih => exact .low ih hn
        | high _ hn ih => exact .high ih hn
      refine ⟨I2, fun q hq hn => ?_, fun k hk hp => ?_⟩
      · rcases List.mem_cons.1 hq with rfl | hq
        · exact pres_mono I1.ok hp' (c1 hn)
        · exact c2 q hq hn
      · rcases r2 k hk hp with h2 | h2
        · rcases r1 k hk h2 with h3 | h3
          · exact .inl h3
          · exact .inr (h3 _ (.root (by simp)))
        · exact .inr (lift _ h2)
    · simp only [ne_eq, he, not_false_eq_true, if_true, Prod.mk.injEq] at h
      exact h.2.2.elim
end Ar
end Go.Proofs.Ytknoigebkpapoaa
