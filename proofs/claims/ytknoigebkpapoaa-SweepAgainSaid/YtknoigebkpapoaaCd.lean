/- The plain law of an arena that was compacted, as the law SweepAgain asks it. -/
import Derived.Test.YtknoigebkpapoaaCc
set_option linter.unusedVariables false
set_option linter.unusedSimpArgs false
namespace Go.Proofs.Ytknoigebkpapoaa
namespace Ar
variable {L L' La Lt : List Nd} {lim : Int} {t : Int → Bool}

theorem mv_reach (ok : Ok La) : ∀ (n : Nat) (Lt : List Nd) (f : Int) (L' : List Nd) (x : Int), f < n → has La f → Ok Lt → mv lim La n Lt f = (L', x, 0) →
    ∀ Lb, L' <+: Lb → ∀ rs, Reach Lb rs x → ∀ k : Nat, Lt.length ≤ k → k < L'.length → Reach Lb rs k
  | 0, Lt, f, L', x, hf, hh, okt, h, Lb, hp, rs, hr, k, hk, hk' => by
    rw [mv_not (fun c => by have := c.1; omega)] at h
    simp only [Prod.mk.injEq, and_true] at h
    obtain ⟨rfl, rfl⟩ := h
    omega
  | n + 1, Lt, f, L', x, hf, hh, okt, h, Lb, hp, rs, hr, k, hk, hk' => by
    by_cases hn : isN La f
    · obtain ⟨L1, x1, L2, x2, m1, m2, hmk, ok1, ok2, ok', p1, p2, p3, hne⟩ := mv_parts ok hf hn okt h
      have hc := ok_child ok hn
      have h1 := hn.2
      obtain ⟨hnx, hnd, hl, hh', hnew⟩ := mk_node ok2 hmk hne
      have hpl := hp.length_le
      have hnb : isN Lb x := ⟨hnx.1, by have := hnx.2; omega⟩
      have hndb : nd Lb x = ⟨(nd La f).v, x1, x2⟩ := (nd_pre hp hnx.2).trans hnd
      have r1 : Reach Lb rs x1 := by have := Reach.low hr hnb; rwa [hndb] at this
      have r2 : Reach Lb rs x2 := by have := Reach.high hr hnb; rwa [hndb] at this
      by_cases c1 : k < L1.length
      · exact mv_reach ok n Lt _ L1 x1 (by omega) ⟨hc.2.2.2.1, by omega⟩ okt m1 Lb (p2.trans (p3.trans hp)) rs r1 k hk c1
      · by_cases c2 : k < L2.length
        · exact mv_reach ok n L1 _ L2 x2 (by omega) ⟨hc.2.2.2.2.2.1, by omega⟩ ok1 m2 Lb (p3.trans hp) rs r2 k (by omega) c2
        · rcases hnew with rfl | ⟨hx, hlen⟩
          · omega
          · have : (k : Int) = x := by omega
            rw [this]
            exact hr
    · rw [mv_not hn] at h
      simp only [Prod.mk.injEq, and_true] at h
      obtain ⟨rfl, rfl⟩ := h
      omega
theorem mvAll_reach (ok : Ok La) : ∀ (roots : List Int) (L : List Nd) (acc : List Int) (L' : List Nd) (out : List Int), Ok L → (∀ r ∈ roots, has La r) → mvAll lim La roots L acc = (L', out, 0) →
    ∀ Lb, L' <+: Lb → ∀ rs : List Int, (∀ y ∈ out, y ∈ rs) → ∀ k : Nat, L.length ≤ k → k < L'.length → Reach Lb rs k
  | [], L, acc, L', out, okl, _, h, Lb, hp, rs, hrs, k, hk, hk' => by
    simp only [mvAll, Prod.mk.injEq, and_true] at h
    obtain ⟨rfl, rfl⟩ := h
    omega
  | r :: roots, L, acc, L', out, okl, hr, h, Lb, hp, rs, hrs, k, hk, hk' => by
    obtain ⟨L1, x1, e1, m1⟩ : ∃ L1 x1 e1, mv lim La (r.toNat + 1) L r = (L1, x1, e1) := ⟨_, _, _, rfl⟩
    rw [mvAll, m1] at h
    by_cases he : e1 = 0
    · subst he
      simp only [ne_eq, not_true_eq_false, if_false] at h
      obtain ⟨ok1, hx, hl, hw⟩ := mv_walk ok _ L r L1 x1 (by omega) (hr r (by simp)) okl m1
      obtain ⟨_, hp', ys, hy, _⟩ := mvAll_walk ok roots L1 (acc ++ [x1]) L' out ok1 (fun q hq => hr q (by simp [hq])) h
      by_cases c : k < L1.length
      · exact mv_reach ok _ L r L1 x1 (by omega) (hr r (by simp)) okl m1 Lb (hp'.trans hp) rs (.root (hrs x1 (by rw [hy]; simp))) k hk c
      · exact mvAll_reach ok roots L1 (acc ++ [x1]) L' out ok1 (fun q hq => hr q (by simp [hq])) h Lb hp rs hrs k (by omega) hk'
    · simp only [ne_eq, he, not_false_eq_true, if_true, Prod.mk.injEq] at h
      exact h.2.2.elim

theorem count_range (m : List Bool) : (List.range m.length).countP (fun k => m.getD k false) = m.countP (fun b => b) := by
  have : m = (List.range m.length).map (fun k => m.getD k false) := by
    apply List.ext_getElem
    · simp
    · intro i h1 h2; simp [List.getD, h1]
  conv => rhs; rw [this]
  rw [List.countP_map]
  rfl
theorem free_count (m : List Bool) : m.countP (fun b => b) + free m = m.length := by
  unfold free
  induction m with
  | nil => rfl
  | cons b m ih => cases b <;> simp at ih ⊢ <;> omega

theorem ok_nil : Ok ([] : List Nd) := ⟨by simp, fun i h => by simp at h⟩
theorem inv_nil (La : List Nd) : Inv La [] := ⟨ok_nil, by
  unfold cnt
  rw [List.countP_eq_zero.2]
  · rfl
  · intro k _
    simp only [decide_eq_true_eq]
    rintro ⟨x, hx, _⟩
    simp at hx, fun k _ ⟨x, hx, _⟩ => by simp at hx⟩

/-- What an arena that was compacted is. -/
theorem compacted (ok : Ok La) {roots out : List Int} {Lb : List Nd} (hall : ∀ r ∈ roots, has La r) (h : mvAll lim La roots [] [] = (Lb, out, 0)) {m : List Bool} (hlen : m.length = La.length) (hm : ∀ k, k < La.length → (m.getD k false = true ↔ Reach La roots (k : Int))) :
    Lb.length + free m = La.length ∧ (∀ k : Nat, k < Lb.length → Reach Lb out k) ∧ (∀ r ∈ out, has Lb r) ∧ mvAll lim Lb out [] [] = (Lb, out, 0) ∧ Ok Lb := by
  obtain ⟨I, hroot, hold⟩ := mvAll_held ok roots [] [] Lb out (inv_nil La) hall h
  have hreach : ∀ r : Int, Reach La roots r → isN La r → pres La Lb r.toNat := by
    intro r hr
    induction hr with
    | root hmem => exact hroot _ hmem
    | @low r hr hn ih =>
      intro hc
      exact I.cl r.toNat (by have := hn.1; have := hn.2; omega) (ih hn) _ (by have := hc.1; have := hc.2; omega) (.inl (by rw [show ((r.toNat : Nat) : Int) = r from by have := hn.1; omega]; have := hc.1; omega))
    | @high r hr hn ih =>
      intro hc
      exact I.cl r.toNat (by have := hn.1; have := hn.2; omega) (ih hn) _ (by have := hc.1; have := hc.2; omega) (.inr (by rw [show ((r.toNat : Nat) : Int) = r from by have := hn.1; omega]; have := hc.1; omega))
  have hiff : ∀ k, k < La.length → (pres La Lb k ↔ Reach La roots (k : Int)) := by
    intro k hk
    constructor
    · intro hp
      rcases hold k hk hp with ⟨x, hx, _⟩ | h2
      · simp at hx
      · exact h2
    · intro hr
      exact hreach k hr ⟨by omega, by omega⟩
  have hcnt : cnt La Lb = m.countP (fun b => b) := by
    unfold cnt
    rw [← count_range, hlen]
    refine List.countP_congr (fun k hk => ?_)
    have hk' : k < La.length := by simpa using hk
    rw [hm k hk', ← hiff k hk']
    simp
  obtain ⟨okb, _, ys, hy, hyl, hys⟩ := mvAll_walk ok roots [] [] Lb out ok_nil hall h
  rw [List.nil_append] at hy
  subst hy
  obtain ⟨zs, hz, ha⟩ := mvAll_again ok roots [] [] Lb out ok_nil hall h Lb okb (List.prefix_refl _)
  rw [List.nil_append] at hz
  subst hz
  refine ⟨?_, fun k hk => mvAll_reach ok roots [] [] Lb out ok_nil hall h Lb (List.prefix_refl _) out (fun y hy => hy) k (by simp) hk, fun r hr => ?_, ha, okb⟩
  · have := I.cnt
    have := free_count m
    omega
  · obtain ⟨i, hi, rfl⟩ := List.mem_iff_getElem.1 hr
    have := hys i (by omega) hi
    exact ⟨this.2.1, this.1⟩
end Ar
end Go.Proofs.Ytknoigebkpapoaa
