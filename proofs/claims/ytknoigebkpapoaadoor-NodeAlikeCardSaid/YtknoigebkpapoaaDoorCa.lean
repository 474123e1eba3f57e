/- Canonicity: two refs of a right arena that lead all bits alike are the same. -/
import Derived.Test.YtknoigebkpapoaaDoorPw
set_option linter.unusedVariables false
set_option linter.unusedSimpArgs false
namespace Go.Proofs.YtknoigebkpapoaaDoor
namespace Ar
variable {L L' La : List Nd} {lim : Int} {t : Int → Bool}

/-- What a ref leads to does not hang on variables above it. -/
theorem walk_indep (ok : Ok L) (v : Int) (x : Bool) : ∀ (n : Nat) (r : Int), r < n → r < L.length → v < var L r → ∀ t, walk (fun i => if i = v then x else t i) L r = walk t L r
  | 0, r, h, _, _, t => by rw [walk_not (fun c => by have := c.1; omega), walk_not (fun c => by have := c.1; omega)]
  | n + 1, r, h, hl, hv, t => by
    by_cases hn : isN L r
    · have hc := ok_child ok hn
      have hvr : var L r = (nd L r).v := by unfold var; rw [if_pos hn]
      rw [walk_node ok hn, walk_node ok hn, if_neg (show ¬ (nd L r).v = v by omega)]
      rw [walk_indep ok v x n (nd L r).h (by omega) (by omega) (by omega) t, walk_indep ok v x n (nd L r).l (by omega) (by omega) (by omega) t]
    · rw [walk_not hn, walk_not hn]

theorem nd_inj (ok : Ok L) {r s : Int} (hr : isN L r) (hs : isN L s) (h : nd L r = nd L s) : r = s := by
  obtain ⟨i, rfl⟩ : ∃ i : Nat, r = i := ⟨r.toNat, by unfold isN at hr; omega⟩
  obtain ⟨j, rfl⟩ : ∃ j : Nat, s = j := ⟨s.toNat, by unfold isN at hs; omega⟩
  have hi : i < L.length := by unfold isN at hr; omega
  have hj : j < L.length := by unfold isN at hs; omega
  rw [nd_at hi, nd_at hj] at h
  have := (List.getElem_inj ok.nodup).1 h
  omega
theorem canon (ok : Ok L) : ∀ (n : Nat) (r s : Int), r < n → s < n → has L r → has L s → (∀ t, walk t L r = walk t L s) → r = s
  | 0, r, s, h1, h2, _, _, hw => by
    have := hw (fun _ => true)
    rwa [walk_not (fun c => by have := c.1; omega), walk_not (fun c => by have := c.1; omega)] at this
  | n + 1, r, s, h1, h2, hr, hs, hw => by
    have key : ∀ p q : Int, p < n + 1 → q < n + 1 → has L p → has L q → isN L p → var L p < var L q → (∀ t, walk t L p = walk t L q) → False := by
      intro p q hp hq hp' hq' hn hv hpq
      have hc := ok_child ok hn
      have hvp : var L p = (nd L p).v := by unfold var; rw [if_pos hn]
      have hside : ∀ (b : Bool), ∀ t, walk t L (if b then (nd L p).h else (nd L p).l) = walk t L q := by
        intro b t
        have h1 := hpq (fun i => if i = (nd L p).v then b else t i)
        rw [walk_node ok hn, if_pos rfl, walk_indep ok _ b (n + 1) q (by omega) hq'.2 (by omega)] at h1
        cases b
        · rw [← h1]; simp only [Bool.false_eq_true, if_false]
          exact (walk_indep ok (nd L p).v false (n + 1) _ (by omega) (by have := hp'.2; omega) (by omega) t).symm
        · rw [← h1]; simp only [if_true]
          exact (walk_indep ok (nd L p).v true (n + 1) _ (by omega) (by have := hp'.2; omega) (by omega) t).symm
      have hlh : (nd L p).l = (nd L p).h :=
        canon ok n _ _ (by omega) (by omega) ⟨hc.2.2.2.1, by have := hp'.2; omega⟩ ⟨hc.2.2.2.2.2.1, by have := hp'.2; omega⟩ (fun t => (hside false t).trans (hside true t).symm)
      exact hc.2.2.1 hlh
    have hvar : ∀ q, ¬ isN L q → var L q = 12 := fun q h => by unfold var; rw [if_neg h]
    by_cases hn : isN L r
    · have hvr : var L r = (nd L r).v := by unfold var; rw [if_pos hn]
      have hcr := ok_child ok hn
      by_cases hm : isN L s
      · have hvs : var L s = (nd L s).v := by unfold var; rw [if_pos hm]
        have hcs := ok_child ok hm
        rcases Int.lt_trichotomy (nd L r).v (nd L s).v with hlt | heq | hgt
        · exact (key r s h1 h2 hr hs hn (by omega) hw).elim
        · have hside : ∀ (b : Bool), ∀ t, walk t L (if b then (nd L r).h else (nd L r).l) = walk t L (if b then (nd L s).h else (nd L s).l) := by
            intro b t
            have h3 := hw (fun i => if i = (nd L r).v then b else t i)
            rw [walk_node ok hn, walk_node ok hm, if_pos rfl, if_pos heq.symm] at h3
            cases b
            · simp only [Bool.false_eq_true, if_false] at h3 ⊢
              rwa [walk_indep ok _ false (n + 1) _ (by omega) (by have := hr.2; omega) (by omega), walk_indep ok _ false (n + 1) _ (by omega) (by have := hs.2; omega) (by omega)] at h3
            · simp only [if_true] at h3 ⊢
              rwa [walk_indep ok _ true (n + 1) _ (by omega) (by have := hr.2; omega) (by omega), walk_indep ok _ true (n + 1) _ (by omega) (by have := hs.2; omega) (by omega)] at h3
          have el : (nd L r).l = (nd L s).l := canon ok n _ _ (by omega) (by omega) ⟨hcr.2.2.2.1, by have := hr.2; omega⟩ ⟨hcs.2.2.2.1, by have := hs.2; omega⟩ (fun t => by simpa using hside false t)
          have eh : (nd L r).h = (nd L s).h := canon ok n _ _ (by omega) (by omega) ⟨hcr.2.2.2.2.2.1, by have := hr.2; omega⟩ ⟨hcs.2.2.2.2.2.1, by have := hs.2; omega⟩ (fun t => by simpa using hside true t)
          exact nd_inj ok hn hm (by cases h : nd L r; cases h' : nd L s; simp_all)
        · exact (key s r h2 h1 hs hr hm (by omega) (fun t => (hw t).symm)).elim
      · exact (key r s h1 h2 hr hs hn (by rw [hvar s hm, hvr]; omega) hw).elim
    · by_cases hm : isN L s
      · have hvs : var L s = (nd L s).v := by unfold var; rw [if_pos hm]
        have hcs := ok_child ok hm
        exact (key s r h2 h1 hs hr hm (by rw [hvar r hn, hvs]; omega) (fun t => (hw t).symm)).elim
      · have := hw (fun _ => true)
        rwa [walk_not hn, walk_not hm] at this
end Ar
end Go.Proofs.YtknoigebkpapoaaDoor
