/- The plain law of sweeping: which nodes are marked. -/
import Derived.Test.YtknoigebkpapoaaDoorNs
set_option linter.unusedVariables false
set_option linter.unusedSimpArgs false
namespace Go.Proofs.YtknoigebkpapoaaDoor
namespace Ar

/-- What can be reached from roots. -/
inductive Reach (L : List Nd) (roots : List Int) : Int → Prop
  | root {r : Int} : r ∈ roots → Reach L roots r
  | low {r : Int} : Reach L roots r → isN L r → Reach L roots (nd L r).l
  | high {r : Int} : Reach L roots r → isN L r → Reach L roots (nd L r).h

/-- The program's way: a stack. -/
def markF (L : List Nd) : Nat → List Int → List Bool → Option (List Bool)
  | 0, _, _ => none
  | f + 1, rest, out => match rest.getLast? with
    | none => some out
    | some r => if isN L r ∧ out.getD r.toNat false = false then markF L f (rest.dropLast ++ [(nd L r).l, (nd L r).h]) (out.set r.toNat true) else markF L f rest.dropLast out

def free (out : List Bool) : Nat := out.countP (fun b => !b)
theorem free_set {k : Nat} : ∀ {out : List Bool}, k < out.length → out.getD k false = false → free (out.set k true) + 1 = free out := by
  unfold free
  induction k with
  | zero => intro out h h0; cases out with
    | nil => simp at h
    | cons a t => simp at h0; subst h0; simp
  | succ k ih => intro out h h0; cases out with
    | nil => simp at h
    | cons a t =>
      have := ih (out := t) (by simpa using h) (by simpa using h0)
      simp only [List.set_cons_succ, List.countP_cons]
      omega

theorem last_snoc (l : List Int) (r : Int) : (l ++ [r]).getLast? = some r := by simp
theorem drop_snoc (l : List Int) (r : Int) : (l ++ [r]).dropLast = l := by simp
theorem nil_or_snoc (l : List Int) : l = [] ∨ ∃ i r, l = i ++ [r] := by
  rcases List.eq_nil_or_concat l with h | ⟨i, r, h⟩
  · exact .inl h
  · exact .inr ⟨i, r, by simpa using h⟩

theorem markF_total (L : List Nd) : ∀ (f : Nat) (rest : List Int) (out : List Bool), out.length = L.length → rest.length + 3 * free out < f → ∃ res, markF L f rest out = some res
  | 0, _, _, _, h => by omega
  | f + 1, rest, out, hl, h => by
    unfold markF
    rcases nil_or_snoc rest with rfl | ⟨init, r, rfl⟩
    · exact ⟨out, by simp⟩
    · simp only [List.getLast?_append, List.getLast?_singleton, Option.some_or, List.dropLast_concat]
      simp only [List.length_append, List.length_singleton] at h
      by_cases hc : isN L r ∧ out.getD r.toNat false = false
      · rw [if_pos hc]
        have hk : r.toNat < out.length := by have := hc.1; unfold isN at this; omega
        have := free_set hk hc.2
        refine markF_total L f _ _ (by simpa using hl) ?_
        simp only [List.length_append, List.length_cons, List.length_nil]
        omega
      · rw [if_neg hc]
        exact markF_total L f _ _ hl (by omega)

/-- What holds in each round. -/
structure MI (L : List Nd) (roots : List Int) (rest : List Int) (out : List Bool) : Prop where
  len : out.length = L.length
  sr : ∀ r ∈ rest, Reach L roots r
  so : ∀ k, k < L.length → out.getD k false = true → Reach L roots (k : Int)
  cr : ∀ r ∈ roots, isN L r → out.getD r.toNat false = true ∨ r ∈ rest
  cl : ∀ k, k < L.length → out.getD k false = true → isN L (nd L k).l → out.getD (nd L k).l.toNat false = true ∨ (nd L k).l ∈ rest
  ch : ∀ k, k < L.length → out.getD k false = true → isN L (nd L k).h → out.getD (nd L k).h.toNat false = true ∨ (nd L k).h ∈ rest

theorem getD_set_true {out : List Bool} {k j : Nat} (h : out.getD j false = true) : (out.set k true).getD j false = true := by
  simp only [List.getD, List.getElem?_set]
  by_cases hkj : k = j
  · subst hkj
    by_cases hk : k < out.length
    · simp [hk]
    · simp [List.getD, List.getElem?_eq_none (by omega : out.length ≤ k)] at h
  · simpa [hkj, List.getD] using h
theorem getD_set_same {out : List Bool} {k : Nat} (h : k < out.length) : (out.set k true).getD k false = true := by simp [List.getD, h]
theorem getD_set_inv {out : List Bool} {k j : Nat} (h : (out.set k true).getD j false = true) : j = k ∨ out.getD j false = true := by
  by_cases hkj : k = j
  · exact .inl hkj.symm
  · right
    simpa [List.getD, List.getElem?_set, hkj] using h

theorem MI.skip {L : List Nd} {roots init : List Int} {r : Int} {out : List Bool} (M : MI L roots (init ++ [r]) out) (h : ¬ (isN L r ∧ out.getD r.toNat false = false)) : MI L roots init out := by
  have hr : isN L r → out.getD r.toNat false = true := fun hn => by
    cases hb : out.getD r.toNat false
    · exact absurd ⟨hn, hb⟩ h
    · rfl
  have key : ∀ x, isN L x → (out.getD x.toNat false = true ∨ x ∈ init ++ [r]) → out.getD x.toNat false = true ∨ x ∈ init := by
    intro x hx h
    rcases h with h | h
    · exact .inl h
    · rcases List.mem_append.1 h with h | h
      · exact .inr h
      · simp at h; subst h; exact .inl (hr hx)
  exact ⟨M.len, fun x hx => M.sr x (by simp [hx]), M.so, fun x hx hn => key x hn (M.cr x hx hn), fun k hk ho hn => key _ hn (M.cl k hk ho hn), fun k hk ho hn => key _ hn (M.ch k hk ho hn)⟩

theorem MI.mark {L : List Nd} {roots init : List Int} {r : Int} {out : List Bool} (M : MI L roots (init ++ [r]) out) (h : isN L r) : MI L roots (init ++ [(nd L r).l, (nd L r).h]) (out.set r.toNat true) := by
  have hrr : Reach L roots r := M.sr r (by simp)
  have hk : r.toNat < out.length := by have := M.len; unfold isN at h; omega
  have hkr : ((r.toNat : Nat) : Int) = r := by unfold isN at h; omega
  have key : ∀ x, isN L x → (out.getD x.toNat false = true ∨ x ∈ init ++ [r]) → (out.set r.toNat true).getD x.toNat false = true ∨ x ∈ init ++ [(nd L r).l, (nd L r).h] := by
    intro x hx h
    rcases h with h | h
    · exact .inl (getD_set_true h)
    · rcases List.mem_append.1 h with h | h
      · exact .inr (by simp [h])
      · simp at h; subst h; exact .inl (getD_set_same hk)
  refine ⟨by simpa using M.len, ?_, ?_, fun x hx hn => key x hn (M.cr x hx hn), ?_, ?_⟩
  · intro x hx
    rcases List.mem_append.1 hx with hx | hx
    · exact M.sr x (by simp [hx])
    · simp at hx
      rcases hx with rfl | rfl
      · exact hrr.low h
      · exact hrr.high h
  · intro k hkl ho
    rcases getD_set_inv ho with rfl | ho
    · rw [hkr]; exact hrr
    · exact M.so k hkl ho
  · intro k hkl ho hn
    rcases getD_set_inv ho with rfl | ho
    · rw [hkr] at hn ⊢; exact .inr (by simp)
    · exact key _ hn (M.cl k hkl ho hn)
  · intro k hkl ho hn
    rcases getD_set_inv ho with rfl | ho
    · rw [hkr] at hn ⊢; exact .inr (by simp)
    · exact key _ hn (M.ch k hkl ho hn)

theorem MI.done {L : List Nd} {roots : List Int} {out : List Bool} (M : MI L roots [] out) (k : Nat) (hk : k < L.length) : out.getD k false = true ↔ Reach L roots (k : Int) := by
  refine ⟨M.so k hk, fun h => ?_⟩
  have all : ∀ r, Reach L roots r → isN L r → out.getD r.toNat false = true := by
    intro r hr
    induction hr with
    | root h => intro hn; exact (M.cr _ h hn).resolve_right (by simp)
    | low h hp ih =>
      intro hn
      have hq := hp
      unfold isN at hq
      have e := M.cl _ (by omega) (ih hp)
      rw [Int.toNat_of_nonneg hq.1] at e
      exact (e hn).resolve_right (by simp)
    | high h hp ih =>
      intro hn
      have hq := hp
      unfold isN at hq
      have e := M.ch _ (by omega) (ih hp)
      rw [Int.toNat_of_nonneg hq.1] at e
      exact (e hn).resolve_right (by simp)
  simpa using all _ h (by unfold isN; omega)

theorem markF_right (L : List Nd) (roots : List Int) : ∀ (f : Nat) (rest : List Int) (out res : List Bool), MI L roots rest out → markF L f rest out = some res →
    res.length = L.length ∧ ∀ k, k < L.length → (res.getD k false = true ↔ Reach L roots (k : Int))
  | 0, _, _, _, _, h => by simp [markF] at h
  | f + 1, rest, out, res, M, h => by
    unfold markF at h
    rcases nil_or_snoc rest with rfl | ⟨init, r, rfl⟩
    · simp at h
      subst h
      exact ⟨M.len, fun k hk => M.done k hk⟩
    · simp only [List.getLast?_append, List.getLast?_singleton, Option.some_or, List.dropLast_concat] at h
      by_cases hc : isN L r ∧ out.getD r.toNat false = false
      · rw [if_pos hc] at h
        exact markF_right L roots f _ _ _ (M.mark hc.1) h
      · rw [if_neg hc] at h
        exact markF_right L roots f _ _ _ (M.skip hc) h

theorem MI.start (L : List Nd) (roots : List Int) : MI L roots roots (List.replicate L.length false) := by
  have hf : ∀ k, (List.replicate L.length false).getD k false = true → False := by
    intro k h
    simp [List.getD, List.getElem?_replicate] at h
    split at h <;> simp_all
  exact ⟨by simp, fun r hr => .root hr, fun k hk h => (hf k h).elim, fun r hr _ => .inr hr, fun k hk h => (hf k h).elim, fun k hk h => (hf k h).elim⟩

end Ar
end Go.Proofs.YtknoigebkpapoaaDoor
