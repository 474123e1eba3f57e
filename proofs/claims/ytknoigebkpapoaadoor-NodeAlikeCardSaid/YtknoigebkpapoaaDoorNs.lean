/- The plain law of an arena of nodes: what it answers, the table of places by which it finds a node, and that the table stays right. -/
import Derived.IntWalk
set_option linter.unusedVariables false
set_option linter.unusedSimpArgs false
namespace Go.Proofs.YtknoigebkpapoaaDoor

/-- A node: a variable and two children. -/
structure Nd where
  v : Int
  l : Int
  h : Int
deriving DecidableEq

namespace Ar

def low : Int := -1099511627777
def has (L : List Nd) (r : Int) : Prop := low ≤ r ∧ r < L.length
instance (L : List Nd) (r : Int) : Decidable (has L r) := by unfold has; infer_instance
def nd (L : List Nd) (r : Int) : Nd := if 0 ≤ r then L.getD r.toNat ⟨0, 0, 0⟩ else ⟨0, 0, 0⟩
def isN (L : List Nd) (r : Int) : Prop := 0 ≤ r ∧ r < L.length
instance (L : List Nd) (r : Int) : Decidable (isN L r) := by unfold isN; infer_instance
def var (L : List Nd) (r : Int) : Int := if isN L r then (nd L r).v else 12
/-- May a node be made? -/
def ordered (L : List Nd) (v lo hi : Int) : Prop := has L lo ∧ has L hi ∧ v < var L lo ∧ v < var L hi
instance (L : List Nd) (v lo hi : Int) : Decidable (ordered L v lo hi) := by unfold ordered; infer_instance
/-- What a call of Mk answers: the nodes behind it, the ref, the error's number. -/
def mk (lim : Int) (L : List Nd) (v lo hi : Int) : List Nd × Int × Int :=
  if v < 0 ∨ 12 ≤ v then (L, 0, 52) else
  if ¬ ordered L v lo hi then (L, 0, 51) else
  if lo = hi then (L, lo, 0) else
  if (⟨v, lo, hi⟩ : Nd) ∈ L then (L, (L.idxOf (⟨v, lo, hi⟩ : Nd) : Nat), 0) else
  if lim ≤ L.length then (L, 0, 50) else (L ++ [⟨v, lo, hi⟩], L.length, 0)

/-- A right row of nodes. -/
structure Ok (L : List Nd) : Prop where
  nodup : L.Nodup
  each : ∀ i (h : i < L.length), 0 ≤ L[i].v ∧ L[i].v < 12 ∧ L[i].l ≠ L[i].h ∧ low ≤ L[i].l ∧ L[i].l < i ∧ low ≤ L[i].h ∧ L[i].h < i ∧ L[i].v < var L L[i].l ∧ L[i].v < var L L[i].h

/-! the table of places -/
/-- A node's place, from 'at' on, by at most so many steps. -/
def probe (PL : List Nat) (L : List Nd) (n : Nd) : Nat → Nat → Option Nat
  | 0, _ => none
  | f + 1, s => if PL.getD s 0 = 0 then some s else if L.getD (PL.getD s 0 - 1) ⟨0, 0, 0⟩ = n then some s else probe PL L n f ((s + 1) % PL.length)

variable (hs : Nd → Nat → Nat)
/-- The table holds the first m nodes of L. -/
structure Tab (PL : List Nat) (L : List Nd) (m : Nat) : Prop where
  pos : 0 < PL.length
  le : m ≤ L.length
  ent : ∀ s (h : s < PL.length), PL[s] ≤ m
  cnt : (PL.countP (· ≠ 0)) ≤ m
  found : ∀ k (h : k < m), ∃ s, probe PL L (L.getD k ⟨0, 0, 0⟩) PL.length (hs (L.getD k ⟨0, 0, 0⟩) PL.length) = some s ∧ PL.getD s 0 = k + 1

variable {hs} {PL : List Nat} {L L' : List Nd} {m : Nat}

theorem next_lt {s n : Nat} (h : 0 < n) : (s + 1) % n < n := Nat.mod_lt _ h
theorem getD_at {s : Nat} (h : s < PL.length) : PL.getD s 0 = PL[s] := by simp [List.getD, h]

theorem probe_lt {n : Nd} : ∀ (f s r : Nat), s < PL.length → probe PL L n f s = some r → r < PL.length ∧ (PL.getD r 0 = 0 ∨ L.getD (PL.getD r 0 - 1) ⟨0, 0, 0⟩ = n)
  | 0, _, _, _, h => by simp [probe] at h
  | f + 1, s, r, hsl, h => by
    unfold probe at h
    split at h
    · cases h; exact ⟨hsl, .inl ‹_›⟩
    · split at h
      · cases h; exact ⟨hsl, .inr ‹_›⟩
      · exact probe_lt f _ r (next_lt (by omega)) h

theorem probe_ext {n : Nd} (he : ∀ s (h : s < PL.length), PL[s] ≤ m) (hl : ∀ i, i < m → L.getD i ⟨0, 0, 0⟩ = L'.getD i ⟨0, 0, 0⟩) :
    ∀ (f s : Nat), s < PL.length → probe PL L n f s = probe PL L' n f s
  | 0, _, _ => rfl
  | f + 1, s, hsl => by
    have h1 := he s hsl
    unfold probe
    rw [getD_at hsl]
    by_cases h0 : PL[s] = 0
    · rw [if_pos h0, if_pos h0]
    · rw [if_neg h0, if_neg h0, hl _ (by omega), probe_ext he hl f _ (next_lt (by omega))]

/-- How far it is from s on to z, round the table. -/
def dist (n z s : Nat) : Nat := if s ≤ z then z - s else z + n - s
theorem dist_lt {n z s : Nat} (hz : z < n) (_hs : s < n) : dist n z s < n := by unfold dist; split <;> omega
theorem dist_next {n z s : Nat} (hz : z < n) (hs : s < n) (hne : s ≠ z) : dist n z ((s + 1) % n) + 1 = dist n z s := by
  by_cases h : s + 1 = n
  · rw [h, Nat.mod_self]; unfold dist; rw [if_pos (by omega), if_neg (by omega)]; omega
  · rw [Nat.mod_eq_of_lt (by omega)]; unfold dist
    by_cases h2 : s + 1 ≤ z
    · rw [if_pos h2, if_pos (by omega)]; omega
    · rw [if_neg h2, if_neg (by omega)]; omega

theorem probe_some {n : Nd} {z : Nat} (hz : z < PL.length) (h0 : PL.getD z 0 = 0) : ∀ (f s : Nat), s < PL.length → dist PL.length z s < f → ∃ r, probe PL L n f s = some r
  | 0, _, _, h => by omega
  | f + 1, s, hsl, hd => by
    unfold probe
    split
    · exact ⟨_, rfl⟩
    · rename_i hne
      split
      · exact ⟨_, rfl⟩
      · refine probe_some hz h0 f _ (next_lt (by omega)) ?_
        have hsz : s ≠ z := fun e => hne (e ▸ h0)
        have := dist_next hz hsl hsz
        omega

theorem zero_of_count (h : PL.countP (· ≠ 0) < PL.length) : ∃ z, z < PL.length ∧ PL.getD z 0 = 0 := by
  apply Classical.byContradiction
  intro hn
  have : PL.countP (· ≠ 0) = PL.length := by
    rw [List.countP_eq_length]
    intro a ha
    obtain ⟨i, hi, rfl⟩ := List.mem_iff_getElem.1 ha
    simp only [ne_eq, decide_not, Bool.not_eq_eq_eq_not, Bool.not_true, decide_eq_false_iff_not]
    intro e
    exact hn ⟨i, hi, by rw [getD_at hi, e]⟩
  omega

theorem Tab.total (T : Tab hs PL L m) (hm : m < PL.length) (n : Nd) {s : Nat} (h : s < PL.length) : ∃ r, probe PL L n PL.length s = some r := by
  obtain ⟨z, hz, h0⟩ := zero_of_count (Nat.lt_of_le_of_lt T.cnt hm)
  exact probe_some hz h0 _ _ h (dist_lt hz h)

theorem Tab.ext (T : Tab hs PL L m) (hlt : ∀ n k, 0 < k → hs n k < k) (hle : m ≤ L'.length) (hl : ∀ i, i < m → L.getD i ⟨0, 0, 0⟩ = L'.getD i ⟨0, 0, 0⟩) : Tab hs PL L' m :=
  ⟨T.pos, hle, T.ent, T.cnt, fun k hk => by
    obtain ⟨s, h1, h2⟩ := T.found k hk
    refine ⟨s, ?_, h2⟩
    rw [← hl k hk, ← probe_ext T.ent hl _ _ (hlt _ _ T.pos)]
    exact h1⟩

theorem probe_set_old {n : Nd} {r t : Nat} (he : ∀ s (h : s < PL.length), PL[s] ≤ m) (hr : r < PL.length) (hr0 : PL.getD r 0 = 0) (ht : PL.getD t 0 ≠ 0) :
    ∀ (f s : Nat), s < PL.length → probe PL L n f s = some t → probe (PL.set r (m + 1)) L n f s = some t
  | 0, _, _, h => by simp [probe] at h
  | f + 1, s, hsl, h => by
    unfold probe at h
    by_cases h0 : PL.getD s 0 = 0
    · rw [if_pos h0] at h; cases h; exact absurd h0 ht
    · rw [if_neg h0] at h
      have hsr : s ≠ r := fun e => h0 (e ▸ hr0)
      have hget : (PL.set r (m + 1)).getD s 0 = PL.getD s 0 := by simp [List.getD, List.getElem?_set, Ne.symm hsr]
      unfold probe
      rw [hget, if_neg h0]
      split at h
      · cases h; rw [if_pos ‹_›]
      · rw [if_neg ‹_›, List.length_set]; exact probe_set_old he hr hr0 ht f _ (next_lt (by omega)) h

theorem probe_set_new {r : Nat} (he : ∀ s (h : s < PL.length), PL[s] ≤ m) (hr : r < PL.length) (hr0 : PL.getD r 0 = 0) :
    ∀ (f s : Nat), s < PL.length → probe PL L (L.getD m ⟨0, 0, 0⟩) f s = some r → probe (PL.set r (m + 1)) L (L.getD m ⟨0, 0, 0⟩) f s = some r
  | 0, _, _, h => by simp [probe] at h
  | f + 1, s, hsl, h => by
    unfold probe at h
    by_cases hsr : s = r
    · subst hsr
      unfold probe
      have hget : (PL.set s (m + 1)).getD s 0 = m + 1 := by simp [List.getD, hr]
      rw [hget, if_neg (by omega), Nat.add_sub_cancel, if_pos rfl]
    · have hget : (PL.set r (m + 1)).getD s 0 = PL.getD s 0 := by simp [List.getD, List.getElem?_set, Ne.symm hsr]
      unfold probe
      rw [hget]
      split at h
      · cases h; exact absurd rfl hsr
      · rw [if_neg ‹_›]
        split at h
        · cases h; exact absurd rfl hsr
        · rw [if_neg ‹_›, List.length_set]; exact probe_set_new he hr hr0 f _ (next_lt (by omega)) h

theorem countP_set_zero {r x : Nat} : ∀ {PL : List Nat}, r < PL.length → PL.getD r 0 = 0 → x ≠ 0 → (PL.set r x).countP (· ≠ 0) = PL.countP (· ≠ 0) + 1 := by
  induction r with
  | zero =>
    intro PL hr h0 hx
    cases PL with
    | nil => simp at hr
    | cons a t => simp at h0; subst h0; simp [hx]
  | succ r ih =>
    intro PL hr h0 hx
    cases PL with
    | nil => simp at hr
    | cons a t =>
      have := ih (PL := t) (by simpa using hr) (by simpa using h0) hx
      simp only [List.set_cons_succ, List.countP_cons, this]
      omega

theorem Tab.put (T : Tab hs PL L m) (hlt : ∀ n k, 0 < k → hs n k < k) (hm : m < L.length) {r : Nat} (hp : probe PL L (L.getD m ⟨0, 0, 0⟩) PL.length (hs (L.getD m ⟨0, 0, 0⟩) PL.length) = some r) (h0 : PL.getD r 0 = 0) :
    Tab hs (PL.set r (m + 1)) L (m + 1) := by
  have hr := (probe_lt _ _ _ (hlt _ _ T.pos) hp).1
  refine ⟨by simpa using T.pos, hm, ?_, ?_, ?_⟩
  · intro s h
    rw [List.length_set] at h
    rw [List.getElem_set]
    split
    · omega
    · have := T.ent s h; omega
  · rw [countP_set_zero hr h0 (by omega)]
    have := T.cnt
    omega
  · intro k hk
    rw [List.length_set]
    by_cases hkm : k = m
    · subst hkm
      exact ⟨r, probe_set_new T.ent hr h0 _ _ (hlt _ _ T.pos) hp, by simp [List.getD, hr]⟩
    · obtain ⟨s, h1, h2⟩ := T.found k (by omega)
      refine ⟨s, probe_set_old T.ent hr h0 (by omega) _ _ (hlt _ _ T.pos) h1, ?_⟩
      have hsr : s ≠ r := fun e => by rw [e, h0] at h2; omega
      rw [← h2]
      simp [List.getD, List.getElem?_set, Ne.symm hsr]

theorem Tab.start (hs : Nd → Nat → Nat) (L : List Nd) {n : Nat} (h : 0 < n) : Tab hs (List.replicate n 0) L 0 :=
  ⟨by simpa using h, Nat.zero_le _, fun s h => by simp, by simp [List.countP_replicate], fun k hk => by omega⟩

/-- What is put is found at a place that is empty. -/
theorem Tab.fresh (T : Tab hs PL L m) {n : Nd} {r s : Nat} (hsl : s < PL.length) (hn : ∀ i, i < m → L.getD i ⟨0, 0, 0⟩ ≠ n) (hp : probe PL L n PL.length s = some r) : r < PL.length ∧ PL.getD r 0 = 0 := by
  obtain ⟨hr, h⟩ := probe_lt _ _ _ hsl hp
  refine ⟨hr, ?_⟩
  rcases h with h | h
  · exact h
  · apply Classical.byContradiction
    intro h0
    have := T.ent r hr
    rw [getD_at hr] at h h0
    exact hn _ (by omega) h

theorem getD_idx {L : List Nd} {i : Nat} (h : i < L.length) : L.getD i ⟨0, 0, 0⟩ = L[i] := by simp [List.getD, h]

theorem getD_append_lt {L : List Nd} {x : Nd} {i : Nat} (h : i < L.length) : L.getD i ⟨0, 0, 0⟩ = (L ++ [x]).getD i ⟨0, 0, 0⟩ := by
  simp [List.getD, List.getElem?_append_left h]

/-- A node that is held stands at its place. -/
theorem Tab.held (T : Tab hs PL L m) (hm : m = L.length) {n : Nd} (hn : n ∈ L) (hok : L.Nodup) : ∃ s, probe PL L n PL.length (hs n PL.length) = some s ∧ PL.getD s 0 = L.idxOf n + 1 := by
  have hi := List.idxOf_lt_length_of_mem hn
  obtain ⟨s, h1, h2⟩ := T.found (L.idxOf n) (by omega)
  rw [getD_idx hi, List.getElem_idxOf hi] at h1
  exact ⟨s, h1, h2⟩

theorem Tab.not (T : Tab hs PL L m) (_hm : m = L.length) {n : Nd} (hn : n ∉ L) {r s : Nat} (hsl : s < PL.length) (hp : probe PL L n PL.length s = some r) : r < PL.length ∧ PL.getD r 0 = 0 :=
  T.fresh hsl (fun i hi e => hn (by rw [getD_idx (by omega)] at e; exact e ▸ List.getElem_mem _)) hp

theorem Tab.add (T : Tab hs PL L m) (hm : m = L.length) (hlt : ∀ n k, 0 < k → hs n k < k) {n : Nd} (hn : n ∉ L) {r : Nat} (hp : probe PL L n PL.length (hs n PL.length) = some r) :
    Tab hs (PL.set r (L.length + 1)) (L ++ [n]) (L.length + 1) := by
  have h0 := (T.not hm hn (hlt _ _ T.pos) hp).2
  subst hm
  have T' : Tab hs PL (L ++ [n]) L.length := T.ext hlt (by simp) (fun i hi => getD_append_lt hi)
  have hg : (L ++ [n]).getD L.length ⟨0, 0, 0⟩ = n := by simp [List.getD]
  refine T'.put hlt (by simp) ?_ h0
  rw [hg, ← probe_ext T.ent (fun i hi => getD_append_lt hi) _ _ (hlt _ _ T.pos)]
  exact hp

end Ar
end Go.Proofs.YtknoigebkpapoaaDoor
