/- Texts of this claim, one behind the other: Ns, Wd, Nw, Np, Nm, Nk, Ss, Sm, Pj, Wj. -/
import Derived.IntWalk
import Derived.WalkKit
import Derived.WalkSpells
import Derived.WalkLawsBesides
import Derived.Laws.Bits64
import Derived.Lib.Hide
import Derived.Maps.AppendAt
import Derived.Deep.LoopGhost
import Derived.Test.YtiagkbmhfgdffaaRows
import Derived.Deep.QuietTactic
import Derived.BigQuiet
import Derived.Deep.RegionHeld3
import Derived.Deep.OwnRows
import Derived.Deep.AppendLies
import Derived.Deep.RegionLaw
import Derived.Deep.DeepCutAuto
set_option linter.unusedVariables false
set_option linter.unusedSimpArgs false
namespace Go.Proofs.Ytiagkbmhfgdffaa

/-- A node: a variable and two children. -/
structure Nd where
  v : Int
  l : Int
  h : Int
deriving DecidableEq

namespace Ar

def low : Int := -1099511627777
def has (L : List Nd) (r : Int) : Prop := low ≤ r ∧ r < L.length
instance (L : List Nd) (r : Int) : Decidable (has L r) := by unfold has; infer_instance
def nd (L : List Nd) (r : Int) : Nd := if 0 ≤ r then L.getD r.toNat ⟨0, 0, 0⟩ else ⟨0, 0, 0⟩
def isN (L : List Nd) (r : Int) : Prop := 0 ≤ r ∧ r < L.length
instance (L : List Nd) (r : Int) : Decidable (isN L r) := by unfold isN; infer_instance
def var (L : List Nd) (r : Int) : Int := if isN L r then (nd L r).v else 12
/-- May a node be made? -/
def ordered (L : List Nd) (v lo hi : Int) : Prop := has L lo ∧ has L hi ∧ v < var L lo ∧ v < var L hi
instance (L : List Nd) (v lo hi : Int) : Decidable (ordered L v lo hi) := by unfold ordered; infer_instance
/-- What a call of Mk answers: the nodes behind it, the ref, the error's number. -/
def mk (lim : Int) (L : List Nd) (v lo hi : Int) : List Nd × Int × Int :=
  if v < 0 ∨ 12 ≤ v then (L, 0, 52) else
  if ¬ ordered L v lo hi then (L, 0, 51) else
  if lo = hi then (L, lo, 0) else
  if (⟨v, lo, hi⟩ : Nd) ∈ L then (L, (L.idxOf (⟨v, lo, hi⟩ : Nd) : Nat), 0) else
  if lim ≤ L.length then (L, 0, 50) else (L ++ [⟨v, lo, hi⟩], L.length, 0)

/-- A right row of nodes. -/
structure Ok (L : List Nd) : Prop where
  nodup : L.Nodup
  each : ∀ i (h : i < L.length), 0 ≤ L[i].v ∧ L[i].v < 12 ∧ L[i].l ≠ L[i].h ∧ low ≤ L[i].l ∧ L[i].l < i ∧ low ≤ L[i].h ∧ L[i].h < i ∧ L[i].v < var L L[i].l ∧ L[i].v < var L L[i].h

/-! the table of places -/
/-- A node's place, from 'at' on, by at most so many steps. -/
def probe (PL : List Nat) (L : List Nd) (n : Nd) : Nat → Nat → Option Nat
  | 0, _ => none
  | f + 1, s => if PL.getD s 0 = 0 then some s else if L.getD (PL.getD s 0 - 1) ⟨0, 0, 0⟩ = n then some s else probe PL L n f ((s + 1) % PL.length)

variable (hs : Nd → Nat → Nat)
/-- The table holds the first m nodes of L. -/
structure Tab (PL : List Nat) (L : List Nd) (m : Nat) : Prop where
  pos : 0 < PL.length
  le : m ≤ L.length
  ent : ∀ s (h : s < PL.length), PL[s] ≤ m
  cnt : (PL.countP (· ≠ 0)) ≤ m
  found : ∀ k (h : k < m), ∃ s, probe PL L (L.getD k ⟨0, 0, 0⟩) PL.length (hs (L.getD k ⟨0, 0, 0⟩) PL.length) = some s ∧ PL.getD s 0 = k + 1

variable {hs} {PL : List Nat} {L L' : List Nd} {m : Nat}

theorem next_lt {s n : Nat} (h : 0 < n) : (s + 1) % n < n := Nat.mod_lt _ h
theorem getD_at {s : Nat} (h : s < PL.length) : PL.getD s 0 = PL[s] := by simp [List.getD, h]

theorem probe_lt {n : Nd} : ∀ (f s r : Nat), s < PL.length → probe PL L n f s = some r → r < PL.length ∧ (PL.getD r 0 = 0 ∨ L.getD (PL.getD r 0 - 1) ⟨0, 0, 0⟩ = n)
  | 0, _, _, _, h => by simp [probe] at h
  | f + 1, s, r, hsl, h => by
    unfold probe at h
    split at h
    · cases h; exact ⟨hsl, .inl ‹_›⟩
    · split at h
      · cases h; exact ⟨hsl, .inr ‹_›⟩
      · exact probe_lt f _ r (next_lt (by omega)) h

theorem probe_ext {n : Nd} (he : ∀ s (h : s < PL.length), PL[s] ≤ m) (hl : ∀ i, i < m → L.getD i ⟨0, 0, 0⟩ = L'.getD i ⟨0, 0, 0⟩) :
    ∀ (f s : Nat), s < PL.length → probe PL L n f s = probe PL L' n f s
  | 0, _, _ => rfl
  | f + 1, s, hsl => by
    have h1 := he s hsl
    unfold probe
    rw [getD_at hsl]
    by_cases h0 : PL[s] = 0
    · rw [if_pos h0, if_pos h0]
    · rw [if_neg h0, if_neg h0, hl _ (by omega), probe_ext he hl f _ (next_lt (by omega))]

/-- How far it is from s on to z, round the table. -/
def dist (n z s : Nat) : Nat := if s ≤ z then z - s else z + n - s
theorem dist_lt {n z s : Nat} (hz : z < n) (_hs : s < n) : dist n z s < n := by unfold dist; split <;> omega
theorem dist_next {n z s : Nat} (hz : z < n) (hs : s < n) (hne : s ≠ z) : dist n z ((s + 1) % n) + 1 = dist n z s := by
  by_cases h : s + 1 = n
  · rw [h, Nat.mod_self]; unfold dist; rw [if_pos (by omega), if_neg (by omega)]; omega
  · rw [Nat.mod_eq_of_lt (by omega)]; unfold dist
    by_cases h2 : s + 1 ≤ z
    · rw [if_pos h2, if_pos (by omega)]; omega
    · rw [if_neg h2, if_neg (by omega)]; omega

theorem probe_some {n : Nd} {z : Nat} (hz : z < PL.length) (h0 : PL.getD z 0 = 0) : ∀ (f s : Nat), s < PL.length → dist PL.length z s < f → ∃ r, probe PL L n f s = some r
  | 0, _, _, h => by omega
  | f + 1, s, hsl, hd => by
    unfold probe
    split
    · exact ⟨_, rfl⟩
    · rename_i hne
      split
      · exact ⟨_, rfl⟩
      · refine probe_some hz h0 f _ (next_lt (by omega)) ?_
        have hsz : s ≠ z := fun e => hne (e ▸ h0)
        have := dist_next hz hsl hsz
        omega

theorem zero_of_count (h : PL.countP (· ≠ 0) < PL.length) : ∃ z, z < PL.length ∧ PL.getD z 0 = 0 := by
  apply Classical.byContradiction
  intro hn
  have : PL.countP (· ≠ 0) = PL.length := by
    rw [List.countP_eq_length]
    intro a ha
    obtain ⟨i, hi, rfl⟩ := List.mem_iff_getElem.1 ha
    simp only [ne_eq, decide_not, Bool.not_eq_eq_eq_not, Bool.not_true, decide_eq_false_iff_not]
    intro e
    exact hn ⟨i, hi, by rw [getD_at hi, e]⟩
  omega

theorem Tab.total (T : Tab hs PL L m) (hm : m < PL.length) (n : Nd) {s : Nat} (h : s < PL.length) : ∃ r, probe PL L n PL.length s = some r := by
  obtain ⟨z, hz, h0⟩ := zero_of_count (Nat.lt_of_le_of_lt T.cnt hm)
  exact probe_some hz h0 _ _ h (dist_lt hz h)

theorem Tab.ext (T : Tab hs PL L m) (hlt : ∀ n k, 0 < k → hs n k < k) (hle : m ≤ L'.length) (hl : ∀ i, i < m → L.getD i ⟨0, 0, 0⟩ = L'.getD i ⟨0, 0, 0⟩) : Tab hs PL L' m :=
  ⟨T.pos, hle, T.ent, T.cnt, fun k hk => by
    obtain ⟨s, h1, h2⟩ := T.found k hk
    refine ⟨s, ?_, h2⟩
    rw [← hl k hk, ← probe_ext T.ent hl _ _ (hlt _ _ T.pos)]
    exact h1⟩

theorem probe_set_old {n : Nd} {r t : Nat} (he : ∀ s (h : s < PL.length), PL[s] ≤ m) (hr : r < PL.length) (hr0 : PL.getD r 0 = 0) (ht : PL.getD t 0 ≠ 0) :
    ∀ (f s : Nat), s < PL.length → probe PL L n f s = some t → probe (PL.set r (m + 1)) L n f s = some t
  | 0, _, _, h => by simp [probe] at h
  | f + 1, s, hsl, h => by
    unfold probe at h
    by_cases h0 : PL.getD s 0 = 0
    · rw [if_pos h0] at h; cases h; exact absurd h0 ht
    · rw [if_neg h0] at h
      have hsr : s ≠ r := fun e => h0 (e ▸ hr0)
      have hget : (PL.set r (m + 1)).getD s 0 = PL.getD s 0 := by simp [List.getD, List.getElem?_set, Ne.symm hsr]
      unfold probe
      rw [hget, if_neg h0]
      split at h
      · cases h; rw [if_pos ‹_›]
      · rw [if_neg ‹_›, List.length_set]; exact probe_set_old he hr hr0 ht f _ (next_lt (by omega)) h

theorem probe_set_new {r : Nat} (he : ∀ s (h : s < PL.length), PL[s] ≤ m) (hr : r < PL.length) (hr0 : PL.getD r 0 = 0) :
    ∀ (f s : Nat), s < PL.length → probe PL L (L.getD m ⟨0, 0, 0⟩) f s = some r → probe (PL.set r (m + 1)) L (L.getD m ⟨0, 0, 0⟩) f s = some r
  | 0, _, _, h => by simp [probe] at h
  | f + 1, s, hsl, h => by
    unfold probe at h
    by_cases hsr : s = r
    · subst hsr
      unfold probe
      have hget : (PL.set s (m + 1)).getD s 0 = m + 1 := by simp [List.getD, hr]
      rw [hget, if_neg (by omega), Nat.add_sub_cancel, if_pos rfl]
    · have hget : (PL.set r (m + 1)).getD s 0 = PL.getD s 0 := by simp [List.getD, List.getElem?_set, Ne.symm hsr]
      unfold probe
      rw [hget]
      split at h
      · cases h; exact absurd rfl hsr
      · rw [if_neg ‹_›]
        split at h
        · cases h; exact absurd rfl hsr
        · rw [if_neg ‹_›, List.length_set]; exact probe_set_new he hr hr0 f _ (next_lt (by omega)) h

theorem countP_set_zero {r x : Nat} : ∀ {PL : List Nat}, r < PL.length → PL.getD r 0 = 0 → x ≠ 0 → (PL.set r x).countP (· ≠ 0) = PL.countP (· ≠ 0) + 1 := by
  induction r with
  | zero =>
    intro PL hr h0 hx
    cases PL with
    | nil => simp at hr
    | cons a t => simp at h0; subst h0; simp [hx]
  | succ r ih =>
    intro PL hr h0 hx
    cases PL with
    | nil => simp at hr
    | cons a t =>
      have := ih (PL := t) (by simpa using hr) (by simpa using h0) hx
      simp only [List.set_cons_succ, List.countP_cons, this]
      omega

theorem Tab.put (T : Tab hs PL L m) (hlt : ∀ n k, 0 < k → hs n k < k) (hm : m < L.length) {r : Nat} (hp : probe PL L (L.getD m ⟨0, 0, 0⟩) PL.length (hs (L.getD m ⟨0, 0, 0⟩) PL.length) = some r) (h0 : PL.getD r 0 = 0) :
    Tab hs (PL.set r (m + 1)) L (m + 1) := by
  have hr := (probe_lt _ _ _ (hlt _ _ T.pos) hp).1
  refine ⟨by simpa using T.pos, hm, ?_, ?_, ?_⟩
  · intro s h
    rw [List.length_set] at h
    rw [List.getElem_set]
    split
    · omega
    · have := T.ent s h; omega
  · rw [countP_set_zero hr h0 (by omega)]
    have := T.cnt
    omega
  · intro k hk
    rw [List.length_set]
    by_cases hkm : k = m
    · subst hkm
      exact ⟨r, probe_set_new T.ent hr h0 _ _ (hlt _ _ T.pos) hp, by simp [List.getD, hr]⟩
    · obtain ⟨s, h1, h2⟩ := T.found k (by omega)
      refine ⟨s, probe_set_old T.ent hr h0 (by omega) _ _ (hlt _ _ T.pos) h1, ?_⟩
      have hsr : s ≠ r := fun e => by rw [e, h0] at h2; omega
      rw [← h2]
      simp [List.getD, List.getElem?_set, Ne.symm hsr]

theorem Tab.start (hs : Nd → Nat → Nat) (L : List Nd) {n : Nat} (h : 0 < n) : Tab hs (List.replicate n 0) L 0 :=
  ⟨by simpa using h, Nat.zero_le _, fun s h => by simp, by simp [List.countP_replicate], fun k hk => by omega⟩

/-- What is put is found at a place that is empty. -/
theorem Tab.fresh (T : Tab hs PL L m) {n : Nd} {r s : Nat} (hsl : s < PL.length) (hn : ∀ i, i < m → L.getD i ⟨0, 0, 0⟩ ≠ n) (hp : probe PL L n PL.length s = some r) : r < PL.length ∧ PL.getD r 0 = 0 := by
  obtain ⟨hr, h⟩ := probe_lt _ _ _ hsl hp
  refine ⟨hr, ?_⟩
  rcases h with h | h
  · exact h
  · apply Classical.byContradiction
    intro h0
    have := T.ent r hr
    rw [getD_at hr] at h h0
    exact hn _ (by omega) h

theorem getD_idx {L : List Nd} {i : Nat} (h : i < L.length) : L.getD i ⟨0, 0, 0⟩ = L[i] := by simp [List.getD, h]

theorem getD_append_lt {L : List Nd} {x : Nd} {i : Nat} (h : i < L.length) : L.getD i ⟨0, 0, 0⟩ = (L ++ [x]).getD i ⟨0, 0, 0⟩ := by
  simp [List.getD, List.getElem?_append_left h]

/-- A node that is held stands at its place. -/
theorem Tab.held (T : Tab hs PL L m) (hm : m = L.length) {n : Nd} (hn : n ∈ L) (hok : L.Nodup) : ∃ s, probe PL L n PL.length (hs n PL.length) = some s ∧ PL.getD s 0 = L.idxOf n + 1 := by
  have hi := List.idxOf_lt_length_of_mem hn
  obtain ⟨s, h1, h2⟩ := T.found (L.idxOf n) (by omega)
  rw [getD_idx hi, List.getElem_idxOf hi] at h1
  exact ⟨s, h1, h2⟩

theorem Tab.not (T : Tab hs PL L m) (_hm : m = L.length) {n : Nd} (hn : n ∉ L) {r s : Nat} (hsl : s < PL.length) (hp : probe PL L n PL.length s = some r) : r < PL.length ∧ PL.getD r 0 = 0 :=
  T.fresh hsl (fun i hi e => hn (by rw [getD_idx (by omega)] at e; exact e ▸ List.getElem_mem _)) hp

theorem Tab.add (T : Tab hs PL L m) (hm : m = L.length) (hlt : ∀ n k, 0 < k → hs n k < k) {n : Nd} (hn : n ∉ L) {r : Nat} (hp : probe PL L n PL.length (hs n PL.length) = some r) :
    Tab hs (PL.set r (L.length + 1)) (L ++ [n]) (L.length + 1) := by
  have h0 := (T.not hm hn (hlt _ _ T.pos) hp).2
  subst hm
  have T' : Tab hs PL (L ++ [n]) L.length := T.ext hlt (by simp) (fun i hi => getD_append_lt hi)
  have hg : (L ++ [n]).getD L.length ⟨0, 0, 0⟩ = n := by simp [List.getD]
  refine T'.put hlt (by simp) ?_ h0
  rw [hg, ← probe_ext T.ent (fun i hi => getD_append_lt hi) _ _ (hlt _ _ T.pos)]
  exact hp

end Ar
end Go.Proofs.Ytiagkbmhfgdffaa

set_option linter.unusedVariables false
set_option linter.unusedSimpArgs false
namespace Go.Proofs.Ytiagkbmhfgdffaa
open Go.RowKit

/-- Of what was there when a call began, only the blocks of S may have turned. -/
structure Touch (w w' : World) (S : Nat → Prop) : Prop where
  os : w'.os = w.os
  tape : w'.tape = w.tape
  output : w'.output = w.output
  size : w.heap.size ≤ w'.heap.size
  block : ∀ k, k < w.heap.size → ¬ S k → w'.heap[k]? = w.heap[k]?

namespace Touch
variable {a w w' w'' : World} {S S' : Nat → Prop}
theorem refl (w : World) (S : Nat → Prop) : Touch w w S := ⟨rfl, rfl, rfl, Nat.le_refl _, fun _ _ _ => rfl⟩
theorem trans (h : Touch w w' S) (k : Touch w' w'' S') (hs : ∀ i, i < w.heap.size → S' i → S i) : Touch w w'' S :=
  ⟨k.os.trans h.os, k.tape.trans h.tape, k.output.trans h.output, Nat.le_trans h.size k.size,
    fun i hi hn => (k.block i (Nat.lt_of_lt_of_le hi h.size) (fun c => hn (hs i hi c))).trans (h.block i hi hn)⟩
theorem mono (h : Touch w w' S) (hs : ∀ i, i < w.heap.size → S i → S' i) : Touch w w' S' := ⟨h.os, h.tape, h.output, h.size, fun i hi hn => h.block i hi (fun c => hn (hs i hi c))⟩
theorem alloc (h : Touch a w S) (o : Obj) : Touch a (w.alloc o) S :=
  h.trans (S' := fun _ => False) ⟨rfl, rfl, rfl, by simp, fun k hk _ => Below.heap_alloc _ _ _ hk⟩ (fun _ _ c => c.elim)
theorem drew (h : Touch a w S) : Touch a w.drew S := ⟨h.os, h.tape, h.output, h.size, h.block⟩
theorem drewN (h : Touch a w S) (n : Nat) : Touch a (w.drewN n) S := ⟨h.os, h.tape, h.output, h.size, h.block⟩
theorem setCell (h : Touch a w S) {p : Addr} (hp : S p.block ∨ a.heap.size ≤ p.block) (u : Value) : Touch a (w.setCell p u) S :=
  h.trans (S' := fun k => k = p.block) ⟨rfl, rfl, rfl, by simp [World.setCell], fun k hk hn => Below.heap_setCell _ _ _ _ hn⟩ (fun i hi c => by subst c; exact hp.resolve_right (by omega))
theorem grown (h : Touch a w S) {row : Option Nat} (hg : w.grownBy w' row) (hr : ∀ k, row = some k → S k ∨ a.heap.size ≤ k) : Touch a w' S :=
  h.trans (S' := fun k => row = some k) ⟨hg.os, hg.tape, hg.output, hg.size, fun k hk hn => hg.block k hk (fun e => hn e.symm)⟩ (fun i hi c => (hr i c).resolve_right (by omega))
theorem of_below (h : Below w.heap.size w w') (S : Nat → Prop) : Touch w w' S := ⟨h.os, h.tape, h.output, h.size, fun k hk _ => h.block k hk⟩
theorem below (h : Touch w w' S) {B : Nat} (hB : B ≤ w.heap.size) (hs : ∀ k, k < B → ¬ S k) : Below B w w' := ⟨h.os, h.tape, h.output, h.size, fun k hk => h.block k (by omega) (hs k hk)⟩
theorem heap (h : Touch w w' S) {k : Nat} {o : Obj} (ho : w.heap[k]? = some o) (hn : ¬ S k) : w'.heap[k]? = some o :=
  (h.block k (Array.getElem?_eq_some_iff.1 ho).1 hn).trans ho
theorem step (h : Touch a w S) (k : Touch w w' S') (hs : ∀ i, i < a.heap.size → S' i → S i) : Touch a w' S := h.trans k hs
end Touch

theorem lt_of_heap {w : World} {k : Nat} {o : Obj} (h : w.heap[k]? = some o) : k < w.heap.size := (Array.getElem?_eq_some_iff.1 h).1
theorem cell_at {w : World} {b : Nat} {c : Array Value} {T : TypeId} {fr : Nat × Nat} (h : w.heap[b]? = some (.cells c T fr)) (j : Nat) {v : Value} (hv : c[j]? = some v) : w.cell? ⟨b, j, none⟩ = some v := by
  simp [World.cell?, h, hv]
theorem free_at {w : World} {b : Nat} {c : Array Value} {T : TypeId} (h : w.heap[b]? = some (.cells c T (0, 0))) (j : Nat) : w.frozen? ⟨b, j, none⟩ = false := by
  simp [World.frozen?, h]
theorem heap_setCell_same {w : World} {b j : Nat} {c : Array Value} {T : TypeId} {fr : Nat × Nat} (h : w.heap[b]? = some (.cells c T fr)) (v : Value) : (w.setCell ⟨b, j, none⟩ v).heap[b]? = some (.cells (c.setIfInBounds j v) T fr) := by
  simp [World.setCell, Array.getElem?_modify, h]
theorem heap_setCell_other {w : World} {b k : Nat} {o : Obj} (p : Addr) (h : w.heap[k]? = some o) (hb : p.block = b) (hn : k ≠ b) (v : Value) : (w.setCell p v).heap[k]? = some o := by
  rw [Below.heap_setCell _ _ _ _ (by omega)]; exact h
theorem heap_alloc_lt {w : World} {k : Nat} {o : Obj} (o' : Obj) (h : w.heap[k]? = some o) : (w.alloc o').heap[k]? = some o := by
  rw [Below.heap_alloc _ _ _ (lt_of_heap h)]; exact h
theorem ownsRow_touch {w w' : World} {S : Nat → Prop} {base : Nat} {e : TypeId} {size : Nat} {v : Value} {n : Nat} {xs : List Value} (h : w.ownsRow base e size v n xs) (t : Touch w w' S)
    (hs : ∀ k, v.ownBlock = some k → ¬ S k) : w'.ownsRow base e size v n xs := by
  refine ⟨h.1, ?_⟩
  rcases h.2 with hn | ⟨g, cap, cur, rfl, hb, hgg, rest⟩
  · exact .inl hn
  · exact .inr ⟨g, cap, cur, rfl, hb, t.heap hgg (hs g (by simp [Value.ownBlock])), rest⟩
theorem ret_eq {a b : Value} (h : a = b) : Ending.returned a = Ending.returned b := by rw [h]

theorem cell_set_ne {w : World} {p q : Addr} (u : Value) (h : q.block ≠ p.block) : (w.setCell p u).cell? q = w.cell? q :=
  World.cell?_of_block (w := w) (Below.heap_setCell _ _ _ _ h)
theorem cell_drewN_alloc {w : World} {b : Nat} (h : b < w.heap.size) (nq : Nat) (o : Obj) (j : Nat) : ((w.drewN nq).alloc o).cell? ⟨b, j, none⟩ = w.cell? ⟨b, j, none⟩ :=
  World.cell?_of_block (w := w) (Below.heap_alloc (w.drewN nq) o b h)
theorem frozen_drewN_alloc {w : World} {b : Nat} (h : b < w.heap.size) (nq : Nat) (o : Obj) (j : Nat) : ((w.drewN nq).alloc o).frozen? ⟨b, j, none⟩ = w.frozen? ⟨b, j, none⟩ :=
  World.frozen?_of_block (w := w) (Below.heap_alloc (w.drewN nq) o b h)

/-! slices of numbers that are read; rows that are appended to -/
/-- A value that reads as a slice of numbers. -/
def Ints (w : World) (v : Value) (xs : List Int) : Prop :=
  ∃ ao c, v = .slice ao xs.length c ∧ xs.length ≤ c ∧ c ≤ maxLen ∧ ∀ i (h : i < xs.length), ∃ b o, ao = some ⟨b, o, none⟩ ∧ w.cell? ⟨b, o + i, none⟩ = some (.int .i64 xs[i])
theorem Ints.touch {w w' : World} {v : Value} {xs : List Int} {S : Nat → Prop} (h : Ints w v xs) (t : Touch w w' S) (hs : ∀ k, k < w.heap.size → v.ownBlock = some k → ¬ S k) : Ints w' v xs := by
  obtain ⟨ao, c, rfl, h1, h2, h3⟩ := h
  refine ⟨ao, c, rfl, h1, h2, fun i hi => ?_⟩
  obtain ⟨b, o, rfl, hc⟩ := h3 i hi
  have hb := World.block_lt_of_cell? w _ hc
  exact ⟨b, o, rfl, (World.cell?_of_block (w := w) (t.block b hb (hs b hb (by simp [Value.ownBlock])))).trans hc⟩
theorem Ints.below {w w' : World} {v : Value} {xs : List Int} (h : Ints w v xs) (t : Below w.heap.size w w') : Ints w' v xs :=
  h.touch (Touch.of_below t (fun _ => False)) (fun _ _ _ c => c)

/-- What a source of an append holds. -/
def Src (w : World) (size : Nat) (x : Value) (m : Nat) (news : List Value) : Prop :=
  (∃ c, x = .slice none 0 c ∧ m = 0 ∧ news = []) ∨ ∃ ad c, x = .slice (some ad) m c ∧ news.length = m * size ∧ ∀ j u, news[j]? = some u → w.cell? (ad.add j) = some u
theorem add_at (b o j : Nat) : (⟨b, o, none⟩ : Addr).add j = ⟨b, o + j, none⟩ := by unfold Addr.add; split <;> simp_all
theorem Ints.src {w : World} {v : Value} {xs : List Int} (h : Ints w v xs) : Src w 1 v xs.length (xs.map (Value.int .i64)) := by
  obtain ⟨ao, c, rfl, h1, h2, h3⟩ := h
  cases ao with
  | none =>
    have : xs = [] := by
      cases xs with
      | nil => rfl
      | cons a l => obtain ⟨b, o, h, _⟩ := h3 0 (by simp); cases h
    subst this
    exact .inl ⟨c, rfl, rfl, rfl⟩
  | some ad =>
    refine .inr ⟨ad, c, rfl, by simp, fun j u hu => ?_⟩
    have hj : j < xs.length := by simpa using (List.getElem?_eq_some_iff.1 hu).1
    obtain ⟨b, o, he, hc⟩ := h3 j hj
    cases he
    rw [add_at, hc]
    simp [hj] at hu
    rw [hu]

theorem run_append_src {P : Program} (w : World) (base : Nat) (t ty e : TypeId) (i : TypeInfo) (z : Value) (size bytes : Nat) (ht : P.underlying t = some (.slice e)) (hi : P.info? e = some i) (hz : i.zero = some z)
    (hsize : i.size = size) (hby : i.bytes = bytes) (hzs : z.cells.size = size) (hsz : 0 < size)
    (v : Value) (n : Nat) (xs : List Value) (hown : w.ownsRow base e size v n xs) (x : Value) (m : Nat) (news : List Value) (hx : Src w size x m news) (h1 : ∀ u ∈ news, u.oneCell' = true)
    (h63 : n + m ≤ maxLen) (hbytes : (n + m) * bytes ≤ 140737488355328) (hbase : base ≤ w.heap.size) :
    ∃ v' w', (Builtin.append_ #[t, t] ty #[v, x]).run P w = .ok v' w' ∧ w'.ownsRow base e size v' (n + m) (xs ++ news) ∧ w.grownBy w' v.ownBlock ∧ (v' = .slice none 0 0 ↔ v = .slice none 0 0 ∧ m = 0) ∧
      (v'.ownBlock = v.ownBlock ∨ v'.ownBlock = some w.heap.size) := by
  rcases hx with ⟨c, rfl, rfl, rfl⟩ | ⟨ad, c, rfl, hl, hnews⟩
  · refine ⟨v, w, ?_, by simpa using hown, ⟨rfl, rfl, rfl, Nat.le_refl _, fun _ _ _ => rfl⟩, by simp, .inl rfl⟩
    rcases hown.2 with ⟨rfl, _⟩ | ⟨g, cap, cur, rfl, _, hg, hnc, _⟩
    · simp [Builtin.append_, run_underlying ht, sizeOf, typeInfo, hi, Builtin.lenOf, Builtin.firstCells, loadCells, loadCellsFrom]
    · simp [Builtin.append_, run_underlying ht, sizeOf, typeInfo, hi, Builtin.lenOf, Builtin.firstCells, loadCells, loadCellsFrom, hnc, storeCells]
  · obtain ⟨v', w', h⟩ := run_append_own_at (P := P) w base t ty e i z size bytes ht hi hz hsize hby hzs hsz v n xs hown ad m c news hl hnews h1 h63 hbytes hbase
    exact ⟨v', w', h.1, h.2.1, h.2.2.1, h.2.2.2.1, h.2.2.2.2⟩

/-- 'append(v, x...)' onto a row of the call's own, x from anywhere. -/
theorem wpList_append_src {P : Program} {w : World} {ops : Array Oper} {rest : List Oper} {o : Oper} {a : Act} {Q : Exit → Act → World → Prop} (hgd : o.guard = none) (s x : Operand) (t : TypeId)
    (ho : o.op = .call { callee := .builtin .append, args := #[s, x], argTypes := #[t, t] })
    (base : Nat) (e : TypeId) (i : TypeInfo) (z : Value) (size bytes : Nat) (ht : P.underlying t = some (.slice e)) (hi : P.info? e = some i) (hz : i.zero = some z)
    (hsize : i.size = size) (hby : i.bytes = bytes) (hzs : z.cells.size = size) (hsz : 0 < size)
    (v : Value) (n : Nat) (xs : List Value) (hs : a.eval s = v) (hown : w.ownsRow base e size v n xs)
    (xv : Value) (m : Nat) (news : List Value) (hx : a.eval x = xv) (hsrc : Src w size xv m news) (h1 : ∀ u ∈ news, u.oneCell' = true)
    (h63 : n + m ≤ maxLen) (hbytes : (n + m) * bytes ≤ 140737488355328) (hbase : base ≤ w.heap.size)
    (h : ∀ v' w', w'.ownsRow base e size v' (n + m) (xs ++ news) → w.grownBy w' v.ownBlock → (v' = .slice none 0 0 ↔ v = .slice none 0 0 ∧ m = 0) → (v'.ownBlock = v.ownBlock ∨ v'.ownBlock = some w.heap.size) →
      wpList P ops Q rest (a.put o.dst v') w') : wpList P ops Q (o :: rest) a w := by
  refine wpList_plain hgd fun K hK => ?_
  obtain ⟨v', w', hr, h2, h3, h4, h5⟩ := run_append_src (P := P) w base t o.type e i z size bytes ht hi hz hsize hby hzs hsz v n xs hown xv m news hsrc h1 h63 hbytes hbase
  unfold Oper.wp execOp
  simp only [ho, resolve, invoke, builtin, Sem.run_bind, Sem.run_pure, Result.andThen_ok, List.map_toArray, List.map_cons, List.map_nil, hs, hx, hr]
  exact hK _ _ (h v' w' h2 h3 h4 h5)

/-! arenas -/
def cellsOf (L : List Nd) : List Value := L.flatMap fun n => [.int .i64 n.v, .int .i64 n.l, .int .i64 n.h]
theorem cellsOf_length (L : List Nd) : (cellsOf L).length = L.length * 3 := by
  induction L with
  | nil => rfl
  | cons a l ih =>
    have e : cellsOf (a :: l) = [.int .i64 a.v, .int .i64 a.l, .int .i64 a.h] ++ cellsOf l := by simp [cellsOf]
    rw [e, List.length_append, ih]
    simp only [List.length_cons, List.length_nil]
    omega
theorem cellsOf_append (L : List Nd) (n : Nd) : cellsOf (L ++ [n]) = cellsOf L ++ [.int .i64 n.v, .int .i64 n.l, .int .i64 n.h] := by simp [cellsOf]
theorem cellsOf_get (L : List Nd) (k : Nat) (h : k < L.length) :
    (cellsOf L)[k * 3]? = some (.int .i64 L[k].v) ∧ (cellsOf L)[k * 3 + 1]? = some (.int .i64 L[k].l) ∧ (cellsOf L)[k * 3 + 2]? = some (.int .i64 L[k].h) := by
  induction L generalizing k with
  | nil => simp at h
  | cons a l ih =>
    cases k with
    | zero => simp [cellsOf]
    | succ k =>
      have := ih k (by simpa using h)
      have e : cellsOf (a :: l) = [.int .i64 a.v, .int .i64 a.l, .int .i64 a.h] ++ cellsOf l := by simp [cellsOf]
      rw [e, show (k + 1) * 3 = k * 3 + 3 from by omega]
      simpa [List.getElem?_append] using this


/-! the place where a node is looked for first -/
def hraw (v l h : Int) : Int := bits .xor .u64 (bits .xor .u64 (IntKind.u64.wrap ((v + 1) * 11400714819323198485)) (IntKind.u64.wrap (IntKind.u64.wrap l * 1425089352415399811))) (IntKind.u64.wrap (IntKind.u64.wrap h * 89068084525962489))
def hmix (v l h : Int) : Int := bits .xor .u64 (hraw v l h) (hraw v l h / 536870912)
def hsh (n : Nd) (k : Nat) : Nat := (hmix n.v n.l n.h).toNat % k
theorem bits_xor_nonneg (a b : Int) : 0 ≤ bits .xor .u64 a b := by
  show 0 ≤ IntKind.u64.wrap _
  rw [IntKind.wrap_u64]
  exact Int.emod_nonneg _ (by decide)
theorem hmix_place (n : Nd) (k : Nat) (h0 : 0 < k) (h1 : k ≤ 1000000000000) : wrap64 ((hmix n.v n.l n.h).tmod (k : Int)) = (hsh n k : Nat) := by
  have h := bits_xor_nonneg (hraw n.v n.l n.h) (hraw n.v n.l n.h / 536870912)
  have h' : 0 ≤ hmix n.v n.l n.h := h
  unfold hsh
  rw [Int.tmod_eq_emod_of_nonneg h']
  have := Int.emod_lt_of_pos (hmix n.v n.l n.h) (show (0 : Int) < k by omega)
  have := Int.emod_nonneg (hmix n.v n.l n.h) (show (k : Int) ≠ 0 by omega)
  unfold wrap64
  rw [Int.natCast_emod, Int.toNat_of_nonneg h']
  omega
theorem hsh_lt (n : Nd) (k : Nat) (h : 0 < k) : hsh n k < k := Nat.mod_lt _ h
theorem u64_nat (k : Nat) (h : k ≤ 1000000000000) : IntKind.u64.wrap (k : Int) = k := (IntKind.wrap_u64 _).trans (Int.emod_eq_of_lt (by omega) (by omega))

end Go.Proofs.Ytiagkbmhfgdffaa

set_option linter.unusedVariables false
set_option linter.unusedSimpArgs false
namespace Go.Proofs.Ytiagkbmhfgdffaa
open Go.RowKit

/-- An arena in memory: its box b, the row of nodes, the table of places. -/
structure ArenaAt (w : World) (b : Nat) (lim : Int) (L : List Nd) (vl : Value) (bp : Nat) (PL : List Nat) : Prop where
  box : w.heap[b]? = some (.cells #[.int .i64 lim, vl, .slice (some ⟨bp, 0, none⟩) PL.length PL.length] 84 (0, 0))
  row : w.ownsRow 0 70 3 vl L.length (cellsOf L)
  plc : w.heap[bp]? = some (.cells (PL.map (fun (n : Nat) => Value.int .i64 (n : Int))).toArray 3 (0, 0))
  tab : Ar.Tab hsh PL L L.length
  half : 2 * L.length < PL.length
  small : PL.length ≤ 16 + 4 * L.length
  few : L.length ≤ 100000000000
  big : 16 ≤ PL.length
  ap1 : vl.ownBlock ≠ some b
  ap2 : vl.ownBlock ≠ some bp
  ap3 : b ≠ bp
  ok : Ar.Ok L

def foot (b : Nat) (vl : Value) (bp : Nat) (k : Nat) : Prop := k = b ∨ vl.ownBlock = some k ∨ k = bp

/-- An arena, all of whose blocks are of S. -/
def Arena (w : World) (b : Nat) (lim : Int) (L : List Nd) (S : Nat → Prop) : Prop :=
  ∃ vl bp PL, ArenaAt w b lim L vl bp PL ∧ ∀ k, foot b vl bp k → S k

theorem ArenaAt.touch {w w' : World} {S : Nat → Prop} {b : Nat} {lim : Int} {L : List Nd} {vl : Value} {bp : Nat} {PL : List Nat} (A : ArenaAt w b lim L vl bp PL) (t : Touch w w' S)
    (hs : ∀ k, foot b vl bp k → ¬ S k) : ArenaAt w' b lim L vl bp PL :=
  { A with box := t.heap A.box (hs _ (.inl rfl)), row := ownsRow_touch A.row t (fun k h => hs _ (.inr (.inl h))), plc := t.heap A.plc (hs _ (.inr (.inr rfl))) }
theorem Arena.touch {w w' : World} {S S' : Nat → Prop} {b : Nat} {lim : Int} {L : List Nd} (A : Arena w b lim L S) (t : Touch w w' S') (hs : ∀ k, k < w.heap.size → S k → ¬ S' k) : Arena w' b lim L S := by
  obtain ⟨vl, bp, PL, A, hf⟩ := A
  refine ⟨vl, bp, PL, A.touch t (fun k hk => ?_), hf⟩
  rcases hk with rfl | hk | rfl
  · exact hs _ (lt_of_heap A.box) (hf _ (.inl rfl))
  · exact hs _ (A.row.lt k hk).2 (hf _ (.inr (.inl hk)))
  · exact hs _ (lt_of_heap A.plc) (hf _ (.inr (.inr rfl)))
theorem Arena.mono {w : World} {S S' : Nat → Prop} {b : Nat} {lim : Int} {L : List Nd} (A : Arena w b lim L S) (h : ∀ k, S k → S' k) : Arena w b lim L S' := by
  obtain ⟨vl, bp, PL, A, hf⟩ := A
  exact ⟨vl, bp, PL, A, fun k hk => h _ (hf k hk)⟩
theorem Arena.lt {w : World} {S : Nat → Prop} {b : Nat} {lim : Int} {L : List Nd} (A : Arena w b lim L S) : b < w.heap.size := by
  obtain ⟨vl, bp, PL, A, hf⟩ := A; exact lt_of_heap A.box
theorem Arena.ok {w : World} {S : Nat → Prop} {b : Nat} {lim : Int} {L : List Nd} (A : Arena w b lim L S) : Ar.Ok L := by
  obtain ⟨vl, bp, PL, A, hf⟩ := A; exact A.ok

section
variable {w : World} {b : Nat} {lim : Int} {L : List Nd} {vl : Value} {bp : Nat} {PL : List Nat}
theorem ArenaAt.lt (A : ArenaAt w b lim L vl bp PL) : b < w.heap.size := lt_of_heap A.box
theorem ArenaAt.c0 (A : ArenaAt w b lim L vl bp PL) : w.cell? ⟨b, 0, none⟩ = some (.int .i64 lim) := cell_at A.box 0 rfl
theorem ArenaAt.c1 (A : ArenaAt w b lim L vl bp PL) : w.cell? ⟨b, 1, none⟩ = some vl := cell_at A.box 1 rfl
theorem ArenaAt.c2 (A : ArenaAt w b lim L vl bp PL) : w.cell? ⟨b, 2, none⟩ = some (.slice (some ⟨bp, 0, none⟩) PL.length PL.length) := cell_at A.box 2 rfl
theorem ArenaAt.shape (A : ArenaAt w b lim L vl bp PL) : (∃ ao cap, vl = .slice ao L.length cap) ∧ L.length ≤ 9223372036854775807 := by
  rcases A.row.2 with ⟨rfl, h⟩ | ⟨g, cap, cur, rfl, _, _, h1, h2, _⟩
  · exact ⟨⟨none, 0, by rw [h]⟩, by omega⟩
  · unfold maxLen at h2; exact ⟨⟨_, _, rfl⟩, by omega⟩
theorem row_node {w : World} {T : TypeId} {L : List Nd} {vl : Value} (hr : w.ownsRow 0 T 3 vl L.length (cellsOf L)) (k : Nat) (hk : k < L.length) :
    ∃ bl cap, vl = .slice (some ⟨bl, 0, none⟩) L.length cap ∧ bl < w.heap.size ∧ L.length ≤ 9223372036854775807 ∧
      w.cell? ⟨bl, k * 3, none⟩ = some (.int .i64 L[k].v) ∧ w.cell? ⟨bl, k * 3 + 1, none⟩ = some (.int .i64 L[k].l) ∧ w.cell? ⟨bl, k * 3 + 2, none⟩ = some (.int .i64 L[k].h) := by
  obtain ⟨h0, h1, h2⟩ := cellsOf_get L k hk
  have hr' := hr
  rcases hr.2 with ⟨rfl, h⟩ | ⟨g, cap, cur, rfl, _, hg, hc1, hc2, _⟩
  · omega
  · have hc := hr'.cells (g := g) rfl
    have e : ∀ j, (⟨g, 0, none⟩ : Addr).add j = ⟨g, j, none⟩ := fun j => by unfold Addr.add; split <;> simp_all
    unfold maxLen at hc2
    exact ⟨g, cap, rfl, lt_of_heap hg, by omega, by rw [← e]; exact hc _ _ h0, by rw [← e]; exact hc _ _ h1, by rw [← e]; exact hc _ _ h2⟩
theorem ArenaAt.node (A : ArenaAt w b lim L vl bp PL) (k : Nat) (hk : k < L.length) :
    ∃ bl cap, vl = .slice (some ⟨bl, 0, none⟩) L.length cap ∧ bl < w.heap.size ∧ L.length ≤ 9223372036854775807 ∧
      w.cell? ⟨bl, k * 3, none⟩ = some (.int .i64 L[k].v) ∧ w.cell? ⟨bl, k * 3 + 1, none⟩ = some (.int .i64 L[k].l) ∧ w.cell? ⟨bl, k * 3 + 2, none⟩ = some (.int .i64 L[k].h) := by
  exact row_node A.row k hk
end

section
variable {w : World} {b : Nat} {lim : Int} {L : List Nd} {S : Nat → Prop}

set_option maxHeartbeats 400000 in
theorem get_in (A : Arena w b lim L S) (k : Nat) (hk : k < L.length) :
    Calls Try.prog 38 #[.pointer (some ⟨b, 0, none⟩), .int .i64 k] w fun e w' =>
      e = .returned (.tuple #[.agg #[.int .i64 L[k].v, .int .i64 L[k].l, .int .i64 L[k].h], .bool true]) ∧ Below w.heap.size w w' := by
  obtain ⟨vl, bp, PL, A, hf⟩ := A
  have hb := A.lt
  have h1 := A.c1
  obtain ⟨bl, cap, rfl, hbl, hn, e0, e1, e2⟩ := A.node k hk
  clear A hf
  go_enter Try.func38, Try.ntmps38
  go_wp2
  exact bodyPost_ret (v := .tuple #[.agg #[.int .i64 L[k].v, .int .i64 L[k].l, .int .i64 L[k].h], .bool true]) (by simp [results, Try.results38, go_sem]) rfl ⟨rfl, (Below.refl _ _).alloc (Nat.le_refl _) _⟩

set_option maxHeartbeats 400000 in
theorem get_out (A : Arena w b lim L S) (r : Int) (hr : ¬ Ar.isN L r) :
    Calls Try.prog 38 #[.pointer (some ⟨b, 0, none⟩), .int .i64 r] w fun e w' =>
      e = .returned (.tuple #[.agg #[.int .i64 0, .int .i64 0, .int .i64 0], .bool false]) ∧ Below w.heap.size w w' := by
  obtain ⟨vl, bp, PL, A, hf⟩ := A
  have hb := A.lt
  have h1 := A.c1
  obtain ⟨⟨ao, cap, rfl⟩, hn⟩ := A.shape
  clear A hf
  unfold Ar.isN at hr
  by_cases h0 : r < 0
  · clear hr
    go_enter Try.func38, Try.ntmps38
    go_wp2
    exact bodyPost_ret (v := .tuple #[.agg #[.int .i64 0, .int .i64 0, .int .i64 0], .bool false]) (by simp [results, Try.results38, go_sem]) rfl ⟨rfl, (Below.refl _ _).alloc (Nat.le_refl _) _⟩
  · have h2 : (L.length : Int) ≤ r := by omega
    clear hr
    go_enter Try.func38, Try.ntmps38
    go_wp2
    exact bodyPost_ret (v := .tuple #[.agg #[.int .i64 0, .int .i64 0, .int .i64 0], .bool false]) (by simp [results, Try.results38, go_sem]) rfl ⟨rfl, (Below.refl _ _).alloc (Nat.le_refl _) _⟩

theorem term_most (w : World) : Calls Try.prog 64 #[.int .i64 1099511627776] w fun e w' => e = .returned (.int .i64 (-1099511627777)) ∧ w = w' := by
  go_enter Try.func64, Try.ntmps64
  go_wp2
  go_ret
  exact ⟨rfl, rfl⟩

set_option maxHeartbeats 400000 in
theorem has_any (A : Arena w b lim L S) (r : Int) :
    Calls Try.prog 48 #[.pointer (some ⟨b, 0, none⟩), .int .i64 r] w fun e w' => e = .returned (.bool (decide (Ar.has L r))) ∧ w = w' := by
  obtain ⟨vl, bp, PL, A, hf⟩ := A
  have h1 := A.c1
  obtain ⟨⟨ao, cap, rfl⟩, hn⟩ := A.shape
  clear A hf
  by_cases h0 : r < -1099511627777
  · go_enter Try.func48, Try.ntmps48
    go_wp2_with (go_at_call 64; refine (term_most _).mono ?_; rintro e w' ⟨rfl, rfl⟩)
    go_ret
    exact ⟨ret_eq (show Value.bool false = _ by congr 1; exact (decide_eq_false (by unfold Ar.has Ar.low; omega)).symm), rfl⟩
  · have h0' : -1099511627777 ≤ r := by omega
    clear h0
    go_enter Try.func48, Try.ntmps48
    go_wp2_with (go_at_call 64; refine (term_most _).mono ?_; rintro e w' ⟨rfl, rfl⟩)
    go_ret
    exact ⟨ret_eq (show Value.bool (decide (r < (L.length : Int))) = _ by congr 1; simp [Ar.has, Ar.low, h0']), rfl⟩

theorem Ar.nd_at {L : List Nd} {k : Nat} (h : k < L.length) : Ar.nd L k = L[k] := by simp [Ar.nd, List.getD, h]

set_option maxHeartbeats 400000 in
theorem var_any (A : Arena w b lim L S) (r : Int) :
    Calls Try.prog 58 #[.pointer (some ⟨b, 0, none⟩), .int .i64 r] w fun e w' => e = .returned (.int .i64 (Ar.var L r)) ∧ Below w.heap.size w w' := by
  by_cases h : Ar.isN L r
  · have hv : Ar.var L r = (Ar.nd L r).v := by simp [Ar.var, h]
    rw [hv]
    obtain ⟨k, rfl⟩ : ∃ k : Nat, r = k := ⟨r.toNat, by unfold Ar.isN at h; omega⟩
    have hk : k < L.length := by unfold Ar.isN at h; omega
    rw [Ar.nd_at hk]
    clear h hv
    go_enter Try.func58, Try.ntmps58
    go_wp2_with (go_at_call 38; refine (get_in A k hk).mono ?_; rintro e w' ⟨rfl, hb⟩)
    go_ret
    exact ⟨rfl, (hb.alloc hb.size _)⟩
  · have hv : Ar.var L r = 12 := by simp [Ar.var, h]
    rw [hv]
    clear hv
    go_enter Try.func58, Try.ntmps58
    go_wp2_with (go_at_call 38; refine (get_out A r h).mono ?_; rintro e w' ⟨rfl, hb⟩)
    go_ret
    exact ⟨rfl, (hb.alloc hb.size _)⟩

set_option maxHeartbeats 400000 in
theorem len_any (A : Arena w b lim L S) :
    Calls Try.prog 29 #[.pointer (some ⟨b, 0, none⟩)] w fun e w' => e = .returned (.int .i64 L.length) ∧ w = w' := by
  obtain ⟨vl, bp, PL, A, hf⟩ := A
  have h1 := A.c1
  obtain ⟨⟨ao, cap, rfl⟩, hn⟩ := A.shape
  clear A hf
  go_enter Try.func29, Try.ntmps29
  go_wp2
  go_ret
  exact ⟨rfl, rfl⟩
end

end Go.Proofs.Ytiagkbmhfgdffaa

set_option linter.unusedVariables false
set_option linter.unusedSimpArgs false
namespace Go.Proofs.Ytiagkbmhfgdffaa
open Go.RowKit
variable {w : World} {b : Nat} {lim : Int} {L : List Nd} {S : Nat → Prop}

def ndEq (x0 x1 x2 y0 y1 y2 : Int) : Bool := x0 == y0 && (x1 == y1 && x2 == y2)
theorem ndEq_iff (a b : Nd) : ndEq a.v a.l a.h b.v b.l b.h = true ↔ a = b := by
  cases a; cases b
  simp [ndEq]
theorem eq_nd (w : World) (x0 x1 x2 y0 y1 y2 : Int) :
    (Op.equalIn 10000 70 (.agg #[.int .i64 x0, .int .i64 x1, .int .i64 x2]) (.agg #[.int .i64 y0, .int .i64 y1, .int .i64 y2])).run Try.prog w = .ok (ndEq x0 x1 x2 y0 y1 y2) w := by
  rw [run_equalIn_struct w 9999 70 _ _ (by kernel_rfl) (by kernel_rfl)]
  simp only [Program.fieldsOf, Try.underlying70, ndEq]
  go_simp
  by_cases h0 : x0 = y0 <;> by_cases h1 : x1 = y1 <;> by_cases h2 : x2 = y2 <;> simp [h0, h1, h2]
attribute [local go_sem high] eq_nd

set_option maxHeartbeats 1000000 in
theorem place_at {vl : Value} {bp m : Nat} {PL : List Nat} (hbox : w.heap[b]? = some (.cells #[.int .i64 lim, vl, .slice (some ⟨bp, 0, none⟩) PL.length PL.length] 84 (0, 0)))
    (hrow : w.ownsRow 0 70 3 vl L.length (cellsOf L)) (hplc : w.heap[bp]? = some (.cells (PL.map (fun (n : Nat) => Value.int .i64 (n : Int))).toArray 3 (0, 0)))
    (htab : Ar.Tab hsh PL L m) (hmax : PL.length ≤ 1000000000000) (n : Nd) (hv : 0 ≤ n.v) (hv2 : n.v < 12) (r : Nat) (hr : Ar.probe PL L n PL.length (hsh n PL.length) = some r) :
    Calls Try.prog 66 #[.pointer (some ⟨b, 0, none⟩), .agg #[.int .i64 n.v, .int .i64 n.l, .int .i64 n.h]] w fun e w' => e = .returned (.int .i64 r) ∧ Below w.heap.size w w' := by
  have hb := lt_of_heap hbox
  have h2 : w.cell? ⟨b, 2, none⟩ = some (.slice (some ⟨bp, 0, none⟩) PL.length PL.length) := cell_at hbox 2 rfl
  have hbp := lt_of_heap hplc
  have hpos : 0 < PL.length := htab.pos
  have hw := u64_nat PL.length hmax
  have hne : ((PL.length : Int) == 0) = false := by rw [beq_eq_false_iff_ne]; omega
  have HR := Lib.hid hr
  have HX := Lib.hid hbox
  have HO := Lib.hid hrow
  have HC := Lib.hid hplc
  clear hr hbox hrow hplc
  have hsl : hsh n PL.length < PL.length := hsh_lt n _ hpos
  have HS := Lib.hid (hmix_place n PL.length hpos hmax)
  go_enter Try.func66, Try.ntmps66
  go_wp2
  go_step3
  go_wp2
  go_step3
  go_wp2
  go_loopg [6, 7] PL.length (fun g p q wr => ∃ s : Nat, p = .int .i64 s ∧ s < PL.length ∧ Hid (Ar.probe PL L n g s = some r) ∧ Below w.heap.size w wr ∧ Hid (wr.heap[w.heap.size]? = some (.cells #[.int .i64 n.v, .int .i64 n.l, .int .i64 n.h] 70 (0, 0))))
  case atStart => exact ⟨_, congrArg _ HS.out, hsl, HR, (Below.refl _ _).alloc (Nat.le_refl _) _, heap_alloc_new _ _⟩
  case round =>
    obtain ⟨s, rfl, hs, HP, hT, hx⟩ := hrel
    have k2 := (hT.cell (p := ⟨b, 2, none⟩) hb).trans h2
    have k3 := cell_at ((hT.block bp hbp).trans HC.out) s (v := .int .i64 (PL[s] : Nat)) (by simp [hs])
    have x0 := cell_at hx.out 0 (v := .int .i64 n.v) rfl
    have x1 := cell_at hx.out 1 (v := .int .i64 n.l) rfl
    have x2 := cell_at hx.out 2 (v := .int .i64 n.h) rfl
    clear h2
    obtain ⟨gk, rfl⟩ : ∃ m, gk = m + 1 := by
      cases gk with
      | zero => exact absurd HP.out (by simp [Ar.probe])
      | succ m => exact ⟨m, rfl⟩
    by_cases h0 : PL[s] = 0
    · rw [h0] at k3
      have hsr : s = r := by have := HP.out; unfold Ar.probe at this; rw [Ar.getD_at hs, if_pos h0] at this; exact Option.some.inj this
      subst hsr
      clear h0 x0 x1 x2 hx
      go_wp2
      go_quiet (fail)
      go_wp2
      rw [Exit.noGoto_ret]
      go_ret
      exact ⟨rfl, hT.trans ⟨rfl, rfl, rfl, Nat.le_refl _, fun _ _ => rfl⟩⟩
    · obtain ⟨q, hq⟩ : ∃ q, PL[s] = q + 1 := ⟨PL[s] - 1, by omega⟩
      rw [hq, show ((q + 1 : Nat) : Int) = (q : Int) + 1 from by omega] at k3
      have hql : q < L.length := by have := htab.ent s hs; have := htab.le; omega
      obtain ⟨bl, cap, rfl, hbl, hn, e0, e1, e2⟩ := row_node HO.out q hql
      have k1 := (hT.cell (p := ⟨b, 1, none⟩) hb).trans (cell_at HX.out 1 (v := .slice (some ⟨bl, 0, none⟩) L.length cap) rfl)
      replace e0 := (hT.cell (p := ⟨bl, q * 3, none⟩) hbl).trans e0
      replace e1 := (hT.cell (p := ⟨bl, q * 3 + 1, none⟩) hbl).trans e1
      replace e2 := (hT.cell (p := ⟨bl, q * 3 + 2, none⟩) hbl).trans e2
      have hz : ((q : Int) + 1 == 0) = false := by rw [beq_eq_false_iff_ne]; omega
      have hz1 : IntKind.i64.wrap ((q : Int) + 1 - 1) = q := by rw [IntWalk.i64_in _ (by omega)]; omega
      have HQ := Lib.hid hq
      clear h0 hq HO HC HX htab
      go_wp2
      have hP : (if L[q] = n then some s else Ar.probe PL L n gk ((s + 1) % PL.length)) = some r := by
        have := HP.out
        unfold Ar.probe at this
        rw [Ar.getD_at hs, HQ.out, if_neg (by omega), Nat.add_sub_cancel, Ar.getD_idx hql] at this
        exact this
      by_cases hE : ndEq L[q].v L[q].l L[q].h n.v n.l n.h = true
      · rw [if_pos ((ndEq_iff _ _).1 hE)] at hP
        obtain rfl : s = r := Option.some.inj hP
        clear hP
        go_quiet (fail)
        go_wp2
        rw [Exit.noGoto_ret]
        go_ret
        exact ⟨rfl, hT.trans ⟨rfl, rfl, rfl, Nat.le_refl _, fun _ _ => rfl⟩⟩
      · rw [if_neg (fun e => hE ((ndEq_iff _ _).2 e))] at hP
        replace hE : ndEq L[q].v L[q].l L[q].h n.v n.l n.h = false := by simpa using hE
        have HP' := Lib.hid hP
        clear hP
        go_quiet (fail)
        go_wp2
        go_roundg gk
        case measure => omega
        case rel => exact ⟨(s + 1) % PL.length, by first | rfl | go_num, Nat.mod_lt _ hpos, HP', hT.trans ⟨rfl, rfl, rfl, Nat.le_refl _, fun _ _ => rfl⟩, hx⟩

theorem Arena.below {w' : World} (A : Arena w b lim L S) (h : Below w.heap.size w w') : Arena w' b lim L S :=
  A.touch (Touch.of_below h (fun _ => False)) (fun _ _ _ c => c)

/-- A fault in memory. -/
def FaultAt (w : World) (fb : Nat) (v n : Int) : Prop := w.heap[fb]? = some (.cells #[.string ⟨#[109, 107]⟩, .int .i64 v, .iface 51 (.int .i64 n)] 116 (0, 0))
def Faulty (w : World) (v n : Int) (e : Ending) (w' : World) : Prop :=
  ∃ fb, e = .returned (.iface 114 (.pointer (some ⟨fb, 0, none⟩))) ∧ w.heap.size ≤ fb ∧ FaultAt w' fb v n ∧ Below w.heap.size w w'

theorem has_b (A : Arena w b lim L S) (r : Int) (d : Bool) (hd : decide (Ar.has L r) = d) :
    Calls Try.prog 48 #[.pointer (some ⟨b, 0, none⟩), .int .i64 r] w fun e w' => e = .returned (.bool d) ∧ w = w' := by
  rw [← hd]; exact has_any A r

theorem Faulty.mk {w w0 w' : World} {v n : Int} (h : Below w.heap.size w w0) (hw : w' = w0.alloc (.cells #[.string ⟨#[109, 107]⟩, .int .i64 v, .iface 51 (.int .i64 n)] 116)) :
    Faulty w v n (.returned (.iface 114 (.pointer (some ⟨w0.heap.size, 0, none⟩)))) w' := by
  subst hw
  exact ⟨_, rfl, h.size, heap_alloc_new _ _, h.alloc h.size _⟩

set_option maxHeartbeats 1000000 in
theorem wrong_var (v lo hi : Int) (hv : v < 0 ∨ 12 ≤ v) :
    Calls Try.prog 65 #[.pointer (some ⟨b, 0, none⟩), .int .i64 v, .int .i64 lo, .int .i64 hi] w (Faulty w v 52) := by
  by_cases h0 : v < 0
  · clear hv
    go_enter Try.func65, Try.ntmps65
    go_wp2_with fail
    go_ret
    exact Faulty.mk (Below.refl _ _) rfl
  · have h1 : 12 ≤ v := by omega
    clear hv
    go_enter Try.func65, Try.ntmps65
    go_wp2_with fail
    go_ret
    exact Faulty.mk (Below.refl _ _) rfl

set_option maxHeartbeats 2000000 in
theorem wrong_order (A : Arena w b lim L S) (v lo hi : Int) (hv0 : 0 ≤ v) (hv1 : v < 12) (ho : ¬ Ar.ordered L v lo hi) :
    Calls Try.prog 65 #[.pointer (some ⟨b, 0, none⟩), .int .i64 v, .int .i64 lo, .int .i64 hi] w (Faulty w v 51) := by
  unfold Ar.ordered at ho
  by_cases h1 : Ar.has L lo
  · by_cases h2 : Ar.has L hi
    · by_cases h3 : v < Ar.var L lo
      · have h4 : Ar.var L hi ≤ v := by
          apply Classical.byContradiction
          intro h
          exact ho ⟨h1, h2, h3, by omega⟩
        clear ho
        go_enter Try.func65, Try.ntmps65
        go_wp2_with fail
        refine (has_b A _ true (decide_eq_true h1)).mono ?_
        rintro e w' ⟨rfl, rfl⟩
        go_wp2_with fail
        refine (has_b A _ true (decide_eq_true h2)).mono ?_
        rintro e w' ⟨rfl, rfl⟩
        go_wp2_with fail
        refine (var_any A _).mono ?_
        rintro e w1 ⟨rfl, hb1⟩
        have A1 := A.below hb1
        go_wp2_with fail
        refine (var_any A1 _).mono ?_
        rintro e w2 ⟨rfl, hb2⟩
        have hb3 := hb1.trans (hb2.mono hb1.size)
        go_wp2_with fail
        go_ret
        exact Faulty.mk hb3 rfl
      · have h4 : Ar.var L lo ≤ v := by omega
        clear ho h3
        go_enter Try.func65, Try.ntmps65
        go_wp2_with fail
        refine (has_b A _ true (decide_eq_true h1)).mono ?_
        rintro e w' ⟨rfl, rfl⟩
        go_wp2_with fail
        refine (has_b A _ true (decide_eq_true h2)).mono ?_
        rintro e w' ⟨rfl, rfl⟩
        go_wp2_with fail
        refine (var_any A _).mono ?_
        rintro e w1 ⟨rfl, hb1⟩
        go_wp2_with fail
        go_ret
        exact Faulty.mk hb1 rfl
    · clear ho
      go_enter Try.func65, Try.ntmps65
      go_wp2_with fail
      refine (has_b A _ true (decide_eq_true h1)).mono ?_
      rintro e w' ⟨rfl, rfl⟩
      go_wp2_with fail
      refine (has_b A _ false (decide_eq_false h2)).mono ?_
      rintro e w' ⟨rfl, rfl⟩
      go_wp2_with fail
      go_ret
      exact Faulty.mk (Below.refl _ _) rfl
  · clear ho
    go_enter Try.func65, Try.ntmps65
    go_wp2_with fail
    refine (has_b A _ false (decide_eq_false h1)).mono ?_
    rintro e w' ⟨rfl, rfl⟩
    go_wp2_with fail
    go_ret
    exact Faulty.mk (Below.refl _ _) rfl

set_option maxHeartbeats 1000000 in
theorem wrong_none (A : Arena w b lim L S) (v lo hi : Int) (hv0 : 0 ≤ v) (hv1 : v < 12) (ho : Ar.ordered L v lo hi) :
    Calls Try.prog 65 #[.pointer (some ⟨b, 0, none⟩), .int .i64 v, .int .i64 lo, .int .i64 hi] w fun e w' => e = .returned .nilIface ∧ Below w.heap.size w w' := by
  obtain ⟨h1, h2, h3, h4⟩ := ho
  go_enter Try.func65, Try.ntmps65
  go_wp2_with fail
  refine (has_b A _ true (decide_eq_true h1)).mono ?_
  rintro e w' ⟨rfl, rfl⟩
  go_wp2_with fail
  refine (has_b A _ true (decide_eq_true h2)).mono ?_
  rintro e w' ⟨rfl, rfl⟩
  go_wp2_with fail
  refine (var_any A _).mono ?_
  rintro e w1 ⟨rfl, hb1⟩
  have A1 := A.below hb1
  go_wp2_with fail
  refine (var_any A1 _).mono ?_
  rintro e w2 ⟨rfl, hb2⟩
  have hb3 := hb1.trans (hb2.mono hb1.size)
  go_wp2_with fail
  go_ret
  exact ⟨rfl, hb3⟩

end Go.Proofs.Ytiagkbmhfgdffaa

set_option linter.unusedVariables false
set_option linter.unusedSimpArgs false
namespace Go.Proofs.Ytiagkbmhfgdffaa
open Go.RowKit Go.Deep
variable {w : World} {b : Nat} {lim : Int} {L : List Nd} {S : Nat → Prop}

/-- A fresh arena. -/
def Made (w : World) (lim : Int) (e : Ending) (w' : World) : Prop :=
  ∃ b, e = .returned (.pointer (some ⟨b, 0, none⟩)) ∧ Arena w' b lim [] (fun k => w.heap.size ≤ k ∧ k < w'.heap.size) ∧ Below w.heap.size w w'

theorem arena_new (w0 : World) (n : Int) : Arena ((w0.alloc (.cells #[.int .i64 0, .int .i64 0, .int .i64 0, .int .i64 0, .int .i64 0, .int .i64 0, .int .i64 0, .int .i64 0, .int .i64 0, .int .i64 0, .int .i64 0, .int .i64 0, .int .i64 0, .int .i64 0, .int .i64 0, .int .i64 0] 3)).alloc
    (.cells #[.int .i64 n, .slice none 0 0, .slice (some ⟨w0.heap.size, 0, none⟩) 16 16] 84)) (w0.heap.size + 1) n [] (fun k => w0.heap.size ≤ k ∧ k < w0.heap.size + 2) := by
  refine ⟨.slice none 0 0, w0.heap.size, List.replicate 16 0, ⟨?_, ?_, ?_, Ar.Tab.start _ _ (by decide), by simp, by simp, by simp, by simp, by simp [Value.ownBlock], by simp [Value.ownBlock], by omega, ⟨by simp, by simp⟩⟩, ?_⟩
  · have := heap_alloc_new (w0.alloc (.cells #[.int .i64 0, .int .i64 0, .int .i64 0, .int .i64 0, .int .i64 0, .int .i64 0, .int .i64 0, .int .i64 0, .int .i64 0, .int .i64 0, .int .i64 0, .int .i64 0, .int .i64 0, .int .i64 0, .int .i64 0, .int .i64 0] 3)) (.cells #[.int .i64 n, .slice none 0 0, .slice (some ⟨w0.heap.size, 0, none⟩) 16 16] 84)
    simpa using this
  · exact World.ownsRow_nil _ _ _ _
  · have := heap_alloc_new w0 (.cells #[.int .i64 0, .int .i64 0, .int .i64 0, .int .i64 0, .int .i64 0, .int .i64 0, .int .i64 0, .int .i64 0, .int .i64 0, .int .i64 0, .int .i64 0, .int .i64 0, .int .i64 0, .int .i64 0, .int .i64 0, .int .i64 0] 3)
    exact heap_alloc_lt _ this
  · rintro k (rfl | h | rfl)
    · omega
    · simp [Value.ownBlock] at h
    · omega

set_option maxHeartbeats 1000000 in
theorem new_any (n : Int) : Calls Try.prog 30 #[.int .i64 n] w (Made w (max n 0)) := by
  have hmk : ∀ w : World, (Instr.makeSlice 26 (.int .i64 16) (.int .i64 16)).run Try.prog w = .ok (.slice (some ⟨w.heap.size, 0, none⟩) 16 16) (w.alloc (.cells #[.int .i64 0, .int .i64 0, .int .i64 0, .int .i64 0, .int .i64 0, .int .i64 0, .int .i64 0, .int .i64 0, .int .i64 0, .int .i64 0, .int .i64 0, .int .i64 0, .int .i64 0, .int .i64 0, .int .i64 0, .int .i64 0] 3)) := fun _ => by kernel_rfl
  go_enter Try.func30, Try.ntmps30
  by_cases h : n < 0
  · rw [show max n 0 = 0 from by omega]
    go_wp2
    go_ret
    exact ⟨_, rfl, by simpa using arena_new w 0, ((Below.refl _ _).alloc (Nat.le_refl _) _).alloc (by simp) _⟩
  · rw [show max n 0 = n from by omega]
    go_wp2
    go_ret
    exact ⟨_, rfl, by simpa using arena_new w n, ((Below.refl _ _).alloc (Nat.le_refl _) _).alloc (by simp) _⟩

theorem cells_ints (PL : List Nat) : (PL.map (fun (n : Nat) => Value.int .i64 (n : Int))).toArray.size = PL.length := by simp

/-- The box of an arena. -/
def BoxAt (w : World) (b : Nat) (lim : Int) (vl : Value) (bp n : Nat) : Prop := w.heap[b]? = some (.cells #[.int .i64 lim, vl, .slice (some ⟨bp, 0, none⟩) n n] 84 (0, 0))
def PlacesAt (w : World) (bp : Nat) (PL : List Nat) : Prop := w.heap[bp]? = some (.cells (PL.map (fun (n : Nat) => Value.int .i64 (n : Int))).toArray 3 (0, 0))

set_option maxHeartbeats 1000000 in
theorem grow_keep {ao : Option Addr} {cap bp n m : Nat} (hbox : BoxAt w b lim (.slice ao m cap) bp n) (hn : n ≤ 1000000000000) (h : 2 * m < n) :
    Calls Try.prog 67 #[.pointer (some ⟨b, 0, none⟩)] w fun e w' => e = .returned (.tuple #[]) ∧ Below w.heap.size w w' := by
  have h1 : w.cell? ⟨b, 1, none⟩ = some (.slice ao m cap) := cell_at hbox 1 rfl
  have h2 : w.cell? ⟨b, 2, none⟩ = some (.slice (some ⟨bp, 0, none⟩) n n) := cell_at hbox 2 rfl
  clear hbox
  have hm : IntKind.i64.wrap (2 * (m : Int)) = 2 * m := IntWalk.i64_in _ (by omega)
  have ht : decide ((2 : Int) * m < n) = true := decide_eq_true (by omega)
  go_enter Try.func67, Try.ntmps67
  go_wp2
  go_quiet (fail)
  go_wp2
  (try simp only [Exit.inBlock, Exit.then])
  refine bodyPost_ret (results_none rfl _ _ _) rfl ?_
  exact ⟨rfl, ⟨rfl, rfl, rfl, Nat.le_refl _, fun _ _ => rfl⟩⟩

/-- What stands when the first k nodes have their places in the new table. -/
def GrowI (w wr : World) (b : Nat) (lim : Int) (vl : Value) (n2 : Nat) (L : List Nd) (k : Nat) : Prop :=
  ∃ PL, BoxAt wr b lim vl w.heap.size PL.length ∧ PlacesAt wr w.heap.size PL ∧ Ar.Tab hsh PL L k ∧ PL.length = n2 ∧ Touch w wr (fun k => k = b)
theorem madeCells_zeros (n : Nat) : madeCells #[.int .i64 0] n = ((List.replicate n 0).map (fun (n : Nat) => Value.int .i64 (n : Int))).toArray := by
  apply Array.ext
  · simp [size_madeCells]
  · intro i h1 h2
    have : i % 1 = 0 := by omega
    simp [madeCells, this]
theorem GrowI.start {w : World} {b : Nat} {lim : Int} {vl : Value} {bp n : Nat} {L : List Nd} (hbox : BoxAt w b lim vl bp n) (n2 : Nat) (h : 0 < n2) (nq : Nat) :
    GrowI w (((w.drewN nq).alloc (.cells (madeCells #[.int .i64 0] n2) 3)).setCell ⟨b, 2, none⟩ (.slice (some ⟨w.heap.size, 0, none⟩) n2 n2)) b lim vl n2 L 0 := by
  have hb := lt_of_heap hbox
  refine ⟨List.replicate n2 0, ?_, ?_, Ar.Tab.start _ _ h, by simp, ?_⟩
  · have := heap_setCell_same (j := 2) (heap_alloc_lt (w := w.drewN nq) (.cells (madeCells #[.int .i64 0] n2) 3) hbox) (.slice (some ⟨w.heap.size, 0, none⟩) n2 n2)
    simpa [BoxAt] using this
  · refine heap_setCell_other (b := b) _ ?_ rfl (by omega) _
    rw [← madeCells_zeros]
    exact heap_alloc_new (w.drewN nq) _
  · exact Touch.setCell (S := fun k => k = b) (p := ⟨b, 2, none⟩) (((Touch.refl w _).drewN nq).alloc _) (.inl rfl) _
theorem GrowI.step {w wr w' : World} {b : Nat} {lim : Int} {vl : Value} {n2 : Nat} {L : List Nd} {k r : Nat} {PL : List Nat} (hlt : k < L.length)
    (gbox : BoxAt wr b lim vl w.heap.size PL.length) (gplc : PlacesAt wr w.heap.size PL) (gtab : Ar.Tab hsh PL L k) (glen : PL.length = n2) (gt : Touch w wr (fun k => k = b)) (hbw : b < w.heap.size)
    (hr : Ar.probe PL L (L.getD k ⟨0, 0, 0⟩) PL.length (hsh (L.getD k ⟨0, 0, 0⟩) PL.length) = some r) (hr0 : PL.getD r 0 = 0) (hbl : Below wr.heap.size wr w') :
    GrowI w (w'.setCell ⟨w.heap.size, r, none⟩ (.int .i64 ((k : Int) + 1))) b lim vl n2 L (k + 1) := by
  have hrl := (Ar.probe_lt _ _ _ (hsh_lt _ _ gtab.pos) hr).1
  refine ⟨PL.set r (k + 1), ?_, ?_, gtab.put hsh_lt hlt hr hr0, by rw [List.length_set]; exact glen, ?_⟩
  · rw [List.length_set]
    exact heap_setCell_other (b := w.heap.size) _ ((hbl.block b (lt_of_heap gbox)).trans gbox) rfl (by omega) _
  · have := heap_setCell_same (j := r) ((hbl.block _ (lt_of_heap gplc)).trans gplc) (.int .i64 ((k : Int) + 1))
    unfold PlacesAt
    rw [this]
    simp [List.map_set]
  · exact Touch.setCell (p := ⟨w.heap.size, r, none⟩) (gt.trans (Touch.of_below hbl (fun _ => False)) (fun _ _ c => c.elim)) (.inr (Nat.le_refl _)) _
theorem info_int : (Try.prog.info? 3).map (fun i => (i.zero, i.size, i.bytes)) = some (some (.int .i64 0), 1, 8) := by kernel_rfl

set_option maxHeartbeats 2000000 in
theorem grow_more {vl : Value} {bp : Nat} {PL : List Nat} (hbox : BoxAt w b lim vl bp PL.length) (hrow : w.ownsRow 0 70 3 vl L.length (cellsOf L)) (hok : Ar.Ok L)
    (hn : PL.length ≤ 500000000000) (h0 : 0 < PL.length) (h : PL.length ≤ 2 * L.length) (hl : L.length < 2 * PL.length) (hap : vl.ownBlock ≠ some b) :
    Calls Try.prog 67 #[.pointer (some ⟨b, 0, none⟩)] w fun e w' => e = .returned (.tuple #[]) ∧ Hid (GrowI w w' b lim vl (2 * PL.length) L L.length) := by
  have hb := lt_of_heap hbox
  obtain ⟨ao, cap, rfl, hll⟩ : ∃ ao cap, vl = .slice ao L.length cap ∧ L.length ≤ 1000000000000 := by
    rcases hrow.2 with ⟨rfl, h⟩ | ⟨g, cap, cur, rfl, _⟩
    · exact ⟨none, 0, by rw [h], by omega⟩
    · exact ⟨_, _, rfl, by omega⟩
  have h1 : w.cell? ⟨b, 1, none⟩ = some (.slice ao L.length cap) := cell_at hbox 1 rfl
  have h2 : w.cell? ⟨b, 2, none⟩ = some (.slice (some ⟨bp, 0, none⟩) PL.length PL.length) := cell_at hbox 2 rfl
  have f2 : w.frozen? ⟨b, 2, none⟩ = false := free_at hbox 2
  have HX := Lib.hid hbox
  have HO := Lib.hid hrow
  clear hbox hrow
  have hm : IntKind.i64.wrap (2 * (L.length : Int)) = 2 * L.length := IntWalk.i64_in _ (by omega)
  have ht : decide ((2 : Int) * L.length < PL.length) = false := decide_eq_false (by omega)
  have hmk : ∀ w : World, (Instr.makeSlice 26 (.int .i64 (2 * (PL.length : Int))) (.int .i64 (2 * (PL.length : Int)))).run Try.prog w = .ok (.slice (some ⟨w.heap.size, 0, none⟩) (2 * PL.length) (2 * PL.length)) (w.alloc (.cells (madeCells #[.int .i64 0] (2 * PL.length)) 3)) := fun w => by
    have := run_make_row' (P := Try.prog) 26 3 (.int .i64 0) 8 Try.underlying26 info_int rfl .i64 .i64 (2 * PL.length) (by omega) (by omega) w
    rw [show ((2 * PL.length : Nat) : Int) = 2 * (PL.length : Int) from by omega] at this
    exact this
  have hm2 : IntKind.i64.wrap (2 * (PL.length : Int)) = 2 * PL.length := IntWalk.i64_in _ (by omega)
  go_enter Try.func67, Try.ntmps67
  go_wp2
  go_quiet (fail)
  clear hm ht
  have hA1 := fun nq o j => cell_drewN_alloc hb nq o j
  have hA2 := fun nq o j => frozen_drewN_alloc hb nq o j
  go_wp2
  have HG := Lib.hid (GrowI.start (L := L) HX.out (2 * PL.length) (by omega) nq)
  clear hmk hm2 hA1 hA2 h1 h2 f2
  go_loopg [31] L.length (fun g i wr => ∃ k : Nat, k + g = L.length ∧ i = .int .i64 k ∧ Hid (GrowI w wr b lim (.slice ao L.length cap) (2 * PL.length) L k))
  case atStart => exact ⟨0, by omega, rfl, HG⟩
  case round =>
    obtain ⟨k, hkg, rfl, HI⟩ := hrel
    clear HG
    by_cases hlt : k < L.length
    · obtain ⟨PLk, gbox, gplc, gtab, glen, gt⟩ := HI.out
      obtain ⟨bl, cap', hvl, hbl, hn', e0, e1, e2⟩ := row_node HO.out k hlt
      obtain ⟨rfl, rfl⟩ : ao = some ⟨bl, 0, none⟩ ∧ cap = cap' := by cases hvl; exact ⟨rfl, rfl⟩
      clear hvl
      have hbb : bl ≠ b := fun e => hap (by rw [e]; rfl)
      have hnd := Ar.getD_idx hlt
      obtain ⟨r, hr⟩ := gtab.total (by omega) L[k] (hsh_lt L[k] _ gtab.pos)
      obtain ⟨hrl, hr0⟩ := gtab.fresh (hsh_lt L[k] _ gtab.pos) (fun i hi e => by
        rw [Ar.getD_idx (by omega)] at e
        have := (List.getElem_inj hok.nodup).1 e
        omega) hr
      have hr' : Ar.probe PLk L (L.getD k ⟨0, 0, 0⟩) PLk.length (hsh (L.getD k ⟨0, 0, 0⟩) PLk.length) = some r := by rw [hnd]; exact hr
      have hvk := hok.each k hlt
      have hrow' := ownsRow_touch HO.out gt (fun q h => by cases h; exact hbb)
      replace e0 := (World.cell?_of_block (a := ⟨bl, k * 3, none⟩) (gt.block bl hbl hbb)).trans e0
      replace e1 := (World.cell?_of_block (a := ⟨bl, k * 3 + 1, none⟩) (gt.block bl hbl hbb)).trans e1
      replace e2 := (World.cell?_of_block (a := ⟨bl, k * 3 + 2, none⟩) (gt.block bl hbl hbb)).trans e2
      have hbl' : bl < wr.heap.size := Nat.lt_of_lt_of_le hbl gt.size
      have hb' := lt_of_heap gbox
      have hp' := lt_of_heap gplc
      have HSt : Hid (∀ w', Below wr.heap.size wr w' → GrowI w (w'.setCell ⟨w.heap.size, r, none⟩ (.int .i64 ((k : Int) + 1))) b lim (.slice (some ⟨bl, 0, none⟩) L.length cap) (2 * PL.length) L (k + 1)) :=
        fun w' h => GrowI.step hlt gbox gplc gtab glen gt hb hr' hr0 h
      have k2 : wr.cell? ⟨b, 2, none⟩ = some (.slice (some ⟨w.heap.size, 0, none⟩) PLk.length PLk.length) := cell_at gbox 2 rfl
      have kr : wr.cell? ⟨w.heap.size, r, none⟩ = some (.int .i64 0) := cell_at gplc r (by rw [List.getElem?_toArray, List.getElem?_map, List.getElem?_eq_getElem hrl, (Ar.getD_at hrl).symm.trans hr0]; rfl)
      have fr : wr.frozen? ⟨w.heap.size, r, none⟩ = false := free_at gplc r
      have hv0 := hvk.1
      have hv1 := hvk.2.1
      have hr2 := Lib.hid hr
      have GX := Lib.hid gbox
      have GP := Lib.hid gplc
      have GT := Lib.hid gtab
      have GR := Lib.hid hrow'
      have GL := Lib.hid glen
      have hpl : PLk.length ≤ 1000000000000 := by omega
      clear hr hr' hr0 hvk hnd hrow' gt glen gtab gbox gplc HI HX HO
      go_wp2
      have k2' : (wr.alloc (.cells #[.int .i64 L[k].v, .int .i64 L[k].l, .int .i64 L[k].h] 70)).cell? ⟨b, 2, none⟩ = some (.slice (some ⟨w.heap.size, 0, none⟩) PLk.length PLk.length) := by
        rw [World.cell?_alloc_past _ _ _ hb']; exact k2
      have hlt1 : b < (wr.alloc (.cells #[.int .i64 L[k].v, .int .i64 L[k].l, .int .i64 L[k].h] 70)).heap.size := by simp; omega
      have hlt2 : wr.heap.size < (wr.alloc (.cells #[.int .i64 L[k].v, .int .i64 L[k].l, .int .i64 L[k].h] 70)).heap.size := by simp
      have hlt3 : w.heap.size < (wr.alloc (.cells #[.int .i64 L[k].v, .int .i64 L[k].l, .int .i64 L[k].h] 70)).heap.size := by simp; omega
      have kr' : (wr.alloc (.cells #[.int .i64 L[k].v, .int .i64 L[k].l, .int .i64 L[k].h] 70)).cell? ⟨w.heap.size, r, none⟩ = some (.int .i64 0) := (World.cell?_alloc_past _ _ _ hp').trans kr
      have fr' : (wr.alloc (.cells #[.int .i64 L[k].v, .int .i64 L[k].l, .int .i64 L[k].h] 70)).frozen? ⟨w.heap.size, r, none⟩ = false := (World.frozen?_alloc_past _ _ _ hp').trans fr
      have y0 := cell_at (heap_alloc_new wr (.cells #[.int .i64 L[k].v, .int .i64 L[k].l, .int .i64 L[k].h] 70)) 0 (v := .int .i64 L[k].v) rfl
      have y1 := cell_at (heap_alloc_new wr (.cells #[.int .i64 L[k].v, .int .i64 L[k].l, .int .i64 L[k].h] 70)) 1 (v := .int .i64 L[k].l) rfl
      have y2 := cell_at (heap_alloc_new wr (.cells #[.int .i64 L[k].v, .int .i64 L[k].l, .int .i64 L[k].h] 70)) 2 (v := .int .i64 L[k].h) rfl
      have hi0 : (0 : Int) ≤ (r : Int) := by omega
      have hne1 : b ≠ w.heap.size := by omega
      have hne2 : wr.heap.size ≠ w.heap.size := by omega
      have hi1 : (r : Int) < (PLk.length : Int) := by omega
      have hs1 : IntKind.i64.wrap ((k : Int) + 1) = k + 1 := IntWalk.i64_in _ (by omega)
      go_region_held3 (fun w' => w'.cell? ⟨b, 2, none⟩ = some (.slice (some ⟨w.heap.size, 0, none⟩) PLk.length PLk.length) ∧
          w'.cell? ⟨wr.heap.size, 0, none⟩ = some (.int .i64 L[k].v) ∧ w'.cell? ⟨wr.heap.size, 1, none⟩ = some (.int .i64 L[k].l) ∧ w'.cell? ⟨wr.heap.size, 2, none⟩ = some (.int .i64 L[k].h))
        (first | (refine ⟨?_, ?_, ?_, ?_⟩ <;> assumption) | (refine ⟨?_, ?_, ?_, ?_⟩ <;> (rw [cell_set_ne _ (by first | exact hne1 | exact hne2)]; assumption)) | go_keep)
        (first | (go_at_call 66; refine (place_at (w := (wr.alloc (.cells #[.int .i64 L[k].v, .int .i64 L[k].l, .int .i64 L[k].h] 70)).drew) (heap_alloc_lt _ GX.out) (GR.out.alloc _) (heap_alloc_lt _ GP.out) GT.out hpl L[k] hv0 hv1 r hr2.out).mono ?_; rintro e w' ⟨rfl, hbelow⟩; have kr2 := (hbelow.cell (p := ⟨w.heap.size, r, none⟩) hlt3).trans kr'; have fr2 := (hbelow.frozen (p := ⟨w.heap.size, r, none⟩) hlt3).trans fr'; have z0 := (hbelow.cell (p := ⟨b, 2, none⟩) hlt1).trans k2'; have z1 := (hbelow.cell (p := ⟨wr.heap.size, 0, none⟩) hlt2).trans y0; have z2 := (hbelow.cell (p := ⟨wr.heap.size, 1, none⟩) hlt2).trans y1; have z3 := (hbelow.cell (p := ⟨wr.heap.size, 2, none⟩) hlt2).trans y2))
      go_wp2
      have hst := HSt.out w' ((Below.refl _ _).trans (((Below.refl wr.heap.size wr).alloc (Nat.le_refl _) _).drew.trans (hbelow.mono (by simp))))
      go_roundg (gk - 1)
      case measure => omega
      case rel => exact ⟨k + 1, by omega, by go_num, hst⟩
    · obtain rfl : k = L.length := by omega
      clear HX HO
      go_wp2
      go_end0
      exact ⟨rfl, HI⟩

/-- What Mk leaves. -/
def MkPost (w : World) (b : Nat) (lim : Int) (L : List Nd) (S : Nat → Prop) (v lo hi : Int) (e : Ending) (w' : World) : Prop :=
  ∃ ev, e = .returned (.tuple #[.int .i64 (Ar.mk lim L v lo hi).2.1, ev]) ∧ Arena w' b lim (Ar.mk lim L v lo hi).1 (fun k => S k ∨ w.heap.size ≤ k) ∧ Touch w w' S ∧
    ((Ar.mk lim L v lo hi).2.2 = 0 → ev = .nilIface) ∧
    ((Ar.mk lim L v lo hi).2.2 ≠ 0 → ∃ fb, ev = .iface 114 (.pointer (some ⟨fb, 0, none⟩)) ∧ w.heap.size ≤ fb ∧ FaultAt w' fb v (Ar.mk lim L v lo hi).2.2)

theorem MkPost.bad {w w' : World} {ev : Value} {v lo hi n : Int} (hm : Ar.mk lim L v lo hi = (L, 0, n)) (hn : n ≠ 0) (A : Arena w b lim L S) (hf : ∃ fb, w.heap.size ≤ fb ∧ FaultAt w' fb v n ∧ ev = .iface 114 (.pointer (some ⟨fb, 0, none⟩))) (ht : Below w.heap.size w w') :
    MkPost w b lim L S v lo hi (.returned (.tuple #[.int .i64 0, ev])) w' := by
  obtain ⟨fb, h1, h2, h3⟩ := hf
  refine ⟨ev, by rw [hm], ?_, Touch.of_below ht S, ?_, ?_⟩
  · rw [hm]; exact (A.below ht).mono (fun k h => .inl h)
  · rw [hm]; intro h; exact absurd h hn
  · rw [hm]; intro _; exact ⟨fb, h3, h1, h2⟩

end Go.Proofs.Ytiagkbmhfgdffaa

set_option linter.unusedVariables false
set_option linter.unusedSimpArgs false
namespace Go.Proofs.Ytiagkbmhfgdffaa
open Go.RowKit Go.Deep
variable {w : World} {b : Nat} {lim : Int} {L : List Nd} {S : Nat → Prop}

theorem ArenaAt.below {w' : World} {vl : Value} {bp : Nat} {PL : List Nat} (A : ArenaAt w b lim L vl bp PL) (h : Below w.heap.size w w') : ArenaAt w' b lim L vl bp PL :=
  A.touch (Touch.of_below h (fun _ => False)) (fun _ _ c => c)
theorem ArenaAt.alloc {vl : Value} {bp : Nat} {PL : List Nat} (A : ArenaAt w b lim L vl bp PL) (o : Obj) : ArenaAt (w.alloc o) b lim L vl bp PL :=
  A.below ((Below.refl _ _).alloc (Nat.le_refl _) o)

set_option maxHeartbeats 1000000 in
theorem mk_bad (A : Arena w b lim L S) (v lo hi : Int) (n : Int) (hn : n ≠ 0) (hm : Ar.mk lim L v lo hi = (L, 0, n)) (hw : ∀ w0, Below w.heap.size w w0 → Calls Try.prog 65 #[.pointer (some ⟨b, 0, none⟩), .int .i64 v, .int .i64 lo, .int .i64 hi] w0 (Faulty w0 v n)) :
    Calls Try.prog 50 #[.pointer (some ⟨b, 0, none⟩), .int .i64 v, .int .i64 lo, .int .i64 hi] w (MkPost w b lim L S v lo hi) := by
  have HW := Lib.hid hw
  have HM := Lib.hid hm
  clear hw hm
  go_enter Try.func50, Try.ntmps50
  go_wp2_with fail
  refine (HW.out _ (Below.refl _ _)).mono ?_
  rintro e w' ⟨fb, rfl, h1, h2, h3⟩
  have H2 := Lib.hid h2
  clear h2
  go_wp2_with fail
  go_ret2
  exact MkPost.bad HM.out hn A ⟨fb, h1, H2.out, rfl⟩ h3

theorem MkPost.fine {w w' : World} {x : Int} {v lo hi : Int} {L' : List Nd} (hm : Ar.mk lim L v lo hi = (L', x, 0)) (A : Arena w' b lim L' (fun k => S k ∨ w.heap.size ≤ k)) (ht : Touch w w' S) :
    MkPost w b lim L S v lo hi (.returned (.tuple #[.int .i64 x, .nilIface])) w' := by
  refine ⟨.nilIface, by rw [hm], by rw [hm]; exact A, ht, fun _ => rfl, ?_⟩
  rw [hm]; intro h; exact absurd rfl h

set_option maxHeartbeats 1000000 in
theorem mk_alike (A : Arena w b lim L S) (v lo : Int) (hv0 : 0 ≤ v) (hv1 : v < 12) (ho : Ar.ordered L v lo lo) :
    Calls Try.prog 50 #[.pointer (some ⟨b, 0, none⟩), .int .i64 v, .int .i64 lo, .int .i64 lo] w (MkPost w b lim L S v lo lo) := by
  have hm : Ar.mk lim L v lo lo = (L, lo, 0) := by unfold Ar.mk; rw [if_neg (by omega), if_neg (fun h => h ho), if_pos rfl]
  have HM := Lib.hid hm
  clear hm
  go_enter Try.func50, Try.ntmps50
  go_wp2_with fail
  refine (wrong_none A _ _ _ hv0 hv1 ho).mono ?_
  rintro e w' ⟨rfl, hb⟩
  go_wp2_with fail
  go_ret2
  exact MkPost.fine HM.out ((A.below hb).mono (fun k h => .inl h)) (Touch.of_below hb S)

set_option maxHeartbeats 1000000 in
theorem mk_held (A : Arena w b lim L S) (v lo hi : Int) (hv0 : 0 ≤ v) (hv1 : v < 12) (ho : Ar.ordered L v lo hi) (hne : lo ≠ hi) (hmem : (⟨v, lo, hi⟩ : Nd) ∈ L) :
    Calls Try.prog 50 #[.pointer (some ⟨b, 0, none⟩), .int .i64 v, .int .i64 lo, .int .i64 hi] w (MkPost w b lim L S v lo hi) := by
  have hm : Ar.mk lim L v lo hi = (L, ((L.idxOf (⟨v, lo, hi⟩ : Nd) : Nat) : Int), 0) := by unfold Ar.mk; rw [if_neg (by omega), if_neg (fun h => h ho), if_neg hne, if_pos hmem]
  have HM := Lib.hid hm
  clear hm
  have hq : (lo == hi) = false := by rw [beq_eq_false_iff_ne]; exact hne
  have AR := A
  obtain ⟨vl, bp, PL, A0, hf⟩ := A
  obtain ⟨r, hr, hrk⟩ := A0.tab.held rfl hmem A0.ok.nodup
  have hrl := (Ar.probe_lt _ _ _ (hsh_lt _ _ A0.tab.pos) hr).1
  have hpl : PL.length ≤ 1000000000000 := by have := A0.small; have := A0.few; omega
  have hri := Ar.getD_at hrl
  obtain ⟨k, hk⟩ : ∃ k, L.idxOf (⟨v, lo, hi⟩ : Nd) = k := ⟨_, rfl⟩
  rw [hk] at hrk HM
  have hkl : k < L.length := by rw [← hk]; exact List.idxOf_lt_length_of_mem hmem
  have hln := A0.few
  have hk2 : PL[r] = k + 1 := hri.symm.trans hrk
  have HR := Lib.hid hr
  have HK := Lib.hid hk2
  have HA := Lib.hid A0
  clear hr hrk hri hk hk2 hmem hne A0
  go_enter Try.func50, Try.ntmps50
  go_wp2_with fail
  refine (wrong_none AR _ _ _ hv0 hv1 ho).mono ?_
  rintro e w1 ⟨rfl, hb1⟩
  go_wp2_with fail
  have A1 := (HA.out.below hb1).alloc (.cells #[.int .i64 v, .int .i64 lo, .int .i64 hi] 70)
  refine (place_at A1.box A1.row A1.plc A1.tab hpl ⟨v, lo, hi⟩ hv0 hv1 r HR.out).mono ?_
  rintro e w2 ⟨rfl, hb2⟩
  have A2 := A1.below hb2
  have k2 := A2.c2
  have kr := cell_at A2.plc r (v := .int .i64 ((k : Int) + 1)) (by rw [List.getElem?_toArray, List.getElem?_map, List.getElem?_eq_getElem hrl, HK.out]; simp)
  have hb3 : Below w.heap.size w w2 := (hb1.alloc hb1.size _).trans (hb2.mono (by simp; have := hb1.size; omega))
  clear A1 A2 hb1 hb2
  go_wp2_with fail
  go_ret2
  exact MkPost.fine HM.out (by simpa using (AR.below hb3).mono (fun k h => .inl h)) (Touch.of_below hb3 S)

set_option maxHeartbeats 1000000 in
theorem mk_full (A : Arena w b lim L S) (v lo hi : Int) (hv0 : 0 ≤ v) (hv1 : v < 12) (ho : Ar.ordered L v lo hi) (hne : lo ≠ hi) (hmem : (⟨v, lo, hi⟩ : Nd) ∉ L) (hle : lim ≤ L.length) :
    Calls Try.prog 50 #[.pointer (some ⟨b, 0, none⟩), .int .i64 v, .int .i64 lo, .int .i64 hi] w (MkPost w b lim L S v lo hi) := by
  have hm : Ar.mk lim L v lo hi = (L, 0, 50) := by unfold Ar.mk; rw [if_neg (by omega), if_neg (fun h => h ho), if_neg hne, if_neg hmem, if_pos hle]
  have HM := Lib.hid hm
  clear hm
  have hq : (lo == hi) = false := by rw [beq_eq_false_iff_ne]; exact hne
  have AR := A
  obtain ⟨vl, bp, PL, A0, hf⟩ := A
  have hpl : PL.length ≤ 1000000000000 := by have := A0.small; have := A0.few; omega
  obtain ⟨r, hr⟩ := A0.tab.total (by have := A0.half; omega) ⟨v, lo, hi⟩ (hsh_lt ⟨v, lo, hi⟩ _ A0.tab.pos)
  obtain ⟨hrl, hr0⟩ := A0.tab.not rfl hmem (hsh_lt ⟨v, lo, hi⟩ _ A0.tab.pos) hr
  have hk2 : PL[r] = 0 := (Ar.getD_at hrl).symm.trans hr0
  have HR := Lib.hid hr
  have HK := Lib.hid hk2
  have HA := Lib.hid A0
  clear hr hr0 hk2 hmem hne A0
  have hd : decide (lim ≤ (L.length : Int)) = true := decide_eq_true hle
  go_enter Try.func50, Try.ntmps50
  go_wp2_with fail
  refine (wrong_none AR _ _ _ hv0 hv1 ho).mono ?_
  rintro e w1 ⟨rfl, hb1⟩
  go_wp2_with fail
  have A1 := (HA.out.below hb1).alloc (.cells #[.int .i64 v, .int .i64 lo, .int .i64 hi] 70)
  refine (place_at A1.box A1.row A1.plc A1.tab hpl ⟨v, lo, hi⟩ hv0 hv1 r HR.out).mono ?_
  rintro e w2 ⟨rfl, hb2⟩
  have A2 := A1.below hb2
  have k2 := A2.c2
  have kr := cell_at A2.plc r (v := .int .i64 0) (by rw [List.getElem?_toArray, List.getElem?_map, List.getElem?_eq_getElem hrl, HK.out]; simp)
  have hb3 : Below w.heap.size w w2 := (hb1.alloc hb1.size _).trans (hb2.mono (by simp; have := hb1.size; omega))
  have k0 := A2.c0
  obtain ⟨⟨ao, cap, rfl⟩, hn⟩ := A2.shape
  have k1 := A2.c1
  clear A1 A2 hb1 hb2 HA
  go_wp2_with fail
  go_quiet (fail)
  have hb4 : ∀ nq, Below w.heap.size w (w2.drewN nq) := fun nq => hb3.trans ⟨rfl, rfl, rfl, Nat.le_refl _, fun _ _ => rfl⟩
  go_wp2_with fail
  go_ret2
  exact MkPost.bad HM.out (by decide) AR ⟨_, (hb4 _).size, heap_alloc_new _ _, rfl⟩ ((hb4 _).alloc (hb4 _).size _)

theorem info_node : (Try.prog.info? 70).map (fun i => (i.zero, i.size, i.bytes)) = some (some (.agg #[.int .i64 0, .int .i64 0, .int .i64 0]), 3, 24) := by kernel_rfl

/-- What stands behind the append of a node and its store into the box. -/
def Added (w3 : World) (b : Nat) (lim : Int) (L : List Nd) (vl : Value) (bp : Nat) (PL : List Nat) (n : Nd) (w5 : World) : Prop :=
  ∃ gg cap', BoxAt w5 b lim (.slice (some ⟨gg, 0, none⟩) (L.length + 1) cap') bp PL.length ∧ PlacesAt w5 bp PL ∧
    w5.ownsRow 0 70 3 (.slice (some ⟨gg, 0, none⟩) (L.length + 1) cap') (L.length + 1) (cellsOf (L ++ [n])) ∧
    Touch w3 w5 (foot b vl bp) ∧ gg ≠ b ∧ gg ≠ bp ∧ (vl.ownBlock = some gg ∨ w3.heap.size ≤ gg)

theorem Added.of {w3 w4 : World} {o : Obj} {vl : Value} {bp gg cap' : Nat} {PL : List Nat} {n : Nd} (A : ArenaAt w3 b lim L vl bp PL) (hown : w4.ownsRow 0 70 3 (.slice (some ⟨gg, 0, none⟩) (L.length + 1) cap') (L.length + 1) (cellsOf L ++ [.int .i64 n.v, .int .i64 n.l, .int .i64 n.h]))
    (hgrow : (w3.drew.alloc o).grownBy w4 vl.ownBlock) (hat : vl.ownBlock = some gg ∨ gg = w3.heap.size + 1) :
    Hid (Added w3 b lim L vl bp PL n (w4.setCell ⟨b, 1, none⟩ (.slice (some ⟨gg, 0, none⟩) (L.length + 1) cap'))) := by
  have hlb := lt_of_heap A.box
  have hlp := lt_of_heap A.plc
  have e1 := (hgrow.block b (by simp; omega) (fun e => A.ap1 e.symm)).trans (heap_alloc_lt (w := w3.drew) _ A.box)
  have e2 := (hgrow.block bp (by simp; omega) (fun e => A.ap2 e.symm)).trans (heap_alloc_lt (w := w3.drew) _ A.plc)
  have hgt : Touch w3 w4 (fun k => vl.ownBlock = some k) := (((Touch.refl w3 _).drew).alloc _).grown hgrow (fun k h => .inl h)
  rw [← cellsOf_append L n] at hown
  have hgb : gg ≠ b := by
    rcases hat with h | h
    · exact fun e => A.ap1 (by rw [h, e])
    · omega
  have hgbp : gg ≠ bp := by
    rcases hat with h | h
    · exact fun e => A.ap2 (by rw [h, e])
    · omega
  refine ⟨gg, cap', ?_, heap_setCell_other (b := b) _ e2 rfl (Ne.symm A.ap3) _, ?_, ?_, hgb, hgbp, ?_⟩
  · have := heap_setCell_same (j := 1) e1 (.slice (some ⟨gg, 0, none⟩) (L.length + 1) cap')
    simpa [BoxAt] using this
  · exact ownsRow_touch (S := fun k => k = b) hown (Touch.setCell (S := fun k => k = b) (p := ⟨b, 1, none⟩) (Touch.refl _ _) (.inl rfl) _) (fun k h => by cases h; exact hgb)
  · exact Touch.setCell (p := ⟨b, 1, none⟩) (hgt.mono (fun k _ h => .inr (.inl h))) (.inl (.inl rfl)) _
  · rcases hat with h | h
    · exact .inl h
    · exact .inr (by omega)

/-- What stands when the new node's number stands in its place. -/
def Stood (w0 : World) (b : Nat) (lim : Int) (L' : List Nd) (vl : Value) (bp : Nat) (PL' : List Nat) (wx : World) : Prop :=
  ∃ gg cap', BoxAt wx b lim (.slice (some ⟨gg, 0, none⟩) L'.length cap') bp PL'.length ∧ PlacesAt wx bp PL' ∧
    wx.ownsRow 0 70 3 (.slice (some ⟨gg, 0, none⟩) L'.length cap') L'.length (cellsOf L') ∧
    Touch w0 wx (foot b vl bp) ∧ gg ≠ b ∧ gg ≠ bp ∧ (vl.ownBlock = some gg ∨ w0.heap.size ≤ gg)

theorem Stood.of {w3 wc : World} {vl : Value} {bp r : Nat} {PL : List Nat} {n : Nd} {x : Int} (hx : x = L.length + 1) (h : Hid (Added w3 b lim L vl bp PL n wc)) (hbb : b ≠ bp) :
    Hid (Stood w3 b lim (L ++ [n]) vl bp (PL.set r (L.length + 1)) (wc.drew.setCell ⟨bp, r, none⟩ (.int .i64 x))) := by
  obtain ⟨gg, cap', B5, P5, R5, T5, h1, h2, h3⟩ := h.out
  have hl : (L ++ [n]).length = L.length + 1 := by simp
  subst hx
  refine ⟨gg, cap', ?_, ?_, ?_, ?_, h1, h2, h3⟩
  · rw [hl, List.length_set]
    exact heap_setCell_other (w := wc.drew) (b := bp) _ B5 rfl hbb _
  · have := heap_setCell_same (w := wc.drew) (j := r) P5 (.int .i64 ((L.length : Int) + 1))
    unfold PlacesAt
    rw [this]
    simp [List.map_set]
  · rw [hl]
    exact ownsRow_touch (S := fun k => k = bp) R5.drew (Touch.setCell (w := wc.drew) (S := fun k => k = bp) (p := ⟨bp, r, none⟩) (Touch.refl _ _) (.inl rfl) _) (fun k h => by cases h; exact h2)
  · exact Touch.setCell (p := ⟨bp, r, none⟩) T5.drew (.inl (.inr (.inr rfl))) _

/-- The arena behind a new node. -/
theorem Stood.arena {w w0 wx w' : World} {vl : Value} {bp : Nat} {PL PL' : List Nat} {n : Nd} (A : ArenaAt w0 b lim L vl bp PL) (hf : ∀ k, foot b vl bp k → S k) (hb0 : Below w.heap.size w w0)
    (hs : Hid (Stood w0 b lim (L ++ [n]) vl bp PL' wx)) (hb : Below wx.heap.size wx w') (tab : Ar.Tab hsh PL' (L ++ [n]) (L ++ [n]).length) (half : 2 * (L ++ [n]).length < PL'.length) (small : PL'.length ≤ 16 + 4 * (L ++ [n]).length)
    (few : L.length < 100000000000) (big : 16 ≤ PL'.length) (ok : Ar.Ok (L ++ [n])) : Arena w' b lim (L ++ [n]) (fun k => S k ∨ w.heap.size ≤ k) ∧ Touch w w' S := by
  obtain ⟨gg, cap', B, P, R, T, h1, h2, h3⟩ := hs.out
  refine ⟨⟨_, bp, PL', ⟨(hb.block b (lt_of_heap B)).trans B, ownsRow_touch R (Touch.of_below hb (fun _ => False)) (fun _ _ c => c), (hb.block bp (lt_of_heap P)).trans P, tab, half, small, by simp; omega, big, ?_, ?_, A.ap3, ok⟩, ?_⟩, ?_⟩
  · intro h; cases h; exact h1 rfl
  · intro h; cases h; exact h2 rfl
  · rintro k (rfl | h | rfl)
    · exact .inl (hf _ (.inl rfl))
    · cases h
      rcases h3 with h3 | h3
      · exact .inl (hf _ (.inr (.inl h3)))
      · exact .inr (Nat.le_trans hb0.size h3)
    · exact .inl (hf _ (.inr (.inr rfl)))
  · exact ((Touch.of_below hb0 S).trans T (fun k _ h => hf k h)).trans (Touch.of_below hb (fun _ => False)) (fun _ _ c => c.elim)

theorem Stood.grown {w w0 wx w' : World} {vl : Value} {bp gg cap' n2 : Nat} {PL' : List Nat} {n : Nd} (A : ∀ k, foot b vl bp k → S k) (hb0 : Below w.heap.size w w0)
    (hs : BoxAt wx b lim (.slice (some ⟨gg, 0, none⟩) (L ++ [n]).length cap') bp PL'.length) (R : wx.ownsRow 0 70 3 (.slice (some ⟨gg, 0, none⟩) (L ++ [n]).length cap') (L ++ [n]).length (cellsOf (L ++ [n]))) (T : Touch w0 wx (foot b vl bp)) (h1 : gg ≠ b)
    (h3 : vl.ownBlock = some gg ∨ w0.heap.size ≤ gg) (hg : Hid (GrowI wx w' b lim (.slice (some ⟨gg, 0, none⟩) (L ++ [n]).length cap') n2 (L ++ [n]) (L ++ [n]).length))
    (half : 2 * (L ++ [n]).length < n2) (small : n2 ≤ 16 + 4 * (L ++ [n]).length)
    (few : L.length < 100000000000) (big : 16 ≤ n2) (ok : Ar.Ok (L ++ [n])) : Arena w' b lim (L ++ [n]) (fun k => S k ∨ w.heap.size ≤ k) ∧ Touch w w' S := by
  obtain ⟨PL2, B2, P2, tab, hl, T2⟩ := hg.out
  have hT : Touch w w' S := ((Touch.of_below hb0 S).trans T (fun k _ h => A k h)).trans T2 (fun k _ c => by subst c; exact A _ (.inl rfl))
  have hsz : w0.heap.size ≤ wx.heap.size := T.size
  have hgw : gg < wx.heap.size := (R.lt gg rfl).2
  refine ⟨⟨_, wx.heap.size, PL2, ⟨B2, ownsRow_touch R T2 (fun k h c => by cases h; exact h1 c), P2, tab, by rw [hl]; exact half, by rw [hl]; exact small, by simp; omega, by rw [hl]; exact big, ?_, ?_, ?_, ok⟩, ?_⟩, hT⟩
  · intro h; cases h; exact h1 rfl
  · intro h
    have hgx : gg = wx.heap.size := by simpa [Value.ownBlock] using h
    omega
  · have hlt : b < wx.heap.size := lt_of_heap hs
    omega
  · rintro k (rfl | h | rfl)
    · exact .inl (A _ (.inl rfl))
    · cases h
      rcases h3 with h3 | h3
      · exact .inl (A _ (.inr (.inl h3)))
      · exact .inr (Nat.le_trans hb0.size h3)
    · exact .inr (Nat.le_trans hb0.size hsz)

theorem ok_add {v lo hi : Int} (ok : Ar.Ok L) (hv0 : 0 ≤ v) (hv1 : v < 12) (ho : Ar.ordered L v lo hi) (hne : lo ≠ hi) (hmem : (⟨v, lo, hi⟩ : Nd) ∉ L) : Ar.Ok (L ++ [⟨v, lo, hi⟩]) := by
  have hvar : ∀ r : Int, r < L.length → Ar.var (L ++ [⟨v, lo, hi⟩]) r = Ar.var L r := by
    intro r hr
    unfold Ar.var
    by_cases h : 0 ≤ r
    · have hr' : r.toNat < L.length := by omega
      rw [if_pos (show Ar.isN (L ++ [⟨v, lo, hi⟩]) r from ⟨h, by simp; omega⟩), if_pos (show Ar.isN L r from ⟨h, hr⟩)]
      unfold Ar.nd
      rw [if_pos h, if_pos h]
      simp [List.getD, List.getElem?_append_left hr']
    · rw [if_neg (show ¬ Ar.isN _ r from fun c => h c.1), if_neg (show ¬ Ar.isN _ r from fun c => h c.1)]
  refine ⟨?_, ?_⟩
  · rw [List.nodup_append]
    refine ⟨ok.nodup, by simp, ?_⟩
    intro a ha c hc
    simp at hc
    subst hc
    exact fun e => hmem (e ▸ ha)
  · intro i h
    by_cases hi' : i < L.length
    · have := ok.each i hi'
      rw [List.getElem_append_left hi', hvar _ (by omega), hvar _ (by omega)]
      exact this
    · have : i = L.length := by simp at h; omega
      subst this
      obtain ⟨⟨h1, h2⟩, ⟨h3, h4⟩, h5, h6⟩ := ho
      rw [List.getElem_append_right (by omega)]
      simp only [Nat.sub_self, List.getElem_cons_zero]
      rw [hvar _ h2, hvar _ h4]
      exact ⟨hv0, hv1, hne, h1, h2, h3, h4, h5, h6⟩

set_option maxRecDepth 100000 in
set_option maxHeartbeats 4000000 in
theorem mk_add (A : Arena w b lim L S) (v lo hi : Int) (hv0 : 0 ≤ v) (hv1 : v < 12) (ho : Ar.ordered L v lo hi) (hne : lo ≠ hi) (hmem : (⟨v, lo, hi⟩ : Nd) ∉ L) (hle : L.length < lim) (hfew : L.length < 100000000000) :
    Calls Try.prog 50 #[.pointer (some ⟨b, 0, none⟩), .int .i64 v, .int .i64 lo, .int .i64 hi] w (MkPost w b lim L S v lo hi) := by
  have hm : Ar.mk lim L v lo hi = (L ++ [⟨v, lo, hi⟩], ((L.length : Nat) : Int), 0) := by unfold Ar.mk; rw [if_neg (by omega), if_neg (fun h => h ho), if_neg hne, if_neg hmem, if_neg (by omega)]
  have HM := Lib.hid hm
  clear hm
  have hq : (lo == hi) = false := by rw [beq_eq_false_iff_ne]; exact hne
  have AR := A
  obtain ⟨vl, bp, PL, A0, hf⟩ := A
  have hpl : PL.length ≤ 1000000000000 := by have := A0.small; have := A0.few; omega
  obtain ⟨r, hr⟩ := A0.tab.total (by have := A0.half; omega) ⟨v, lo, hi⟩ (hsh_lt ⟨v, lo, hi⟩ _ A0.tab.pos)
  obtain ⟨hrl, hr0⟩ := A0.tab.not rfl hmem (hsh_lt ⟨v, lo, hi⟩ _ A0.tab.pos) hr
  have hk2 : PL[r] = 0 := (Ar.getD_at hrl).symm.trans hr0
  have HR := Lib.hid hr
  have HK := Lib.hid hk2
  have HA := Lib.hid A0
  have HN := Lib.hid hmem
  have HNE := Lib.hid hne
  clear hr hr0 hk2 hmem hne A0
  have hd : decide (lim ≤ (L.length : Int)) = false := decide_eq_false (by omega)
  obtain ⟨i0, hi0, hz0, hz1, hz2⟩ := info_parts info_node
  go_enter Try.func50, Try.ntmps50
  go_wp2_with fail
  refine (wrong_none AR _ _ _ hv0 hv1 ho).mono ?_
  rintro e w1 ⟨rfl, hb1⟩
  go_wp2_with fail
  have A1 := (HA.out.below hb1).alloc (.cells #[.int .i64 v, .int .i64 lo, .int .i64 hi] 70)
  refine (place_at A1.box A1.row A1.plc A1.tab hpl ⟨v, lo, hi⟩ hv0 hv1 r HR.out).mono ?_
  rintro e w2 ⟨rfl, hb2⟩
  have A2 := A1.below hb2
  have k2 := A2.c2
  have kr := cell_at A2.plc r (v := .int .i64 0) (by rw [List.getElem?_toArray, List.getElem?_map, List.getElem?_eq_getElem hrl, HK.out]; simp)
  have hb3 : Below w.heap.size w w2 := (hb1.alloc hb1.size _).trans (hb2.mono (by simp; have := hb1.size; omega))
  have k0 := A2.c0
  obtain ⟨⟨ao, cap, rfl⟩, hn⟩ := A2.shape
  have k1 := A2.c1
  have hnb := (hb2.block w1.heap.size (by simp)).trans (heap_alloc_new w1 (.cells #[.int .i64 v, .int .i64 lo, .int .i64 hi] 70))
  have HA2 := Lib.hid A2
  have HNB := Lib.hid hnb
  clear A1 A2 hb1 hb2 hnb HA
  go_wp2_with fail
  go_quiet (fail)
  clear k0 k1 k2 kr hd hn
  go_wp2_with fail
  have A3 : ArenaAt (w2.drewN nq) b lim L (.slice ao L.length cap) bp PL := HA2.out.below ⟨rfl, rfl, rfl, Nat.le_refl _, fun _ _ => rfl⟩
  have hnb3 : (w2.drewN nq).heap[w1.heap.size]? = some (.cells #[.int .i64 v, .int .i64 lo, .int .i64 hi] 70 (0, 0)) := HNB.out
  have hb4 : Below w.heap.size w (w2.drewN nq) := hb3.trans ⟨rfl, rfl, rfl, Nat.le_refl _, fun _ _ => rfl⟩
  clear HA2 HNB hb3
  generalize w2.drewN nq = w3 at *
  have q1 := A3.c1
  have n0 := cell_at hnb3 0 (v := .int .i64 v) rfl
  have n1 := cell_at hnb3 1 (v := .int .i64 lo) rfl
  have n2 := cell_at hnb3 2 (v := .int .i64 hi) rfl
  have hlb := lt_of_heap A3.box
  have hln := lt_of_heap hnb3
  have HA3 := Lib.hid A3
  have HR3 := Lib.hid A3.row
  have hap := A3.ap1
  have hl3 : L.length ≤ 100000000000 := by omega
  have h63 : L.length + 1 ≤ maxLen := by unfold maxLen; omega
  have h24 : (L.length + 1) * 24 ≤ 140737488355328 := by omega
  clear A3 hnb3
  go_cut [] (fun wx => Hid (Added w3 b lim L (.slice ao L.length cap) bp PL ⟨v, lo, hi⟩ wx))
  case first =>
    go_region_law (first | (refine step_append_lies _ (by rfl) _ _ _ (by rfl) 0 70 i0 _ 3 24 Try.underlying82 hi0 hz0 hz1 hz2 rfl (by omega) (.slice ao L.length cap) L.length (cellsOf L) (by rfl) (HR3.out.drew.alloc _) ⟨w3.heap.size, 0, none⟩ 1 1 [.int .i64 v, .int .i64 lo, .int .i64 hi] (by rfl) (by rfl) (World.news_of_block (cs := #[.int .i64 v, .int .i64 lo, .int .i64 hi]) (t := 70) (fr := (0, 0)) (heap_alloc_new w3.drew _)) (by simp [Value.oneCell']) (by omega) h63 h24 (by simp) (w3.heap.size + 1) (by simp) ?_; intro gg cap' w4 hown4 hgrow hat hlt4; have e1 := (hgrow.block b (by simp; omega) (fun e => hap e.symm)).trans (heap_alloc_lt (w := w3.drew) _ HA3.out.box); have kb := cell_at e1 1 (v := .slice ao L.length cap) rfl; have fb := free_at e1 1; have E1 := Lib.hid e1; clear e1))
    all_goals (go_wp2_with fail; go_meet; exact Added.of HA3.out hown4 hgrow hat)
  case rest =>
    clear q1 n0 n1 n2
    obtain ⟨gg, cap', B5, P5, R5, T5, hgb, hgbp, hat⟩ := hcut.out
    have k1 : wc.cell? ⟨b, 1, none⟩ = some (.slice (some ⟨gg, 0, none⟩) (L.length + 1) cap') := cell_at B5 1 rfl
    have k2 : wc.cell? ⟨b, 2, none⟩ = some (.slice (some ⟨bp, 0, none⟩) PL.length PL.length) := cell_at B5 2 rfl
    have kr : wc.cell? ⟨bp, r, none⟩ = some (.int .i64 0) := cell_at P5 r (by rw [List.getElem?_toArray, List.getElem?_map, List.getElem?_eq_getElem hrl, HK.out]; simp)
    have fr : wc.frozen? ⟨bp, r, none⟩ = false := free_at P5 r
    clear B5 P5 R5 T5 hgb hgbp hat
    go_wp2_with fail
    go_cut [] (fun wx => Hid (Stood w3 b lim (L ++ [⟨v, lo, hi⟩]) (.slice ao L.length cap) bp (PL.set r (L.length + 1)) wx))
    case first =>
      go_region
      all_goals (go_wp2_with fail; go_meet; exact Stood.of (by simp) hcut HA3.out.ap3)
    case rest =>
      have HC := hcut
      clear k1 k2 kr fr hcut
      have hmem := HN.out
      have hok := ok_add HA3.out.ok hv0 hv1 ho HNE.out hmem
      have htab := HA3.out.tab.add rfl hsh_lt hmem HR.out
      have hfit := HA3.out.small
      have hln' : (L ++ [(⟨v, lo, hi⟩ : Nd)]).length = L.length + 1 := by simp
      have hhalf := HA3.out.half
      have hbig := HA3.out.big
      obtain ⟨gg, cap', B6, P6, R6, T6, hgb, hgbp, hat⟩ := HC.out
      have HB6 := Lib.hid B6
      have HR6 := Lib.hid R6
      have HT6 := Lib.hid T6
      have HAT := Lib.hid hat
      have HOK := Lib.hid hok
      have HTB := Lib.hid htab
      have hps : (PL.set r (L.length + 1)).length = PL.length := by simp
      clear B6 P6 R6 T6 hat hok htab hmem
      by_cases hg : 2 * (L.length + 1) < PL.length
      · go_wp2_with fail
        refine (grow_keep HB6.out (by rw [hps]; omega) (by rw [hps, hln']; omega)).mono ?_
        rintro e w7 ⟨rfl, hb7⟩
        have B7 := (hb7.block b (lt_of_heap HB6.out)).trans HB6.out
        have k1 : w7.cell? ⟨b, 1, none⟩ = some (.slice (some ⟨gg, 0, none⟩) (L ++ [(⟨v, lo, hi⟩ : Nd)]).length cap') := cell_at B7 1 rfl
        rw [hln'] at k1
        clear B7
        have hfin := Stood.arena (w' := w7) HA3.out hf hb4 HC hb7 (by rw [hln']; exact HTB.out) (by rw [hln', hps]; exact hg) (by rw [hln', hps]; omega) hfew (by rw [hps]; exact hbig) HOK.out
        have HF := Lib.hid hfin
        clear hfin
        go_wp2_with fail
        go_ret2
        exact MkPost.fine HM.out HF.out.1 HF.out.2
      · have hpos := HA3.out.tab.pos
        go_wp2_with fail
        refine (grow_more HB6.out HR6.out HOK.out (by rw [hps]; omega) (by rw [hps]; omega) (by rw [hps, hln']; omega) (by rw [hps, hln']; omega) (fun e => hgb (by cases e; rfl))).mono ?_
        rintro e w7 ⟨rfl, hg7⟩
        obtain ⟨PL7, B7, _⟩ := hg7.out
        have k1 : w7.cell? ⟨b, 1, none⟩ = some (.slice (some ⟨gg, 0, none⟩) (L ++ [(⟨v, lo, hi⟩ : Nd)]).length cap') := cell_at B7 1 rfl
        rw [hln'] at k1
        clear B7
        have hfin := Stood.grown (w' := w7) (S := S) hf hb4 HB6.out HR6.out HT6.out hgb HAT.out hg7 (by rw [hln', hps]; omega) (by rw [hln', hps]; omega) hfew (by rw [hps]; omega) HOK.out
        have HF := Lib.hid hfin
        clear hfin hg7
        go_wp2_with fail
        go_ret2
        exact MkPost.fine HM.out HF.out.1 HF.out.2

theorem mk_any (A : Arena w b lim L S) (v lo hi : Int) (hfew : L.length < 100000000000) :
    Calls Try.prog 50 #[.pointer (some ⟨b, 0, none⟩), .int .i64 v, .int .i64 lo, .int .i64 hi] w (MkPost w b lim L S v lo hi) := by
  by_cases hv : v < 0 ∨ 12 ≤ v
  · exact mk_bad A v lo hi 52 (by decide) (by unfold Ar.mk; rw [if_pos hv]) (fun w0 hb => wrong_var v lo hi hv)
  · by_cases ho : Ar.ordered L v lo hi
    · by_cases hne : lo = hi
      · subst hne; exact mk_alike A v lo (by omega) (by omega) ho
      · by_cases hmem : (⟨v, lo, hi⟩ : Nd) ∈ L
        · exact mk_held A v lo hi (by omega) (by omega) ho hne hmem
        · by_cases hle : lim ≤ L.length
          · exact mk_full A v lo hi (by omega) (by omega) ho hne hmem hle
          · exact mk_add A v lo hi (by omega) (by omega) ho hne hmem (by omega) hfew
    · exact mk_bad A v lo hi 51 (by decide) (by unfold Ar.mk; rw [if_neg hv, if_pos ho]) (fun w0 hb => wrong_order (A.below hb) v lo hi (by omega) (by omega) ho)

end Go.Proofs.Ytiagkbmhfgdffaa

set_option linter.unusedVariables false
set_option linter.unusedSimpArgs false
namespace Go.Proofs.Ytiagkbmhfgdffaa
namespace Ar

/-- What can be reached from roots. -/
inductive Reach (L : List Nd) (roots : List Int) : Int → Prop
  | root {r : Int} : r ∈ roots → Reach L roots r
  | low {r : Int} : Reach L roots r → isN L r → Reach L roots (nd L r).l
  | high {r : Int} : Reach L roots r → isN L r → Reach L roots (nd L r).h

/-- The program's way: a stack. -/
def markF (L : List Nd) : Nat → List Int → List Bool → Option (List Bool)
  | 0, _, _ => none
  | f + 1, rest, out => match rest.getLast? with
    | none => some out
    | some r => if isN L r ∧ out.getD r.toNat false = false then markF L f (rest.dropLast ++ [(nd L r).l, (nd L r).h]) (out.set r.toNat true) else markF L f rest.dropLast out

def free (out : List Bool) : Nat := out.countP (fun b => !b)
theorem free_set {k : Nat} : ∀ {out : List Bool}, k < out.length → out.getD k false = false → free (out.set k true) + 1 = free out := by
  unfold free
  induction k with
  | zero => intro out h h0; cases out with
    | nil => simp at h
    | cons a t => simp at h0; subst h0; simp
  | succ k ih => intro out h h0; cases out with
    | nil => simp at h
    | cons a t =>
      have := ih (out := t) (by simpa using h) (by simpa using h0)
      simp only [List.set_cons_succ, List.countP_cons]
      omega

theorem last_snoc (l : List Int) (r : Int) : (l ++ [r]).getLast? = some r := by simp
theorem drop_snoc (l : List Int) (r : Int) : (l ++ [r]).dropLast = l := by simp
theorem nil_or_snoc (l : List Int) : l = [] ∨ ∃ i r, l = i ++ [r] := by
  rcases List.eq_nil_or_concat l with h | ⟨i, r, h⟩
  · exact .inl h
  · exact .inr ⟨i, r, by simpa using h⟩

theorem markF_total (L : List Nd) : ∀ (f : Nat) (rest : List Int) (out : List Bool), out.length = L.length → rest.length + 3 * free out < f → ∃ res, markF L f rest out = some res
  | 0, _, _, _, h => by omega
  | f + 1, rest, out, hl, h => by
    unfold markF
    rcases nil_or_snoc rest with rfl | ⟨init, r, rfl⟩
    · exact ⟨out, by simp⟩
    · simp only [List.getLast?_append, List.getLast?_singleton, Option.some_or, List.dropLast_concat]
      simp only [List.length_append, List.length_singleton] at h
      by_cases hc : isN L r ∧ out.getD r.toNat false = false
      · rw [if_pos hc]
        have hk : r.toNat < out.length := by have := hc.1; unfold isN at this; omega
        have := free_set hk hc.2
        refine markF_total L f _ _ (by simpa using hl) ?_
        simp only [List.length_append, List.length_cons, List.length_nil]
        omega
      · rw [if_neg hc]
        exact markF_total L f _ _ hl (by omega)

/-- What holds in each round. -/
structure MI (L : List Nd) (roots : List Int) (rest : List Int) (out : List Bool) : Prop where
  len : out.length = L.length
  sr : ∀ r ∈ rest, Reach L roots r
  so : ∀ k, k < L.length → out.getD k false = true → Reach L roots (k : Int)
  cr : ∀ r ∈ roots, isN L r → out.getD r.toNat false = true ∨ r ∈ rest
  cl : ∀ k, k < L.length → out.getD k false = true → isN L (nd L k).l → out.getD (nd L k).l.toNat false = true ∨ (nd L k).l ∈ rest
  ch : ∀ k, k < L.length → out.getD k false = true → isN L (nd L k).h → out.getD (nd L k).h.toNat false = true ∨ (nd L k).h ∈ rest

theorem getD_set_true {out : List Bool} {k j : Nat} (h : out.getD j false = true) : (out.set k true).getD j false = true := by
  simp only [List.getD, List.getElem?_set]
  by_cases hkj : k = j
  · subst hkj
    by_cases hk : k < out.length
    · simp [hk]
    · simp [List.getD, List.getElem?_eq_none (by omega : out.length ≤ k)] at h
  · simpa [hkj, List.getD] using h
theorem getD_set_same {out : List Bool} {k : Nat} (h : k < out.length) : (out.set k true).getD k false = true := by simp [List.getD, h]
theorem getD_set_inv {out : List Bool} {k j : Nat} (h : (out.set k true).getD j false = true) : j = k ∨ out.getD j false = true := by
  by_cases hkj : k = j
  · exact .inl hkj.symm
  · right
    simpa [List.getD, List.getElem?_set, hkj] using h

theorem MI.skip {L : List Nd} {roots init : List Int} {r : Int} {out : List Bool} (M : MI L roots (init ++ [r]) out) (h : ¬ (isN L r ∧ out.getD r.toNat false = false)) : MI L roots init out := by
  have hr : isN L r → out.getD r.toNat false = true := fun hn => by
    cases hb : out.getD r.toNat false
    · exact absurd ⟨hn, hb⟩ h
    · rfl
  have key : ∀ x, isN L x → (out.getD x.toNat false = true ∨ x ∈ init ++ [r]) → out.getD x.toNat false = true ∨ x ∈ init := by
    intro x hx h
    rcases h with h | h
    · exact .inl h
    · rcases List.mem_append.1 h with h | h
      · exact .inr h
      · simp at h; subst h; exact .inl (hr hx)
  exact ⟨M.len, fun x hx => M.sr x (by simp [hx]), M.so, fun x hx hn => key x hn (M.cr x hx hn), fun k hk ho hn => key _ hn (M.cl k hk ho hn), fun k hk ho hn => key _ hn (M.ch k hk ho hn)⟩

theorem MI.mark {L : List Nd} {roots init : List Int} {r : Int} {out : List Bool} (M : MI L roots (init ++ [r]) out) (h : isN L r) : MI L roots (init ++ [(nd L r).l, (nd L r).h]) (out.set r.toNat true) := by
  have hrr : Reach L roots r := M.sr r (by simp)
  have hk : r.toNat < out.length := by have := M.len; unfold isN at h; omega
  have hkr : ((r.toNat : Nat) : Int) = r := by unfold isN at h; omega
  have key : ∀ x, isN L x → (out.getD x.toNat false = true ∨ x ∈ init ++ [r]) → (out.set r.toNat true).getD x.toNat false = true ∨ x ∈ init ++ [(nd L r).l, (nd L r).h] := by
    intro x hx h
    rcases h with h | h
    · exact .inl (getD_set_true h)
    · rcases List.mem_append.1 h with h | h
      · exact .inr (by simp [h])
      · simp at h; subst h; exact .inl (getD_set_same hk)
  refine ⟨by simpa using M.len, ?_, ?_, fun x hx hn => key x hn (M.cr x hx hn), ?_, ?_⟩
  · intro x hx
    rcases List.mem_append.1 hx with hx | hx
    · exact M.sr x (by simp [hx])
    · simp at hx
      rcases hx with rfl | rfl
      · exact hrr.low h
      · exact hrr.high h
  · intro k hkl ho
    rcases getD_set_inv ho with rfl | ho
    · rw [hkr]; exact hrr
    · exact M.so k hkl ho
  · intro k hkl ho hn
    rcases getD_set_inv ho with rfl | ho
    · rw [hkr] at hn ⊢; exact .inr (by simp)
    · exact key _ hn (M.cl k hkl ho hn)
  · intro k hkl ho hn
    rcases getD_set_inv ho with rfl | ho
    · rw [hkr] at hn ⊢; exact .inr (by simp)
    · exact key _ hn (M.ch k hkl ho hn)

theorem MI.done {L : List Nd} {roots : List Int} {out : List Bool} (M : MI L roots [] out) (k : Nat) (hk : k < L.length) : out.getD k false = true ↔ Reach L roots (k : Int) := by
  refine ⟨M.so k hk, fun h => ?_⟩
  have all : ∀ r, Reach L roots r → isN L r → out.getD r.toNat false = true := by
    intro r hr
    induction hr with
    | root h => intro hn; exact (M.cr _ h hn).resolve_right (by simp)
    | low h hp ih =>
      intro hn
      have hq := hp
      unfold isN at hq
      have e := M.cl _ (by omega) (ih hp)
      rw [Int.toNat_of_nonneg hq.1] at e
      exact (e hn).resolve_right (by simp)
    | high h hp ih =>
      intro hn
      have hq := hp
      unfold isN at hq
      have e := M.ch _ (by omega) (ih hp)
      rw [Int.toNat_of_nonneg hq.1] at e
      exact (e hn).resolve_right (by simp)
  simpa using all _ h (by unfold isN; omega)

theorem markF_right (L : List Nd) (roots : List Int) : ∀ (f : Nat) (rest : List Int) (out res : List Bool), MI L roots rest out → markF L f rest out = some res →
    res.length = L.length ∧ ∀ k, k < L.length → (res.getD k false = true ↔ Reach L roots (k : Int))
  | 0, _, _, _, _, h => by simp [markF] at h
  | f + 1, rest, out, res, M, h => by
    unfold markF at h
    rcases nil_or_snoc rest with rfl | ⟨init, r, rfl⟩
    · simp at h
      subst h
      exact ⟨M.len, fun k hk => M.done k hk⟩
    · simp only [List.getLast?_append, List.getLast?_singleton, Option.some_or, List.dropLast_concat] at h
      by_cases hc : isN L r ∧ out.getD r.toNat false = false
      · rw [if_pos hc] at h
        exact markF_right L roots f _ _ _ (M.mark hc.1) h
      · rw [if_neg hc] at h
        exact markF_right L roots f _ _ _ (M.skip hc) h

theorem MI.start (L : List Nd) (roots : List Int) : MI L roots roots (List.replicate L.length false) := by
  have hf : ∀ k, (List.replicate L.length false).getD k false = true → False := by
    intro k h
    simp [List.getD, List.getElem?_replicate] at h
    split at h <;> simp_all
  exact ⟨by simp, fun r hr => .root hr, fun k hk h => (hf k h).elim, fun r hr _ => .inr hr, fun k hk h => (hf k h).elim, fun k hk h => (hf k h).elim⟩

end Ar
end Go.Proofs.Ytiagkbmhfgdffaa

set_option linter.unusedVariables false
set_option linter.unusedSimpArgs false
namespace Go.Proofs.Ytiagkbmhfgdffaa
namespace Ar

theorem has_pre {L L' : List Nd} (h : L <+: L') {r : Int} (hr : has L r) : has L' r := by
  have := h.length_le
  exact ⟨hr.1, by have := hr.2; omega⟩
theorem getD_pre {L L' : List Nd} (h : L <+: L') {i : Nat} (hi : i < L.length) : L'.getD i ⟨0, 0, 0⟩ = L.getD i ⟨0, 0, 0⟩ := by
  obtain ⟨M, rfl⟩ := h
  simp [List.getD, List.getElem?_append_left hi]
theorem nd_pre {L L' : List Nd} (h : L <+: L') {r : Int} (hr : r < L.length) : nd L' r = nd L r := by
  unfold nd
  by_cases h0 : 0 ≤ r
  · rw [if_pos h0, if_pos h0, getD_pre h (by omega)]
  · rw [if_neg h0, if_neg h0]
theorem var_pre {L L' : List Nd} (h : L <+: L') {r : Int} (hr : r < L.length) : var L' r = var L r := by
  have hl := h.length_le
  unfold var
  by_cases h0 : 0 ≤ r
  · rw [if_pos (show isN L' r from ⟨h0, by omega⟩), if_pos (show isN L r from ⟨h0, hr⟩), nd_pre h hr]
  · rw [if_neg (show ¬ isN L' r from fun c => h0 c.1), if_neg (show ¬ isN L r from fun c => h0 c.1)]
theorem ordered_pre {L L' : List Nd} (h : L <+: L') {v lo hi : Int} (ho : ordered L v lo hi) : ordered L' v lo hi := by
  obtain ⟨h1, h2, h3, h4⟩ := ho
  exact ⟨has_pre h h1, has_pre h h2, by rw [var_pre h h1.2]; exact h3, by rw [var_pre h h2.2]; exact h4⟩
theorem idx_pre {L L' : List Nd} (h : L <+: L') {n : Nd} (hn : n ∈ L) : L'.idxOf n = L.idxOf n := by
  obtain ⟨M, rfl⟩ := h
  rw [List.idxOf_append, if_pos hn]

/-- The ways of mk. -/
theorem mk_cases (lim : Int) (L : List Nd) (v lo hi : Int) :
    (∃ n, n ≠ 0 ∧ mk lim L v lo hi = (L, 0, n)) ∨ (0 ≤ v ∧ v < 12 ∧ ordered L v lo hi ∧
      ((lo = hi ∧ mk lim L v lo hi = (L, lo, 0)) ∨
       (lo ≠ hi ∧ (⟨v, lo, hi⟩ : Nd) ∈ L ∧ mk lim L v lo hi = (L, ((L.idxOf (⟨v, lo, hi⟩ : Nd) : Nat) : Int), 0)) ∨
       (lo ≠ hi ∧ (⟨v, lo, hi⟩ : Nd) ∉ L ∧ ¬ lim ≤ L.length ∧ mk lim L v lo hi = (L ++ [⟨v, lo, hi⟩], (L.length : Int), 0)))) := by
  unfold mk
  by_cases hv : v < 0 ∨ 12 ≤ v
  · exact .inl ⟨52, by decide, by rw [if_pos hv]⟩
  · by_cases ho : ordered L v lo hi
    · rw [if_neg hv, if_neg (fun h => h ho)]
      by_cases he : lo = hi
      · exact .inr ⟨by omega, by omega, ho, .inl ⟨he, by rw [if_pos he]⟩⟩
      · rw [if_neg he]
        by_cases hm : (⟨v, lo, hi⟩ : Nd) ∈ L
        · exact .inr ⟨by omega, by omega, ho, .inr (.inl ⟨he, hm, by rw [if_pos hm]⟩)⟩
        · rw [if_neg hm]
          by_cases hl : lim ≤ L.length
          · exact .inl ⟨50, by decide, by rw [if_pos hl]⟩
          · exact .inr ⟨by omega, by omega, ho, .inr (.inr ⟨he, hm, hl, by rw [if_neg hl]⟩)⟩
    · exact .inl ⟨51, by decide, by rw [if_neg hv, if_pos ho]⟩

theorem mk_prefix (lim : Int) (L : List Nd) (v lo hi : Int) : L <+: (mk lim L v lo hi).1 := by
  rcases mk_cases lim L v lo hi with ⟨n, _, h⟩ | ⟨_, _, _, ⟨_, h⟩ | ⟨_, _, h⟩ | ⟨_, _, _, h⟩⟩ <;> rw [h]
  · exact List.prefix_refl _
  · exact List.prefix_refl _
  · exact List.prefix_refl _
  · exact List.prefix_append _ _
theorem mk_length (lim : Int) (L : List Nd) (v lo hi : Int) : (mk lim L v lo hi).1.length ≤ L.length + 1 := by
  rcases mk_cases lim L v lo hi with ⟨n, _, h⟩ | ⟨_, _, _, ⟨_, h⟩ | ⟨_, _, h⟩ | ⟨_, _, _, h⟩⟩ <;> rw [h] <;> simp
theorem mk_mono {lim : Int} {L L' : List Nd} {v lo hi x : Int} (h : mk lim L v lo hi = (L, x, 0)) (hp : L <+: L') : mk lim L' v lo hi = (L', x, 0) := by
  rcases mk_cases lim L v lo hi with ⟨n, hn, e⟩ | ⟨h1, h2, ho, ⟨he, e⟩ | ⟨he, hm, e⟩ | ⟨he, hm, hl, e⟩⟩
  · rw [e] at h; cases h; exact absurd rfl hn
  · rw [e] at h; cases h
    unfold mk
    rw [if_neg (by omega), if_neg (fun c => c (ordered_pre hp ho)), if_pos he]
  · rw [e] at h; cases h
    unfold mk
    rw [if_neg (by omega), if_neg (fun c => c (ordered_pre hp ho)), if_neg he, if_pos (hp.subset hm), idx_pre hp hm]
  · rw [e] at h
    have := congrArg (fun p => p.1.length) h
    simp at this
theorem mk_idem {lim : Int} {L L' : List Nd} {v lo hi x : Int} (h : mk lim L v lo hi = (L', x, 0)) : mk lim L' v lo hi = (L', x, 0) := by
  rcases mk_cases lim L v lo hi with ⟨n, hn, e⟩ | ⟨h1, h2, ho, ⟨he, e⟩ | ⟨he, hm, e⟩ | ⟨he, hm, hl, e⟩⟩
  · rw [e] at h; cases h; exact absurd rfl hn
  · rw [e] at h; cases h; exact e
  · rw [e] at h; cases h; exact e
  · rw [e] at h; cases h
    unfold mk
    rw [if_neg (by omega), if_neg (fun c => c (ordered_pre (List.prefix_append _ _) ho)), if_neg he, if_pos (by simp)]
    rw [List.idxOf_append, if_neg hm]
    simp
theorem mk_err {lim : Int} {L : List Nd} {v lo hi : Int} (h : (mk lim L v lo hi).2.2 ≠ 0) : mk lim L v lo hi = (L, 0, (mk lim L v lo hi).2.2) := by
  rcases mk_cases lim L v lo hi with ⟨n, hn, e⟩ | ⟨h1, h2, ho, ⟨he, e⟩ | ⟨he, hm, e⟩ | ⟨he, hm, hl, e⟩⟩
  · rw [e]
  · rw [e] at h; exact absurd rfl h
  · rw [e] at h; exact absurd rfl h
  · rw [e] at h; exact absurd rfl h

/-- A diagram moved: by so many steps down. -/
def mv (lim : Int) (La : List Nd) : Nat → List Nd → Int → List Nd × Int × Int
  | 0, Lt, f => (Lt, f, 0)
  | n + 1, Lt, f =>
    if isN La f then
      if (mv lim La n Lt (nd La f).l).2.2 ≠ 0 then ((mv lim La n Lt (nd La f).l).1, 0, (mv lim La n Lt (nd La f).l).2.2) else
      if (mv lim La n (mv lim La n Lt (nd La f).l).1 (nd La f).h).2.2 ≠ 0 then
        ((mv lim La n (mv lim La n Lt (nd La f).l).1 (nd La f).h).1, 0, (mv lim La n (mv lim La n Lt (nd La f).l).1 (nd La f).h).2.2) else
      mk lim (mv lim La n (mv lim La n Lt (nd La f).l).1 (nd La f).h).1 (nd La f).v (mv lim La n Lt (nd La f).l).2.1 (mv lim La n (mv lim La n Lt (nd La f).l).1 (nd La f).h).2.1
    else (Lt, f, 0)

theorem mv_not {lim : Int} {La : List Nd} {n : Nat} {Lt : List Nd} {f : Int} (h : ¬ isN La f) : mv lim La n Lt f = (Lt, f, 0) := by
  cases n with
  | zero => rfl
  | succ n => unfold mv; rw [if_neg h]

theorem ok_child {La : List Nd} (ok : Ok La) {f : Int} (h : isN La f) :
    0 ≤ (nd La f).v ∧ (nd La f).v < 12 ∧ (nd La f).l ≠ (nd La f).h ∧ low ≤ (nd La f).l ∧ (nd La f).l < f ∧ low ≤ (nd La f).h ∧ (nd La f).h < f ∧ (nd La f).v < var La (nd La f).l ∧ (nd La f).v < var La (nd La f).h := by
  obtain ⟨h0, h1⟩ := h
  have hl : f.toNat < La.length := by omega
  have e : nd La f = La[f.toNat] := by unfold nd; rw [if_pos h0]; simp [List.getD, hl]
  have := ok.each f.toNat hl
  rw [e]
  refine ⟨this.1, this.2.1, this.2.2.1, this.2.2.2.1, by omega, this.2.2.2.2.2.1, by omega, this.2.2.2.2.2.2.2.1, this.2.2.2.2.2.2.2.2⟩

theorem mv_stable {lim : Int} {La : List Nd} (ok : Ok La) : ∀ (n m : Nat) (Lt : List Nd) (f : Int), f < n → f < m → mv lim La n Lt f = mv lim La m Lt f
  | 0, m, Lt, f, h, _ => by rw [mv_not (n := m) (fun c => by have := c.1; omega)]; rfl
  | n + 1, 0, Lt, f, _, h => by rw [mv_not (n := n + 1) (fun c => by have := c.1; omega)]; rfl
  | n + 1, m + 1, Lt, f, h1, h2 => by
    by_cases hf : isN La f
    · have hc := ok_child ok hf
      unfold mv
      rw [if_pos hf, if_pos hf]
      have el := mv_stable (lim := lim) ok n m Lt (nd La f).l (by omega) (by omega)
      rw [← el, ← mv_stable ok n m (mv lim La n Lt (nd La f).l).1 (nd La f).h (by omega) (by omega)]
    · rw [mv_not hf, mv_not hf]

theorem mv_prefix {lim : Int} {La : List Nd} : ∀ (n : Nat) (Lt : List Nd) (f : Int), Lt <+: (mv lim La n Lt f).1
  | 0, Lt, f => List.prefix_refl _
  | n + 1, Lt, f => by
    unfold mv
    have p1 := mv_prefix (lim := lim) (La := La) n Lt (nd La f).l
    have p2 := mv_prefix (lim := lim) (La := La) n (mv lim La n Lt (nd La f).l).1 (nd La f).h
    split
    · split
      · exact p1
      · split
        · exact p1.trans p2
        · exact (p1.trans p2).trans (mk_prefix _ _ _ _ _)
    · exact List.prefix_refl _

/-- What one way through a node comes to. -/
theorem mv_node {lim : Int} {La : List Nd} {n : Nat} {Lt : List Nd} {f : Int} (hf : isN La f) {L1 L2 : List Nd} {x1 x2 : Int} (h1 : mv lim La n Lt (nd La f).l = (L1, x1, 0)) (h2 : mv lim La n L1 (nd La f).h = (L2, x2, 0)) :
    mv lim La (n + 1) Lt f = mk lim L2 (nd La f).v x1 x2 := by
  unfold mv
  rw [if_pos hf, h1]
  simp only [ne_eq, not_true_eq_false, if_false]
  rw [h2]
  simp
theorem mv_low {lim : Int} {La : List Nd} {n : Nat} {Lt : List Nd} {f : Int} (hf : isN La f) {L1 : List Nd} {x1 e : Int} (h1 : mv lim La n Lt (nd La f).l = (L1, x1, e)) (he : e ≠ 0) : mv lim La (n + 1) Lt f = (L1, 0, e) := by
  unfold mv
  rw [if_pos hf, h1]
  simp [he]
theorem mv_high {lim : Int} {La : List Nd} {n : Nat} {Lt : List Nd} {f : Int} (hf : isN La f) {L1 L2 : List Nd} {x1 x2 e : Int} (h1 : mv lim La n Lt (nd La f).l = (L1, x1, 0)) (h2 : mv lim La n L1 (nd La f).h = (L2, x2, e)) (he : e ≠ 0) :
    mv lim La (n + 1) Lt f = (L2, 0, e) := by
  unfold mv
  rw [if_pos hf, h1]
  simp only [ne_eq, not_true_eq_false, if_false]
  rw [h2]
  simp [he]
/-- .. and back. -/
theorem mv_inv {lim : Int} {La : List Nd} {n : Nat} {Lt L' : List Nd} {f x : Int} (hf : isN La f) (h : mv lim La (n + 1) Lt f = (L', x, 0)) :
    ∃ L1 L2 x1 x2, mv lim La n Lt (nd La f).l = (L1, x1, 0) ∧ mv lim La n L1 (nd La f).h = (L2, x2, 0) ∧ mk lim L2 (nd La f).v x1 x2 = (L', x, 0) := by
  rcases h1 : mv lim La n Lt (nd La f).l with ⟨L1, x1, e1⟩
  by_cases he1 : e1 = 0
  · subst he1
    rcases h2 : mv lim La n L1 (nd La f).h with ⟨L2, x2, e2⟩
    by_cases he2 : e2 = 0
    · subst he2
      exact ⟨L1, L2, x1, x2, rfl, h2, by rw [← mv_node hf h1 h2]; exact h⟩
    · rw [mv_high hf h1 h2 he2] at h; cases h; exact absurd rfl he2
  · rw [mv_low hf h1 he1] at h; cases h; exact absurd rfl he1

theorem mv_mono {lim : Int} {La : List Nd} : ∀ (n : Nat) (Lt L' : List Nd) (f x : Int), mv lim La n Lt f = (Lt, x, 0) → Lt <+: L' → mv lim La n L' f = (L', x, 0)
  | 0, Lt, L', f, x, h, _ => by simp [mv] at h; simp [mv, h]
  | n + 1, Lt, L', f, x, h, hp => by
    by_cases hf : isN La f
    · obtain ⟨L1, L2, x1, x2, h1, h2, h3⟩ := mv_inv hf h
      have q1 : Lt <+: L1 := by have := mv_prefix (lim := lim) (La := La) n Lt (nd La f).l; rw [h1] at this; exact this
      have q2 : L1 <+: L2 := by have := mv_prefix (lim := lim) (La := La) n L1 (nd La f).h; rw [h2] at this; exact this
      have q3 : L2 <+: Lt := by have := mk_prefix lim L2 (nd La f).v x1 x2; rw [h3] at this; exact this
      have e1 : L1 = Lt := (q1.eq_of_length (by have := q1.length_le; have := q2.length_le; have := q3.length_le; omega)).symm
      subst e1
      have e2 : L2 = L1 := (q2.eq_of_length (by have := q2.length_le; have := q3.length_le; omega)).symm
      subst e2
      rw [mv_node hf (mv_mono n _ L' _ _ h1 hp) (mv_mono n _ L' _ _ h2 hp)]
      exact mk_mono h3 hp
    · rw [mv_not hf] at h ⊢; cases h; rfl

theorem mv_idem {lim : Int} {La : List Nd} : ∀ (n : Nat) (Lt L' : List Nd) (f x : Int), mv lim La n Lt f = (L', x, 0) → mv lim La n L' f = (L', x, 0)
  | 0, Lt, L', f, x, h => by simp [mv] at h; simp [mv, h]
  | n + 1, Lt, L', f, x, h => by
    by_cases hf : isN La f
    · obtain ⟨L1, L2, x1, x2, h1, h2, h3⟩ := mv_inv hf h
      have q2 : L1 <+: L2 := by have := mv_prefix (lim := lim) (La := La) n L1 (nd La f).h; rw [h2] at this; exact this
      have q3 : L2 <+: L' := by have := mk_prefix lim L2 (nd La f).v x1 x2; rw [h3] at this; exact this
      rw [mv_node hf (mv_mono n _ L' _ _ (mv_idem n _ _ _ _ h1) (q2.trans q3)) (mv_mono n _ L' _ _ (mv_idem n _ _ _ _ h2) q3)]
      exact mk_idem h3
    · rw [mv_not hf] at h ⊢; cases h; rfl

/-- How many nodes may come. -/
def cost (La : List Nd) (f : Int) : Nat := 2 ^ (12 - (var La f).toNat) - 1
theorem two_pow_pos (n : Nat) : 0 < 2 ^ n := Nat.pos_of_ne_zero (by simp)
theorem cost_not {La : List Nd} {f : Int} (h : ¬ isN La f) : cost La f = 0 := by simp [cost, var, h]
theorem cost_node {La : List Nd} (ok : Ok La) {f : Int} (h : isN La f) : cost La (nd La f).l + cost La (nd La f).h + 1 ≤ cost La f := by
  have hc := ok_child ok h
  have hv : var La f = (nd La f).v := by simp [var, h]
  have step : ∀ c : Int, (nd La f).v < c → 2 ^ (12 - c.toNat) ≤ 2 ^ (12 - (nd La f).v.toNat - 1) := fun c hcc => Nat.pow_le_pow_right (by decide) (by omega)
  have h1 := step _ hc.2.2.2.2.2.2.2.1
  have h2 := step _ hc.2.2.2.2.2.2.2.2
  have h3 : 2 ^ (12 - (nd La f).v.toNat) = 2 * 2 ^ (12 - (nd La f).v.toNat - 1) := by
    rw [← Nat.pow_succ']
    congr 1
    omega
  have p1 := two_pow_pos (12 - (var La (nd La f).l).toNat)
  have p2 := two_pow_pos (12 - (var La (nd La f).h).toNat)
  unfold cost
  rw [hv]
  omega
theorem cost_le (La : List Nd) (f : Int) : cost La f ≤ 4095 := by
  have : 2 ^ (12 - (var La f).toNat) ≤ 2 ^ 12 := Nat.pow_le_pow_right (by decide) (by omega)
  unfold cost
  omega
theorem mv_length {lim : Int} {La : List Nd} (ok : Ok La) : ∀ (n : Nat) (Lt : List Nd) (f : Int), (mv lim La n Lt f).1.length ≤ Lt.length + cost La f
  | 0, Lt, f => by simp [mv]
  | n + 1, Lt, f => by
    by_cases hf : isN La f
    · have hc := cost_node ok hf
      have l1 := mv_length (lim := lim) ok n Lt (nd La f).l
      have l2 := mv_length (lim := lim) ok n (mv lim La n Lt (nd La f).l).1 (nd La f).h
      unfold mv
      rw [if_pos hf]
      split
      · show (mv lim La n Lt (nd La f).l).1.length ≤ _; omega
      · split
        · show (mv lim La n (mv lim La n Lt (nd La f).l).1 (nd La f).h).1.length ≤ _; omega
        · have := mk_length lim (mv lim La n (mv lim La n Lt (nd La f).l).1 (nd La f).h).1 (nd La f).v (mv lim La n Lt (nd La f).l).2.1 (mv lim La n (mv lim La n Lt (nd La f).l).1 (nd La f).h).2.1
          omega
    · rw [mv_not hf]; simp

end Ar
end Go.Proofs.Ytiagkbmhfgdffaa

set_option linter.unusedVariables false
set_option linter.unusedSimpArgs false
namespace Go.Proofs.Ytiagkbmhfgdffaa
open Go.RowKit Go.Deep
theorem Below.push {B : Nat} {a w : World} (h : Below B a w) (h0 : B ≤ a.heap.size) (o : Obj) : Below B a (w.alloc o) := h.alloc (Nat.le_trans h0 h.size) o
theorem Below.drewN' {B : Nat} {a w : World} (h : Below B a w) (n : Nat) : Below B a (w.drewN n) := ⟨h.os, h.tape, h.output, h.size, h.block⟩
theorem Below.seq {B : Nat} {a w w' : World} (h : Below B a w) (h0 : B ≤ a.heap.size) (k : Below w.heap.size w w') : Below B a w' := h.trans (k.mono (Nat.le_trans h0 h.size))
theorem seq {w w1 w2 : World} (h : Below w.heap.size w w1) (k : Below w1.heap.size w1 w2) : Below w.heap.size w w2 := h.trans (k.mono h.size)
theorem cell_below {w w' : World} {a : Addr} {v : Value} (hb : Below w.heap.size w w') (h : w.cell? a = some v) : w'.cell? a = some v := (hb.cell (World.block_lt_of_cell? _ a h)).trans h
theorem cell_alloc {w : World} {a : Addr} {v : Value} (o : Obj) (h : w.cell? a = some v) : (w.alloc o).cell? a = some v := cell_below (Below.push (Below.refl w.heap.size w) (Nat.le_refl _) o) h
theorem cell_drew {w : World} {a : Addr} {v : Value} (h : w.cell? a = some v) : w.drew.cell? a = some v := h
theorem Below.seq_to {w wx w2 : World} (k : Below wx.heap.size wx w2) (h : Below w.heap.size w wx) : Below w.heap.size w w2 := h.trans (k.mono h.size)
/-- Where bits lead from a ref. -/
def Ar.wk (t : Int → Bool) (L : List Nd) : Nat → Int → Int
  | 0, r => r
  | f + 1, r => if Ar.isN L r then Ar.wk t L f (if t (Ar.nd L r).v then (Ar.nd L r).h else (Ar.nd L r).l) else r
theorem Ar.wk_not {t : Int → Bool} {L : List Nd} {r : Int} (h : ¬ Ar.isN L r) (f : Nat) : Ar.wk t L f r = r := by
  cases f with
  | zero => rfl
  | succ f => rw [Ar.wk, if_neg h]
def bt (n : Int) (v : Int) : Bool := Go.bits BinOp.and IntKind.u64 (n / 2 ^ v.toNat) 1 == 1

namespace Ar
variable {L L' La : List Nd} {lim : Int} {t : Int → Bool}
theorem wk_fuel (ok : Ok L) : ∀ (n m : Nat) (r : Int), r < n → r < m → wk t L n r = wk t L m r
  | 0, m, r, h, _ => by rw [wk_not (f := m) (fun c => by have := c.1; omega), wk_not (f := 0) (fun c => by have := c.1; omega)]
  | n + 1, 0, r, _, h => by rw [wk_not (f := n + 1) (fun c => by have := c.1; omega), wk_not (f := 0) (fun c => by have := c.1; omega)]
  | n + 1, m + 1, r, h1, h2 => by
    unfold wk
    by_cases hn : isN L r
    · have hc := ok_child ok hn
      rw [if_pos hn, if_pos hn]
      split
      · exact wk_fuel ok n m _ (by omega) (by omega)
      · exact wk_fuel ok n m _ (by omega) (by omega)
    · rw [if_neg hn, if_neg hn]
theorem wk_pre (ok : Ok L) (hp : L <+: L') : ∀ (n : Nat) (r : Int), r < L.length → wk t L' n r = wk t L n r
  | 0, r, _ => rfl
  | n + 1, r, h => by
    unfold wk
    have hl := hp.length_le
    by_cases hn : isN L r
    · have hc := ok_child ok hn
      have hn' : isN L' r := ⟨hn.1, by omega⟩
      rw [if_pos hn, if_pos hn', nd_pre hp h]
      split
      · exact wk_pre ok hp n _ (by omega)
      · exact wk_pre ok hp n _ (by omega)
    · have hn' : ¬ isN L' r := fun c => hn ⟨c.1, h⟩
      rw [if_neg hn, if_neg hn']
def walk (t : Int → Bool) (L : List Nd) (r : Int) : Int := wk t L (r.toNat + 1) r
theorem walk_pre (ok : Ok L) (hp : L <+: L') {r : Int} (h : r < L.length) : walk t L' r = walk t L r := wk_pre ok hp _ r h
theorem walk_not {r : Int} (h : ¬ isN L r) : walk t L r = r := wk_not h _
theorem walk_node (ok : Ok L) {r : Int} (h : isN L r) : walk t L r = if t (nd L r).v then walk t L (nd L r).h else walk t L (nd L r).l := by
  have hc := ok_child ok h
  have h0 := h.1
  unfold walk
  rw [wk, if_pos h]
  split
  · exact wk_fuel ok _ _ _ (by omega) (by omega)
  · exact wk_fuel ok _ _ _ (by omega) (by omega)

theorem mk_ok (ok : Ok L) (v lo hi : Int) : Ok (mk lim L v lo hi).1 := by
  rcases mk_cases lim L v lo hi with ⟨n, _, h⟩ | ⟨h1, h2, ho, ⟨_, h⟩ | ⟨_, _, h⟩ | ⟨hne, hm, _, h⟩⟩ <;> rw [h]
  · exact ok
  · exact ok
  · exact ok
  · exact ok_add ok h1 h2 ho hne hm
theorem mk_walk (ok : Ok L) {v lo hi x : Int} (h : mk lim L v lo hi = (L', x, 0)) : x < L'.length ∧ low ≤ x ∧ walk t L' x = if t v then walk t L' hi else walk t L' lo := by
  have ok' : Ok L' := by have := mk_ok (lim := lim) ok v lo hi; rw [h] at this; exact this
  have hlow : low < 0 := by decide
  rcases mk_cases lim L v lo hi with ⟨n, hn, e⟩ | ⟨h1, h2, ho, ⟨rfl, e⟩ | ⟨_, hm, e⟩ | ⟨hne, hm, _, e⟩⟩ <;> rw [e] at h <;> simp only [Prod.mk.injEq] at h
  · exact absurd h.2.2 hn
  · obtain ⟨rfl, rfl, _⟩ := h
    exact ⟨ho.1.2, ho.1.1, by simp⟩
  · obtain ⟨rfl, rfl, _⟩ := h
    have hi' := List.idxOf_lt_length_of_mem hm
    have hn : isN L ((L.idxOf (⟨v, lo, hi⟩ : Nd) : Nat) : Int) := ⟨by omega, by omega⟩
    have hnd : nd L ((L.idxOf (⟨v, lo, hi⟩ : Nd) : Nat) : Int) = ⟨v, lo, hi⟩ := by rw [nd_at hi', List.getElem_idxOf hi']
    refine ⟨by omega, by omega, ?_⟩
    rw [walk_node ok hn, hnd]
  · obtain ⟨rfl, rfl, _⟩ := h
    have hi' : L.length < (L ++ [(⟨v, lo, hi⟩ : Nd)]).length := by simp
    have hn : isN (L ++ [(⟨v, lo, hi⟩ : Nd)]) (L.length : Int) := ⟨by omega, by omega⟩
    have hnd : nd (L ++ [(⟨v, lo, hi⟩ : Nd)]) (L.length : Int) = ⟨v, lo, hi⟩ := by rw [nd_at hi']; simp
    refine ⟨by omega, by omega, ?_⟩
    rw [walk_node ok' hn, hnd]

/-- What a ref leads to does not hang on variables above it. -/
theorem walk_indep (ok : Ok L) (v : Int) (x : Bool) : ∀ (n : Nat) (r : Int), r < n → r < L.length → v < var L r → ∀ t, walk (fun i => if i = v then x else t i) L r = walk t L r
  | 0, r, h, _, _, t => by rw [walk_not (fun c => by have := c.1; omega), walk_not (fun c => by have := c.1; omega)]
  | n + 1, r, h, hl, hv, t => by
    by_cases hn : isN L r
    · have hc := ok_child ok hn
      have hvr : var L r = (nd L r).v := by unfold var; rw [if_pos hn]
      rw [walk_node ok hn, walk_node ok hn, if_neg (show ¬ (nd L r).v = v by omega)]
      rw [walk_indep ok v x n (nd L r).h (by omega) (by omega) (by omega) t, walk_indep ok v x n (nd L r).l (by omega) (by omega) (by omega) t]
    · rw [walk_not hn, walk_not hn]

theorem nd_inj (ok : Ok L) {r s : Int} (hr : isN L r) (hs : isN L s) (h : nd L r = nd L s) : r = s := by
  obtain ⟨i, rfl⟩ : ∃ i : Nat, r = i := ⟨r.toNat, by unfold isN at hr; omega⟩
  obtain ⟨j, rfl⟩ : ∃ j : Nat, s = j := ⟨s.toNat, by unfold isN at hs; omega⟩
  have hi : i < L.length := by unfold isN at hr; omega
  have hj : j < L.length := by unfold isN at hs; omega
  rw [nd_at hi, nd_at hj] at h
  have := (List.getElem_inj ok.nodup).1 h
  omega
theorem canon (ok : Ok L) : ∀ (n : Nat) (r s : Int), r < n → s < n → has L r → has L s → (∀ t, walk t L r = walk t L s) → r = s
  | 0, r, s, h1, h2, _, _, hw => by
    have := hw (fun _ => true)
    rwa [walk_not (fun c => by have := c.1; omega), walk_not (fun c => by have := c.1; omega)] at this
  | n + 1, r, s, h1, h2, hr, hs, hw => by
    have key : ∀ p q : Int, p < n + 1 → q < n + 1 → has L p → has L q → isN L p → var L p < var L q → (∀ t, walk t L p = walk t L q) → False := by
      intro p q hp hq hp' hq' hn hv hpq
      have hc := ok_child ok hn
      have hvp : var L p = (nd L p).v := by unfold var; rw [if_pos hn]
      have hside : ∀ (b : Bool), ∀ t, walk t L (if b then (nd L p).h else (nd L p).l) = walk t L q := by
        intro b t
        have h1 := hpq (fun i => if i = (nd L p).v then b else t i)
        rw [walk_node ok hn, if_pos rfl, walk_indep ok _ b (n + 1) q (by omega) hq'.2 (by omega)] at h1
        cases b
        · rw [← h1]; simp only [Bool.false_eq_true, if_false]
          exact (walk_indep ok (nd L p).v false (n + 1) _ (by omega) (by have := hp'.2; omega) (by omega) t).symm
        · rw [← h1]; simp only [if_true]
          exact (walk_indep ok (nd L p).v true (n + 1) _ (by omega) (by have := hp'.2; omega) (by omega) t).symm
      have hlh : (nd L p).l = (nd L p).h :=
        canon ok n _ _ (by omega) (by omega) ⟨hc.2.2.2.1, by have := hp'.2; omega⟩ ⟨hc.2.2.2.2.2.1, by have := hp'.2; omega⟩ (fun t => (hside false t).trans (hside true t).symm)
      exact hc.2.2.1 hlh
    have hvar : ∀ q, ¬ isN L q → var L q = 12 := fun q h => by unfold var; rw [if_neg h]
    by_cases hn : isN L r
    · have hvr : var L r = (nd L r).v := by unfold var; rw [if_pos hn]
      have hcr := ok_child ok hn
      by_cases hm : isN L s
      · have hvs : var L s = (nd L s).v := by unfold var; rw [if_pos hm]
        have hcs := ok_child ok hm
        rcases Int.lt_trichotomy (nd L r).v (nd L s).v with hlt | heq | hgt
        · exact (key r s h1 h2 hr hs hn (by omega) hw).elim
        · have hside : ∀ (b : Bool), ∀ t, walk t L (if b then (nd L r).h else (nd L r).l) = walk t L (if b then (nd L s).h else (nd L s).l) := by
            intro b t
            have h3 := hw (fun i => if i = (nd L r).v then b else t i)
            rw [walk_node ok hn, walk_node ok hm, if_pos rfl, if_pos heq.symm] at h3
            cases b
            · simp only [Bool.false_eq_true, if_false] at h3 ⊢
              rwa [walk_indep ok _ false (n + 1) _ (by omega) (by have := hr.2; omega) (by omega), walk_indep ok _ false (n + 1) _ (by omega) (by have := hs.2; omega) (by omega)] at h3
            · simp only [if_true] at h3 ⊢
              rwa [walk_indep ok _ true (n + 1) _ (by omega) (by have := hr.2; omega) (by omega), walk_indep ok _ true (n + 1) _ (by omega) (by have := hs.2; omega) (by omega)] at h3
          have el : (nd L r).l = (nd L s).l := canon ok n _ _ (by omega) (by omega) ⟨hcr.2.2.2.1, by have := hr.2; omega⟩ ⟨hcs.2.2.2.1, by have := hs.2; omega⟩ (fun t => by simpa using hside false t)
          have eh : (nd L r).h = (nd L s).h := canon ok n _ _ (by omega) (by omega) ⟨hcr.2.2.2.2.2.1, by have := hr.2; omega⟩ ⟨hcs.2.2.2.2.2.1, by have := hs.2; omega⟩ (fun t => by simpa using hside true t)
          exact nd_inj ok hn hm (by cases h : nd L r; cases h' : nd L s; simp_all)
        · exact (key s r h2 h1 hs hr hm (by omega) (fun t => (hw t).symm)).elim
      · exact (key r s h1 h2 hr hs hn (by rw [hvar s hm, hvr]; omega) hw).elim
    · by_cases hm : isN L s
      · have hvs : var L s = (nd L s).v := by unfold var; rw [if_pos hm]
        have hcs := ok_child ok hm
        exact (key s r h2 h1 hs hr hm (by rw [hvar r hn, hvs]; omega) (fun t => (hw t).symm)).elim
      · have := hw (fun _ => true)
        rwa [walk_not hn, walk_not hm] at this
end Ar
end Go.Proofs.Ytiagkbmhfgdffaa

set_option linter.unusedVariables false
set_option linter.unusedSimpArgs false
namespace Go.Proofs.Ytiagkbmhfgdffaa
open Go.RowKit Go.Deep
variable {w : World} {b : Nat} {lim : Int} {L : List Nd} {S : Nat → Prop}
set_option maxRecDepth 100000 in
set_option maxHeartbeats 2000000 in
theorem walk_any (A : Arena w b lim L S) (r bits : Int) :
    Calls Try.prog 35 #[.pointer (some ⟨b, 0, none⟩), .int .i64 r, .int .u64 bits] w fun e w' => e = .returned (.int .i64 (Ar.wk (bt bits) L (r.toNat + 1) r)) ∧ Below w.heap.size w w' := by
  have HA := Lib.hid A
  have HOK := Lib.hid A.ok
  clear A
  go_enter Try.func35, Try.ntmps35
  go_wp2_with fail
  go_loopg [1] (r.toNat + 1) (fun gk p wr => ∃ q : Int, p = .int .i64 q ∧ q < gk ∧ Hid (Ar.wk (bt bits) L gk q = Ar.wk (bt bits) L (r.toNat + 1) r) ∧ Hid (Below w.heap.size w wr))
  case atStart => exact ⟨r, rfl, by omega, Lib.hid rfl, Lib.hid (Below.refl _ _)⟩
  case round =>
    obtain ⟨q, rfl, hq, HW, HB⟩ := hrel
    have A1 := HA.out.below HB.out
    by_cases hn : Ar.isN L q
    · obtain ⟨gk, rfl⟩ : ∃ m, gk = m + 1 := ⟨gk - 1, by unfold Ar.isN at hn; omega⟩
      obtain ⟨k, rfl⟩ : ∃ k : Nat, q = k := ⟨q.toNat, by unfold Ar.isN at hn; omega⟩
      have hk : k < L.length := by unfold Ar.isN at hn; omega
      have he := HOK.out.each k hk
      have hv0 : 0 ≤ L[k].v := he.1
      have hv1 : L[k].v < 12 := he.2.1
      have hl : L[k].l < k := he.2.2.2.2.1
      have hh : L[k].h < k := he.2.2.2.2.2.2.1
      have hw := HW.out
      rw [Ar.wk, if_pos hn, Ar.nd_at hk] at hw
      have HW2 := Lib.hid hw
      clear hw he HW
      go_wp2_with fail
      refine (get_in A1 k hk).mono ?_
      rintro e w2 ⟨rfl, hb2⟩
      have HB3 := Lib.hid (Below.push (Below.seq HB.out (Nat.le_refl _) hb2) (Nat.le_refl _) (.cells #[.int .i64 L[k].v, .int .i64 L[k].l, .int .i64 L[k].h] 70))
      clear hb2 A1
      cases hb : bt bits L[k].v
      · rw [hb] at HW2
        have HW3 := Lib.hid (show Ar.wk (bt bits) L gk L[k].l = _ from HW2.out)
        unfold bt at hb
        clear HW2
        go_wp2_with fail
        go_roundg gk
        case measure => omega
        case rel => exact ⟨L[k].l, rfl, by omega, HW3, HB3⟩
      · rw [hb] at HW2
        have HW3 := Lib.hid (show Ar.wk (bt bits) L gk L[k].h = _ from HW2.out)
        unfold bt at hb
        clear HW2
        go_wp2_with fail
        go_roundg gk
        case measure => omega
        case rel => exact ⟨L[k].h, rfl, by omega, HW3, HB3⟩
    · have hw := HW.out
      rw [Ar.wk_not hn] at hw
      have HW2 := Lib.hid hw
      clear hw HW
      go_wp2_with fail
      refine (get_out A1 q hn).mono ?_
      rintro e w2 ⟨rfl, hb2⟩
      have hB := Below.push (Below.seq HB.out (Nat.le_refl _) hb2) (Nat.le_refl _) (.cells #[.int .i64 0, .int .i64 0, .int .i64 0] 70)
      have HB3 := Lib.hid hB
      clear hB hb2
      go_wp2_with fail
      go_ret
      exact ⟨ret_eq (show Value.int .i64 q = _ from by rw [HW2.out]), HB3.out⟩
end Go.Proofs.Ytiagkbmhfgdffaa
