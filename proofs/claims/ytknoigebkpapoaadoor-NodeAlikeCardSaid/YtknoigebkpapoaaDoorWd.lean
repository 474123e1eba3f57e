/- Words on worlds: which blocks a call may touch; cells out of blocks. -/
import Derived.Test.YtknoigebkpapoaaDoorNs
import Derived.WalkKit
import Derived.WalkSpells
import Derived.WalkLawsBesides
import Derived.Laws.Bits64
import Derived.Lib.Hide
import Derived.Maps.AppendAt
import Derived.Deep.LoopGhost
set_option linter.unusedVariables false
set_option linter.unusedSimpArgs false
namespace Go.Proofs.YtknoigebkpapoaaDoor
open Go.RowKit

/-- Of what was there when a call began, only the blocks of S may have turned. -/
structure Touch (w w' : World) (S : Nat → Prop) : Prop where
  os : w'.os = w.os
  tape : w'.tape = w.tape
  output : w'.output = w.output
  size : w.heap.size ≤ w'.heap.size
  block : ∀ k, k < w.heap.size → ¬ S k → w'.heap[k]? = w.heap[k]?

namespace Touch
variable {a w w' w'' : World} {S S' : Nat → Prop}
theorem refl (w : World) (S : Nat → Prop) : Touch w w S := ⟨rfl, rfl, rfl, Nat.le_refl _, fun _ _ _ => rfl⟩
theorem trans (h : Touch w w' S) (k : Touch w' w'' S') (hs : ∀ i, i < w.heap.size → S' i → S i) : Touch w w'' S :=
  ⟨k.os.trans h.os, k.tape.trans h.tape, k.output.trans h.output, Nat.le_trans h.size k.size,
    fun i hi hn => (k.block i (Nat.lt_of_lt_of_le hi h.size) (fun c => hn (hs i hi c))).trans (h.block i hi hn)⟩
theorem mono (h : Touch w w' S) (hs : ∀ i, i < w.heap.size → S i → S' i) : Touch w w' S' := ⟨h.os, h.tape, h.output, h.size, fun i hi hn => h.block i hi (fun c => hn (hs i hi c))⟩
theorem alloc (h : Touch a w S) (o : Obj) : Touch a (w.alloc o) S :=
  h.trans (S' := fun _ => False) ⟨rfl, rfl, rfl, by simp, fun k hk _ => Below.heap_alloc _ _ _ hk⟩ (fun _ _ c => c.elim)
theorem drew (h : Touch a w S) : Touch a w.drew S := ⟨h.os, h.tape, h.output, h.size, h.block⟩
theorem drewN (h : Touch a w S) (n : Nat) : Touch a (w.drewN n) S := ⟨h.os, h.tape, h.output, h.size, h.block⟩
theorem setCell (h : Touch a w S) {p : Addr} (hp : S p.block ∨ a.heap.size ≤ p.block) (u : Value) : Touch a (w.setCell p u) S :=
  h.trans (S' := fun k => k = p.block) ⟨rfl, rfl, rfl, by simp [World.setCell], fun k hk hn => Below.heap_setCell _ _ _ _ hn⟩ (fun i hi c => by subst c; exact hp.resolve_right (by omega))
theorem grown (h : Touch a w S) {row : Option Nat} (hg : w.grownBy w' row) (hr : ∀ k, row = some k → S k ∨ a.heap.size ≤ k) : Touch a w' S :=
  h.trans (S' := fun k => row = some k) ⟨hg.os, hg.tape, hg.output, hg.size, fun k hk hn => hg.block k hk (fun e => hn e.symm)⟩ (fun i hi c => (hr i c).resolve_right (by omega))
theorem of_below (h : Below w.heap.size w w') (S : Nat → Prop) : Touch w w' S := ⟨h.os, h.tape, h.output, h.size, fun k hk _ => h.block k hk⟩
theorem below (h : Touch w w' S) {B : Nat} (hB : B ≤ w.heap.size) (hs : ∀ k, k < B → ¬ S k) : Below B w w' := ⟨h.os, h.tape, h.output, h.size, fun k hk => h.block k (by omega) (hs k hk)⟩
theorem heap (h : Touch w w' S) {k : Nat} {o : Obj} (ho : w.heap[k]? = some o) (hn : ¬ S k) : w'.heap[k]? = some o :=
  (h.block k (Array.getElem?_eq_some_iff.1 ho).1 hn).trans ho
theorem step (h : Touch a w S) (k : Touch w w' S') (hs : ∀ i, i < a.heap.size → S' i → S i) : Touch a w' S := h.trans k hs
end Touch

theorem lt_of_heap {w : World} {k : Nat} {o : Obj} (h : w.heap[k]? = some o) : k < w.heap.size := (Array.getElem?_eq_some_iff.1 h).1
theorem cell_at {w : World} {b : Nat} {c : Array Value} {T : TypeId} {fr : Nat × Nat} (h : w.heap[b]? = some (.cells c T fr)) (j : Nat) {v : Value} (hv : c[j]? = some v) : w.cell? ⟨b, j, none⟩ = some v := by
  simp [World.cell?, h, hv]
theorem free_at {w : World} {b : Nat} {c : Array Value} {T : TypeId} (h : w.heap[b]? = some (.cells c T (0, 0))) (j : Nat) : w.frozen? ⟨b, j, none⟩ = false := by
  simp [World.frozen?, h]
theorem heap_setCell_same {w : World} {b j : Nat} {c : Array Value} {T : TypeId} {fr : Nat × Nat} (h : w.heap[b]? = some (.cells c T fr)) (v : Value) : (w.setCell ⟨b, j, none⟩ v).heap[b]? = some (.cells (c.setIfInBounds j v) T fr) := by
  simp [World.setCell, Array.getElem?_modify, h]
theorem heap_setCell_other {w : World} {b k : Nat} {o : Obj} (p : Addr) (h : w.heap[k]? = some o) (hb : p.block = b) (hn : k ≠ b) (v : Value) : (w.setCell p v).heap[k]? = some o := by
  rw [Below.heap_setCell _ _ _ _ (by omega)]; exact h
theorem heap_alloc_lt {w : World} {k : Nat} {o : Obj} (o' : Obj) (h : w.heap[k]? = some o) : (w.alloc o').heap[k]? = some o := by
  rw [Below.heap_alloc _ _ _ (lt_of_heap h)]; exact h
theorem ownsRow_touch {w w' : World} {S : Nat → Prop} {base : Nat} {e : TypeId} {size : Nat} {v : Value} {n : Nat} {xs : List Value} (h : w.ownsRow base e size v n xs) (t : Touch w w' S)
    (hs : ∀ k, v.ownBlock = some k → ¬ S k) : w'.ownsRow base e size v n xs := by
  refine ⟨h.1, ?_⟩
  rcases h.2 with hn | ⟨g, cap, cur, rfl, hb, hgg, rest⟩
  · exact .inl hn
  · exact .inr ⟨g, cap, cur, rfl, hb, t.heap hgg (hs g (by simp [Value.ownBlock])), rest⟩
theorem ret_eq {a b : Value} (h : a = b) : Ending.returned a = Ending.returned b := by rw [h]

theorem cell_set_ne {w : World} {p q : Addr} (u : Value) (h : q.block ≠ p.block) : (w.setCell p u).cell? q = w.cell? q :=
  World.cell?_of_block (w := w) (Below.heap_setCell _ _ _ _ h)
theorem cell_drewN_alloc {w : World} {b : Nat} (h : b < w.heap.size) (nq : Nat) (o : Obj) (j : Nat) : ((w.drewN nq).alloc o).cell? ⟨b, j, none⟩ = w.cell? ⟨b, j, none⟩ :=
  World.cell?_of_block (w := w) (Below.heap_alloc (w.drewN nq) o b h)
theorem frozen_drewN_alloc {w : World} {b : Nat} (h : b < w.heap.size) (nq : Nat) (o : Obj) (j : Nat) : ((w.drewN nq).alloc o).frozen? ⟨b, j, none⟩ = w.frozen? ⟨b, j, none⟩ :=
  World.frozen?_of_block (w := w) (Below.heap_alloc (w.drewN nq) o b h)

/-! slices of numbers that are read; rows that are appended to -/
/-- A value that reads as a slice of numbers. -/
def Ints (w : World) (v : Value) (xs : List Int) : Prop :=
  ∃ ao c, v = .slice ao xs.length c ∧ xs.length ≤ c ∧ c ≤ maxLen ∧ ∀ i (h : i < xs.length), ∃ b o, ao = some ⟨b, o, none⟩ ∧ w.cell? ⟨b, o + i, none⟩ = some (.int .i64 xs[i])
theorem Ints.touch {w w' : World} {v : Value} {xs : List Int} {S : Nat → Prop} (h : Ints w v xs) (t : Touch w w' S) (hs : ∀ k, k < w.heap.size → v.ownBlock = some k → ¬ S k) : Ints w' v xs := by
  obtain ⟨ao, c, rfl, h1, h2, h3⟩ := h
  refine ⟨ao, c, rfl, h1, h2, fun i hi => ?_⟩
  obtain ⟨b, o, rfl, hc⟩ := h3 i hi
  have hb := World.block_lt_of_cell? w _ hc
  exact ⟨b, o, rfl, (World.cell?_of_block (w := w) (t.block b hb (hs b hb (by simp [Value.ownBlock])))).trans hc⟩
theorem Ints.below {w w' : World} {v : Value} {xs : List Int} (h : Ints w v xs) (t : Below w.heap.size w w') : Ints w' v xs :=
  h.touch (Touch.of_below t (fun _ => False)) (fun _ _ _ c => c)

/-- What a source of an append holds. -/
def Src (w : World) (size : Nat) (x : Value) (m : Nat) (news : List Value) : Prop :=
  (∃ c, x = .slice none 0 c ∧ m = 0 ∧ news = []) ∨ ∃ ad c, x = .slice (some ad) m c ∧ news.length = m * size ∧ ∀ j u, news[j]? = some u → w.cell? (ad.add j) = some u
theorem add_at (b o j : Nat) : (⟨b, o, none⟩ : Addr).add j = ⟨b, o + j, none⟩ := by unfold Addr.add; split <;> simp_all
theorem Ints.src {w : World} {v : Value} {xs : List Int} (h : Ints w v xs) : Src w 1 v xs.length (xs.map (Value.int .i64)) := by
  obtain ⟨ao, c, rfl, h1, h2, h3⟩ := h
  cases ao with
  | none =>
    have : xs = [] := by
      cases xs with
      | nil => rfl
      | cons a l => obtain ⟨b, o, h, _⟩ := h3 0 (by simp); cases h
    subst this
    exact .inl ⟨c, rfl, rfl, rfl⟩
  | some ad =>
    refine .inr ⟨ad, c, rfl, by simp, fun j u hu => ?_⟩
    have hj : j < xs.length := by simpa using (List.getElem?_eq_some_iff.1 hu).1
    obtain ⟨b, o, he, hc⟩ := h3 j hj
    cases he
    rw [add_at, hc]
    simp [hj] at hu
    rw [hu]

theorem run_append_src {P : Program} (w : World) (base : Nat) (t ty e : TypeId) (i : TypeInfo) (z : Value) (size bytes : Nat) (ht : P.underlying t = some (.slice e)) (hi : P.info? e = some i) (hz : i.zero = some z)
    (hsize : i.size = size) (hby : i.bytes = bytes) (hzs : z.cells.size = size) (hsz : 0 < size)
    (v : Value) (n : Nat) (xs : List Value) (hown : w.ownsRow base e size v n xs) (x : Value) (m : Nat) (news : List Value) (hx : Src w size x m news) (h1 : ∀ u ∈ news, u.oneCell' = true)
    (h63 : n + m ≤ maxLen) (hbytes : (n + m) * bytes ≤ 140737488355328) (hbase : base ≤ w.heap.size) :
    ∃ v' w', (Builtin.append_ #[t, t] ty #[v, x]).run P w = .ok v' w' ∧ w'.ownsRow base e size v' (n + m) (xs ++ news) ∧ w.grownBy w' v.ownBlock ∧ (v' = .slice none 0 0 ↔ v = .slice none 0 0 ∧ m = 0) ∧
      (v'.ownBlock = v.ownBlock ∨ v'.ownBlock = some w.heap.size) := by
  rcases hx with ⟨c, rfl, rfl, rfl⟩ | ⟨ad, c, rfl, hl, hnews⟩
  · refine ⟨v, w, ?_, by simpa using hown, ⟨rfl, rfl, rfl, Nat.le_refl _, fun _ _ _ => rfl⟩, by simp, .inl rfl⟩
    rcases hown.2 with ⟨rfl, _⟩ | ⟨g, cap, cur, rfl, _, hg, hnc, _⟩
    · simp [Builtin.append_, run_underlying ht, sizeOf, typeInfo, hi, Builtin.lenOf, Builtin.firstCells, loadCells, loadCellsFrom]
    · simp [Builtin.append_, run_underlying ht, sizeOf, typeInfo, hi, Builtin.lenOf, Builtin.firstCells, loadCells, loadCellsFrom, hnc, storeCells]
  · obtain ⟨v', w', h⟩ := run_append_own_at (P := P) w base t ty e i z size bytes ht hi hz hsize hby hzs hsz v n xs hown ad m c news hl hnews h1 h63 hbytes hbase
    exact ⟨v', w', h.1, h.2.1, h.2.2.1, h.2.2.2.1, h.2.2.2.2⟩

/-- 'append(v, x...)' onto a row of the call's own, x from anywhere. -/
theorem wpList_append_src {P : Program} {w : World} {ops : Array Oper} {rest : List Oper} {o : Oper} {a : Act} {Q : Exit → Act → World → Prop} (hgd : o.guard = none) (s x : Operand) (t : TypeId)
    (ho : o.op = .call { callee := .builtin .append, args := #[s, x], argTypes := #[t, t] })
    (base : Nat) (e : TypeId) (i : TypeInfo) (z : Value) (size bytes : Nat) (ht : P.underlying t = some (.slice e)) (hi : P.info? e = some i) (hz : i.zero = some z)
    (hsize : i.size = size) (hby : i.bytes = bytes) (hzs : z.cells.size = size) (hsz : 0 < size)
    (v : Value) (n : Nat) (xs : List Value) (hs : a.eval s = v) (hown : w.ownsRow base e size v n xs)
    (xv : Value) (m : Nat) (news : List Value) (hx : a.eval x = xv) (hsrc : Src w size xv m news) (h1 : ∀ u ∈ news, u.oneCell' = true)
    (h63 : n + m ≤ maxLen) (hbytes : (n + m) * bytes ≤ 140737488355328) (hbase : base ≤ w.heap.size)
    (h : ∀ v' w', w'.ownsRow base e size v' (n + m) (xs ++ news) → w.grownBy w' v.ownBlock → (v' = .slice none 0 0 ↔ v = .slice none 0 0 ∧ m = 0) → (v'.ownBlock = v.ownBlock ∨ v'.ownBlock = some w.heap.size) →
      wpList P ops Q rest (a.put o.dst v') w') : wpList P ops Q (o :: rest) a w := by
  refine wpList_plain hgd fun K hK => ?_
  obtain ⟨v', w', hr, h2, h3, h4, h5⟩ := run_append_src (P := P) w base t o.type e i z size bytes ht hi hz hsize hby hzs hsz v n xs hown xv m news hsrc h1 h63 hbytes hbase
  unfold Oper.wp execOp
  simp only [ho, resolve, invoke, builtin, Sem.run_bind, Sem.run_pure, Result.andThen_ok, List.map_toArray, List.map_cons, List.map_nil, hs, hx, hr]
  exact hK _ _ (h v' w' h2 h3 h4 h5)

/-! arenas -/
def cellsOf (L : List Nd) : List Value := L.flatMap fun n => [.int .i64 n.v, .int .i64 n.l, .int .i64 n.h]
theorem cellsOf_length (L : List Nd) : (cellsOf L).length = L.length * 3 := by
  induction L with
  | nil => rfl
  | cons a l ih =>
    have e : cellsOf (a :: l) = [.int .i64 a.v, .int .i64 a.l, .int .i64 a.h] ++ cellsOf l := by simp [cellsOf]
    rw [e, List.length_append, ih]
    simp only [List.length_cons, List.length_nil]
    omega
theorem cellsOf_append (L : List Nd) (n : Nd) : cellsOf (L ++ [n]) = cellsOf L ++ [.int .i64 n.v, .int .i64 n.l, .int .i64 n.h] := by simp [cellsOf]
theorem cellsOf_get (L : List Nd) (k : Nat) (h : k < L.length) :
    (cellsOf L)[k * 3]? = some (.int .i64 L[k].v) ∧ (cellsOf L)[k * 3 + 1]? = some (.int .i64 L[k].l) ∧ (cellsOf L)[k * 3 + 2]? = some (.int .i64 L[k].h) := by
  induction L generalizing k with
  | nil => simp at h
  | cons a l ih =>
    cases k with
    | zero => simp [cellsOf]
    | succ k =>
      have := ih k (by simpa using h)
      have e : cellsOf (a :: l) = [.int .i64 a.v, .int .i64 a.l, .int .i64 a.h] ++ cellsOf l := by simp [cellsOf]
      rw [e, show (k + 1) * 3 = k * 3 + 3 from by omega]
      simpa [List.getElem?_append] using this


/-! the place where a node is looked for first -/
def hraw (v l h : Int) : Int := bits .xor .u64 (bits .xor .u64 (IntKind.u64.wrap ((v + 1) * 11400714819323198485)) (IntKind.u64.wrap (IntKind.u64.wrap l * 1425089352415399811))) (IntKind.u64.wrap (IntKind.u64.wrap h * 89068084525962489))
def hmix (v l h : Int) : Int := bits .xor .u64 (hraw v l h) (hraw v l h / 536870912)
def hsh (n : Nd) (k : Nat) : Nat := (hmix n.v n.l n.h).toNat % k
theorem bits_xor_nonneg (a b : Int) : 0 ≤ bits .xor .u64 a b := by
  show 0 ≤ IntKind.u64.wrap _
  rw [IntKind.wrap_u64]
  exact Int.emod_nonneg _ (by decide)
theorem hmix_place (n : Nd) (k : Nat) (h0 : 0 < k) (h1 : k ≤ 1000000000000) : wrap64 ((hmix n.v n.l n.h).tmod (k : Int)) = (hsh n k : Nat) := by
  have h := bits_xor_nonneg (hraw n.v n.l n.h) (hraw n.v n.l n.h / 536870912)
  have h' : 0 ≤ hmix n.v n.l n.h := h
  unfold hsh
  rw [Int.tmod_eq_emod_of_nonneg h']
  have := Int.emod_lt_of_pos (hmix n.v n.l n.h) (show (0 : Int) < k by omega)
  have := Int.emod_nonneg (hmix n.v n.l n.h) (show (k : Int) ≠ 0 by omega)
  unfold wrap64
  rw [Int.natCast_emod, Int.toNat_of_nonneg h']
  omega
theorem hsh_lt (n : Nd) (k : Nat) (h : 0 < k) : hsh n k < k := Nat.mod_lt _ h
theorem u64_nat (k : Nat) (h : k ≤ 1000000000000) : IntKind.u64.wrap (k : Int) = k := (IntKind.wrap_u64 _).trans (Int.emod_eq_of_lt (by omega) (by omega))

end Go.Proofs.YtknoigebkpapoaaDoor
