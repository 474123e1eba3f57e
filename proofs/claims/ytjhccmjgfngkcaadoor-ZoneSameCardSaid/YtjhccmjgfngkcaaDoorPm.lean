/- Texts of this claim, one behind the other: Zp, Zr, Za, Zo, Zq, Zs, Zu, Zy, St. -/
import Derived.Test.YtjhccmjgfngkcaaDoorRows
import Derived.RangeFuncCalls
import Derived.RangeFuncNested
import Derived.Deep.RegionHeld3
import Derived.OwnWalkIn
import Derived.TacticsInMore
import Derived.OrdersIn
import Derived.RangeFuncBound
import Derived.RangeFuncLeaves
import Derived.Shelf.Abstract
import Derived.Shelf.RegionOpen
import Derived.WalkKit
import Derived.LoopNIn
import Derived.LoopIn
import Derived.Deep.LoopGhost
import Derived.Lib.Walk
import Derived.Lib.SliceRun
import Derived.Lib.Hide
import Derived.Test.YtjhccmjgfngkcaaDoorWMore
import Derived.Test.YtjhccmjgfngkcaaDoorWFour
set_option linter.unusedVariables false
namespace Go.Proofs.YtjhccmjgfngkcaaDoor
namespace Zn
abbrev Mx := Nat → Nat → Int
/-- What two variables are apart at most (M: of one alone). -/
def most (M : Int) (i j : Nat) : Int := if i = j then 0 else if i = 0 ∨ j = 0 then M else 2 * M
def bad (M : Int) (m : Nat) (f : Mx) : Prop := ∃ i j, i < m ∧ j < m ∧ f i j < -most M i j
def good (M : Int) (m : Nat) (f : Mx) : Prop := ∀ i j, i < m → j < m → -most M i j ≤ f i j
theorem good_iff {M : Int} {m : Nat} {f : Mx} : good M m f ↔ ¬ bad M m f := by
  constructor
  · rintro h ⟨i, j, hi, hj, hb⟩; have := h i j hi hj; omega
  · intro h i j hi hj
    exact Int.not_lt.1 (fun c => h ⟨i, j, hi, hj, c⟩)
def fw (f : Mx) (k : Nat) : Mx := fun i j => min (f i j) (f i k + f k j)
def fws (f : Mx) : Nat → Mx
  | 0 => f
  | k + 1 => fw (fws f k) k
def sq (m : Nat) (f : Mx) : Mx := fun i j => (List.range m).foldl (fun a k => min a (f i k + f k j)) (f i j)
def sqs (m : Nat) (f : Mx) : Nat → Mx
  | 0 => f
  | r + 1 => sq m (sqs m f r)
theorem foldl_min_le (g : Nat → Int) : ∀ (l : List Nat) (a : Int), l.foldl (fun a k => min a (g k)) a ≤ a
  | [], _ => Int.le_refl _
  | x :: l, a => Int.le_trans (foldl_min_le g l _) (Int.min_le_left _ _)
theorem foldl_min_mem (g : Nat → Int) : ∀ (l : List Nat) (a : Int) (k : Nat), k ∈ l → l.foldl (fun a k => min a (g k)) a ≤ g k
  | x :: l, a, k, h => by
    rcases List.mem_cons.1 h with rfl | h
    · exact Int.le_trans (foldl_min_le g l _) (Int.min_le_right _ _)
    · exact foldl_min_mem g l _ k h
theorem le_foldl_min (g : Nat → Int) (t : Int) : ∀ (l : List Nat) (a : Int), t ≤ a → (∀ k ∈ l, t ≤ g k) → t ≤ l.foldl (fun a k => min a (g k)) a
  | [], a, h, _ => h
  | x :: l, a, h, hk => le_foldl_min g t l _ (by have := hk x (by simp); show t ≤ min a (g x); omega) (fun k h' => hk k (by simp [h']))
theorem sq_le (m : Nat) (f : Mx) (i j : Nat) : sq m f i j ≤ f i j := foldl_min_le _ _ _
theorem sq_le_via {m : Nat} (f : Mx) (i j : Nat) {k : Nat} (h : k < m) : sq m f i j ≤ f i k + f k j := foldl_min_mem (fun k => f i k + f k j) _ _ k (List.mem_range.2 h)
theorem le_sq {m : Nat} {f : Mx} {i j : Nat} {t : Int} (h : t ≤ f i j) (hk : ∀ k, k < m → t ≤ f i k + f k j) : t ≤ sq m f i j :=
  le_foldl_min (fun k => f i k + f k j) t _ _ h (fun k h => hk k (List.mem_range.1 h))
/-- Rounds of squaring are below the steps through one variable more. -/
theorem sqs_le_fws {m : Nat} (f : Mx) : ∀ k, k ≤ m → ∀ i j, sqs m f k i j ≤ fws f k i j
  | 0, _, _, _ => Int.le_refl _
  | k + 1, hk, i, j => by
    have h1 := sqs_le_fws (m := m) f k (by omega) i j
    have h2 := sqs_le_fws (m := m) f k (by omega) i k
    have h3 := sqs_le_fws (m := m) f k (by omega) k j
    have h4 := sq_le m (sqs m f k) i j
    have h5 := sq_le_via (m := m) (sqs m f k) i j (show k < m by omega)
    show sq m (sqs m f k) i j ≤ min (fws f k i j) (fws f k i k + fws f k k j)
    omega
theorem sqs_mono {m : Nat} (f : Mx) (i j : Nat) : ∀ (d r : Nat), sqs m f (r + d) i j ≤ sqs m f r i j
  | 0, _ => Int.le_refl _
  | d + 1, r => Int.le_trans (sq_le m _ i j) (sqs_mono f i j d r)
/-- What keeps the triangles and is below is below of all rounds. -/
def tri (m : Nat) (t : Mx) : Prop := ∀ i j k, i < m → j < m → k < m → t i j ≤ t i k + t k j
theorem le_sqs {m : Nat} {f t : Mx} (ht : tri m t) (h : ∀ i j, i < m → j < m → t i j ≤ f i j) : ∀ r i j, i < m → j < m → t i j ≤ sqs m f r i j
  | 0, i, j, hi, hj => h i j hi hj
  | r + 1, i, j, hi, hj => le_sq (le_sqs ht h r i j hi hj) (fun k hk => by
      have h1 := le_sqs ht h r i k hi hk
      have h2 := le_sqs ht h r k j hk hj
      have := ht i j k hi hj hk
      omega)
/-- Behind k steps the triangles through the first k hold, while no way back to itself is below nothing. -/
theorem fws_tri {m : Nat} {f : Mx} (hd : ∀ k, k < m → ∀ i, i < m → fws f k i i = 0) : ∀ k, k ≤ m → ∀ l, l < k → ∀ i j, i < m → j < m → fws f k i j ≤ fws f k i l + fws f k l j
  | 0, _, l, hl, _, _, _, _ => by omega
  | k + 1, hk, l, hl, i, j, hi, hj => by
    have hz := hd k (by omega) k (by omega)
    have ih := fws_tri hd k (by omega)
    show min (fws f k i j) (fws f k i k + fws f k k j) ≤ min (fws f k i l) (fws f k i k + fws f k k l) + min (fws f k l j) (fws f k l k + fws f k k j)
    by_cases e : l = k
    · subst e; omega
    · have hl' : l < k := by omega
      have h1 := ih l hl' i j hi hj
      have h2 := ih l hl' i k hi (by omega)
      have h3 := ih l hl' k j (by omega) hj
      have h4 := ih l hl' k k (by omega) (by omega)
      omega
theorem fws_le (f : Mx) (i j : Nat) : ∀ k, fws f k i j ≤ f i j
  | 0 => Int.le_refl _
  | k + 1 => by have := fws_le f i j k; show min (fws f k i j) _ ≤ _; omega
theorem fws_mono (f : Mx) (i j : Nat) : ∀ (d k : Nat), fws f (k + d) i j ≤ fws f k i j
  | 0, _ => Int.le_refl _
  | d + 1, k => by have := fws_mono f i j d k; show min (fws f (k + d) i j) _ ≤ _; omega
/-- THE TWO WAYS ANSWER ALIKE, WHERE THERE IS A POINT. -/
theorem close_good {M : Int} {m R : Nat} {f : Mx} (hm : m ≤ R) (hd : ∀ i, i < m → f i i ≤ 0) (h : ∀ k, k ≤ m → good M m (fws f k)) :
    (∀ r, good M m (sqs m f r)) ∧ ∀ i j, i < m → j < m → sqs m f R i j = fws f m i j := by
  have hz : ∀ k, k < m → ∀ i, i < m → fws f k i i = 0 := by
    intro k hk i hi
    have h1 := h k (by omega) i i hi hi
    have h2 := fws_le f i i k
    have h3 := hd i hi
    have h4 : most M i i = 0 := if_pos rfl
    omega
  have ht : tri m (fws f m) := fun i j k hi hj hk => fws_tri hz m (Nat.le_refl _) k hk i j hi hj
  have hb := le_sqs ht (fun i j _ _ => fws_le f i j m)
  refine ⟨fun r i j hi hj => Int.le_trans (h m (Nat.le_refl _) i j hi hj) (hb r i j hi hj), fun i j hi hj => Int.le_antisymm ?_ (hb R i j hi hj)⟩
  have h1 := sqs_mono (m := m) f i j (R - m) m
  rw [show m + (R - m) = R by omega] at h1
  exact Int.le_trans h1 (sqs_le_fws f m (Nat.le_refl _) i j)
/-- AND WHERE THERE IS NONE. -/
theorem close_bad {M : Int} {m : Nat} {f : Mx} {k : Nat} (hk : k ≤ m) (h : bad M m (fws f k)) : bad M m (sqs m f k) := by
  obtain ⟨i, j, hi, hj, hb⟩ := h
  exact ⟨i, j, hi, hj, Int.lt_of_le_of_lt (sqs_le_fws f k hk i j) hb⟩
end Zn
end Go.Proofs.YtjhccmjgfngkcaaDoor

set_option linter.unusedVariables false
namespace Go.Proofs.YtjhccmjgfngkcaaDoor
open Go Go.RowKit

section
variable {l n : Nat} {P : Program} {ops : Array Oper} {Q : Exit → Act → World → Prop}

theorem rowsIn_round {row : String} {args : Array Value} {w : World} {R : Value → World → Prop} (h : Rows P row args w R) : RowsIn (Fence.wide.inRound l) n P row args w R := by
  intro c cs hr
  obtain ⟨v, w', hv, hc⟩ := h c cs
  exact ⟨v, w', hv, stepsIn_wide.2 hc⟩

theorem oper_round {o : Oper} (hd : ∀ c, o.op ≠ .defer c) {a : Act} {w : World} {K : Act → World → Prop} (h : o.wp P a w K Q) : o.wpIn (Fence.wide.inRound l) n P a w K Q := by
  refine ⟨fun _ _ => trivial, ?_⟩
  rw [show (Fence.wide.inRound l).round = some l from rfl, Oper.semAt_some l _ o hd]
  unfold Oper.wp at h
  generalize (execOp a.eval o).run P w = r at h
  unfold Oper.upon at h
  unfold Oper.uponIn
  split at h
  · exact h
  · exact h
  · exact h
  · exact ⟨fun c => absurd (show Fence.wide.depth.isSome = true from c) (by decide), CallsIn.inRound l (callsIn_wide.2 h)⟩
  · exact ⟨fun c => absurd (show Fence.wide.depth.isSome = true from c) (by decide), rowsIn_round h⟩
  · exact h
  · exact h.elim

theorem op_round {i : Nat} (hd : ∀ o ∈ ops.toList, ∀ c, o.op ≠ .defer c) (hl : ¬ LetsOut Q) {a : Act} {w : World} {K : Act → World → Prop} (h : wpOp P ops Q i K a w) : wpOpIn (Fence.wide.inRound l) n P ops Q i K a w := by
  unfold wpOp at h
  unfold wpOpIn
  cases ho : ops[i]? with
  | none => simp only [ho] at h ⊢; exact h
  | some o =>
    have hm : o ∈ ops.toList := by obtain ⟨hi, rfl⟩ := Array.getElem?_eq_some_iff.1 ho; exact Array.getElem_mem_toList _
    simp only [ho] at h ⊢
    by_cases hw : Region.wanted o (yielded ops a.tmps) = true
    · rw [if_pos hw] at h ⊢
      rcases h with h | h
      · exact oper_round (hd o hm) h
      · exact absurd h.2 hl
    · rw [if_neg hw] at h ⊢
      exact ⟨fun _ _ => trivial, h⟩

theorem any_round {md : Region.Mode} (hd : ∀ o ∈ ops.toList, ∀ c, o.op ≠ .defer c) (hl : ¬ LetsOut Q) : ∀ (fuel : Nat) (listed : Array Bool) (a : Act) (w : World),
    wpAny P md ops Q fuel listed a w → wpAnyIn (Fence.wide.inRound l) n P md ops Q fuel listed a w
  | 0, _, _, _, h => h
  | fuel + 1, listed, a, w, h => ⟨h.1, fun i hi => wpOpIn_mono (fun a' w' h' => any_round hd hl fuel _ a' w' h') (op_round hd hl (h.2 i hi))⟩

/-- The region in a round, by the walk of a region anywhere. -/
theorem region_round {id : Nat} {a : Act} {w : World} (hm : P.follows .mixedOrders = true) (hd : ∀ o ∈ ops.toList, ∀ c, o.op ≠ .defer c) (hl : ¬ LetsOut Q)
    (h : wpAny P .any ops Q ops.size (Array.replicate ops.size false) a w.drew) : (Code.region id ops true).wpIn (Fence.wide.inRound l) n P Q a w :=
  wpIn_region_any hm (any_round hd hl _ _ _ _ h)
theorem region_held_round {S : World → Prop} {id : Nat} {a : Act} {w : World} (hm : P.follows .mixedOrders = true) (hd : ∀ o ∈ ops.toList, ∀ c, o.op ≠ .defer c) (hl : ¬ LetsOut Q) (hS : S w.drew)
    (h : S w.drew → wpAnyH P .any ops Q S ops.size (Array.replicate ops.size false) a w.drew) : (Code.region id ops true).wpIn (Fence.wide.inRound l) n P Q a w :=
  region_round hm hd hl (wpAny_of_held _ _ _ _ (h hS))
theorem hp_lt {w : World} {k : Nat} {o : Obj} (h : w.heap[k]? = some o) : k < w.heap.size := (Array.getElem?_eq_some_iff.1 h).1
theorem hp_cell {w : World} {b : Nat} {c : Array Value} {T : TypeId} {fr : Nat × Nat} (h : w.heap[b]? = some (.cells c T fr)) (j : Nat) {v : Value} (hv : c[j]? = some v) : w.cell? ⟨b, j, none⟩ = some v := by
  simp [World.cell?, h, hv]
theorem hp_free {w : World} {b : Nat} {c : Array Value} {T : TypeId} (h : w.heap[b]? = some (.cells c T (0, 0))) (j : Nat) : w.frozen? ⟨b, j, none⟩ = false := by
  simp [World.frozen?, h]
theorem hp_alloc {w : World} {k : Nat} {o : Obj} (o' : Obj) (h : w.heap[k]? = some o) : (w.alloc o').heap[k]? = some o := by
  rw [Below.heap_alloc _ _ _ (hp_lt h)]; exact h
theorem hp_other {w : World} {b k : Nat} {o : Obj} (p : Addr) (h : w.heap[k]? = some o) (hb : p.block = b) (hn : k ≠ b) (v : Value) : (w.setCell p v).heap[k]? = some o := by
  rw [Below.heap_setCell _ _ _ _ (by omega)]; exact h
theorem seq {w w1 w2 : World} (h : Below w.heap.size w w1) (k : Below w1.heap.size w1 w2) : Below w.heap.size w w2 := h.trans (k.mono h.size)
theorem cell_below {w w' : World} {p : Addr} {v : Value} (h : Below w.heap.size w w') (c : w.cell? p = some v) : w'.cell? p = some v := (h.cell (p := p) (World.block_lt_of_cell? w p c)).trans c
/-- No operation is a defer statement. -/
def noDefer (ops : Array Oper) : Bool := ops.toList.all fun o => match o.op with | .defer _ => false | _ => true
theorem noDefer_spec (h : noDefer ops = true) : ∀ o ∈ ops.toList, ∀ c, o.op ≠ .defer c := by
  intro o ho c e
  have := List.all_eq_true.1 h o ho
  rw [e] at this
  cases this
end
end Go.Proofs.YtjhccmjgfngkcaaDoor

set_option linter.unusedVariables false
set_option linter.unusedSimpArgs false
namespace Go.Proofs.YtjhccmjgfngkcaaDoor
open Go.RowKit Go.Shelf
attribute [local go_sem] Oper.semAt_some

namespace Zn
def upto {α : Type} (f : Nat → α) (k : Nat) : List α := (List.range k).map f
theorem upto_succ {α : Type} (f : Nat → α) (k : Nat) : upto f (k + 1) = upto f k ++ [f k] := by simp [upto, List.range_succ]
theorem upto_length {α : Type} (f : Nat → α) (k : Nat) : (upto f k).length = k := by simp [upto]
theorem upto_take {α : Type} (f : Nat → α) {k n : Nat} (h : k ≤ n) : upto f k <+: upto f n := by
  obtain ⟨d, rfl⟩ := Nat.exists_eq_add_of_le h
  unfold upto
  rw [List.range_add, List.map_append]
  exact List.prefix_append _ _
/-- The pair that stands at a place. -/
def ix (m : Nat) (h : 0 < m) (j : Nat) : Fin (m * m) := ⟨j % (m * m), Nat.mod_lt _ (Nat.mul_pos h h)⟩
def row (m x : Nat) : Int := ((x / m : Nat) : Int)
def col (m x : Nat) : Int := ((x % m : Nat) : Int)
def enc (m : Nat) (x : Fin (m * m)) : Array Value := #[.int .i64 (x.val : Int), .agg #[.int .i64 (row m x.val), .int .i64 (col m x.val)]]
/-- A round keeps the box of the zone. -/
def Keeps (Bz : Nat) (W W' : World) : Prop := W'.heap[Bz]? = W.heap[Bz]?
theorem Keeps.t {Bz : Nat} {A B C : World} (h : Keeps Bz A B) (k : Keeps Bz B C) : Keeps Bz A C := Eq.trans k h
end Zn

set_option maxRecDepth 100000 in
set_option maxHeartbeats 2000000 in
theorem all1_in (n : Nat) (hn : 1 ≤ n) (l Bz m : Nat) (hm : 0 < m) (hm7 : m ≤ 7) (J Jx : List (Fin (m * m)) → World → Prop) (hJd : ∀ s W, J s W → J s W.drew)
    (hY : ∀ pre x W, J pre W → pre.length < m * m → YieldAt Fence.wide (n - 1) Tryd.prog l (Zn.enc m x) W fun e W' =>
      (e = .returned (.bool true) ∧ J (pre ++ [x]) W' ∧ Zn.Keeps Bz W W') ∨ (e = .returned (.bool false) ∧ Jx (pre ++ [x]) W'))
    (W : World) (hB : W.cell? ⟨Bz, 0, none⟩ = some (.int .i64 ((m : Int) - 1))) (h0 : J [] W) :
    CallsIn Fence.wide n Tryd.prog 97 #[.func (.yield l) #[] #[], .pointer (some ⟨Bz, 0, none⟩)] W fun e W' => (∃ v, e = .returned v) ∧
      ((∃ ys, ys = Zn.upto (Zn.ix m hm) (m * m) ∧ J ys W') ∨ (∃ pre, (∃ k, k ≤ m * m ∧ pre = Zn.upto (Zn.ix m hm) k) ∧ Jx pre W')) := by
  have hw1 : IntKind.i64.wrap ((m : Int) - 1 + 1) = m := by rw [IntWalk.i64_in _ (by omega)]; omega
  have hw0 : IntKind.i64.wrap (m : Int) = m := IntWalk.i64_in _ (by omega)
  have hmm : m * m ≤ 49 := Nat.mul_le_mul hm7 hm7
  have hmi : ((m * m : Nat) : Int) = (m : Int) * m := Int.natCast_mul m m
  have hw2 : IntKind.i64.wrap ((m : Int) * m) = ((m * m : Nat) : Int) := by rw [← hmi]; exact IntWalk.i64_in _ (by omega)
  have hmix : Tryd.prog.follows .mixedOrders = true := by kernel_rfl
  refine callsIn_of_wp Tryd.func97 rfl trivial ?_
  simp only [Tryd.ntmps97, List.size_toArray, List.length_cons, List.length_nil, Nat.reduceAdd, Nat.reduceSub, Array.replicate_succ, Array.replicate_zero, List.push_toArray, List.append_toArray, List.nil_append, List.cons_append]
  gi_wp2
  gi_loopw [11] (fun i wr => ∃ k : Nat, k ≤ m * m ∧ i = .int .i64 k ∧ J (Zn.upto (Zn.ix m hm) k) wr ∧ wr.cell? ⟨Bz, 0, none⟩ = some (.int .i64 ((m : Int) - 1)))
    (fun i _ => m * m - (intOf i).toNat)
  case atStart => exact ⟨0, Nat.zero_le _, rfl, h0, hB⟩
  case round =>
    obtain ⟨k, hk, rfl, hJs, hB2⟩ := hrel
    by_cases hlt : k < m * m
    · obtain ⟨fn, tmps, assign, body, hy, hR⟩ := hY _ (Zn.ix m hm k) wr.drew (hJd _ _ hJs) (by rw [Zn.upto_length]; exact hlt)
      obtain ⟨q, hq⟩ : ∃ q : Int, (k : Int) / (m : Int) = q := ⟨_, rfl⟩
      obtain ⟨r, hr⟩ : ∃ r : Int, (k : Int).tmod (m : Int) = r := ⟨_, rfl⟩
      have he : Zn.enc m (Zn.ix m hm k) = #[.int .i64 (k : Int), .agg #[.int .i64 q, .int .i64 r]] := by
        have e : (Zn.ix m hm k).val = k := Nat.mod_eq_of_lt hlt
        unfold Zn.enc Zn.row Zn.col
        rw [e, ← hq, ← hr, Int.natCast_ediv, ← Int.ofNat_tmod]
      rw [he] at hy
      have hm1 : ¬ m = 0 := by omega
      have hq3 : IntKind.i64.wrap q = q := by
        have e : ((k / m : Nat) : Int) = q := by rw [← hq, Int.natCast_ediv]
        have h2 := Nat.div_le_self k m
        generalize k / m = z at e h2
        exact IntWalk.i64_in _ (by omega)
      have hR' := hR.mono (R' := fun e W' => ∃ bv : Bool, e = .returned (.bool bv) ∧ (bv = true → J (Zn.upto (Zn.ix m hm) (k + 1)) W' ∧ Zn.Keeps Bz wr W') ∧ (bv = false → Jx (Zn.upto (Zn.ix m hm) (k + 1)) W')) (by
        rintro e W3 (⟨rfl, hJ3, hk3⟩ | ⟨rfl, hJx3⟩)
        · exact ⟨true, rfl, fun _ => ⟨by rw [Zn.upto_succ]; exact hJ3, hk3⟩, fun c => by cases c⟩
        · exact ⟨false, rfl, fun c => (by cases c), fun _ => by rw [Zn.upto_succ]; exact hJx3⟩)
      clear hR
      gi_wp2
      gi_region_with_o (refine RoundIn.mono hR' ?_; rintro e W3 ⟨bv, rfl, hJ3, hJx3⟩)
      all_goals (
        cases bv
        · gi_wp2
          refine bodyPost_ret (results_none rfl _ _ _) rfl ?_
          exact ⟨⟨_, rfl⟩, .inr ⟨_, ⟨k + 1, by omega, rfl⟩, hJx3 (by first | trivial | rfl)⟩⟩
        · gi_wp2
          go_roundw
          case rel => exact ⟨k + 1, by omega, by simp, (hJ3 (by first | trivial | rfl)).1, (World.cell?_of_block (a := ⟨Bz, 0, none⟩) (hJ3 (by first | trivial | rfl)).2).trans hB2⟩
          case measure => simp [intOf]; omega)
    · obtain rfl : k = m * m := by omega
      gi_wp2
      go_end0
      exact ⟨⟨_, rfl⟩, .inl ⟨_, rfl, hJs⟩⟩
/-- What all hands back goes through all places, in their order; a round keeps the zone's box. -/
theorem all_stops (n : Nat) (hn : 1 ≤ n) (Bz m : Nat) (hm : 0 < m) (hm7 : m ≤ 7) (w : World) (hBz : Bz < w.heap.size) (hB : w.cell? ⟨Bz, 0, none⟩ = some (.int .i64 ((m : Int) - 1))) :
    SeqStopsK Fence.wide n Tryd.prog 97 #[.pointer (some ⟨Bz, 0, none⟩)] (Zn.enc m) (Zn.Keeps Bz) (fun ys => ys = Zn.upto (Zn.ix m hm) (m * m)) (fun pre => ∃ k, k ≤ m * m ∧ pre = Zn.upto (Zn.ix m hm) k) (m * m) w := fun l J Jx W hW hJ _ hY h0 =>
  all1_in n hn l Bz m hm hm7 J Jx (fun s W h => hJ s W _ none h ⟨rfl, rfl, rfl, Nat.le_refl _, fun _ _ _ => rfl⟩ (fun r e => by cases e)) hY W ((hW.cell (p := ⟨Bz, 0, none⟩) hBz).trans hB) h0

set_option maxHeartbeats 1000000 in
theorem all_in (n : Nat) (x D : Value) (w : World) :
    CallsIn Fence.wide n Tryd.prog 56 #[.agg #[x, D]] w fun e w' => e = .returned (.func (.func 97) #[] #[.pointer (some ⟨w.heap.size, 0, none⟩)]) ∧ w' = w.alloc (.cells #[x, D] 27) := by
  refine callsIn_of_wp Tryd.func56 rfl trivial ?_
  simp only [Tryd.ntmps56, List.size_toArray, List.length_cons, List.length_nil, Nat.reduceAdd, Nat.reduceSub, Array.replicate_succ, Array.replicate_zero, List.push_toArray, List.append_toArray, List.nil_append, List.cons_append]
  gi_wp2
  go_ret
  exact ⟨rfl, rfl⟩
end Go.Proofs.YtjhccmjgfngkcaaDoor

set_option linter.unusedVariables false
set_option linter.unusedSimpArgs false
namespace Go.Proofs.YtjhccmjgfngkcaaDoor
open Go Go.RowKit
variable {w : World}
theorem info_int : (Tryd.prog.info? 3).map (fun i => (i.zero, i.size, i.bytes)) = some (some (.int .i64 0), 1, 8) := by kernel_rfl
theorem row_form {B : Nat} {e : TypeId} {s : Nat} {v : Value} {n : Nat} {xs : List Value} (h : w.ownsRow B e s v n xs) : ∃ ao c, v = .slice ao n c := by
  rcases h.2 with ⟨rfl, rfl⟩ | ⟨g, cap, cur, rfl, _⟩
  · exact ⟨none, 0, rfl⟩
  · exact ⟨_, cap, rfl⟩

set_option maxHeartbeats 2000000 in
theorem clone_ints {g o cp : Nat} {xs : List Int} (h : ∀ j (hj : j < xs.length), w.cell? ⟨g, o + j, none⟩ = some (.int .i64 xs[j])) (hn : xs.length ≤ 1000000000000) :
    Calls Tryd.prog 96 #[.slice (some ⟨g, o, none⟩) xs.length cp] w fun e w' => ∃ ao cc, e = .returned (.slice ao xs.length cc) ∧ w'.ownsRow w.heap.size 3 1 (.slice ao xs.length cc) xs.length (xs.map (Value.int .i64)) ∧ Below w.heap.size w w' := by
  have q : ∀ (w : World) (a : Option Addr) (n c n' c' : Nat), (binOp .eql 22 (.slice a n c) (.slice none n' c')).run Tryd.prog w = .ok (.bool a.isNone) w := fun w a n c n' c' => Lib.run_eql_slice_nil w _ _ a n c n' c' Tryd.underlying22
  obtain ⟨i0, hi0, hz0, hz1, hz2⟩ := info_parts info_int
  have HH := Lib.hid h
  clear h
  go_enter Tryd.func96, Tryd.ntmps96
  go_wp2_with (at_builtin; refine wpList_append_own _ rfl _ _ 22 rfl w.heap.size 3 i0 (.int .i64 0) 1 8 Tryd.underlying22 hi0 hz0 hz1 hz2 rfl (by decide) _ _ _ rfl (World.ownsRow_made w #[] 0 (Nat.le_refl _) (Nat.zero_le _) rfl) ⟨g, o, none⟩ xs.length cp (xs.map (Value.int .i64)) rfl ?qc1 ?qc2 ?qc3 ?qc4 ?qc5 ?qc6 ?_)
  case qc1 => simp
  case qc2 =>
    intro j u hj
    have hjn : j < xs.length := by simpa using (List.getElem?_eq_some_iff.1 hj).1
    rw [Addr.add_lit]
    refine Lib.cell?_alloc_some _ ?_
    rw [HH.out j hjn]
    simpa [List.getElem?_map, List.getElem?_eq_getElem hjn] using hj
  case qc3 => intro u hu; obtain ⟨x, _, rfl⟩ := List.mem_map.1 hu; rfl
  case qc4 => unfold maxLen; omega
  case qc5 => omega
  case qc6 => simp
  intro v' w1 hown hgrow hnil
  have hown' : w1.ownsRow w.heap.size 3 1 v' xs.length (xs.map (Value.int .i64)) := by simpa using hown
  obtain ⟨ao', cc, rfl⟩ := row_form hown'
  go_wp2
  go_ret
  exact ⟨ao', cc, rfl, hown', ((Below.refl _ w).alloc (Nat.le_refl _) _).grown hgrow (by simp) (by intro k hk; simp [Value.ownBlock] at hk; omega)⟩
end Go.Proofs.YtjhccmjgfngkcaaDoor

set_option linter.unusedVariables false
set_option linter.unusedSimpArgs false
namespace Go.Proofs.YtjhccmjgfngkcaaDoor
namespace Zn
def mo (i j : Nat) : Int := most 1152921504606846976 i j
theorem mo_pos (i j : Nat) : 0 ≤ mo i j ∧ mo i j ≤ 2305843009213693952 := by
  unfold mo most
  split
  · omega
  · split <;> omega
theorem mo_self (i : Nat) : mo i i = 0 := if_pos rfl
def nearZ (a : Int) : Int := if a > 2305843009213693952 then 4611686018427387904 else max a (-2305843009213693952)
def botN (N : Int) : Int := if 0 ≤ N ∧ N ≤ 6 then N else 0
def wholeB (N : Int) (L : List Int) : Bool := decide (0 ≤ N) && decide (N ≤ 6) && decide (L.length = (N.toNat + 1) * (N.toNat + 1))
theorem wholeB_iff {N : Int} {L : List Int} : wholeB N L = true ↔ (0 ≤ N ∧ N ≤ 6) ∧ L.length = (N.toNat + 1) * (N.toNat + 1) := by simp [wholeB]
def f0 (m : Nat) (L : List Int) : Mx := fun i j => min (nearZ (L.getD (i * m + j) 0)) (mo i j)
def badB (m : Nat) (f : Mx) : Bool := (List.range (m * m)).any fun p => decide (f (p / m) (p % m) < -mo (p / m) (p % m))
def tab (m : Nat) (f : Mx) : List Int := (List.range (m * m)).map fun p => f (p / m) (p % m)
def closeP (N : Int) (L : List Int) : Int × List Int :=
  if wholeB N L then
    (if (List.range (N.toNat + 1 + 1)).any (fun k => badB (N.toNat + 1) (fws (f0 (N.toNat + 1) L) k)) then (N, []) else (N, tab (N.toNat + 1) (fws (f0 (N.toNat + 1) L) (N.toNat + 1))))
  else (botN N, [])
theorem div_of {m i j : Nat} (h : j < m) : (i * m + j) / m = i := by
  rw [Nat.mul_comm, Nat.mul_add_div (by omega), Nat.div_eq_of_lt h, Nat.add_zero]
theorem mod_of {m i j : Nat} (h : j < m) : (i * m + j) % m = j := by
  rw [Nat.mul_comm, Nat.mul_add_mod, Nat.mod_eq_of_lt h]
theorem lt_of {m i j : Nat} (hi : i < m) (hj : j < m) : i * m + j < m * m := by
  have h : (i + 1) * m ≤ m * m := Nat.mul_le_mul_right m hi
  rw [Nat.succ_mul] at h
  omega
theorem div_lt {m p : Nat} (h : p < m * m) : p / m < m := Nat.div_lt_of_lt_mul h
theorem badB_iff {m : Nat} {f : Mx} : badB m f = true ↔ bad 1152921504606846976 m f := by
  unfold badB
  rw [List.any_eq_true]
  constructor
  · rintro ⟨p, hp, h⟩
    have hp := List.mem_range.1 hp
    have hm : 0 < m := Nat.pos_of_ne_zero (fun e => by subst e; simp at hp)
    exact ⟨p / m, p % m, div_lt hp, Nat.mod_lt _ hm, of_decide_eq_true h⟩
  · rintro ⟨i, j, hi, hj, h⟩
    refine ⟨i * m + j, List.mem_range.2 (lt_of hi hj), ?_⟩
    rw [div_of hj, mod_of hj]
    exact decide_eq_true h
theorem tab_length (m : Nat) (f : Mx) : (tab m f).length = m * m := by simp [tab]
theorem tab_get {m : Nat} (f : Mx) {p : Nat} (h : p < m * m) : (tab m f).getD p 0 = f (p / m) (p % m) := by simp [tab, List.getD, h]
theorem tab_at {m : Nat} (f : Mx) {i j : Nat} (hi : i < m) (hj : j < m) : (tab m f).getD (i * m + j) 0 = f i j := by rw [tab_get f (lt_of hi hj), div_of hj, mod_of hj]
theorem tab_congr {m : Nat} {f g : Mx} (h : ∀ i j, i < m → j < m → f i j = g i j) : tab m f = tab m g := by
  unfold tab
  refine List.map_congr_left fun p hp => ?_
  have hp := List.mem_range.1 hp
  have hm : 0 < m := Nat.pos_of_ne_zero (fun e => by subst e; simp at hp)
  exact h _ _ (div_lt hp) (Nat.mod_lt _ hm)

def upd (E : Nat → Int) (x : Nat) (v : Int) : Nat → Int := fun j => if j = x then v else E j
/-- Step by step over all places. -/
def folds {m : Nat} (h : (Nat → Int) → Nat → Int) (D : Nat → Int) (pre : List (Fin (m * m))) : Nat → Int := pre.foldl (fun E x => upd E x.val (h E x.val)) D
theorem folds_snoc {m : Nat} (h : (Nat → Int) → Nat → Int) (D : Nat → Int) (pre : List (Fin (m * m))) (x : Fin (m * m)) : folds h D (pre ++ [x]) = upd (folds h D pre) x.val (h (folds h D pre) x.val) := by
  unfold folds
  rw [List.foldl_append]
  rfl
theorem folds_upto {m : Nat} (hm : 0 < m) (h : (Nat → Int) → Nat → Int) (D G : Nat → Int) (hG : ∀ k, k < m * m → h (fun j => if j < k then G j else D j) k = G k) : ∀ k, k ≤ m * m → folds h D (upto (ix m hm) k) = fun j => if j < k then G j else D j
  | 0, _ => by funext j; simp [upto, folds]
  | k + 1, hk => by
    rw [upto_succ, folds_snoc, folds_upto hm h D G hG k (by omega)]
    have e : (ix m hm k).val = k := Nat.mod_eq_of_lt (by omega)
    rw [e, hG k (by omega)]
    funext j
    unfold upd
    by_cases e1 : j = k
    · subst e1; simp
    · by_cases e2 : j < k
      · simp [e1, e2, show j < k + 1 by omega]
      · simp [e1, e2, show ¬ j < k + 1 by omega]
/-- The step through variable k, in place. -/
def stepK (m k : Nat) (E : Nat → Int) (x : Nat) : Int := min (E x) (E (x / m * m + k) + E (k * m + x % m))
structure InvK (m k : Nat) (D E : Nat → Int) : Prop where
  col : ∀ i, i < m → E (i * m + k) = D (i * m + k)
  row : ∀ j, j < m → E (k * m + j) = D (k * m + j)
  low : ∀ p, p < m * m → -4611686018427387904 ≤ E p
  high : ∀ p, p < m * m → E p ≤ 2305843009213693952
theorem InvK.step {m k : Nat} {D E : Nat → Int} (hk : k < m) (hz : D (k * m + k) = 0) (hl : ∀ p, p < m * m → -2305843009213693952 ≤ D p) (I : InvK m k D E) {x : Nat} (hx : x < m * m) : InvK m k D (upd E x (stepK m k E x)) := by
  have hm : 0 < m := by omega
  have hxi := div_lt hx
  have hxj := Nat.mod_lt x hm
  have c1 := I.col _ hxi
  have r1 := I.row _ hxj
  have l1 := hl _ (lt_of hxi hk)
  have l2 := hl _ (lt_of hk hxj)
  have hexp : x / m * m + x % m = x := by rw [Nat.mul_comm]; exact Nat.div_add_mod x m
  constructor
  · intro i hi
    unfold upd
    split
    · rename_i e
      have e1 : x / m = i := by rw [← e, div_of hk]
      have e2 : x % m = k := by rw [← e, mod_of hk]
      unfold stepK
      rw [e1, e2, ← e, I.col i hi, I.row k hk, hz]
      omega
    · exact I.col i hi
  · intro j hj
    unfold upd
    split
    · rename_i e
      have e1 : x / m = k := by rw [← e, div_of hj]
      have e2 : x % m = j := by rw [← e, mod_of hj]
      unfold stepK
      rw [e1, e2, ← e, I.col k hk, I.row j hj, hz]
      omega
    · exact I.row j hj
  · intro p hp
    unfold upd
    split
    · unfold stepK
      have := I.low x hx
      omega
    · exact I.low p hp
  · intro p hp
    unfold upd
    split
    · unfold stepK
      have := I.high x hx
      omega
    · exact I.high p hp
theorem stepK_all {m k : Nat} (hm : 0 < m) {D : Nat → Int} {f : Mx} (hk : k < m) (hD : ∀ p, p < m * m → D p = f (p / m) (p % m)) (hz : D (k * m + k) = 0) :
    ∀ p, p < m * m → folds (stepK m k) D (upto (ix m hm) (m * m)) p = fw f k (p / m) (p % m) := by
  intro p hp
  have hG := folds_upto hm (stepK m k) D (fun p => min (D p) (D (p / m * m + k) + D (k * m + p % m))) (fun x hx => by
    have hxi := div_lt hx
    have hxj := Nat.mod_lt x hm
    have e1 : (if x / m * m + k < x then min (D (x / m * m + k)) (D ((x / m * m + k) / m * m + k) + D (k * m + (x / m * m + k) % m)) else D (x / m * m + k)) = D (x / m * m + k) := by
      rw [div_of hk, mod_of hk, hz]; split <;> omega
    have e2 : (if k * m + x % m < x then min (D (k * m + x % m)) (D ((k * m + x % m) / m * m + k) + D (k * m + (k * m + x % m) % m)) else D (k * m + x % m)) = D (k * m + x % m) := by
      rw [div_of hxj, mod_of hxj, hz]; split <;> omega
    show min (if x < x then _ else D x) _ = _
    rw [if_neg (Nat.lt_irrefl x)]
    dsimp only
    rw [e1, e2]) (m * m) (Nat.le_refl _)
  rw [hG]
  have hpi := div_lt hp
  have hpj := Nat.mod_lt p hm
  simp only [hp, if_true]
  rw [hD p hp, hD _ (lt_of hpi hk), hD _ (lt_of hk hpj), div_of hk, mod_of hk, div_of hpj, mod_of hpj]
  rfl
theorem step1_all {m : Nat} (hm : 0 < m) {D : Nat → Int} (h : Nat → Int → Int) : ∀ p, p < m * m → folds (fun E x => h x (E x)) D (upto (ix m hm) (m * m)) p = h p (D p) := by
  intro p hp
  rw [folds_upto hm _ D (fun p => h p (D p)) (fun x hx => by simp) (m * m) (Nat.le_refl _)]
  simp [hp]
theorem fws_ge {m : Nat} {f : Mx} {k : Nat} (h : badB m (fws f k) = false) {i j : Nat} (hi : i < m) (hj : j < m) : -mo i j ≤ fws f k i j := by
  have : ¬ bad 1152921504606846976 m (fws f k) := fun c => by rw [badB_iff.2 c] at h; cases h
  exact good_iff.2 this i j hi hj
theorem fws_zero {m : Nat} {L : List Int} {k : Nat} (h : badB m (fws (f0 m L) k) = false) {i : Nat} (hi : i < m) : fws (f0 m L) k i i = 0 := by
  have h1 := fws_ge h hi hi
  have h2 := fws_le (f0 m L) i i k
  have h3 : f0 m L i i ≤ mo i i := Int.min_le_right _ _
  rw [mo_self] at h1 h3
  omega
theorem fws_le_mo {m : Nat} {L : List Int} {k i j : Nat} : fws (f0 m L) k i j ≤ 2305843009213693952 := by
  have h2 := fws_le (f0 m L) i j k
  have h3 : f0 m L i j ≤ mo i j := Int.min_le_right _ _
  have := (mo_pos i j).2
  omega
end Zn
end Go.Proofs.YtjhccmjgfngkcaaDoor

set_option linter.unusedVariables false
set_option linter.unusedSimpArgs false
namespace Go.Proofs.YtjhccmjgfngkcaaDoor
namespace Zn
abbrev Z := Int × List Int
def mapL (M : Nat) (E : Nat → Int) : List Int := (List.range M).map E
theorem mapL_length (M : Nat) (E : Nat → Int) : (mapL M E).length = M := by simp [mapL]
theorem mapL_get {M : Nat} (E : Nat → Int) {j : Nat} (h : j < M) : (mapL M E).getD j 0 = E j := by simp [mapL, List.getD, h]
theorem mapL_self (L : List Int) : mapL L.length (fun j => L.getD j 0) = L := by
  apply List.ext_getElem (by simp [mapL])
  intro i h1 h2
  simp [mapL, List.getD, h2]
theorem mapL_ext {L : List Int} {M : Nat} {E : Nat → Int} (hl : L.length = M) (h : ∀ j, j < M → L.getD j 0 = E j) : L = mapL M E := by
  subst hl
  apply List.ext_getElem (by simp [mapL])
  intro i h1 h2
  have := h i h1
  simp [List.getD, h1] at this
  simp [mapL, this]
theorem mapL_set (L : List Int) (p : Nat) (v : Int) : mapL L.length (upd (fun j => L.getD j 0) p v) = L.set p v := by
  symm
  refine mapL_ext (by simp) (fun j hj => ?_)
  unfold upd
  by_cases e : j = p
  · subst e; simp [List.getD, hj]
  · rw [if_neg e]
    simp [List.getD, List.getElem?_set_ne (fun c => e c.symm)]
def edge : Int := 2305843009213693952
def cleanP (N : Int) (L : List Int) : Z := if L = [] then (botN N, []) else closeP N L
def topP (n : Int) : Z := if 0 ≤ n ∧ n ≤ 6 then (n, tab (n.toNat + 1) mo) else (0, [])
def atP (N : Int) (L : List Int) (i j : Int) : Int := L.getD (i.toNat * (N.toNat + 1) + j.toNat) 0
def getC (N : Int) (L : List Int) (i j : Int) : Int := if L = [] ∨ min i j < 0 ∨ max i j > N then -2305843009213693952 else atP N L i j
def getP (z : Z) (i j : Int) : Int := getC (cleanP z.1 z.2).1 (cleanP z.1 z.2).2 i j
def spOf (a b : Int) : Int × Int := if max a (-1152921504606846976) > min b 1152921504606846976 then (1, 0) else (max a (-1152921504606846976), min b 1152921504606846976)
def spanC (N : Int) (L : List Int) (i : Int) : Int × Int := if L = [] ∨ i < 1 ∨ i > N then (1, 0) else spOf (-(atP N L 0 i)) (atP N L i 0)
def inB (n : Int) : Bool := decide (-1152921504606846976 ≤ n) && decide (n ≤ 1152921504606846976)
def hasC (N : Int) (L : List Int) (p : List Int) : Bool :=
  !decide (L = []) && decide ((p.length : Int) = N) && p.all inB && (List.range ((N.toNat + 1) * (N.toNat + 1))).all fun x => decide ((0 :: p).getD (x / (N.toNat + 1)) 0 - (0 :: p).getD (x % (N.toNat + 1)) 0 ≤ L.getD x 0)
def leqC (X Y : List Int) : Bool := if X = [] ∨ Y = [] then decide (X = []) else (List.range X.length).all fun j => decide (X.getD j 0 ≤ Y.getD j 0)
def joinC (N : Int) (X Y : List Int) : Z := if X = [] then (N, Y) else if Y = [] then (N, X) else (N, mapL X.length fun j => max (X.getD j 0) (Y.getD j 0))
def meetC (N : Int) (X Y : List Int) : Z := if X = [] ∨ Y = [] then (botN N, []) else closeP N (mapL X.length fun j => min (X.getD j 0) (Y.getD j 0))
def leqP (a b : Z) : Bool := if (cleanP a.1 a.2).1 = (cleanP b.1 b.2).1 then leqC (cleanP a.1 a.2).2 (cleanP b.1 b.2).2 else false
def joinP (a b : Z) : Z := if (cleanP a.1 a.2).1 = (cleanP b.1 b.2).1 then joinC (cleanP a.1 a.2).1 (cleanP a.1 a.2).2 (cleanP b.1 b.2).2 else (0, [])
def meetP (a b : Z) : Z := if (cleanP a.1 a.2).1 = (cleanP b.1 b.2).1 then meetC (cleanP a.1 a.2).1 (cleanP a.1 a.2).2 (cleanP b.1 b.2).2 else (0, [])
def guardC (N : Int) (L : List Int) (i j c : Int) : Z :=
  if L = [] ∨ min i j < 0 ∨ max i j > N then (N, L) else if c < -2305843009213693952 then (botN N, []) else closeP N (L.set (i.toNat * (N.toNat + 1) + j.toNat) (min (atP N L i j) (nearZ c)))
def rightP (z : Z) : Bool := decide (0 ≤ z.1) && decide (z.1 ≤ 6) && (decide (z.2 = []) || (wholeB z.1 z.2 && decide ((closeP z.1 z.2).2 = z.2)))

/-- What a right zone looks like. -/
structure Shape (z : Z) : Prop where
  n0 : 0 ≤ z.1
  n6 : z.1 ≤ 6
  len : z.2 ≠ [] → z.2.length = (z.1.toNat + 1) * (z.1.toNat + 1)
theorem botN_ok (N : Int) : 0 ≤ botN N ∧ botN N ≤ 6 := by unfold botN; split <;> omega
theorem botN_self {N : Int} (h0 : 0 ≤ N) (h6 : N ≤ 6) : botN N = N := if_pos ⟨h0, h6⟩
theorem shape_bot (N : Int) : Shape (botN N, []) := ⟨(botN_ok N).1, (botN_ok N).2, fun h => absurd rfl h⟩
theorem closeP_shape (N : Int) (L : List Int) : Shape (closeP N L) := by
  unfold closeP
  split
  · rename_i hw
    obtain ⟨⟨h0, h6⟩, _⟩ := wholeB_iff.1 hw
    split
    · exact ⟨h0, h6, fun h => absurd rfl h⟩
    · exact ⟨h0, h6, fun _ => tab_length _ _⟩
  · exact shape_bot N
theorem cleanP_shape (N : Int) (L : List Int) : Shape (cleanP N L) := by
  unfold cleanP
  split
  · exact shape_bot N
  · exact closeP_shape N L
theorem Shape.small {z : Z} (h : Shape z) : z.2.length ≤ 49 := by
  by_cases e : z.2 = []
  · rw [e]; simp
  · rw [h.len e]
    have := h.n0
    have := h.n6
    exact Nat.mul_le_mul (by omega : z.1.toNat + 1 ≤ 7) (by omega : z.1.toNat + 1 ≤ 7)
theorem closeP_n {N : Int} {L : List Int} (h : wholeB N L = true) : (closeP N L).1 = N := by
  unfold closeP
  rw [if_pos h]
  split <;> rfl
/-- A zone whose rounds were all good: closed. -/
theorem closeP_form (N : Int) (L : List Int) : (closeP N L).2 = [] ∨ (wholeB N L = true ∧ (∀ k, k ≤ N.toNat + 1 → badB (N.toNat + 1) (fws (f0 (N.toNat + 1) L) k) = false) ∧ closeP N L = (N, tab (N.toNat + 1) (fws (f0 (N.toNat + 1) L) (N.toNat + 1)))) := by
  unfold closeP
  split
  · rename_i hw
    split
    · exact .inl rfl
    · rename_i hb
      refine .inr ⟨hw, fun k hk => ?_, rfl⟩
      cases hc : badB (N.toNat + 1) (fws (f0 (N.toNat + 1) L) k)
      · rfl
      · exact absurd (List.any_eq_true.2 ⟨k, List.mem_range.2 (by omega), hc⟩) hb
  · exact .inl rfl
theorem closeP_bound (N : Int) (L : List Int) (x : Nat) : -2305843009213693952 ≤ (closeP N L).2.getD x 0 ∧ (closeP N L).2.getD x 0 ≤ 2305843009213693952 := by
  rcases closeP_form N L with h | ⟨_, hb, h⟩
  · rw [h]; simp
  · rw [h]
    by_cases hx : x < (N.toNat + 1) * (N.toNat + 1)
    · rw [tab_get _ hx]
      have hm : 0 < N.toNat + 1 := by omega
      have h1 := fws_ge (hb _ (Nat.le_refl _)) (div_lt hx) (Nat.mod_lt x hm)
      have h2 := mo_pos (x / (N.toNat + 1)) (x % (N.toNat + 1))
      have h3 := fws_le_mo (m := N.toNat + 1) (L := L) (k := N.toNat + 1) (i := x / (N.toNat + 1)) (j := x % (N.toNat + 1))
      omega
    · have : (tab (N.toNat + 1) (fws (f0 (N.toNat + 1) L) (N.toNat + 1))).getD x 0 = 0 := by simp [tab, List.getD, hx]
      rw [this]; omega
theorem cleanP_bound (N : Int) (L : List Int) (x : Nat) : -2305843009213693952 ≤ (cleanP N L).2.getD x 0 ∧ (cleanP N L).2.getD x 0 ≤ 2305843009213693952 := by
  unfold cleanP
  split
  · simp
  · exact closeP_bound N L x
theorem leqC_true {X Y : List Int} (h1 : X ≠ []) (h2 : Y ≠ []) (h : ∀ j, j < X.length → X.getD j 0 ≤ Y.getD j 0) : leqC X Y = true := by
  unfold leqC
  rw [if_neg (by rintro (e | e); exact h1 e; exact h2 e), List.all_eq_true]
  exact fun j hj => decide_eq_true (h j (List.mem_range.1 hj))
theorem leqC_false {X Y : List Int} (h1 : X ≠ []) (h2 : Y ≠ []) {k : Nat} (hk : k < X.length) (h : ¬ X.getD k 0 ≤ Y.getD k 0) : leqC X Y = false := by
  unfold leqC
  rw [if_neg (by rintro (e | e); exact h1 e; exact h2 e)]
  cases hc : (List.range X.length).all fun j => decide (X.getD j 0 ≤ Y.getD j 0)
  · rfl
  · exact absurd (of_decide_eq_true (List.all_eq_true.1 hc k (List.mem_range.2 hk))) h
end Zn
end Go.Proofs.YtjhccmjgfngkcaaDoor

set_option linter.unusedVariables false
namespace Go.Proofs.YtjhccmjgfngkcaaDoor
namespace Zn
def aT : Z := (2, [0, 1152921504606846976, 1152921504606846976, 1152921504606846976, 0, 2305843009213693952, 1152921504606846976, 2305843009213693952, 0])
def aU : Z := (2, [0, 1152921504606846976, 1152921504606846976, 5, 0, 1152921504606846981, 1152921504606846976, 2305843009213693952, 0])
def aZ : Z := (2, [0, 1152921504606846973, 1152921504606846976, 5, 0, 1152921504606846981, 2, (-3), 0])
def aB : Z := (2, [])
theorem top_2 : topP 2 = aT := by decide +kernel
theorem clean_T : cleanP aT.1 aT.2 = aT := by decide +kernel
theorem clean_U : cleanP aU.1 aU.2 = aU := by decide +kernel
theorem clean_Z : cleanP aZ.1 aZ.2 = aZ := by decide +kernel
theorem clean_B : cleanP aB.1 aB.2 = aB := by decide +kernel
theorem guard_1 : guardC (cleanP aT.1 aT.2).1 (cleanP aT.1 aT.2).2 1 0 5 = aU := by rw [clean_T]; decide +kernel
theorem guard_2 : guardC (cleanP aU.1 aU.2).1 (cleanP aU.1 aU.2).2 2 1 (-3) = aZ := by rw [clean_U]; decide +kernel
theorem guard_3 : guardC (cleanP aZ.1 aZ.2).1 (cleanP aZ.1 aZ.2).2 0 1 (-6) = aB := by rw [clean_Z]; decide +kernel
theorem span_Z : spanC (cleanP aZ.1 aZ.2).1 (cleanP aZ.1 aZ.2).2 2 = (-1152921504606846976, 2) := by rw [clean_Z]; decide +kernel
theorem close_Z : closeP aZ.1 aZ.2 = aZ := by decide +kernel
theorem right_Z : rightP aZ = true := by unfold rightP; rw [close_Z]; decide +kernel
theorem get_Z : getP aZ 2 1 = -3 := by unfold getP; rw [clean_Z]; decide +kernel
theorem has_Z : hasC (cleanP aZ.1 aZ.2).1 (cleanP aZ.1 aZ.2).2 [5, 2] = true := by rw [clean_Z]; decide +kernel
theorem leq_BZ : leqP aB aZ = true := by unfold leqP; rw [clean_Z, clean_B]; decide +kernel
theorem join_BZ : joinP aB aZ = aZ := by unfold joinP; rw [clean_Z, clean_B]; decide +kernel
end Zn
end Go.Proofs.YtjhccmjgfngkcaaDoor

set_option linter.unusedVariables false
set_option linter.unusedSimpArgs false
namespace Go.Proofs.YtjhccmjgfngkcaaDoor
namespace Zn
/-- A right zone: none, or one whose bounds keep the triangles. -/
structure Clo (z : Z) : Prop extends Shape z where
  at0 : z.2 ≠ [] → ∀ i, i < z.1.toNat + 1 → z.2.getD (i * (z.1.toNat + 1) + i) 0 = 0
  low : z.2 ≠ [] → ∀ i j, i < z.1.toNat + 1 → j < z.1.toNat + 1 → -mo i j ≤ z.2.getD (i * (z.1.toNat + 1) + j) 0
  high : z.2 ≠ [] → ∀ i j, i < z.1.toNat + 1 → j < z.1.toNat + 1 → z.2.getD (i * (z.1.toNat + 1) + j) 0 ≤ mo i j
  tri : z.2 ≠ [] → ∀ i j k, i < z.1.toNat + 1 → j < z.1.toNat + 1 → k < z.1.toNat + 1 → z.2.getD (i * (z.1.toNat + 1) + j) 0 ≤ z.2.getD (i * (z.1.toNat + 1) + k) 0 + z.2.getD (k * (z.1.toNat + 1) + j) 0
theorem clo_bot {N : Int} (h0 : 0 ≤ N) (h6 : N ≤ 6) : Clo (N, []) := ⟨⟨h0, h6, fun h => absurd rfl h⟩, fun h => absurd rfl h, fun h => absurd rfl h, fun h => absurd rfl h, fun h => absurd rfl h⟩
theorem clo_botN (N : Int) : Clo (botN N, []) := clo_bot (botN_ok N).1 (botN_ok N).2
theorem f0_le_mo (m : Nat) (L : List Int) (i j : Nat) : f0 m L i j ≤ mo i j := Int.min_le_right _ _
theorem clo_close (N : Int) (L : List Int) : Clo (closeP N L) := by
  have hs := closeP_shape N L
  rcases closeP_form N L with h | ⟨hw, hb, h⟩
  · rcases hz : closeP N L with ⟨a, b⟩
    rw [hz] at h hs
    dsimp only at h
    subst h
    exact clo_bot hs.n0 hs.n6
  · rw [h] at hs ⊢
    have hz : ∀ k, k ≤ N.toNat + 1 → ∀ i, i < N.toNat + 1 → fws (f0 (N.toNat + 1) L) k i i = 0 := fun k hk i hi => fws_zero (hb k hk) hi
    refine ⟨hs, fun _ i hi => ?_, fun _ i j hi hj => ?_, fun _ i j hi hj => ?_, fun _ i j k hi hj hk => ?_⟩
    · dsimp only
      rw [tab_at _ hi hi]; exact hz _ (Nat.le_refl _) i hi
    · dsimp only
      rw [tab_at _ hi hj]; exact fws_ge (hb _ (Nat.le_refl _)) hi hj
    · dsimp only
      rw [tab_at _ hi hj]; exact Int.le_trans (fws_le _ i j _) (f0_le_mo _ _ i j)
    · dsimp only
      rw [tab_at _ hi hj, tab_at _ hi hk, tab_at _ hk hj]
      exact fws_tri (fun k hk => hz k (by omega)) _ (Nat.le_refl _) k hk i j hi hj
theorem clo_clean (N : Int) (L : List Int) : Clo (cleanP N L) := by
  unfold cleanP
  split
  · exact clo_botN N
  · exact clo_close N L
theorem fws_keeps {m : Nat} {f g : Mx} (hg : ∀ i j, i < m → j < m → f i j = g i j) (ht : ∀ i j k, i < m → j < m → k < m → g i j ≤ g i k + g k j) : ∀ k, k ≤ m → ∀ i j, i < m → j < m → fws f k i j = g i j
  | 0, _, i, j, hi, hj => hg i j hi hj
  | k + 1, hk, i, j, hi, hj => by
    have h1 := fws_keeps hg ht k (by omega) i j hi hj
    have h2 := fws_keeps hg ht k (by omega) i k hi (by omega)
    have h3 := fws_keeps hg ht k (by omega) k j (by omega) hj
    have := ht i j k hi hj (by omega)
    show min (fws f k i j) (fws f k i k + fws f k k j) = g i j
    omega
/-- Closed once more it is the same. -/
theorem Clo.close {z : Z} (h : Clo z) (hn : z.2 ≠ []) : closeP z.1 z.2 = z := by
  obtain ⟨N, L⟩ := z
  have hl := h.len hn
  have h0 := h.n0
  have h6 := h.n6
  have hlo := h.low hn
  have hhi := h.high hn
  have htr := h.tri hn
  dsimp only at hl h0 h6 hlo hhi htr hn ⊢
  have hg : ∀ i j, i < N.toNat + 1 → j < N.toNat + 1 → f0 (N.toNat + 1) L i j = L.getD (i * (N.toNat + 1) + j) 0 := by
    intro i j hi hj
    have h1 := hlo i j hi hj
    have h2 := hhi i j hi hj
    have h3 := mo_pos i j
    show min (nearZ _) (mo i j) = _
    unfold nearZ
    rw [if_neg (by omega)]
    omega
  have hk := fws_keeps hg htr
  have hb : ∀ k, k ≤ N.toNat + 1 → badB (N.toNat + 1) (fws (f0 (N.toNat + 1) L) k) = false := by
    intro k hk'
    cases hc : badB (N.toNat + 1) (fws (f0 (N.toNat + 1) L) k)
    · rfl
    · obtain ⟨i, j, hi, hj, hlt⟩ := badB_iff.1 hc
      rw [hk k hk' i j hi hj] at hlt
      have := hlo i j hi hj
      unfold mo at this
      omega
  rcases hf : closeP N L with ⟨a, b⟩
  unfold closeP at hf
  rw [if_pos (wholeB_iff.2 ⟨⟨h0, h6⟩, hl⟩), if_neg (by
    intro c
    obtain ⟨k, hk1, hk2⟩ := List.any_eq_true.1 c
    rw [hb k (by have := List.mem_range.1 hk1; omega)] at hk2
    exact absurd hk2 (by simp))] at hf
  rw [← hf]
  refine Prod.ext rfl ?_
  show tab (N.toNat + 1) (fws (f0 (N.toNat + 1) L) (N.toNat + 1)) = L
  rw [tab_congr (g := fun i j => L.getD (i * (N.toNat + 1) + j) 0) (fun i j hi hj => hk _ (Nat.le_refl _) i j hi hj)]
  refine (mapL_ext (E := fun p => L.getD (p / (N.toNat + 1) * (N.toNat + 1) + p % (N.toNat + 1)) 0) hl (fun p _ => ?_)).symm
  rw [Nat.div_add_mod']
theorem Clo.clean {z : Z} (h : Clo z) : cleanP z.1 z.2 = z := by
  unfold cleanP
  by_cases e : z.2 = []
  · rw [if_pos e, botN_self h.n0 h.n6, ← e]
  · rw [if_neg e]; exact h.close e
theorem clo_meet (a b : Z) : Clo (meetP a b) := by
  unfold meetP
  split
  · unfold meetC
    split
    · exact clo_botN _
    · exact clo_close _ _
  · exact clo_bot (by omega) (by omega)
theorem leqC_iff {X Y : List Int} (h1 : X ≠ []) (h2 : Y ≠ []) : leqC X Y = true ↔ ∀ j, j < X.length → X.getD j 0 ≤ Y.getD j 0 := by
  constructor
  · intro h j hj
    exact Decidable.byContradiction fun c => by rw [leqC_false h1 h2 hj c] at h; exact absurd h (by simp)
  · exact leqC_true h1 h2
/-- The same just if each is in the other one. -/
theorem same_iff {x y : Z} (hx : Clo x) (hy : Clo y) : decide (x = y) = (decide (x.1 = y.1) && leqP x y && leqP y x) := by
  unfold leqP
  rw [hx.clean, hy.clean]
  obtain ⟨N, X⟩ := x
  obtain ⟨M, Y⟩ := y
  dsimp only
  by_cases e : N = M
  · subst e
    simp only [decide_true, Bool.true_and, if_true]
    have hl : X ≠ [] → Y ≠ [] → X.length = Y.length := fun a b => (hx.len a).trans (hy.len b).symm
    clear hx hy
    by_cases a : X = []
    · subst a
      by_cases b : Y = []
      · subst b; simp [leqC]
      · simp [leqC, b, Ne.symm b]
    · by_cases b : Y = []
      · subst b; simp [leqC, a]
      · have hl := hl a b
        by_cases c : X = Y
        · subst c
          have := (leqC_iff a a).2 (fun j _ => Int.le_refl _)
          simp [this]
        · rw [decide_eq_false (by simpa using c)]
          symm
          rw [Bool.and_eq_false_iff]
          refine Decidable.byContradiction fun hc => c ?_
          have h1 : leqC X Y = true := by
            cases h : leqC X Y
            · exact absurd (Or.inl h) hc
            · rfl
          have h2 : leqC Y X = true := by
            cases h : leqC Y X
            · exact absurd (Or.inr h) hc
            · rfl
          refine List.ext_getElem hl (fun j p q => ?_)
          have q1 := (leqC_iff a b).1 h1 j p
          have q2 := (leqC_iff b a).1 h2 j q
          simp only [List.getD, List.getElem?_eq_getElem p, List.getElem?_eq_getElem q, Option.getD_some] at q1 q2
          omega
  · rw [decide_eq_false (by simpa using fun h _ => e h)]
    simp [e]
theorem join_comm (x y : Z) : joinP x y = joinP y x := by
  have hx := (cleanP_shape x.1 x.2)
  have hy := (cleanP_shape y.1 y.2)
  unfold joinP
  generalize cleanP x.1 x.2 = a at *
  generalize cleanP y.1 y.2 = b at *
  obtain ⟨N, X⟩ := a
  obtain ⟨M, Y⟩ := b
  dsimp only
  by_cases e : N = M
  · subst e
    rw [if_pos rfl, if_pos rfl]
    unfold joinC
    by_cases a : X = []
    · subst a
      by_cases b : Y = []
      · subst b; rfl
      · simp [b]
    · by_cases b : Y = []
      · subst b; simp [a]
      · rw [if_neg a, if_neg b, if_neg b, if_neg a]
        have hl : X.length = Y.length := (hx.len a).trans (hy.len b).symm
        rw [hl]
        congr 2
        funext j
        exact Int.max_comm _ _
  · rw [if_neg e, if_neg (fun h => e h.symm)]
theorem joinP_small (x y : Z) : (joinP x y).2.length ≤ 49 := by
  have hx := (cleanP_shape x.1 x.2).small
  have hy := (cleanP_shape y.1 y.2).small
  unfold joinP
  split
  · unfold joinC
    split
    · exact hy
    · split
      · exact hx
      · rw [mapL_length]; exact hx
  · simp
end Zn
end Go.Proofs.YtjhccmjgfngkcaaDoor

set_option linter.unusedVariables false
set_option linter.unusedSimpArgs false
namespace Go.Proofs.YtjhccmjgfngkcaaDoor
open Go Go.RowKit Go.Proofs.YtjhccmjgfngkcaaDoorW.PrintWords
/-- A world with two boxes written. -/
def put2 (w1 : World) (ga gb : Nat) (x0 x1 y0 y1 : Value) : World := (((w1.setCell ⟨ga, 0, none⟩ x0).setCell ⟨ga, 1, none⟩ x1).setCell ⟨gb, 0, none⟩ y0).setCell ⟨gb, 1, none⟩ y1
theorem put2_a {w1 : World} {ga gb : Nat} {a0 a1 : Value} {T : TypeId} (x0 x1 y0 y1 : Value) (pa : w1.heap[ga]? = some (.cells #[a0, a1] T (0, 0))) (ne : ga ≠ gb) : (put2 w1 ga gb x0 x1 y0 y1).heap[ga]? = some (.cells #[x0, x1] T (0, 0)) := by
  have h := blk_far (p := ⟨gb, 1, none⟩) (blk_far (p := ⟨gb, 0, none⟩) (blk_set (blk_set pa 0 x0) 1 x1) ne y0) ne y1
  exact h
theorem put2_b {w1 : World} {ga gb : Nat} {b0 b1 : Value} {T : TypeId} (x0 x1 y0 y1 : Value) (pb : w1.heap[gb]? = some (.cells #[b0, b1] T (0, 0))) (ne : ga ≠ gb) : (put2 w1 ga gb x0 x1 y0 y1).heap[gb]? = some (.cells #[y0, y1] T (0, 0)) := by
  have h := blk_set (blk_set (blk_far (p := ⟨ga, 1, none⟩) (blk_far (p := ⟨ga, 0, none⟩) pb ne.symm x0) ne.symm x1) 0 y0) 1 y1
  exact h
theorem put2_far {w1 : World} {ga gb k : Nat} {o : Obj} (x0 x1 y0 y1 : Value) (p : w1.heap[k]? = some o) (n1 : k ≠ ga) (n2 : k ≠ gb) : (put2 w1 ga gb x0 x1 y0 y1).heap[k]? = some o := by
  unfold put2
  rw [Below.heap_setCell _ _ _ _ n2, Below.heap_setCell _ _ _ _ n2, Below.heap_setCell _ _ _ _ n1, Below.heap_setCell _ _ _ _ n1]
  exact p
theorem put2_below {a w1 : World} {B ga gb : Nat} (x0 x1 y0 y1 : Value) (h : Below B a w1) (h1 : B ≤ ga) (h2 : B ≤ gb) : Below B a (put2 w1 ga gb x0 x1 y0 y1) :=
  (((h.setCell h1 _).setCell h1 _).setCell h2 _).setCell h2 _
end Go.Proofs.YtjhccmjgfngkcaaDoor
