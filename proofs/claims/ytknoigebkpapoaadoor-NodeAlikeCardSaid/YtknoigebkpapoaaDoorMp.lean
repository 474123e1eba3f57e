/- Maps from numbers to numbers that a call makes: what they hold, key by key; looked up, written. -/
import Derived.Test.YtknoigebkpapoaaDoorWd
import Derived.Test.YtknoigebkpapoaaDoorRows
import Derived.Maps.OwnOps
import Derived.Maps.OwnSet
set_option linter.unusedVariables false
set_option linter.unusedSimpArgs false
namespace Go.Proofs.YtknoigebkpapoaaDoor
open Go.RowKit Go.Maps

def fits (x : Int) : Prop := (Lit.int .i64 x).wf = true
theorem fits_of {x : Int} (h0 : -9223372036854775808 ≤ x) (h1 : x ≤ 9223372036854775807) : fits x := WalkArith.wf_i64 (by omega)

/-- Block b is a map of at most n entries that holds just f. -/
def IMap (w : World) (b n : Nat) (f : Int → Option Int) : Prop :=
  ∃ D : DataW Unit, w.ownsMap Tryd.prog 3 (plainElem Tryd.prog 3) b n D ∧ IsMap D ∧ ∀ x, fits x → has D (.int .i64 x) = (f x).isSome ∧ ∀ y, f x = some y → ∀ z, D.atKey (.int .i64 x) z = .lit (.int .i64 y)

theorem IMap.touch {w w' : World} {b n : Nat} {f : Int → Option Int} {S : Nat → Prop} (h : IMap w b n f) (t : Touch w w' S) (hs : ¬ S b) : IMap w' b n f := by
  obtain ⟨D, ⟨es, clock, hb, F, hsz, hD⟩, h2⟩ := h
  exact ⟨D, ⟨es, clock, t.heap hb hs, F, hsz, hD⟩, h2⟩
theorem IMap.lt {w : World} {b n : Nat} {f : Int → Option Int} (h : IMap w b n f) : b < w.heap.size := by
  obtain ⟨D, h1, _⟩ := h; exact h1.lt
theorem IMap.mono {w : World} {b n m : Nat} {f : Int → Option Int} (h : IMap w b n f) (hm : n ≤ m) : IMap w b m f := by
  obtain ⟨D, h1, h2⟩ := h; exact ⟨D, h1.mono hm, h2⟩
theorem IMap.made (w : World) : IMap (w.alloc (.map #[] 0)) w.heap.size 0 (fun _ => none) :=
  ⟨.map [], World.ownsMap_made _ _ _ _, ⟨[], rfl⟩, fun x _ => ⟨rfl, fun y h => by cases h⟩⟩

theorem keyed_int : Keyed Tryd.prog 3 := int_keyed Tryd.underlying3

theorem wpList_lookup_imap {w : World} {ops : Array Oper} {rest : List Oper} {o : Oper} {a : Act} {Q : Exit → Act → World → Prop} (hg : o.guard = none) (m x : Operand)
    (hop : o.op = Op.lookup 80 m x true) (b n : Nat) (f : Int → Option Int) (hm : a.eval m = .map (some b)) (hmap : IMap w b n f) (k : Int) (hx : a.eval x = .int .i64 k) (hk : fits k)
    (hK : wpList Tryd.prog ops Q rest (a.put o.dst (.tuple #[.int .i64 ((f k).getD 0), .bool (f k).isSome])) w) : wpList Tryd.prog ops Q (o :: rest) a w := by
  obtain ⟨D, hown, hD, hf⟩ := hmap
  obtain ⟨v, ps, hrun, hv⟩ := hown.look_ok keyed_int Tryd.underlying80 (z := .int .i64 0) (by kernel_rfl) (zd := .lit (.int .i64 0)) (zp := []) (plainElem_int Tryd.underlying3 (by decide)) (key := .int .i64 k) (kl := .int .i64 k) (keyOf_int_mk Tryd.underlying3 hk)
  obtain ⟨hh, hat⟩ := hf k hk
  have hv' : v = .int .i64 ((f k).getD 0) := by
    obtain ⟨c, rfl, hc, _⟩ := plainElem_int_inv Tryd.underlying3 hv
    cases hfk : f k with
    | none =>
      rw [hfk] at hh
      have := atKey_of_not_has (by simpa using hh) (.lit (.int .i64 0))
      rw [this] at hc
      simp at hc
      simp [hc.1]
    | some y =>
      have := hat y hfk (.lit (.int .i64 0))
      rw [this] at hc
      simp at hc
      simp [hc.1]
  rw [hh] at hrun
  subst hv'
  refine wpList_plain hg fun K' hK' => ?_
  unfold Oper.wp
  simp [execOp, hop, hm, hx, hrun, Result.andThen]
  exact hK' _ _ hK

theorem wpList_update_imap {w : World} {ops : Array Oper} {rest : List Oper} {o : Oper} {a : Act} {Q : Exit → Act → World → Prop} (hg : o.guard = none) (m x v : Operand)
    (hop : o.op = Op.mapUpdate 80 m x v) (b n : Nat) (f : Int → Option Int) (hm : a.eval m = .map (some b)) (hmap : IMap w b n f) (hn : n < maxLen) (k y : Int) (hx : a.eval x = .int .i64 k) (hv : a.eval v = .int .i64 y) (hk : fits k) (hy : fits y)
    (hK : ∀ w', IMap w' b (n + 1) (fun z => if z = k then some y else f z) → w.grownBy w' (some b) → wpList Tryd.prog ops Q rest (a.put o.dst undef) w') : wpList Tryd.prog ops Q (o :: rest) a w := by
  obtain ⟨D, hown, hD, hf⟩ := hmap
  have hkl : keyOf Tryd.prog 3 (.int .i64 k) = some (.int .i64 k) := keyOf_int_mk Tryd.underlying3 hk
  refine wpList_mapUpdate_own w hg m x v 80 hop 3 3 keyed_int Tryd.underlying80 (plainElem Tryd.prog 3) b n D hm hown hn (.int .i64 k) (.int .i64 y) (.int .i64 k) hx hv hkl (.lit (.int .i64 y)) [] (plainElem_int Tryd.underlying3 hy) (fun w' h1 h2 => ?_)
  have hkk : WideAt.IsKeyLit (.int .i64 k) := keyed_int.key hkl
  refine hK w' ⟨_, h1, hD.put _ _, fun z hz => ?_⟩ h2
  show has _ _ = (if z = k then some y else f z).isSome ∧ ∀ y', (if z = k then some y else f z) = some y' → ∀ z', _
  by_cases hzk : z = k
  · subst hzk
    rw [if_pos rfl]
    exact ⟨by rw [has_put_same hD hkk]; rfl, fun y' h z' => by cases h; exact atKey_put_same hD hkk _ _⟩
  · have hne : Lit.int .i64 z ≠ Lit.int .i64 k := fun e => hzk (by cases e; rfl)
    rw [if_neg hzk, has_put_other hne]
    exact ⟨(hf z hz).1, fun y' h z' => by rw [atKey_put_other hne]; exact (hf z hz).2 y' h z'⟩
end Go.Proofs.YtknoigebkpapoaaDoor
