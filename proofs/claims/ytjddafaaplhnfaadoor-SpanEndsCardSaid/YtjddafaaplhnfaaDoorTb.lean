/- What the library's table of powers of ten holds, as a walk wants it: kept by whatever leaves the old blocks alone. -/
import Derived.Test.YtjddafaaplhnfaaDoorShelf
import Derived.Test.YtjddafaaplhnfaaDoorRows
import Derived.WalkKit
import Derived.Lib.Hide
import Derived.Lib.LaidTab
set_option linter.unusedVariables false
set_option linter.unusedSimpArgs false
namespace Go.Proofs.YtjddafaaplhnfaaDoor
open Go.RowKit

theorem Below.drewN' {B : Nat} {a w : World} (h : Below B a w) (n : Nat) : Below B a (w.drewN n) := ⟨h.os, h.tape, h.output, h.size, h.block⟩
theorem Below.push {B : Nat} {a w : World} (h : Below B a w) (hB : B ≤ a.heap.size) (o : Obj) : Below B a (w.alloc o) := h.alloc (Nat.le_trans hB h.size) o
theorem Below.seq_to {w wx w2 : World} (k : Below wx.heap.size wx w2) (h : Below w.heap.size w wx) : Below w.heap.size w w2 := h.trans (k.mono h.size)

structure Tabs (w : World) : Prop where
  pow : Lib.TabIs Tryd.prog w "internal/strconv.uint64pow10" .u64 Lib.pow10Tab

theorem var_below {w w' : World} {n : String} {cs : Array Value} (h : w.var? Tryd.prog n = some cs) (hb : Below w.heap.size w w') : w'.var? Tryd.prog n = some cs := by
  unfold World.var? at h ⊢
  cases hg : Tryd.prog.globalNamed n with
  | none => rw [hg] at h; cases h
  | some g =>
    rw [hg] at h
    simp only [Option.bind_some] at h ⊢
    have hlt : g < w.heap.size := by
      apply Classical.byContradiction
      intro hn
      rw [Array.getElem?_eq_none (by omega)] at h
      cases h
    rw [hb.block g hlt]
    exact h
theorem Tabs.below {w w' : World} (h : Tabs w) (hb : Below w.heap.size w w') : Tabs w' := ⟨var_below h.pow hb⟩
theorem below_grow (w : World) (n : Nat) (os : Array Obj) : Below w.heap.size w (Go.Sort.grow (w.drewN n) os) :=
  ⟨rfl, rfl, rfl, by simp [Go.Sort.grow, World.drewN], fun k hk => by show (w.heap ++ os)[k]? = w.heap[k]?; exact Array.getElem?_append_left hk⟩

theorem tab_pow : Tryd.prog.globalNamed "internal/strconv.uint64pow10" = some 0 := by kernel_rfl
theorem tab_powT : (Tryd.prog.globals[0]?).map (·.type) = some 87 := by kernel_rfl
theorem tab_cellsU64 : Tryd.prog.cellsOf 75 = 1 := by kernel_rfl
theorem tab_cellsTab : Tryd.prog.cellsOf 87 = 20 := by kernel_rfl
end Go.Proofs.YtjddafaaplhnfaaDoor
