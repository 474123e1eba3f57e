/- What the library's tables and sentinels hold, as a walk wants it: kept by whatever leaves the old blocks alone; and got from a row's list. -/
import Derived.Test.YtjkaeimchnfhkaaDoorShelf
import Derived.Test.YtjkaeimchnfhkaaDoorRows
import Derived.WalkKit
import Derived.Lib.Hide
import Derived.Stop.LaidErr
import Derived.Lib.AtoiErrMem
set_option linter.unusedVariables false
set_option linter.unusedSimpArgs false
namespace Go.Proofs.YtjkaeimchnfhkaaDoor
open Go.RowKit

theorem Below.drewN' {B : Nat} {a w : World} (h : Below B a w) (n : Nat) : Below B a (w.drewN n) := ⟨h.os, h.tape, h.output, h.size, h.block⟩
theorem Below.push {B : Nat} {a w : World} (h : Below B a w) (hB : B ≤ a.heap.size) (o : Obj) : Below B a (w.alloc o) := h.alloc (Nat.le_trans hB h.size) o
theorem Below.seq_to {w wx w2 : World} (k : Below wx.heap.size wx w2) (h : Below w.heap.size w wx) : Below w.heap.size w w2 := h.trans (k.mono h.size)

structure Tabs (w : World) : Prop where
  pow : Lib.TabIs Tryd.prog w "internal/strconv.uint64pow10" .u64 Lib.pow10Tab
  syn : ∃ tp p, w.var? Tryd.prog "strconv.ErrSyntax" = some #[.iface tp p]
  rng : ∃ tp p, w.var? Tryd.prog "strconv.ErrRange" = some #[.iface tp p]

theorem var_below {w w' : World} {n : String} {cs : Array Value} (h : w.var? Tryd.prog n = some cs) (hb : Below w.heap.size w w') : w'.var? Tryd.prog n = some cs := by
  unfold World.var? at h ⊢
  cases hg : Tryd.prog.globalNamed n with
  | none => rw [hg] at h; cases h
  | some g =>
    rw [hg] at h
    simp only [Option.bind_some] at h ⊢
    have hlt : g < w.heap.size := by
      apply Classical.byContradiction
      intro hn
      rw [Array.getElem?_eq_none (by omega)] at h
      cases h
    rw [hb.block g hlt]
    exact h

theorem Tabs.below {w w' : World} (h : Tabs w) (hb : Below w.heap.size w w') : Tabs w' := by
  obtain ⟨t1, p1, h1⟩ := h.syn
  obtain ⟨t2, p2, h2⟩ := h.rng
  exact ⟨var_below h.pow hb, ⟨t1, p1, var_below h1 hb⟩, ⟨t2, p2, var_below h2 hb⟩⟩

theorem below_grow (w : World) (n : Nat) (os : Array Obj) : Below w.heap.size w (Go.Sort.grow (w.drewN n) os) :=
  ⟨rfl, rfl, rfl, by simp [Go.Sort.grow, World.drewN], fun k hk => by show (w.heap ++ os)[k]? = w.heap[k]?; exact Array.getElem?_append_left hk⟩

theorem tab_pow : Tryd.prog.globalNamed "internal/strconv.uint64pow10" = some 2 := by kernel_rfl
theorem tab_powT : (Tryd.prog.globals[2]?).map (·.type) = some 69 := by kernel_rfl
theorem tab_syn : Tryd.prog.globalNamed "strconv.ErrSyntax" = some 0 := by kernel_rfl
theorem tab_synT : (Tryd.prog.globals[0]?).map (·.type) = some 41 := by kernel_rfl
theorem tab_rng : Tryd.prog.globalNamed "strconv.ErrRange" = some 1 := by kernel_rfl
theorem tab_rngT : (Tryd.prog.globals[1]?).map (·.type) = some 41 := by kernel_rfl
theorem tab_cellsStr : Tryd.prog.cellsOf 9 = 1 := by kernel_rfl
theorem tab_cellsErr : Tryd.prog.cellsOf 77 = 1 := by kernel_rfl
theorem tab_cellsU64 : Tryd.prog.cellsOf 44 = 1 := by kernel_rfl
theorem tab_cellsTab : Tryd.prog.cellsOf 69 = 20 := by kernel_rfl
theorem tab_row : ((List.range 95).filter fun t => Tryd.prog.typeName? 3 t == some "*errors.errorString") = [75] := by kernel_rfl
theorem tab_size : Tryd.prog.types.size = 95 := by kernel_rfl
end Go.Proofs.YtjkaeimchnfhkaaDoor
