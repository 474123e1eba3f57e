/- (for the node laws' Op) Arguments of the laws, opened: slices of ops, slices of numbers. -/
import Derived.Test.YtknoigebkpapoaaDoorRw
import Derived.Deep.Slices
import Derived.Deep.Fields
import Derived.ChangeSame
import Derived.ProofKit
import Derived.OpenShut
import Derived.ChangeOld
import Derived.Below
import Derived.SizedLaws
set_option linter.unusedVariables false
set_option linter.unusedSimpArgs false
namespace Go.Proofs.YtknoigebkpapoaaDoor
open Go.RowKit Go.Deep Go.ChangeShapes Go.WideShapes Go.ChangeAt

theorem open_ops5 {H : Type} {enc : TypeId × Value → H} {W : World} {a : Option Addr} {len cap : Nat} {d : DataW H} {p : List MemPlace}
    (h : DataW.Trod enc Tryd.prog W 0 (fun _ => true) true 48 (.slice a len cap) d p) : ∃ xs : List Nd, xs.length = len ∧ Ops W (.slice a len cap) xs := by
  obtain ⟨fuel, hf⟩ := h
  rcases open_slice_fields Tryd.underlying48 Tryd.underlying52 (by kernel_rfl) (by kernel_rfl) hf with hcs | ⟨x, l, c, m, hcs, hl, hm, hmm, hi⟩
  · simp [Value.cells] at hcs
    obtain ⟨rfl, rfl, rfl⟩ := hcs
    exact ⟨[], rfl, none, 0, rfl, by simp, by simp, fun i hi => by simp at hi⟩
  · simp [Value.cells] at hcs
    obtain ⟨rfl, rfl, rfl⟩ := hcs
    have hx : ∀ i, i < len → ∃ n : Nd, x.spot = none ∧ W.cell? (x.add (i * 3)) = some (.int .i64 n.v) ∧ W.cell? (x.add (i * 3 + 1)) = some (.int .i64 n.l) ∧ W.cell? (x.add (i * 3 + 2)) = some (.int .i64 n.h) := by
      intro i hil
      have h0 : 0 < m := by rw [hmm, if_pos rfl]; omega
      obtain ⟨n0, h00⟩ := hi 0 h0
      obtain ⟨u0, y0, hu0, _⟩ := h00 0 _ rfl
      have hsp : x.spot = none := World.cell?_spot (by simpa [Addr.add] using hu0)
      obtain ⟨n, hn⟩ := hi i (by rw [hmm, if_pos rfl]; omega)
      obtain ⟨v0, z0, c0, t0⟩ := hn 0 _ rfl
      obtain ⟨v1, z1, c1, t1⟩ := hn 1 _ rfl
      obtain ⟨v2, z2, c2, t2⟩ := hn 2 _ rfl
      obtain ⟨x0, e0, _⟩ := DataW.trod_int Tryd.underlying3 t0
      obtain ⟨x1, e1, _⟩ := DataW.trod_int Tryd.underlying3 t1
      obtain ⟨x2, e2, _⟩ := DataW.trod_int Tryd.underlying3 t2
      simp only [List.cons.injEq, and_true] at e0 e1 e2
      subst e0 e1 e2
      exact ⟨⟨x0, x1, x2⟩, hsp, c0, c1, c2⟩
    refine ⟨(List.range len).map (fun i => if h : i < len then Classical.choose (hx i h) else ⟨0, 0, 0⟩), by simp, ?_⟩
    refine ⟨some x, cap, by simp, by simpa using hl, hm, fun i hi' => ?_⟩
    have hil : i < len := by simpa using hi'
    obtain ⟨b, o, sp⟩ := x
    have hc := Classical.choose_spec (hx i hil)
    have hs0 : sp = none := hc.1
    have hg : ((List.range len).map (fun i => if h : i < len then Classical.choose (hx i h) else ⟨0, 0, 0⟩))[i] = Classical.choose (hx i hil) := by simp [hil]
    obtain ⟨nn, hnn⟩ : ∃ nn, nn = Classical.choose (hx i hil) := ⟨_, rfl⟩
    rw [← hnn] at hc hg
    rw [hg]
    clear hg hnn hi
    subst hs0
    have q0 := hc.2.1
    have q1 := hc.2.2.1
    have q2 := hc.2.2.2
    rw [add_at] at q0 q1 q2
    exact ⟨b, o, rfl, World.block_lt_of_cell? W _ q0, q0, by rw [Nat.add_assoc]; exact q1, by rw [Nat.add_assoc]; exact q2⟩

end Go.Proofs.YtknoigebkpapoaaDoor
