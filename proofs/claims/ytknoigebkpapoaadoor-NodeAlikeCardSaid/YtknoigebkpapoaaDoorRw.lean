/- Arguments of the laws, opened: slices of ops, slices of numbers. -/
import Derived.Test.YtknoigebkpapoaaDoorRb
import Derived.Deep.Slices
import Derived.Deep.Fields
import Derived.ChangeSame
import Derived.ProofKit
import Derived.OpenShut
import Derived.ChangeOld
import Derived.Below
import Derived.SizedLaws
set_option linter.unusedVariables false
set_option linter.unusedSimpArgs false
namespace Go.Proofs.YtknoigebkpapoaaDoor
open Go.RowKit Go.Deep Go.ChangeShapes Go.WideShapes Go.ChangeAt

section
variable {H : Type} {enc : TypeId × Value → H} {P : Program} {w : World} {base : Nat} {spare : Nat → Bool} {held : Bool}
/-- A slice of structs, opened: each field of each element. -/
theorem open_slice_fields {t e : TypeId} {fs : Array Field} {fuel : Nat} {cs : List Value} {x : DataW H × List MemPlace} (ht : P.underlying t = some (.slice e)) (he : P.underlying e = some (.struct fs))
    (hone : oneCellFields P fs = true) (hC : P.cellsOf e = fs.size) (h : DataW.trod enc P w base spare held fuel t cs = some x) :
    (cs = [.slice none 0 0]) ∨
    ∃ (a : Addr) (len cap m : Nat), cs = [.slice (some a) len cap] ∧ len ≤ cap ∧ cap ≤ maxLen ∧ m = (if spare a.block then cap else len) ∧
      ∀ i, i < m → ∃ (n : Nat), ∀ (j : Nat) (f : Field), fs[j]? = some f → ∃ (v : Value) (y : DataW H × List MemPlace), w.cell? (a.add (i * fs.size + j)) = some v ∧ DataW.trod enc P w base spare held n f.type [v] = some y := by
  rcases open_slice ht h with h0 | ⟨a, len, cap, m, n, D, Pl, hcs, hb, hl, hm, hmm, hx, hi⟩
  · exact .inl h0.1
  · refine .inr ⟨a, len, cap, m, hcs, hl, hm, hmm, fun i him => ?_⟩
    obtain ⟨cs', hc, ht'⟩ := hi i him
    rw [hC] at hc
    obtain ⟨ys, n', hn', hy, hlen, hyl, hf⟩ := DataW.trod_struct he ht'
    obtain ⟨_, hcl, hat⟩ := World.cells?_some hc
    refine ⟨n', fun j f hj => ?_⟩
    obtain ⟨ho, hk⟩ := hone_of hone j f hj
    have hjl : j < fs.size := (Array.getElem?_eq_some_iff.1 hj).1
    have hcell := hat j hjl
    have hv : cs'[j]? = some (cs'[j]'(by omega)) := List.getElem?_eq_getElem (by omega)
    have h1 := hf j f hj
    rw [ho, hk] at h1
    have hone' : (cs'.drop j).take 1 = [cs'[j]'(by omega)] := by
      rw [List.drop_eq_getElem_cons (by omega)]
      rfl
    rw [hone'] at h1
    have hys : ys[j]? = some (ys[j]'(by omega)) := List.getElem?_eq_getElem (by omega)
    refine ⟨_, _, ?_, h1.trans hys⟩
    rw [← Go.Deep.add_add, hcell, hv]
end

theorem open_ops {H : Type} {enc : TypeId × Value → H} {W : World} {a : Option Addr} {len cap : Nat} {d : DataW H} {p : List MemPlace}
    (h : DataW.Trod enc Tryd.prog W 0 (fun _ => true) true 22 (.slice a len cap) d p) : ∃ xs : List Nd, xs.length = len ∧ Ops W (.slice a len cap) xs := by
  obtain ⟨fuel, hf⟩ := h
  rcases open_slice_fields Tryd.underlying22 Tryd.underlying76 (by kernel_rfl) (by kernel_rfl) hf with hcs | ⟨x, l, c, m, hcs, hl, hm, hmm, hi⟩
  · simp [Value.cells] at hcs
    obtain ⟨rfl, rfl, rfl⟩ := hcs
    exact ⟨[], rfl, none, 0, rfl, by simp, by simp, fun i hi => by simp at hi⟩
  · simp [Value.cells] at hcs
    obtain ⟨rfl, rfl, rfl⟩ := hcs
    have hx : ∀ i, i < len → ∃ n : Nd, x.spot = none ∧ W.cell? (x.add (i * 3)) = some (.int .i64 n.v) ∧ W.cell? (x.add (i * 3 + 1)) = some (.int .i64 n.l) ∧ W.cell? (x.add (i * 3 + 2)) = some (.int .i64 n.h) := by
      intro i hil
      have h0 : 0 < m := by rw [hmm, if_pos rfl]; omega
      obtain ⟨n0, h00⟩ := hi 0 h0
      obtain ⟨u0, y0, hu0, _⟩ := h00 0 _ rfl
      have hsp : x.spot = none := World.cell?_spot (by simpa [Addr.add] using hu0)
      obtain ⟨n, hn⟩ := hi i (by rw [hmm, if_pos rfl]; omega)
      obtain ⟨v0, z0, c0, t0⟩ := hn 0 _ rfl
      obtain ⟨v1, z1, c1, t1⟩ := hn 1 _ rfl
      obtain ⟨v2, z2, c2, t2⟩ := hn 2 _ rfl
      obtain ⟨x0, e0, _⟩ := DataW.trod_int Tryd.underlying3 t0
      obtain ⟨x1, e1, _⟩ := DataW.trod_int Tryd.underlying3 t1
      obtain ⟨x2, e2, _⟩ := DataW.trod_int Tryd.underlying3 t2
      simp only [List.cons.injEq, and_true] at e0 e1 e2
      subst e0 e1 e2
      exact ⟨⟨x0, x1, x2⟩, hsp, c0, c1, c2⟩
    refine ⟨(List.range len).map (fun i => if h : i < len then Classical.choose (hx i h) else ⟨0, 0, 0⟩), by simp, ?_⟩
    refine ⟨some x, cap, by simp, by simpa using hl, hm, fun i hi' => ?_⟩
    have hil : i < len := by simpa using hi'
    obtain ⟨b, o, sp⟩ := x
    have hc := Classical.choose_spec (hx i hil)
    have hs0 : sp = none := hc.1
    have hg : ((List.range len).map (fun i => if h : i < len then Classical.choose (hx i h) else ⟨0, 0, 0⟩))[i] = Classical.choose (hx i hil) := by simp [hil]
    obtain ⟨nn, hnn⟩ : ∃ nn, nn = Classical.choose (hx i hil) := ⟨_, rfl⟩
    rw [← hnn] at hc hg
    rw [hg]
    clear hg hnn hi
    subst hs0
    have q0 := hc.2.1
    have q1 := hc.2.2.1
    have q2 := hc.2.2.2
    rw [add_at] at q0 q1 q2
    exact ⟨b, o, rfl, World.block_lt_of_cell? W _ q0, q0, by rw [Nat.add_assoc]; exact q1, by rw [Nat.add_assoc]; exact q2⟩

theorem open_nums {H : Type} {enc : TypeId × Value → H} {W : World} {a : Option Addr} {len cap : Nat} {d : DataW H} {p : List MemPlace}
    (h : DataW.Trod enc Tryd.prog W 0 (fun _ => true) true 23 (.slice a len cap) d p) : ∃ xs : List Int, xs.length = len ∧ Ints W (.slice a len cap) xs := by
  obtain ⟨fuel, hf⟩ := h
  rcases open_ints Tryd.underlying23 Tryd.underlying3 (by kernel_rfl) hf with ⟨hcs, _⟩ | ⟨x, l, c, zs, hcs, _, hl, hm, hz, _, hcell, hwz⟩
  · simp [Value.cells] at hcs
    obtain ⟨rfl, rfl, rfl⟩ := hcs
    exact ⟨[], rfl, none, 0, rfl, by simp, by simp, fun i hi => by simp at hi⟩
  · simp [Value.cells] at hcs
    obtain ⟨rfl, rfl, rfl⟩ := hcs
    rw [if_pos rfl] at hz
    refine ⟨zs.take len, by simp; omega, some x, cap, by simp; omega, by simp; omega, hm, fun i hi => ?_⟩
    have hil : i < len := by simp at hi; omega
    obtain ⟨b, o, sp⟩ := x
    have h0 := hcell 0 (by omega)
    obtain rfl : sp = none := by simpa [Addr.add] using World.cell?_spot h0
    have hi2 := hcell i (by omega)
    rw [add_at] at hi2
    refine ⟨b, o, rfl, hi2.trans ?_⟩
    have hz2 : i < zs.length := by omega
    simp [List.getD, hz2]
end Go.Proofs.YtknoigebkpapoaaDoor
