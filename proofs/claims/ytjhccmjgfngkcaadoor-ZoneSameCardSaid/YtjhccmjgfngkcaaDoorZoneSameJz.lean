/- How a zone among the arguments is read. -/
import Derived.Test.YtjhccmjgfngkcaaDoorZoneSameZv
import Derived.ChangeSlices
import Derived.Lib.SmallJoins
set_option linter.unusedVariables false
set_option linter.unusedSimpArgs false
namespace Go.Proofs.YtjhccmjgfngkcaaDoor.PZoneSame
open Go Go.RowKit Go.ChangeShapes Go.WideShapes Go.ChangeAt Go.Joins Go.WideElems Go.Maps Go.Deep
theorem open_row {H : Type} {enc : TypeId × Value → H} {W : World} {fuel : Nat} {cs : List Value} {y : DataW H × List MemPlace}
    (hf : DataW.trod enc Tryd.prog W 0 (fun _ => true) true fuel 22 cs = some y) : ∃ v xs, cs = [v] ∧ IntsAt W v xs := by
  rcases open_ints Tryd.underlying22 Tryd.underlying3 (by kernel_rfl) hf with ⟨hcs, _⟩ | ⟨x, l, c, zs, hcs, _, hl, hm, hz, _, hcell, hwz⟩
  · exact ⟨_, [], hcs, none, 0, rfl, by simp, by simp, fun h => absurd rfl h⟩
  · refine ⟨_, zs.take l, hcs, ?_⟩
    rw [if_pos rfl] at hz
    have hlen : (zs.take l).length = l := by simp; omega
    unfold maxLen at hm
    refine ⟨some x, c, by rw [hlen], by rw [hlen]; omega, by rw [hlen]; omega, fun hn => ?_⟩
    have h00 : 0 < l := by
      rcases Nat.eq_zero_or_pos l with e | e
      · rw [e] at hn; exact absurd rfl hn
      · exact e
    obtain ⟨b, o, sp⟩ := x
    have h0 := hcell 0 (by omega)
    obtain rfl : sp = none := by simpa [Addr.add] using World.cell?_spot h0
    refine ⟨b, o, rfl, ?_, fun j hj => ?_⟩
    · have := World.block_lt_of_cell? W _ h0
      simpa [Addr.add] using this
    · rw [hlen] at hj
      have hi2 := hcell j (by omega)
      rw [Addr.add_lit] at hi2
      refine hi2.trans ?_
      have hz2 : j < zs.length := by omega
      simp [List.getD, hz2, hj]
set_option maxRecDepth 100000 in
theorem open_zone {H : Type} {enc : TypeId × Value → H} {W : World} {T : TypeId} {f0 f1 : Field} {v : Value} {d : DataW H} {p : List MemPlace} {b0 : Nat}
    (hs : Tryd.prog.underlying T = some (.struct #[f0, f1])) (hone : oneCellFields Tryd.prog #[f0, f1] = true) (hC : Tryd.prog.cellsOf T = 2) (e0 : Tryd.prog.underlying f0.type = some (.int .i64)) (e1 : f1.type = 22)
    (hv : Value.okWide Tryd.prog W .any b0 T v) (h : DataW.Trod enc Tryd.prog W 0 (fun _ => true) true T v d p) :
    ∃ (N : Int) (L : List Int), ZAt W v N L := by
  obtain ⟨v0, v1, y0, y1, n, rfl, rfl, rfl, h0, h1⟩ := open_agg2 hs hone hC hv h
  obtain ⟨a, ea, _, _⟩ := DataW.trod_int e0 h0
  rw [e1] at h1
  obtain ⟨s, xs, es, hi⟩ := open_row h1
  injection ea with ea
  injection es with es
  subst ea; subst es
  exact ⟨a, xs, _, rfl, hi⟩
end Go.Proofs.YtjhccmjgfngkcaaDoor.PZoneSame
