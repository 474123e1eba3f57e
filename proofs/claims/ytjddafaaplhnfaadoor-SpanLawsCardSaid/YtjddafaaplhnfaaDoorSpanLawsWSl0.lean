/- Walk of the law SpanLaws: it answers true. -/
import Derived.Test.YtjddafaaplhnfaaDoorSpanLawsSm
import Derived.Test.YtjddafaaplhnfaaDoorPSpanLawsx41
import Derived.Test.YtjddafaaplhnfaaDoorPm
set_option linter.unusedVariables false
set_option linter.unusedSimpArgs false
namespace Go.Proofs.YtjddafaaplhnfaaDoor.PSpanLaws
open Go Go.RowKit Go.Deep Go.Proofs.YtjddafaaplhnfaaDoorW.PrintWords Go.Proofs.YtjddafaaplhnfaaDoorW.PrintLast Go.Proofs.YtjddafaaplhnfaaDoorW.PrintMore
variable {w : World}
attribute [local go_sem high] eq_sp
theorem Join_f (a0 a1 b0 b1 : Int) : span_Join.f a0 a1 b0 b1 = some (Sp.join a0 a1 b0 b1) := by
  unfold span_Join.f Sp.join
  rw [none_f, none_f, clean_f]
  simp only [Option.bind_some]
  cases h1 : Sp.ok a0 a1 <;> cases h2 : Sp.ok b0 b1 <;> simp [mx_eq, mn_eq]
theorem join_to (a0 a1 b0 b1 v1 v2 : Int) (h : Sp.join a0 a1 b0 b1 = (v1, v2)) (w : World) :
    Calls Tryd.prog 26 #[.agg #[.int .i64 a0, .int .i64 a1], .agg #[.int .i64 b0, .int .i64 b1]] w fun e w' => e = .returned (.agg #[.int .i64 v1, .int .i64 v2]) ∧ Below w.heap.size w w' :=
  (span_Join.calls a0 a1 b0 b1 v1 v2 w (by rw [Join_f, h])).mono fun e w' h => ⟨h.1, by first | exact h.2 | exact h.2.below⟩
theorem size2 (W : World) (o7 : Obj) : (W.alloc o7).heap.size = W.heap.size + 1 := by simp
theorem two_boxes (W : World) (o7 o8 : Obj) : ((W.alloc o7).alloc o8).heap[W.heap.size]? = some o7 ∧ ((W.alloc o7).alloc o8).heap[W.heap.size + 1]? = some o8 := by
  refine ⟨blk_alloc (blk_new _ _) _, ?_⟩
  have := blk_new (W.alloc o7) o8
  rw [size2] at this
  exact this
end Go.Proofs.YtjddafaaplhnfaaDoor.PSpanLaws
