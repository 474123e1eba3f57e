/- What the printed functions of the document's package 01 come to: which bounds may be. -/
import Derived.Test.YtjkaeimchnfhkaaDoorPBoundParsesx42
import Derived.Test.YtjkaeimchnfhkaaDoorBoundParsesBv
set_option linter.unusedVariables false
set_option linter.unusedSimpArgs false
namespace Go.Proofs.YtjkaeimchnfhkaaDoor.PBoundParses
open Go Go.RowKit Go.Proofs.YtjkaeimchnfhkaaDoorW.PrintWords Go.Proofs.YtjkaeimchnfhkaaDoorW.PrintLast Go.Proofs.YtjkaeimchnfhkaaDoorW.PrintMore

theorem rEdge : helmsmanref01_Edge.f = some 2305843009213693952 := rfl
theorem rNone : helmsmanref01_None.f = some 4611686018427387904 := rfl
theorem rRight_f (b : Int) : helmsmanref01_Right.f b = some (Bd.right b) := by
  unfold helmsmanref01_Right.f Bd.right
  rw [rEdge, rNone]
  simp only [Option.bind_some]
  rw [w64 (by omega)]
  by_cases h1 : b ≥ -2305843009213693952
  · rw [if_pos h1, decide_eq_true (show -2305843009213693952 ≤ b from h1)]
    by_cases h2 : b ≤ 2305843009213693952
    · rw [if_pos h2, decide_eq_true h2]; rfl
    · rw [if_neg h2, decide_eq_false h2]; rfl
  · rw [if_neg h1, decide_eq_false (show ¬ -2305843009213693952 ≤ b from h1)]; rfl
end Go.Proofs.YtjkaeimchnfhkaaDoor.PBoundParses
