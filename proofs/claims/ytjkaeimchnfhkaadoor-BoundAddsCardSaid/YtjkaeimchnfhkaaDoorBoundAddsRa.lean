/- What the printed functions of the document's package 01 come to: the bound of a sum. -/
import Derived.Test.YtjkaeimchnfhkaaDoorPBoundAddsx44
import Derived.Test.YtjkaeimchnfhkaaDoorBoundAddsRe
set_option linter.unusedVariables false
set_option linter.unusedSimpArgs false
namespace Go.Proofs.YtjkaeimchnfhkaaDoor.PBoundAdds
open Go Go.RowKit Go.Proofs.YtjkaeimchnfhkaaDoorW.PrintWords Go.Proofs.YtjkaeimchnfhkaaDoorW.PrintLast Go.Proofs.YtjkaeimchnfhkaaDoorW.PrintMore

theorem rAdd_f (a b : Int) : helmsmanref01_Add.f 1 a b = some (Bd.add a b) := by
  unfold helmsmanref01_Add.f Bd.add
  rw [rNear_f, rNear_f, rNone]
  simp only [Option.bind_some]
  by_cases h1 : Bd.near a = 4611686018427387904
  · rw [if_pos h1, if_pos h1]
    simp only [helmsmanref01_Add.j0]
    simp only [if_true]
    rw [rNone]; rfl
  · rw [if_neg h1, if_neg h1]
    simp only [helmsmanref01_Add.j0]
    by_cases h2 : Bd.near b = 4611686018427387904
    · rw [if_pos (by simpa using h2), if_pos h2, rNone]; rfl
    · rw [if_neg (by simpa using h2), if_neg h2, rNear_f, rNear_f]
      simp only [Option.bind_some]
      have := Bd.near_cases a
      have := Bd.near_cases b
      rw [w64 (by omega), rNear_f]; rfl
end Go.Proofs.YtjkaeimchnfhkaaDoor.PBoundAdds
