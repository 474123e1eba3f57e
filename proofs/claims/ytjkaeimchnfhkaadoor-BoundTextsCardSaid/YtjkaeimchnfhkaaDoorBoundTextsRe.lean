/- What the printed functions of the document's package 01 come to: the nearest bound. -/
import Derived.Test.YtjkaeimchnfhkaaDoorPBoundTextsx43
import Derived.Test.YtjkaeimchnfhkaaDoorBoundTextsRn
set_option linter.unusedVariables false
set_option linter.unusedSimpArgs false
namespace Go.Proofs.YtjkaeimchnfhkaaDoor.PBoundTexts
open Go Go.RowKit Go.Proofs.YtjkaeimchnfhkaaDoorW.PrintWords Go.Proofs.YtjkaeimchnfhkaaDoorW.PrintLast Go.Proofs.YtjkaeimchnfhkaaDoorW.PrintMore

theorem rNear_f (b : Int) : helmsmanref01_Near.f b = some (Bd.near b) := by
  unfold helmsmanref01_Near.f
  rw [rRight_f]
  simp only [Option.bind_some]
  cases h : Bd.right b
  · rw [if_neg (by simp), rEdge, rNone]
    simp only [Option.bind_some]
    have h' : ¬ Bd.right b = true := by rw [h]; simp
    rw [Bd.right_iff] at h'
    unfold Bd.near
    rw [w64 (by omega)]
    by_cases h0 : b < 0
    · rw [if_pos h0, if_neg (by omega), if_pos (by omega)]
    · rw [if_neg h0, if_pos (by omega)]
  · rw [if_pos rfl, Bd.near_of_right h]
end Go.Proofs.YtjkaeimchnfhkaaDoor.PBoundTexts
