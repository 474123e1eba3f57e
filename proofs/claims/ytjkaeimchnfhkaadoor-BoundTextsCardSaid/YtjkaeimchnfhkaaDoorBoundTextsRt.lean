/- What the printed functions of the document's package 01 come to: a bound's text. -/
import Derived.Test.YtjkaeimchnfhkaaDoorPBoundTextsx46
import Derived.Test.YtjkaeimchnfhkaaDoorBoundTextsRe
import Derived.Test.YtjkaeimchnfhkaaDoorBoundTextsRd
set_option linter.unusedVariables false
set_option linter.unusedSimpArgs false
namespace Go.Proofs.YtjkaeimchnfhkaaDoor.PBoundTexts
open Go Go.RowKit Go.Proofs.YtjkaeimchnfhkaaDoorW.PrintWords Go.Proofs.YtjkaeimchnfhkaaDoorW.PrintLast Go.Proofs.YtjkaeimchnfhkaaDoorW.PrintMore

theorem rText_f (b : Int) : helmsmanref01_Text.f 30 b = some ⟨(Bd.text b).toArray⟩ := by
  unfold helmsmanref01_Text.f Bd.text
  rw [rNear_f, rNone]
  simp only [Option.bind_some]
  by_cases h : Bd.near b = 4611686018427387904
  · rw [if_pos h, if_pos h]
  · have := Bd.near_cases b
    rw [if_neg h, if_neg h, rDigits_f _ (by omega)]; rfl
end Go.Proofs.YtjkaeimchnfhkaaDoor.PBoundTexts
