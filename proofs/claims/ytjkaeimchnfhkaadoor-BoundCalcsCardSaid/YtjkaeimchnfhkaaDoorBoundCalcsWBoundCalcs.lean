/- Walk of the law BoundCalcs: it answers true. -/
import Derived.Test.YtjkaeimchnfhkaaDoorBoundCalcsBt
import Derived.Test.YtjkaeimchnfhkaaDoorBoundCalcsRc
set_option linter.unusedVariables false
set_option linter.unusedSimpArgs false
namespace Go.Proofs.YtjkaeimchnfhkaaDoor.PBoundCalcs
open Go Go.RowKit Go.Proofs.YtjkaeimchnfhkaaDoorW.PrintWords Go.Proofs.YtjkaeimchnfhkaaDoorW.PrintLast Go.Proofs.YtjkaeimchnfhkaaDoorW.PrintMore
variable {w : World}

theorem rcalc_to (op a b v1 v2 : Int) (h : Bd.calc' op a b = (v1, v2)) (w : World) :
    Calls Tryd.prog 11 #[.int .i64 op, .int .i64 a, .int .i64 b] w fun e w' => e = .returned (.tuple #[.int .i64 v1, .int .i64 v2]) ∧ Below w.heap.size w w' :=
  (helmsmanref01_Calc.calls 200 op a b v1 v2 w (by rw [rCalc_f, h])).mono fun e w' h => ⟨h.1, by first | exact h.2 | exact h.2.below⟩
theorem rin_to (a : Int) (v : Bool) (h : Bd.inn a = v) (w : World) :
    Calls Tryd.prog 14 #[.int .i64 a] w fun e w' => e = .returned (.bool v) ∧ Below w.heap.size w w' :=
  (helmsmanref01_In.calls a v w (by rw [rIn_f, h])).mono fun e w' h => ⟨h.1, h.2.below⟩
set_option maxRecDepth 100000 in
set_option maxHeartbeats 4000000 in
theorem BoundCalcs_walk (op a b : Int) (hT : Tabs w) :
    Calls Tryd.prog 3 #[.int .i64 op, .int .i64 a, .int .i64 b] w fun e w' => e = .returned (.bool true) ∧ Below w.heap.size w w' := by
  have HT0 := Lib.hid hT
  clear hT
  obtain ⟨⟨n, m⟩, hc⟩ : ∃ p, Bd.calc' op a b = p := ⟨_, rfl⟩
  obtain ⟨r, hr⟩ : ∃ r, Bd.inn a = r := ⟨_, rfl⟩
  have HC := Lib.hid hc
  have HR := Lib.hid hr
  clear hc hr
  go_enter Tryd.func3, Tryd.ntmps3
  go_wp2_with fail
  refine (calc_to op a b n m HC.out _).mono ?_
  rintro e w1 ⟨rfl, hb1⟩
  have HB1 := Lib.hid hb1
  clear hb1
  go_wp2_with fail
  refine (rcalc_to op a b n m HC.out _).mono ?_
  rintro e w2 ⟨rfl, hb2⟩
  have HB2 := Lib.hid (seq HB1.out hb2)
  clear hb2 HB1
  go_wp2_with fail
  refine (alive01 (HT0.out.below HB2.out)).mono ?_
  rintro e w3 ⟨rfl, hb3⟩
  have HB3 := Lib.hid (seq HB2.out hb3)
  clear hb3 HB2
  go_wp2_with fail
  refine (in_to a r HR.out _).mono ?_
  rintro e w4 ⟨rfl, hb4⟩
  have HB4 := Lib.hid (seq HB3.out hb4)
  clear hb4 HB3
  go_wp2_with fail
  refine (rin_to a r HR.out _).mono ?_
  rintro e w5 ⟨rfl, hb5⟩
  have HB5 := Lib.hid (seq HB4.out hb5)
  clear hb5 HB4
  go_wp2_with fail
  go_ret
  exact ⟨rfl, HB5.out⟩
end Go.Proofs.YtjkaeimchnfhkaaDoor.PBoundCalcs
