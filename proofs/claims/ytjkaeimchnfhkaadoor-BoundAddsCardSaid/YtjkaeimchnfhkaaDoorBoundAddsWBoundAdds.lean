/- Walk of the law BoundAdds: it answers true. -/
import Derived.Test.YtjkaeimchnfhkaaDoorBoundAddsBt
import Derived.Test.YtjkaeimchnfhkaaDoorBoundAddsRa
set_option linter.unusedVariables false
set_option linter.unusedSimpArgs false
namespace Go.Proofs.YtjkaeimchnfhkaaDoor.PBoundAdds
open Go Go.RowKit Go.Proofs.YtjkaeimchnfhkaaDoorW.PrintWords Go.Proofs.YtjkaeimchnfhkaaDoorW.PrintLast Go.Proofs.YtjkaeimchnfhkaaDoorW.PrintMore
variable {w : World}

theorem rright_to (a : Int) (v : Bool) (h : Bd.right a = v) (w : World) :
    Calls Tryd.prog 16 #[.int .i64 a] w fun e w' => e = .returned (.bool v) ∧ Below w.heap.size w w' :=
  (helmsmanref01_Right.calls a v w (by rw [rRight_f, h])).mono fun e w' h => ⟨h.1, by first | exact h.2 | exact h.2.below⟩
theorem rnear_to (a v : Int) (h : Bd.near a = v) (w : World) :
    Calls Tryd.prog 18 #[.int .i64 a] w fun e w' => e = .returned (.int .i64 v) ∧ Below w.heap.size w w' :=
  (helmsmanref01_Near.calls a v w (by rw [rNear_f, h])).mono fun e w' h => ⟨h.1, by first | exact h.2 | exact h.2.below⟩
theorem radd_to (a b v : Int) (h : Bd.add a b = v) (w : World) :
    Calls Tryd.prog 20 #[.int .i64 a, .int .i64 b] w fun e w' => e = .returned (.int .i64 v) ∧ Below w.heap.size w w' :=
  (helmsmanref01_Add.calls 1 a b v w (by rw [rAdd_f, h])).mono fun e w' h => ⟨h.1, by first | exact h.2 | exact h.2.below⟩
set_option maxRecDepth 100000 in
set_option maxHeartbeats 4000000 in
theorem BoundAdds_walk (a b : Int) (hT : Tabs w) :
    Calls Tryd.prog 4 #[.int .i64 a, .int .i64 b] w fun e w' => e = .returned (.bool true) ∧ Below w.heap.size w w' := by
  have HT0 := Lib.hid hT
  clear hT
  obtain ⟨r, hr⟩ : ∃ r, Bd.right a = r := ⟨_, rfl⟩
  obtain ⟨p, hp⟩ : ∃ p, Bd.near a = p := ⟨_, rfl⟩
  obtain ⟨q, hq⟩ : ∃ q, Bd.near b = q := ⟨_, rfl⟩
  obtain ⟨s, hs⟩ : ∃ s, Bd.add a b = s := ⟨_, rfl⟩
  have hs2 : Bd.add b a = s := by rw [Bd.add_comm]; exact hs
  have hl : Bd.leq a b = decide (p ≤ q) := by rw [← hp, ← hq]; rfl
  have HR := Lib.hid hr
  have HP := Lib.hid hp
  have HQ := Lib.hid hq
  have HS := Lib.hid hs
  have HS2 := Lib.hid hs2
  have HL := Lib.hid hl
  clear hr hp hq hs hs2 hl
  go_enter Tryd.func4, Tryd.ntmps4
  go_wp2_with fail
  refine (alive01 HT0.out).mono ?_
  rintro e w1 ⟨rfl, hb1⟩
  have HB1 := Lib.hid hb1
  clear hb1
  go_wp2_with fail
  refine (right_to a r HR.out _).mono ?_
  rintro e w2 ⟨rfl, hb2⟩
  have HB2 := Lib.hid (seq HB1.out hb2)
  clear hb2 HB1
  go_wp2_with fail
  refine (rright_to a r HR.out _).mono ?_
  rintro e w3 ⟨rfl, hb3⟩
  have HB3 := Lib.hid (seq HB2.out hb3)
  clear hb3 HB2
  go_wp2_with fail
  refine (near_to a p HP.out _).mono ?_
  rintro e w4 ⟨rfl, hb4⟩
  have HB4 := Lib.hid (seq HB3.out hb4)
  clear hb4 HB3
  go_wp2_with fail
  refine (rnear_to a p HP.out _).mono ?_
  rintro e w5 ⟨rfl, hb5⟩
  have HB5 := Lib.hid (seq HB4.out hb5)
  clear hb5 HB4
  go_wp2_with fail
  refine (add_to a b s HS.out _).mono ?_
  rintro e w6 ⟨rfl, hb6⟩
  have HB6 := Lib.hid (seq HB5.out hb6)
  clear hb6 HB5
  go_wp2_with fail
  refine (radd_to a b s HS.out _).mono ?_
  rintro e w7 ⟨rfl, hb7⟩
  have HB7 := Lib.hid (seq HB6.out hb7)
  clear hb7 HB6
  go_wp2_with fail
  refine (add_to b a s HS2.out _).mono ?_
  rintro e w8 ⟨rfl, hb8⟩
  have HB8 := Lib.hid (seq HB7.out hb8)
  clear hb8 HB7
  go_wp2_with fail
  refine (add_to a b s HS.out _).mono ?_
  rintro e w9 ⟨rfl, hb9⟩
  have HB9 := Lib.hid (seq HB8.out hb9)
  clear hb9 HB8
  go_wp2_with fail
  refine (leq_to a b _ HL.out _).mono ?_
  rintro e w10 ⟨rfl, hb10⟩
  have HB10 := Lib.hid (seq HB9.out hb10)
  clear hb10 HB9
  go_wp2_with fail
  refine (rnear_to a p HP.out _).mono ?_
  rintro e w11 ⟨rfl, hb11⟩
  have HB11 := Lib.hid (seq HB10.out hb11)
  clear hb11 HB10
  go_wp2_with fail
  refine (rnear_to b q HQ.out _).mono ?_
  rintro e w12 ⟨rfl, hb12⟩
  have HB12 := Lib.hid (seq HB11.out hb12)
  clear hb12 HB11
  go_wp2_with fail
  go_ret
  exact ⟨rfl, HB12.out⟩
end Go.Proofs.YtjkaeimchnfhkaaDoor.PBoundAdds
