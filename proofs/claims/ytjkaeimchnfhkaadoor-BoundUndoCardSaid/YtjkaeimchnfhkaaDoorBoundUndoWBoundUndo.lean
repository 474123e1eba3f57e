/- Walk of the law BoundUndo: it answers true. -/
import Derived.Test.YtjkaeimchnfhkaaDoorBoundUndoBt
set_option linter.unusedVariables false
set_option linter.unusedSimpArgs false
namespace Go.Proofs.YtjkaeimchnfhkaaDoor.PBoundUndo
open Go Go.RowKit Go.Proofs.YtjkaeimchnfhkaaDoorW.PrintWords Go.Proofs.YtjkaeimchnfhkaaDoorW.PrintLast Go.Proofs.YtjkaeimchnfhkaaDoorW.PrintMore
variable {w : World}

set_option maxRecDepth 100000 in
set_option maxHeartbeats 4000000 in
theorem BoundUndo_walk (a b : Int) (hT : Tabs w) :
    Calls Tryd.prog 8 #[.int .i64 a, .int .i64 b] w fun e w' => e = .returned (.bool true) ∧ Below w.heap.size w w' := by
  have HT0 := Lib.hid hT
  clear hT
  obtain ⟨⟨s, e0⟩, hs⟩ : ∃ p, Bd.calc' 0 a b = p := ⟨_, rfl⟩
  obtain ⟨⟨p, e1⟩, hp⟩ : ∃ p, Bd.calc' 2 a b = p := ⟨_, rfl⟩
  have HS := Lib.hid hs
  have HP := Lib.hid hp
  by_cases c0 : e0 = 0
  · by_cases c1 : e1 = 0
    · by_cases cb : b = 0
      · subst c0
        have HU := Lib.hid (Bd.plus_undo hs)
        subst c1
        subst cb
        clear hs hp
        go_enter Tryd.func8, Tryd.ntmps8
        go_wp2_with fail
        refine (calc_to 0 a 0 s 0 HS.out _).mono ?_
        rintro e w1 ⟨rfl, hb1⟩
        have HB1 := Lib.hid hb1
        clear hb1
        go_wp2_with fail
        refine (calc_to 2 a 0 p 0 HP.out _).mono ?_
        rintro e w2 ⟨rfl, hb2⟩
        have HB2 := Lib.hid (seq HB1.out hb2)
        clear hb2 HB1
        go_wp2_with fail
        refine (calc_to 1 s 0 a 0 HU.out _).mono ?_
        rintro e w3 ⟨rfl, hb3⟩
        have HB3 := Lib.hid (seq HB2.out hb3)
        clear hb3 HB2
        go_wp2_with fail
        refine (alive01 (HT0.out.below HB3.out)).mono ?_
        rintro e w4 ⟨rfl, hb4⟩
        have HB4 := Lib.hid (seq HB3.out hb4)
        clear hb4 HB3
        go_wp2_with fail
        go_ret
        exact ⟨rfl, HB4.out⟩
      · subst c0
        have HU := Lib.hid (Bd.plus_undo hs)
        subst c1
        have HV := Lib.hid (Bd.times_undo hp cb)
        have cb' : (b != 0) = true := by rw [bne_iff_ne]; exact cb
        clear hs hp cb
        go_enter Tryd.func8, Tryd.ntmps8
        go_wp2_with fail
        refine (calc_to 0 a b s 0 HS.out _).mono ?_
        rintro e w1 ⟨rfl, hb1⟩
        have HB1 := Lib.hid hb1
        clear hb1
        go_wp2_with fail
        refine (calc_to 2 a b p 0 HP.out _).mono ?_
        rintro e w2 ⟨rfl, hb2⟩
        have HB2 := Lib.hid (seq HB1.out hb2)
        clear hb2 HB1
        go_wp2_with fail
        refine (calc_to 1 s b a 0 HU.out _).mono ?_
        rintro e w3 ⟨rfl, hb3⟩
        have HB3 := Lib.hid (seq HB2.out hb3)
        clear hb3 HB2
        go_wp2_with fail
        refine (calc_to 3 p b a 0 HV.out _).mono ?_
        rintro e w4 ⟨rfl, hb4⟩
        have HB4 := Lib.hid (seq HB3.out hb4)
        clear hb4 HB3
        go_wp2_with fail
        refine (alive01 (HT0.out.below HB4.out)).mono ?_
        rintro e w5 ⟨rfl, hb5⟩
        have HB5 := Lib.hid (seq HB4.out hb5)
        clear hb5 HB4
        go_wp2_with fail
        go_ret
        exact ⟨rfl, HB5.out⟩
    · subst c0
      have HU := Lib.hid (Bd.plus_undo hs)
      have c1' : (e1 == 0) = false := by rw [beq_eq_false_iff_ne]; exact c1
      clear hs hp c1
      go_enter Tryd.func8, Tryd.ntmps8
      go_wp2_with fail
      refine (calc_to 0 a b s 0 HS.out _).mono ?_
      rintro e w1 ⟨rfl, hb1⟩
      have HB1 := Lib.hid hb1
      clear hb1
      go_wp2_with fail
      refine (calc_to 2 a b p e1 HP.out _).mono ?_
      rintro e w2 ⟨rfl, hb2⟩
      have HB2 := Lib.hid (seq HB1.out hb2)
      clear hb2 HB1
      go_wp2_with fail
      refine (calc_to 1 s b a 0 HU.out _).mono ?_
      rintro e w3 ⟨rfl, hb3⟩
      have HB3 := Lib.hid (seq HB2.out hb3)
      clear hb3 HB2
      go_wp2_with fail
      refine (alive01 (HT0.out.below HB3.out)).mono ?_
      rintro e w4 ⟨rfl, hb4⟩
      have HB4 := Lib.hid (seq HB3.out hb4)
      clear hb4 HB3
      go_wp2_with fail
      go_ret
      exact ⟨rfl, HB4.out⟩
  · by_cases c1 : e1 = 0
    · by_cases cb : b = 0
      · have c0' : (e0 == 0) = false := by rw [beq_eq_false_iff_ne]; exact c0
        subst c1
        subst cb
        clear hs hp c0
        go_enter Tryd.func8, Tryd.ntmps8
        go_wp2_with fail
        refine (calc_to 0 a 0 s e0 HS.out _).mono ?_
        rintro e w1 ⟨rfl, hb1⟩
        have HB1 := Lib.hid hb1
        clear hb1
        go_wp2_with fail
        refine (calc_to 2 a 0 p 0 HP.out _).mono ?_
        rintro e w2 ⟨rfl, hb2⟩
        have HB2 := Lib.hid (seq HB1.out hb2)
        clear hb2 HB1
        go_wp2_with fail
        refine (alive01 (HT0.out.below HB2.out)).mono ?_
        rintro e w3 ⟨rfl, hb3⟩
        have HB3 := Lib.hid (seq HB2.out hb3)
        clear hb3 HB2
        go_wp2_with fail
        go_ret
        exact ⟨rfl, HB3.out⟩
      · have c0' : (e0 == 0) = false := by rw [beq_eq_false_iff_ne]; exact c0
        subst c1
        have HV := Lib.hid (Bd.times_undo hp cb)
        have cb' : (b != 0) = true := by rw [bne_iff_ne]; exact cb
        clear hs hp c0 cb
        go_enter Tryd.func8, Tryd.ntmps8
        go_wp2_with fail
        refine (calc_to 0 a b s e0 HS.out _).mono ?_
        rintro e w1 ⟨rfl, hb1⟩
        have HB1 := Lib.hid hb1
        clear hb1
        go_wp2_with fail
        refine (calc_to 2 a b p 0 HP.out _).mono ?_
        rintro e w2 ⟨rfl, hb2⟩
        have HB2 := Lib.hid (seq HB1.out hb2)
        clear hb2 HB1
        go_wp2_with fail
        refine (calc_to 3 p b a 0 HV.out _).mono ?_
        rintro e w3 ⟨rfl, hb3⟩
        have HB3 := Lib.hid (seq HB2.out hb3)
        clear hb3 HB2
        go_wp2_with fail
        refine (alive01 (HT0.out.below HB3.out)).mono ?_
        rintro e w4 ⟨rfl, hb4⟩
        have HB4 := Lib.hid (seq HB3.out hb4)
        clear hb4 HB3
        go_wp2_with fail
        go_ret
        exact ⟨rfl, HB4.out⟩
    · have c0' : (e0 == 0) = false := by rw [beq_eq_false_iff_ne]; exact c0
      have c1' : (e1 == 0) = false := by rw [beq_eq_false_iff_ne]; exact c1
      clear hs hp c0 c1
      go_enter Tryd.func8, Tryd.ntmps8
      go_wp2_with fail
      refine (calc_to 0 a b s e0 HS.out _).mono ?_
      rintro e w1 ⟨rfl, hb1⟩
      have HB1 := Lib.hid hb1
      clear hb1
      go_wp2_with fail
      refine (calc_to 2 a b p e1 HP.out _).mono ?_
      rintro e w2 ⟨rfl, hb2⟩
      have HB2 := Lib.hid (seq HB1.out hb2)
      clear hb2 HB1
      go_wp2_with fail
      refine (alive01 (HT0.out.below HB2.out)).mono ?_
      rintro e w3 ⟨rfl, hb3⟩
      have HB3 := Lib.hid (seq HB2.out hb3)
      clear hb3 HB2
      go_wp2_with fail
      go_ret
      exact ⟨rfl, HB3.out⟩
end Go.Proofs.YtjkaeimchnfhkaaDoor.PBoundUndo
