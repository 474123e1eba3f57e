/- Walk of the law BoundSound: it answers true. -/
import Derived.Test.YtjkaeimchnfhkaaDoorBoundSoundBt
import Derived.RegionTactic
import Derived.IntWalk
set_option linter.unusedVariables false
set_option linter.unusedSimpArgs false
namespace Go.Proofs.YtjkaeimchnfhkaaDoor.PBoundSound
open Go Go.RowKit Go.Proofs.YtjkaeimchnfhkaaDoorW.PrintWords Go.Proofs.YtjkaeimchnfhkaaDoorW.PrintLast Go.Proofs.YtjkaeimchnfhkaaDoorW.PrintMore
variable {w : World}

set_option maxRecDepth 100000 in
set_option maxHeartbeats 4000000 in
theorem BoundSound_walk (x y a b : Int) (hT : Tabs w) :
    Calls Tryd.prog 5 #[.agg #[.int .i64 x, .int .i64 y], .int .i64 a, .int .i64 b] w fun e w' => e = .returned (.bool true) ∧ Below w.heap.size w w' := by
  have HT0 := Lib.hid hT
  clear hT
  cases h0 : Bd.inn x
  · have H0 := Lib.hid h0
    clear h0
    go_enter Tryd.func5, Tryd.ntmps5
    go_wp2_with fail
    go_quiet (fail)
    go_wp2_with fail
    refine (in_to x false H0.out _).mono ?_
    rintro e w1 ⟨rfl, hb1⟩
    have cur := Below.refl w.heap.size w
    have HB1 : Hid (Below w.heap.size w w1) := Below.seq_to hb1 (by (repeat (with_reducible first | exact Below.refl _ _ | assumption | refine Below.push ?_ (Nat.le_refl _) _ | refine Below.drewN' ?_ _ | refine Below.drew ?_ | refine Below.setCell ?_ (by simp; done) _)))
    clear cur
    clear hb1
    go_wp2_with fail
    refine (alive01 (HT0.out.below HB1.out)).mono ?_
    rintro e w2 ⟨rfl, hb2⟩
    have HB2 := Lib.hid (seq HB1.out hb2)
    clear hb2 HB1
    go_wp2_with fail
    go_ret
    exact ⟨rfl, HB2.out⟩
  · have H0 := Lib.hid h0
    clear h0
    cases h1 : Bd.inn y
    · have H1 := Lib.hid h1
      clear h1
      go_enter Tryd.func5, Tryd.ntmps5
      go_wp2_with fail
      go_quiet (fail)
      go_wp2_with fail
      refine (in_to x true H0.out _).mono ?_
      rintro e w1 ⟨rfl, hb1⟩
      have cur := Below.refl w.heap.size w
      have HB1 : Hid (Below w.heap.size w w1) := Below.seq_to hb1 (by (repeat (with_reducible first | exact Below.refl _ _ | assumption | refine Below.push ?_ (Nat.le_refl _) _ | refine Below.drewN' ?_ _ | refine Below.drew ?_ | refine Below.setCell ?_ (by simp; done) _)))
      clear cur
      clear hb1
      go_wp2_with fail
      refine (in_to y false H1.out _).mono ?_
      rintro e w2 ⟨rfl, hb2⟩
      have HB2 := Lib.hid (seq HB1.out hb2)
      clear hb2 HB1
      go_wp2_with fail
      refine (alive01 (HT0.out.below HB2.out)).mono ?_
      rintro e w3 ⟨rfl, hb3⟩
      have HB3 := Lib.hid (seq HB2.out hb3)
      clear hb3 HB2
      go_wp2_with fail
      go_ret
      exact ⟨rfl, HB3.out⟩
    · have H1 := Lib.hid h1
      clear h1
      cases h2 : Bd.leq x a
      · have H2 := Lib.hid h2
        clear h2
        go_enter Tryd.func5, Tryd.ntmps5
        go_wp2_with fail
        go_quiet (fail)
        go_wp2_with fail
        refine (in_to x true H0.out _).mono ?_
        rintro e w1 ⟨rfl, hb1⟩
        have cur := Below.refl w.heap.size w
        have HB1 : Hid (Below w.heap.size w w1) := Below.seq_to hb1 (by (repeat (with_reducible first | exact Below.refl _ _ | assumption | refine Below.push ?_ (Nat.le_refl _) _ | refine Below.drewN' ?_ _ | refine Below.drew ?_ | refine Below.setCell ?_ (by simp; done) _)))
        clear cur
        clear hb1
        go_wp2_with fail
        refine (in_to y true H1.out _).mono ?_
        rintro e w2 ⟨rfl, hb2⟩
        have HB2 := Lib.hid (seq HB1.out hb2)
        clear hb2 HB1
        go_wp2_with fail
        refine (leq_to x a false H2.out _).mono ?_
        rintro e w3 ⟨rfl, hb3⟩
        have HB3 := Lib.hid (seq HB2.out hb3)
        clear hb3 HB2
        go_wp2_with fail
        refine (alive01 (HT0.out.below HB3.out)).mono ?_
        rintro e w4 ⟨rfl, hb4⟩
        have HB4 := Lib.hid (seq HB3.out hb4)
        clear hb4 HB3
        go_wp2_with fail
        go_ret
        exact ⟨rfl, HB4.out⟩
      · have H2 := Lib.hid h2
        clear h2
        cases h3 : Bd.leq y b
        · have H3 := Lib.hid h3
          clear h3
          go_enter Tryd.func5, Tryd.ntmps5
          go_wp2_with fail
          go_quiet (fail)
          go_wp2_with fail
          refine (in_to x true H0.out _).mono ?_
          rintro e w1 ⟨rfl, hb1⟩
          have cur := Below.refl w.heap.size w
          have HB1 : Hid (Below w.heap.size w w1) := Below.seq_to hb1 (by (repeat (with_reducible first | exact Below.refl _ _ | assumption | refine Below.push ?_ (Nat.le_refl _) _ | refine Below.drewN' ?_ _ | refine Below.drew ?_ | refine Below.setCell ?_ (by simp; done) _)))
          clear cur
          clear hb1
          go_wp2_with fail
          refine (in_to y true H1.out _).mono ?_
          rintro e w2 ⟨rfl, hb2⟩
          have HB2 := Lib.hid (seq HB1.out hb2)
          clear hb2 HB1
          go_wp2_with fail
          refine (leq_to x a true H2.out _).mono ?_
          rintro e w3 ⟨rfl, hb3⟩
          have HB3 := Lib.hid (seq HB2.out hb3)
          clear hb3 HB2
          go_wp2_with fail
          refine (leq_to y b false H3.out _).mono ?_
          rintro e w4 ⟨rfl, hb4⟩
          have HB4 := Lib.hid (seq HB3.out hb4)
          clear hb4 HB3
          go_wp2_with fail
          refine (alive01 (HT0.out.below HB4.out)).mono ?_
          rintro e w5 ⟨rfl, hb5⟩
          have HB5 := Lib.hid (seq HB4.out hb5)
          clear hb5 HB4
          go_wp2_with fail
          go_ret
          exact ⟨rfl, HB5.out⟩
        · have H3 := Lib.hid h3
          clear h3
          have hs := Bd.sound H0.out H1.out H2.out H3.out
          obtain ⟨t, ht⟩ : ∃ t, Bd.add a b = t := ⟨_, rfl⟩
          rw [ht] at hs
          have hw : IntKind.i64.wrap (x + y) = x + y := by have h1 := Bd.inn_iff.1 H0.out; have h2 := Bd.inn_iff.1 H1.out; exact IntWalk.i64_in _ (by omega)
          have HW := Lib.hid hw
          have HS := Lib.hid hs
          have HTT := Lib.hid ht
          clear hs ht hw
          have b1 := (Bd.inn_iff.1 H0.out).1
          have b2 := (Bd.inn_iff.1 H0.out).2
          have b3 := (Bd.inn_iff.1 H1.out).1
          have b4 := (Bd.inn_iff.1 H1.out).2
          go_enter Tryd.func5, Tryd.ntmps5
          go_wp2_with fail
          go_quiet (fail)
          go_wp2_with fail
          refine (in_to x true H0.out _).mono ?_
          rintro e w1 ⟨rfl, hb1⟩
          have cur := Below.refl w.heap.size w
          have HB1 : Hid (Below w.heap.size w w1) := Below.seq_to hb1 (by (repeat (with_reducible first | exact Below.refl _ _ | assumption | refine Below.push ?_ (Nat.le_refl _) _ | refine Below.drewN' ?_ _ | refine Below.drew ?_ | refine Below.setCell ?_ (by simp; done) _)))
          clear cur
          clear hb1
          go_wp2_with fail
          refine (in_to y true H1.out _).mono ?_
          rintro e w2 ⟨rfl, hb2⟩
          have HB2 := Lib.hid (seq HB1.out hb2)
          clear hb2 HB1
          go_wp2_with fail
          refine (leq_to x a true H2.out _).mono ?_
          rintro e w3 ⟨rfl, hb3⟩
          have HB3 := Lib.hid (seq HB2.out hb3)
          clear hb3 HB2
          go_wp2_with fail
          refine (leq_to y b true H3.out _).mono ?_
          rintro e w4 ⟨rfl, hb4⟩
          have HB4 := Lib.hid (seq HB3.out hb4)
          clear hb4 HB3
          go_wp2_with fail
          refine (alive01 (HT0.out.below HB4.out)).mono ?_
          rintro e w5 ⟨rfl, hb5⟩
          have HB5 := Lib.hid (seq HB4.out hb5)
          clear hb5 HB4
          go_wp2_with fail
          refine (add_to a b t HTT.out _).mono ?_
          rintro e w6 ⟨rfl, hb6⟩
          have HB6 := Lib.hid (seq HB5.out hb6)
          clear hb6 HB5
          go_wp2_with fail
          refine (leq_to (x + y) t true HS.out _).mono ?_
          rintro e w7 ⟨rfl, hb7⟩
          have HB7 := Lib.hid (seq HB6.out hb7)
          clear hb7 HB6
          go_wp2_with fail
          go_ret
          exact ⟨rfl, HB7.out⟩
end Go.Proofs.YtjkaeimchnfhkaaDoor.PBoundSound
