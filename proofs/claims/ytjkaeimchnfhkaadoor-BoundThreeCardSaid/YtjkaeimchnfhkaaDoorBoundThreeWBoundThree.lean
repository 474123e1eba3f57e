/- Walk of the law BoundThree: it answers true. -/
import Derived.Test.YtjkaeimchnfhkaaDoorBoundThreeBt
set_option linter.unusedVariables false
set_option linter.unusedSimpArgs false
namespace Go.Proofs.YtjkaeimchnfhkaaDoor.PBoundThree
open Go Go.RowKit Go.Proofs.YtjkaeimchnfhkaaDoorW.PrintWords Go.Proofs.YtjkaeimchnfhkaaDoorW.PrintLast Go.Proofs.YtjkaeimchnfhkaaDoorW.PrintMore
variable {w : World}

set_option maxHeartbeats 1000000 in
theorem cut_to (x y : Int) (v : Bool) (hx : Bd.right x = true) (hy : Bd.right y = true) (h : Bd.cut x y = v) (w : World) :
    Calls Tryd.prog 26 #[.int .i64 x, .int .i64 y] w fun e w' => e = .returned (.bool v) ∧ Below w.heap.size w w' := by
  rw [Bd.right_iff] at hx hy
  by_cases c0 : x = 4611686018427387904
  · subst c0
    obtain rfl : v = false := by rw [← h]; simp [Bd.cut]
    clear h hx hy
    go_enter Tryd.func26, Tryd.ntmps26
    go_wp2
    go_ret
    exact ⟨rfl, Below.refl _ _⟩
  · have c0' : (x != 4611686018427387904) = true := by rw [bne_iff_ne]; exact c0
    by_cases c1 : y = 4611686018427387904
    · subst c1
      obtain rfl : v = false := by rw [← h]; simp [Bd.cut]
      clear h hx hy c0
      go_enter Tryd.func26, Tryd.ntmps26
      go_wp2
      go_ret
      exact ⟨rfl, Below.refl _ _⟩
    · have c1' : (y != 4611686018427387904) = true := by rw [bne_iff_ne]; exact c1
      have x1 : -2305843009213693952 ≤ x := by omega
      have x2 : x ≤ 2305843009213693952 := by omega
      have y1 : -2305843009213693952 ≤ y := by omega
      have y2 : y ≤ 2305843009213693952 := by omega
      by_cases c2 : x + y < -2305843009213693952
      · obtain rfl : v = true := by rw [← h]; simp [Bd.cut, c0, c1, c2]
        have d2 := decide_eq_true c2
        clear h hx hy c0 c1 c2
        go_enter Tryd.func26, Tryd.ntmps26
        go_wp2
        go_ret
        exact ⟨rfl, Below.refl _ _⟩
      · have d2 := decide_eq_false c2
        by_cases c3 : 2305843009213693952 < x + y
        · obtain rfl : v = true := by rw [← h]; simp [Bd.cut, c0, c1, c3]
          have d3 := decide_eq_true c3
          clear h hx hy c0 c1 c2 c3
          go_enter Tryd.func26, Tryd.ntmps26
          go_wp2
          go_ret
          exact ⟨rfl, Below.refl _ _⟩
        · have d3 := decide_eq_false c3
          obtain rfl : v = false := by rw [← h]; simp [Bd.cut, c0, c1]; omega
          clear h hx hy c0 c1 c2 c3
          go_enter Tryd.func26, Tryd.ntmps26
          go_wp2
          go_ret
          exact ⟨rfl, Below.refl _ _⟩

set_option maxRecDepth 100000 in
set_option maxHeartbeats 4000000 in
theorem BoundThree_walk (a b c : Int) (hT : Tabs w) :
    Calls Tryd.prog 9 #[.int .i64 a, .int .i64 b, .int .i64 c] w fun e w' => e = .returned (.bool true) ∧ Below w.heap.size w w' := by
  have HT0 := Lib.hid hT
  clear hT
  cases h0 : Bd.right a
  · have H0 := Lib.hid h0
    clear h0
    go_enter Tryd.func9, Tryd.ntmps9
    go_wp2_with fail
    refine (right_to a false H0.out _).mono ?_
    rintro e w1 ⟨rfl, hb1⟩
    have HB1 := Lib.hid hb1
    clear hb1
    go_wp2_with fail
    refine (alive01 (HT0.out.below HB1.out)).mono ?_
    rintro e w2 ⟨rfl, hb2⟩
    have HB2 := Lib.hid (seq HB1.out hb2)
    clear hb2 HB1
    go_wp2_with fail
    go_ret
    exact ⟨rfl, HB2.out⟩
  · have H0 := Lib.hid h0
    clear h0
    cases h1 : Bd.right b
    · have H1 := Lib.hid h1
      clear h1
      go_enter Tryd.func9, Tryd.ntmps9
      go_wp2_with fail
      refine (right_to a true H0.out _).mono ?_
      rintro e w1 ⟨rfl, hb1⟩
      have HB1 := Lib.hid hb1
      clear hb1
      go_wp2_with fail
      refine (right_to b false H1.out _).mono ?_
      rintro e w2 ⟨rfl, hb2⟩
      have HB2 := Lib.hid (seq HB1.out hb2)
      clear hb2 HB1
      go_wp2_with fail
      refine (alive01 (HT0.out.below HB2.out)).mono ?_
      rintro e w3 ⟨rfl, hb3⟩
      have HB3 := Lib.hid (seq HB2.out hb3)
      clear hb3 HB2
      go_wp2_with fail
      go_ret
      exact ⟨rfl, HB3.out⟩
    · have H1 := Lib.hid h1
      clear h1
      cases h2 : Bd.right c
      · have H2 := Lib.hid h2
        clear h2
        go_enter Tryd.func9, Tryd.ntmps9
        go_wp2_with fail
        refine (right_to a true H0.out _).mono ?_
        rintro e w1 ⟨rfl, hb1⟩
        have HB1 := Lib.hid hb1
        clear hb1
        go_wp2_with fail
        refine (right_to b true H1.out _).mono ?_
        rintro e w2 ⟨rfl, hb2⟩
        have HB2 := Lib.hid (seq HB1.out hb2)
        clear hb2 HB1
        go_wp2_with fail
        refine (right_to c false H2.out _).mono ?_
        rintro e w3 ⟨rfl, hb3⟩
        have HB3 := Lib.hid (seq HB2.out hb3)
        clear hb3 HB2
        go_wp2_with fail
        refine (alive01 (HT0.out.below HB3.out)).mono ?_
        rintro e w4 ⟨rfl, hb4⟩
        have HB4 := Lib.hid (seq HB3.out hb4)
        clear hb4 HB3
        go_wp2_with fail
        go_ret
        exact ⟨rfl, HB4.out⟩
      · have H2 := Lib.hid h2
        clear h2
        obtain ⟨s, hs⟩ : ∃ s, Bd.add a b = s := ⟨_, rfl⟩
        obtain ⟨t, ht⟩ : ∃ t, Bd.add b c = t := ⟨_, rfl⟩
        have HS := Lib.hid hs
        have HTT := Lib.hid ht
        cases g0 : Bd.cut a b
        · cases g1 : Bd.cut b c
          · have h3 := Bd.three H0.out H1.out H2.out g0 g1
            rw [hs, ht] at h3
            obtain ⟨q, hq⟩ : ∃ q, Bd.add a t = q := ⟨_, rfl⟩
            rw [hq] at h3
            have HQ := Lib.hid hq
            have H3 := Lib.hid h3
            have G0 := Lib.hid g0
            have G1 := Lib.hid g1
            clear hs ht h3 hq g0 g1
            go_enter Tryd.func9, Tryd.ntmps9
            go_wp2_with fail
            refine (right_to a true H0.out _).mono ?_
            rintro e w1 ⟨rfl, hb1⟩
            have HB1 := Lib.hid hb1
            clear hb1
            go_wp2_with fail
            refine (right_to b true H1.out _).mono ?_
            rintro e w2 ⟨rfl, hb2⟩
            have HB2 := Lib.hid (seq HB1.out hb2)
            clear hb2 HB1
            go_wp2_with fail
            refine (right_to c true H2.out _).mono ?_
            rintro e w3 ⟨rfl, hb3⟩
            have HB3 := Lib.hid (seq HB2.out hb3)
            clear hb3 HB2
            go_wp2_with fail
            refine (add_to a b s HS.out _).mono ?_
            rintro e w4 ⟨rfl, hb4⟩
            have HB4 := Lib.hid (seq HB3.out hb4)
            clear hb4 HB3
            go_wp2_with fail
            refine (add_to b c t HTT.out _).mono ?_
            rintro e w5 ⟨rfl, hb5⟩
            have HB5 := Lib.hid (seq HB4.out hb5)
            clear hb5 HB4
            go_wp2_with fail
            refine (cut_to a b false H0.out H1.out G0.out _).mono ?_
            rintro e w6 ⟨rfl, hb6⟩
            have HB6 := Lib.hid (seq HB5.out hb6)
            clear hb6 HB5
            go_wp2_with fail
            refine (cut_to b c false H1.out H2.out G1.out _).mono ?_
            rintro e w7 ⟨rfl, hb7⟩
            have HB7 := Lib.hid (seq HB6.out hb7)
            clear hb7 HB6
            go_wp2_with fail
            refine (alive01 (HT0.out.below HB7.out)).mono ?_
            rintro e w8 ⟨rfl, hb8⟩
            have HB8 := Lib.hid (seq HB7.out hb8)
            clear hb8 HB7
            go_wp2_with fail
            refine (add_to s c q H3.out _).mono ?_
            rintro e w9 ⟨rfl, hb9⟩
            have HB9 := Lib.hid (seq HB8.out hb9)
            clear hb9 HB8
            go_wp2_with fail
            refine (add_to a t q HQ.out _).mono ?_
            rintro e w10 ⟨rfl, hb10⟩
            have HB10 := Lib.hid (seq HB9.out hb10)
            clear hb10 HB9
            go_wp2_with fail
            go_ret
            exact ⟨rfl, HB10.out⟩
          · have G0 := Lib.hid g0
            have G1 := Lib.hid g1
            clear hs ht g0 g1
            go_enter Tryd.func9, Tryd.ntmps9
            go_wp2_with fail
            refine (right_to a true H0.out _).mono ?_
            rintro e w1 ⟨rfl, hb1⟩
            have HB1 := Lib.hid hb1
            clear hb1
            go_wp2_with fail
            refine (right_to b true H1.out _).mono ?_
            rintro e w2 ⟨rfl, hb2⟩
            have HB2 := Lib.hid (seq HB1.out hb2)
            clear hb2 HB1
            go_wp2_with fail
            refine (right_to c true H2.out _).mono ?_
            rintro e w3 ⟨rfl, hb3⟩
            have HB3 := Lib.hid (seq HB2.out hb3)
            clear hb3 HB2
            go_wp2_with fail
            refine (add_to a b s HS.out _).mono ?_
            rintro e w4 ⟨rfl, hb4⟩
            have HB4 := Lib.hid (seq HB3.out hb4)
            clear hb4 HB3
            go_wp2_with fail
            refine (add_to b c t HTT.out _).mono ?_
            rintro e w5 ⟨rfl, hb5⟩
            have HB5 := Lib.hid (seq HB4.out hb5)
            clear hb5 HB4
            go_wp2_with fail
            refine (cut_to a b false H0.out H1.out G0.out _).mono ?_
            rintro e w6 ⟨rfl, hb6⟩
            have HB6 := Lib.hid (seq HB5.out hb6)
            clear hb6 HB5
            go_wp2_with fail
            refine (cut_to b c true H1.out H2.out G1.out _).mono ?_
            rintro e w7 ⟨rfl, hb7⟩
            have HB7 := Lib.hid (seq HB6.out hb7)
            clear hb7 HB6
            go_wp2_with fail
            refine (alive01 (HT0.out.below HB7.out)).mono ?_
            rintro e w8 ⟨rfl, hb8⟩
            have HB8 := Lib.hid (seq HB7.out hb8)
            clear hb8 HB7
            go_wp2_with fail
            go_ret
            exact ⟨rfl, HB8.out⟩
        · have G0 := Lib.hid g0
          clear hs ht g0
          go_enter Tryd.func9, Tryd.ntmps9
          go_wp2_with fail
          refine (right_to a true H0.out _).mono ?_
          rintro e w1 ⟨rfl, hb1⟩
          have HB1 := Lib.hid hb1
          clear hb1
          go_wp2_with fail
          refine (right_to b true H1.out _).mono ?_
          rintro e w2 ⟨rfl, hb2⟩
          have HB2 := Lib.hid (seq HB1.out hb2)
          clear hb2 HB1
          go_wp2_with fail
          refine (right_to c true H2.out _).mono ?_
          rintro e w3 ⟨rfl, hb3⟩
          have HB3 := Lib.hid (seq HB2.out hb3)
          clear hb3 HB2
          go_wp2_with fail
          refine (add_to a b s HS.out _).mono ?_
          rintro e w4 ⟨rfl, hb4⟩
          have HB4 := Lib.hid (seq HB3.out hb4)
          clear hb4 HB3
          go_wp2_with fail
          refine (add_to b c t HTT.out _).mono ?_
          rintro e w5 ⟨rfl, hb5⟩
          have HB5 := Lib.hid (seq HB4.out hb5)
          clear hb5 HB4
          go_wp2_with fail
          refine (cut_to a b true H0.out H1.out G0.out _).mono ?_
          rintro e w6 ⟨rfl, hb6⟩
          have HB6 := Lib.hid (seq HB5.out hb6)
          clear hb6 HB5
          go_wp2_with fail
          refine (alive01 (HT0.out.below HB6.out)).mono ?_
          rintro e w7 ⟨rfl, hb7⟩
          have HB7 := Lib.hid (seq HB6.out hb7)
          clear hb7 HB6
          go_wp2_with fail
          go_ret
          exact ⟨rfl, HB7.out⟩
end Go.Proofs.YtjkaeimchnfhkaaDoor.PBoundThree
