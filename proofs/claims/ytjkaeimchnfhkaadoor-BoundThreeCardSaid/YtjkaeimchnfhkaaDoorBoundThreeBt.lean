/- Walks of package bound: Text and Parse (by the library's contracts), and law01's alive. -/
import Derived.Test.YtjkaeimchnfhkaaDoorBoundThreeBv
import Derived.Test.YtjkaeimchnfhkaaDoorBs
import Derived.Test.YtjkaeimchnfhkaaDoorTb
import Derived.Deep.QuietTactic
import Derived.BigQuiet
set_option linter.unusedVariables false
set_option linter.unusedSimpArgs false
namespace Go.Proofs.YtjkaeimchnfhkaaDoor.PBoundThree
open Go.RowKit Go.Proofs.YtjkaeimchnfhkaaDoorW.PrintWords Go.Proofs.YtjkaeimchnfhkaaDoorW.PrintLast Go.Proofs.YtjkaeimchnfhkaaDoorW.PrintMore
variable {w : World}

theorem seq {w w1 w2 : World} (h : Below w.heap.size w w1) (k : Below w1.heap.size w1 w2) : Below w.heap.size w w2 := h.trans (k.mono h.size)
theorem calc_to (op a b v1 v2 : Int) (h : Bd.calc' op a b = (v1, v2)) (w : World) :
    Calls Tryd.prog 10 #[.int .i64 op, .int .i64 a, .int .i64 b] w fun e w' => e = .returned (.tuple #[.int .i64 v1, .int .i64 v2]) ∧ Below w.heap.size w w' :=
  bound_Calc.calls 2 op a b v1 v2 w (by rw [Calc_f, h])
theorem in_to (a : Int) (v : Bool) (h : Bd.inn a = v) (w : World) :
    Calls Tryd.prog 13 #[.int .i64 a] w fun e w' => e = .returned (.bool v) ∧ Below w.heap.size w w' :=
  (bound_In.calls a v w (by rw [In_f, h])).mono fun e w' h => ⟨h.1, h.2.below⟩
theorem right_to (a : Int) (v : Bool) (h : Bd.right a = v) (w : World) :
    Calls Tryd.prog 15 #[.int .i64 a] w fun e w' => e = .returned (.bool v) ∧ Below w.heap.size w w' :=
  (bound_Right.calls a v w (by rw [Right_f, h])).mono fun e w' h => ⟨h.1, h.2.below⟩
theorem near_to (a v : Int) (h : Bd.near a = v) (w : World) :
    Calls Tryd.prog 17 #[.int .i64 a] w fun e w' => e = .returned (.int .i64 v) ∧ Below w.heap.size w w' :=
  bound_Near.calls a v w (by rw [Near_f, h])
theorem add_to (a b v : Int) (h : Bd.add a b = v) (w : World) :
    Calls Tryd.prog 19 #[.int .i64 a, .int .i64 b] w fun e w' => e = .returned (.int .i64 v) ∧ Below w.heap.size w w' :=
  bound_Add.calls a b v w (by rw [Add_f, h])
theorem leq_to (a b : Int) (v : Bool) (h : Bd.leq a b = v) (w : World) :
    Calls Tryd.prog 21 #[.int .i64 a, .int .i64 b] w fun e w' => e = .returned (.bool v) ∧ Below w.heap.size w w' :=
  bound_Leq.calls a b v w (by rw [Leq_f, h])

set_option maxHeartbeats 400000 in
theorem text_to (b : Int) (s : List UInt8) (h : Bd.text b = s) (hT : Tabs w) :
    Calls Tryd.prog 22 #[.int .i64 b] w fun e w' => e = .returned (.string ⟨s.toArray⟩) ∧ Below w.heap.size w w' := by
  have HT := Lib.hid hT
  have HH := Lib.hid h
  clear hT h
  obtain ⟨n, hn⟩ : ∃ n, Bd.near b = n := ⟨_, rfl⟩
  have hc := Bd.near_cases b
  rw [hn] at hc
  have HN := Lib.hid hn
  clear hn
  by_cases h0 : n = 4611686018427387904
  · have hs : s = [110, 111, 110, 101] := by have := HH.out; unfold Bd.text at this; rw [HN.out, if_pos h0] at this; exact this.symm
    subst hs h0
    clear hc
    go_enter Tryd.func22, Tryd.ntmps22
    go_wp2_with fail
    refine (near_to _ _ HN.out _).mono ?_
    rintro e w1 ⟨rfl, hb1⟩
    have HB1 := Lib.hid hb1
    clear hb1
    go_wp2_with fail
    go_ret
    exact ⟨rfl, HB1.out⟩
  · have hs : Lib.itoa n = s := by have := HH.out; unfold Bd.text at this; rw [HN.out, if_neg h0] at this; exact this
    have h0' : (n == 4611686018427387904) = false := by rw [beq_eq_false_iff_ne]; exact h0
    have HS := Lib.hid hs
    clear hs h0
    go_enter Tryd.func22, Tryd.ntmps22
    go_wp2_with fail
    refine (near_to _ _ HN.out _).mono ?_
    rintro e w1 ⟨rfl, hb1⟩
    have HB1 := Lib.hid hb1
    clear hb1
    go_wp2_with fail
    refine (Any.strconv_Itoa Tryd.laysM171 n (by omega) (by omega) _ (HT.out.below HB1.out).pow).mono ?_
    rintro e w2 ⟨rfl, k, os, rfl⟩
    have HB2 := Lib.hid (seq HB1.out (below_grow w1 k os))
    rw [HS.out]
    go_wp2_with fail
    go_ret
    exact ⟨rfl, HB2.out⟩

def ParsePost (w : World) (p : Int × Int) (e : Ending) (w' : World) : Prop := e = .returned (.tuple #[.int .i64 p.1, .int .i64 p.2]) ∧ Below w.heap.size w w'

set_option maxHeartbeats 1000000 in
theorem parse_any (s : ByteArray) (hs : s.size ≤ 281474976710656) (hT : Tabs w) :
    Calls Tryd.prog 23 #[.string s] w (ParsePost w (Bd.parse s.data.toList)) := by
  have HT := Lib.hid hT
  clear hT
  obtain ⟨l, hl⟩ : ∃ l, s.data.toList = l := ⟨_, rfl⟩
  have hsl : s = ⟨l.toArray⟩ := by rw [← hl]
  have HL := Lib.hid hl
  have HSL := Lib.hid hsl
  rw [hl]
  obtain ⟨p, hp⟩ : ∃ p, Bd.parse l = p := ⟨_, rfl⟩
  rw [hp]
  have HP := Lib.hid hp
  clear hl hsl hp
  by_cases h0 : l = [110, 111, 110, 101]
  · have hpv : p = (4611686018427387904, 0) := by rw [← HP.out, h0]; rfl
    subst hpv
    have hq : (s.toList == [110, 111, 110, 101]) = true := by rw [ByteArray.toList_eq, HL.out, h0]; rfl
    clear h0
    go_enter Tryd.func23, Tryd.ntmps23
    go_wp2_with fail
    go_ret2
    exact ⟨rfl, Below.refl _ _⟩
  · have hq : (s.toList == [110, 111, 110, 101]) = false := by
      rw [ByteArray.toList_eq, HL.out, beq_eq_false_iff_ne]; exact h0
    have HP2 : Hid ((match Lib.atoiAll l with | .ok n => if Bd.right n = true ∧ Bd.text n = l then (n, 0) else (0, 1) | _ => (0, 1)) = p) := by
      have := HP.out; unfold Bd.parse at this; rw [if_neg h0] at this; exact this
    clear h0
    obtain ⟨z, hz⟩ : ∃ z, Lib.atoiAll l = z := ⟨_, rfl⟩
    have HZ : Hid (Lib.atoiAll s.data.toList = z) := by rw [HL.out]; exact hz
    have HP3 := HP2.out
    rw [hz] at HP3
    clear HP2 hz
    rcases z with n | _ | _
    · simp only at HP3
      have HP4 := Lib.hid HP3
      clear HP3
      obtain ⟨r, hr⟩ : ∃ r, Bd.right n = r := ⟨_, rfl⟩
      have HR := Lib.hid hr
      clear hr
      cases r with
      | false =>
        obtain rfl : p = (0, 1) := by have := HP4.out; rw [HR.out, if_neg (by simp)] at this; exact this.symm
        go_enter Tryd.func23, Tryd.ntmps23
        go_wp2_with fail
        refine (Any.strconv_Atoi_ok Tryd.laysC172 s (by omega) n HZ.out _).mono ?_
        rintro e w1 ⟨rfl, hw1⟩
        have HB1 : Hid (Below w.heap.size w w1) := by
          rcases hw1 with rfl | ⟨t, rfl⟩
          · exact Below.refl _ _
          · exact Lib.bytesWorld_below w _ t
        clear hw1
        go_wp2_with fail
        refine (right_to n false HR.out _).mono ?_
        rintro e w2 ⟨rfl, hb2⟩
        have HB2 := Lib.hid (seq HB1.out hb2)
        clear hb2
        go_wp2_with fail
        go_ret2
        exact ⟨rfl, HB2.out⟩
      | true =>
        obtain ⟨t, ht⟩ : ∃ t, Bd.text n = t := ⟨_, rfl⟩
        have HX := Lib.hid ht
        clear ht
        by_cases hc : t = l
        · obtain rfl : p = (n, 0) := by have := HP4.out; rw [HR.out, if_pos ⟨rfl, by rw [HX.out, hc]⟩] at this; exact this.symm
          have hq2 : (t == s.toList) = true := by rw [ByteArray.toList_eq, HL.out, hc]; simp
          clear hc
          go_enter Tryd.func23, Tryd.ntmps23
          go_wp2_with fail
          refine (Any.strconv_Atoi_ok Tryd.laysC172 s (by omega) n HZ.out _).mono ?_
          rintro e w1 ⟨rfl, hw1⟩
          have HB1 : Hid (Below w.heap.size w w1) := by
            rcases hw1 with rfl | ⟨t, rfl⟩
            · exact Below.refl _ _
            · exact Lib.bytesWorld_below w _ t
          clear hw1
          go_wp2_with fail
          refine (right_to n true HR.out _).mono ?_
          rintro e w2 ⟨rfl, hb2⟩
          have HB2 := Lib.hid (seq HB1.out hb2)
          clear hb2
          go_wp2_with fail
          refine (text_to n t HX.out (HT.out.below HB2.out)).mono ?_
          rintro e w3 ⟨rfl, hb3⟩
          have HB3 := Lib.hid (seq HB2.out hb3)
          clear hb3
          go_wp2_with fail
          go_ret2
          exact ⟨rfl, HB3.out⟩
        · obtain rfl : p = (0, 1) := by have := HP4.out; rw [HR.out, if_neg (fun h => hc (by rw [← HX.out, h.2]))] at this; exact this.symm
          have hq2 : (t == s.toList) = false := by
            rw [ByteArray.toList_eq, HL.out, beq_eq_false_iff_ne]; exact hc
          clear hc
          go_enter Tryd.func23, Tryd.ntmps23
          go_wp2_with fail
          refine (Any.strconv_Atoi_ok Tryd.laysC172 s (by omega) n HZ.out _).mono ?_
          rintro e w1 ⟨rfl, hw1⟩
          have HB1 : Hid (Below w.heap.size w w1) := by
            rcases hw1 with rfl | ⟨t, rfl⟩
            · exact Below.refl _ _
            · exact Lib.bytesWorld_below w _ t
          clear hw1
          go_wp2_with fail
          refine (right_to n true HR.out _).mono ?_
          rintro e w2 ⟨rfl, hb2⟩
          have HB2 := Lib.hid (seq HB1.out hb2)
          clear hb2
          go_wp2_with fail
          refine (text_to n t HX.out (HT.out.below HB2.out)).mono ?_
          rintro e w3 ⟨rfl, hb3⟩
          have HB3 := Lib.hid (seq HB2.out hb3)
          clear hb3
          go_wp2_with fail
          go_ret2
          exact ⟨rfl, HB3.out⟩
    · obtain rfl : p = (0, 1) := HP3.symm
      obtain ⟨tp, q, hv⟩ := HT.out.syn
      have HV := Lib.hid hv
      clear HP3 hv
      go_enter Tryd.func23, Tryd.ntmps23
      go_wp2_with fail
      refine (Any.strconv_Atoi_syntax_var Tryd.laysC172 s hs HZ.out tp q _ HV.out).mono ?_
      rintro e w1 ⟨N, rfl, hN1, hN2, hb1⟩
      have HB1 := Lib.hid hb1
      clear hb1 hN1 hN2
      go_wp2_with fail
      go_ret2
      exact ⟨rfl, HB1.out⟩
    · obtain rfl : p = (0, 1) := HP3.symm
      obtain ⟨tp, q, hv⟩ := HT.out.rng
      have HV := Lib.hid hv
      clear HP3 hv
      go_enter Tryd.func23, Tryd.ntmps23
      go_wp2_with fail
      refine (Any.strconv_Atoi_range_var Tryd.laysC172 s hs HZ.out tp q _ HV.out).mono ?_
      rintro e w1 ⟨N, rfl, hN1, hN2, hb1⟩
      have HB1 := Lib.hid hb1
      clear hb1 hN1 hN2
      go_wp2_with fail
      go_ret2
      exact ⟨rfl, HB1.out⟩

theorem parse_12 (hT : Tabs w) : Calls Tryd.prog 23 #[.string ⟨#[45, 49, 50]⟩] w fun e w' => e = .returned (.tuple #[.int .i64 (-12), .int .i64 0]) ∧ Below w.heap.size w w' := by
  have e : Bd.parse [45, 49, 50] = (-12, 0) := by have := Bd.parse_text (-12); rw [show Bd.text (-12) = [45, 49, 50] from by unfold Bd.text; rw [if_neg (by decide +kernel), show Bd.near (-12) = -12 by decide +kernel]; simp [Lib.itoa, Lib.decDigits]] at this; exact this
  have h := parse_any ⟨#[45, 49, 50]⟩ (by decide) hT
  rw [show (⟨#[45, 49, 50]⟩ : ByteArray).data.toList = [45, 49, 50] from rfl, e] at h
  exact h
set_option maxHeartbeats 1000000 in
theorem alive01 (hT : Tabs w) : Calls Tryd.prog 12 #[] w fun e w' => e = .returned (.bool true) ∧ Below w.heap.size w w' := by
  have HT0 := Lib.hid hT
  clear hT
  go_enter Tryd.func12, Tryd.ntmps12
  go_wp2_with fail
  refine (calc_to 3 (-7) 2 (-3) 0 (by decide +kernel) _).mono ?_
  rintro e w1 ⟨rfl, hb1⟩
  have HB1 := Lib.hid hb1
  have HT1 := Lib.hid (HT0.out.below hb1)
  clear hb1 HT0
  go_wp2_with fail
  refine (calc_to 2 1152921504606846976 2 0 10 (by decide +kernel) _).mono ?_
  rintro e w2 ⟨rfl, hb2⟩
  have HB2 := Lib.hid (seq HB1.out hb2)
  have HT2 := Lib.hid (HT1.out.below hb2)
  clear hb2 HT1 HB1
  go_wp2_with fail
  refine (parse_12 HT2.out).mono ?_
  rintro e w3 ⟨rfl, hb3⟩
  have HB3 := Lib.hid (seq HB2.out hb3)
  have HT3 := Lib.hid (HT2.out.below hb3)
  clear hb3 HT2 HB2
  go_wp2_with fail
  refine (in_to 1152921504606846976 true (by decide +kernel) _).mono ?_
  rintro e w4 ⟨rfl, hb4⟩
  have HB4 := Lib.hid (seq HB3.out hb4)
  have HT4 := Lib.hid (HT3.out.below hb4)
  clear hb4 HT3 HB3
  go_wp2_with fail
  refine (right_to 4611686018427387904 true (by decide +kernel) _).mono ?_
  rintro e w5 ⟨rfl, hb5⟩
  have HB5 := Lib.hid (seq HB4.out hb5)
  have HT5 := Lib.hid (HT4.out.below hb5)
  clear hb5 HT4 HB4
  go_wp2_with fail
  refine (add_to 2305843009213693952 1 4611686018427387904 (by decide +kernel) _).mono ?_
  rintro e w6 ⟨rfl, hb6⟩
  have HB6 := Lib.hid (seq HB5.out hb6)
  have HT6 := Lib.hid (HT5.out.below hb6)
  clear hb6 HT5 HB5
  go_wp2_with fail
  refine (leq_to 1 2 true (by decide +kernel) _).mono ?_
  rintro e w7 ⟨rfl, hb7⟩
  have HB7 := Lib.hid (seq HB6.out hb7)
  have HT7 := Lib.hid (HT6.out.below hb7)
  clear hb7 HT6 HB6
  go_wp2_with fail
  refine (text_to 4611686018427387904 [110, 111, 110, 101] (by decide +kernel) HT7.out).mono ?_
  rintro e w8 ⟨rfl, hb8⟩
  have HB8 := Lib.hid (seq HB7.out hb8)
  have HT8 := Lib.hid (HT7.out.below hb8)
  clear hb8 HT7 HB7
  go_wp2_with fail
  go_ret
  exact ⟨rfl, HB8.out⟩
end Go.Proofs.YtjkaeimchnfhkaaDoor.PBoundThree
