/- Walk of the law BoundTexts: it answers true. -/
import Derived.Test.YtjkaeimchnfhkaaDoorBoundTextsBt
import Derived.Test.YtjkaeimchnfhkaaDoorBoundTextsRt
set_option linter.unusedVariables false
set_option linter.unusedSimpArgs false
namespace Go.Proofs.YtjkaeimchnfhkaaDoor.PBoundTexts
open Go Go.RowKit Go.Proofs.YtjkaeimchnfhkaaDoorW.PrintWords Go.Proofs.YtjkaeimchnfhkaaDoorW.PrintLast Go.Proofs.YtjkaeimchnfhkaaDoorW.PrintMore
variable {w : World}

theorem text_len (b : Int) : (Bd.text b).length ≤ 100 := by
  unfold Bd.text
  split
  · simp
  · have := Bd.near_cases b
    unfold Lib.itoa
    split
    · have := dec_len (Bd.near b).natAbs 18 (by omega)
      simp; omega
    · have := dec_len (Bd.near b).toNat 18 (by omega)
      omega
theorem parse_to (t : List UInt8) (v1 v2 : Int) (hl : t.length ≤ 100) (h : Bd.parse t = (v1, v2)) (hT : Tabs w) :
    Calls Tryd.prog 23 #[.string ⟨t.toArray⟩] w fun e w' => e = .returned (.tuple #[.int .i64 v1, .int .i64 v2]) ∧ Below w.heap.size w w' := by
  have hp := parse_any ⟨t.toArray⟩ (by simp [ByteArray.size]; omega) hT
  rw [show (⟨t.toArray⟩ : ByteArray).data.toList = t from rfl, h] at hp
  exact hp
theorem rtext_to (b : Int) (t : List UInt8) (h : Bd.text b = t) (w : World) :
    Calls Tryd.prog 24 #[.int .i64 b] w fun e w' => e = .returned (.string ⟨t.toArray⟩) ∧ Below w.heap.size w w' :=
  (helmsmanref01_Text.calls 30 b ⟨t.toArray⟩ w (by rw [rText_f, h])).mono fun e w' h => ⟨h.1, by first | exact h.2 | exact h.2.below⟩
theorem rnear_to (a v : Int) (h : Bd.near a = v) (w : World) :
    Calls Tryd.prog 18 #[.int .i64 a] w fun e w' => e = .returned (.int .i64 v) ∧ Below w.heap.size w w' :=
  (helmsmanref01_Near.calls a v w (by rw [rNear_f, h])).mono fun e w' h => ⟨h.1, by first | exact h.2 | exact h.2.below⟩
set_option maxRecDepth 100000 in
set_option maxHeartbeats 4000000 in
theorem BoundTexts_walk (b : Int) (hT : Tabs w) :
    Calls Tryd.prog 6 #[.int .i64 b] w fun e w' => e = .returned (.bool true) ∧ Below w.heap.size w w' := by
  have HT0 := Lib.hid hT
  clear hT
  obtain ⟨p, hp⟩ : ∃ p, Bd.near b = p := ⟨_, rfl⟩
  obtain ⟨t, ht⟩ : ∃ t, Bd.text b = t := ⟨_, rfl⟩
  have hl : t.length ≤ 100 := by rw [← ht]; exact text_len b
  have HL := Lib.hid hl
  have hq : Bd.parse t = (p, 0) := by rw [← ht, ← hp]; exact Bd.parse_text b
  have HP := Lib.hid hp
  have HX := Lib.hid ht
  have HQ := Lib.hid hq
  clear hp ht hq hl
  go_enter Tryd.func6, Tryd.ntmps6
  go_wp2_with fail
  refine (text_to b t HX.out HT0.out).mono ?_
  rintro e w1 ⟨rfl, hb1⟩
  have HB1 := Lib.hid hb1
  clear hb1
  go_wp2_with fail
  refine (parse_to t p 0 HL.out HQ.out (HT0.out.below HB1.out)).mono ?_
  rintro e w2 ⟨rfl, hb2⟩
  have HB2 := Lib.hid (seq HB1.out hb2)
  clear hb2 HB1
  go_wp2_with fail
  refine (alive01 (HT0.out.below HB2.out)).mono ?_
  rintro e w3 ⟨rfl, hb3⟩
  have HB3 := Lib.hid (seq HB2.out hb3)
  clear hb3 HB2
  go_wp2_with fail
  refine (rtext_to b t HX.out _).mono ?_
  rintro e w4 ⟨rfl, hb4⟩
  have HB4 := Lib.hid (seq HB3.out hb4)
  clear hb4 HB3
  go_wp2_with fail
  refine (rnear_to b p HP.out _).mono ?_
  rintro e w5 ⟨rfl, hb5⟩
  have HB5 := Lib.hid (seq HB4.out hb5)
  clear hb5 HB4
  go_wp2_with fail
  go_ret
  exact ⟨rfl, HB5.out⟩
end Go.Proofs.YtjkaeimchnfhkaaDoor.PBoundTexts
