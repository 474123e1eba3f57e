/- Walk of the law BoundParses: it answers true. -/
import Derived.Test.YtjkaeimchnfhkaaDoorBoundParsesBt
import Derived.Test.YtjkaeimchnfhkaaDoorBoundParsesRp
set_option linter.unusedVariables false
set_option linter.unusedSimpArgs false
namespace Go.Proofs.YtjkaeimchnfhkaaDoor.PBoundParses
open Go Go.RowKit Go.Proofs.YtjkaeimchnfhkaaDoorW.PrintWords Go.Proofs.YtjkaeimchnfhkaaDoorW.PrintLast Go.Proofs.YtjkaeimchnfhkaaDoorW.PrintMore
variable {w : World}

theorem parse_to (s : ByteArray) (v1 v2 : Int) (hl : s.size ≤ 100) (h : Bd.parse s.data.toList = (v1, v2)) (hT : Tabs w) :
    Calls Tryd.prog 23 #[.string s] w fun e w' => e = .returned (.tuple #[.int .i64 v1, .int .i64 v2]) ∧ Below w.heap.size w w' := by
  have hp := parse_any s (by omega) hT
  rw [h] at hp
  exact hp
theorem rparse_to (s : ByteArray) (v1 v2 : Int) (hl : s.size ≤ 100) (h : Bd.parse s.data.toList = (v1, v2)) (w : World) :
    Calls Tryd.prog 25 #[.string s] w fun e w' => e = .returned (.tuple #[.int .i64 v1, .int .i64 v2]) ∧ Below w.heap.size w w' :=
  (helmsmanref01_Parse.calls 200 s v1 v2 w (by rw [rParse_f s hl, h])).mono fun e w' h => ⟨h.1, by first | exact h.2 | exact h.2.below⟩
set_option maxRecDepth 100000 in
set_option maxHeartbeats 4000000 in
theorem BoundParses_walk (s : ByteArray) (hT : Tabs w) (hs : s.size ≤ maxLen) :
    Calls Tryd.prog 7 #[.string s] w fun e w' => e = .returned (.bool true) ∧ Below w.heap.size w w' := by
  have HT0 := Lib.hid hT
  clear hT
  by_cases hl : 100 < s.size
  · have hl' : (100 : Int) < s.size := by omega
    go_enter Tryd.func7, Tryd.ntmps7
    go_wp2_with fail
    refine (alive01 HT0.out).mono ?_
    rintro e w1 ⟨rfl, hb1⟩
    have HB1 := Lib.hid hb1
    clear hb1
    go_wp2_with fail
    go_ret
    exact ⟨rfl, HB1.out⟩
  · have hl' : (s.size : Int) ≤ 100 := by omega
    have hl2 : s.size ≤ 100 := by omega
    obtain ⟨⟨n, m⟩, hc⟩ : ∃ p, Bd.parse s.data.toList = p := ⟨_, rfl⟩
    have HC := Lib.hid hc
    have HL := Lib.hid hl2
    clear hl hl2
    by_cases h0 : m = 0
    · subst h0
      have HX := Lib.hid (Bd.parse_ok hc).1
      have hq : (s.toList == s.toList) = true := by simp
      clear hc
      go_enter Tryd.func7, Tryd.ntmps7
      go_wp2_with fail
      refine (parse_to s n 0 HL.out HC.out HT0.out).mono ?_
      rintro e w1 ⟨rfl, hb1⟩
      have HB1 := Lib.hid hb1
      clear hb1
      go_wp2_with fail
      refine (rparse_to s n 0 HL.out HC.out _).mono ?_
      rintro e w2 ⟨rfl, hb2⟩
      have HB2 := Lib.hid (seq HB1.out hb2)
      clear hb2 HB1
      go_wp2_with fail
      refine (alive01 (HT0.out.below HB2.out)).mono ?_
      rintro e w3 ⟨rfl, hb3⟩
      have HB3 := Lib.hid (seq HB2.out hb3)
      clear hb3 HB2
      go_wp2_with fail
      refine (text_to n s.data.toList HX.out (HT0.out.below HB3.out)).mono ?_
      rintro e w4 ⟨rfl, hb4⟩
      have HB4 := Lib.hid (seq HB3.out hb4)
      clear hb4 HB3
      go_wp2_with fail
      go_ret
      exact ⟨rfl, HB4.out⟩
    · have h0' : (m != 0) = true := by rw [bne_iff_ne]; exact h0
      clear hc h0
      go_enter Tryd.func7, Tryd.ntmps7
      go_wp2_with fail
      refine (parse_to s n m HL.out HC.out HT0.out).mono ?_
      rintro e w1 ⟨rfl, hb1⟩
      have HB1 := Lib.hid hb1
      clear hb1
      go_wp2_with fail
      refine (rparse_to s n m HL.out HC.out _).mono ?_
      rintro e w2 ⟨rfl, hb2⟩
      have HB2 := Lib.hid (seq HB1.out hb2)
      clear hb2 HB1
      go_wp2_with fail
      refine (alive01 (HT0.out.below HB2.out)).mono ?_
      rintro e w3 ⟨rfl, hb3⟩
      have HB3 := Lib.hid (seq HB2.out hb3)
      clear hb3 HB2
      go_wp2_with fail
      go_ret
      exact ⟨rfl, HB3.out⟩
end Go.Proofs.YtjkaeimchnfhkaaDoor.PBoundParses
