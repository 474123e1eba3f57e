/- Walk of the law SweepMarks: it answers true. -/
import Derived.Test.YtknoigebkpapoaaAl
import Derived.Test.YtknoigebkpapoaaRk
import Derived.Deep.RegionHeld3
set_option linter.unusedVariables false
set_option linter.unusedSimpArgs false
namespace Go.Proofs.Ytknoigebkpapoaa
open Go.RowKit Go.Deep
variable {w : World}

theorem Bools.below {w w' : World} {v : Value} {out : List Bool} (h : Bools w v out) (t : Below w.heap.size w w') : Bools w' v out := by
  obtain ⟨g, rfl, hg⟩ := h
  exact ⟨g, rfl, (t.block g (lt_of_heap hg)).trans hg⟩
theorem Below.full {w w' : World} (h : Below w.heap.size w w') : Below w.heap.size w w' := h
/-- Both rows of marks, wherever they were made first. -/
def MarkedI (w3 : World) (b : Nat) (L : List Nd) (S : Nat → Prop) (roots : List Int) (v8 v9 : Value) (wx : World) : Prop :=
  ∃ out, Bools wx v8 out ∧ Bools wx v9 out ∧ Marks L roots out ∧ Arena wx b 60 L S ∧ Below w3.heap.size w3 wx
theorem MarkedI.of1 {w3 w4 w5 : World} {b : Nat} {L : List Nd} {S : Nat → Prop} {roots : List Int} {v8 v9 : Value} {o8 o9 : List Bool} (A : Arena w3 b 60 L S) (h4 : Below w3.heap.size w3.drew w4) (h5 : Below w4.heap.size w4 w5)
    (M8 : Bools w4 v8 o8) (m8 : Marks L roots o8) (M9 : Bools w5 v9 o9) (m9 : Marks L roots o9) : MarkedI w3 b L S roots v8 v9 w5 := by
  obtain rfl := m8.unique m9
  have h35 : Below w3.heap.size w3 w5 := Below.seq (w := w4) ((Below.drew (Below.refl _ w3)).trans h4) (Nat.le_refl _) h5
  exact ⟨_, M8.below h5, M9, m8, A.below h35, h35⟩
theorem MarkedI.of2 {w3 w4 w5 : World} {b : Nat} {L : List Nd} {S : Nat → Prop} {roots : List Int} {v8 v9 : Value} {o8 o9 : List Bool} (A : Arena w3 b 60 L S) (h4 : Below w3.heap.size w3.drew w4) (h5 : Below w4.heap.size w4 w5)
    (M8 : Bools w5 v8 o8) (m8 : Marks L roots o8) (M9 : Bools w4 v9 o9) (m9 : Marks L roots o9) : MarkedI w3 b L S roots v8 v9 w5 := by
  obtain rfl := m8.unique m9
  have h35 : Below w3.heap.size w3 w5 := Below.seq (w := w4) ((Below.drew (Below.refl _ w3)).trans h4) (Nat.le_refl _) h5
  exact ⟨_, M8, M9.below h5, m8, A.below h35, h35⟩

set_option maxRecDepth 100000 in
set_option maxHeartbeats 2000000 in
theorem sweepMarks_walk (v vr : Value) (xs : List Nd) (roots : List Int) (h : Ops w v xs) (hr : Ints w vr roots) :
    Calls Try.prog 3 #[v, vr] w fun e w' => e = .returned (.bool true) ∧ Below w.heap.size w w' := by
  have HO := Lib.hid h
  have HR := Lib.hid hr
  obtain ⟨ao, c, rfl, hc, hc2, _⟩ := h
  obtain ⟨ar, cr, rfl, hcr, hcr2, _⟩ := hr
  unfold maxLen at hc2 hcr2
  go_enter Try.func3, Try.ntmps3
  go_wp2_with fail
  refine (build_any _ xs HO.out).mono ?_
  rintro e w1 ⟨hb1, ⟨hl, rfl⟩ | ⟨hl, b, vl, S, rfl, A, hS, R⟩⟩
  · have hl' : (40 : Int) < xs.length := by omega
    have HB1 := Lib.hid hb1
    clear hb1
    go_wp2_with fail
    refine alive_any.mono ?_
    rintro e w2 ⟨rfl, hb2⟩
    go_wp2_with fail
    go_ret
    exact ⟨rfl, Below.seq (Below.push HB1.out (Nat.le_refl _) _) (Nat.le_refl _) hb2⟩
  · have hl' : (xs.length : Int) ≤ 40 := by omega
    obtain ⟨⟨ao1, cap1, rfl⟩, hn⟩ := R.shape
    have hlen : (Ar.bld 60 [] xs).length ≤ 40 := by have := Ar.bld_len 60 xs []; simp at this; omega
    have HB1 := Lib.hid hb1
    have HA := Lib.hid A
    have HRo := Lib.hid R
    generalize Ar.bld 60 [] xs = L at *
    clear hb1 A R hS
    by_cases h100 : 100 < roots.length
    · have h100' : (100 : Int) < roots.length := by omega
      go_wp2_with fail
      refine alive_any.mono ?_
      rintro e w2 ⟨rfl, hb2⟩
      go_wp2_with fail
      go_ret
      exact ⟨rfl, Below.seq (Below.push HB1.out (Nat.le_refl _) _) (Nat.le_refl _) hb2⟩
    · have h100' : (roots.length : Int) ≤ 100 := by omega
      have HB2 := Lib.hid (Below.push HB1.out (Nat.le_refl _) (.cells #[.int .i64 60, .slice ao1 L.length cap1] 27))
      have HA2 := Lib.hid (HA.out.below (Below.push (Below.refl _ w1) (Nat.le_refl _) (.cells #[.int .i64 60, .slice ao1 L.length cap1] 27)))
      have HRo2 := Lib.hid (HRo.out.below (Below.push (Below.refl _ w1) (Nat.le_refl _) (.cells #[.int .i64 60, .slice ao1 L.length cap1] 27)))
      have hq := heap_alloc_new w1 (.cells #[.int .i64 60, .slice ao1 L.length cap1] 27)
      have HQ := Lib.hid hq
      clear hq HA HRo HB1
      go_wp2_with fail
      generalize w1.alloc (.cells #[.int .i64 60, .slice ao1 L.length cap1] 27) = w3 at *
      have c0 := cell_at HQ.out 0 (v := .int .i64 60) rfl
      have c1 := cell_at HQ.out 1 (v := .slice ao1 L.length cap1) rfl
      have hqw := lt_of_heap HQ.out
      have hok := HA2.out.ok
      have HI := Lib.hid (HR.out.below HB2.out)
      have HAd := Lib.hid (HA2.out.below (Below.drew (Below.refl _ w3)))
      have HRd := Lib.hid (HRo2.out.below (Below.drew (Below.refl _ w3)))
      have HId := Lib.hid (HI.out.below (Below.drew (Below.refl _ w3)))
      have h3 : roots.length + 3 * L.length ≤ 1000000000000 := by omega
      have h4 : L.length ≤ 1000000000000 := by omega
      have h5 : roots.length ≤ 1000000000000 := by omega
      go_cut [8, 9] (fun v8 v9 wx => Hid (MarkedI w3 b L S roots v8 v9 wx))
      case first =>
        go_region_held3 (fun wx => wx.cell? ⟨w1.heap.size, 0, none⟩ = some (.int .i64 60) ∧ wx.cell? ⟨w1.heap.size, 1, none⟩ = some (.slice ao1 L.length cap1))
          (first | exact ⟨c0, c1⟩ | exact ⟨x0, x1⟩ | exact ⟨y0, y1⟩)
          (first | (go_at_call 8; refine (mark_any HAd.out _ roots HId.out h3).mono ?_; rintro e w4 ⟨v4, out4, rfl, M4, hol4, hm4, hb4, _⟩; have x0 := (hb4.cell (p := ⟨w1.heap.size, 0, none⟩) hqw).trans c0; have x1 := (hb4.cell (p := ⟨w1.heap.size, 1, none⟩) hqw).trans c1; have HRe := Lib.hid (HRd.out.below hb4); have HIe := Lib.hid (HId.out.below hb4)) | (go_at_call 9; refine (ref_mark HRd.out hok _ roots HId.out h4 h5).mono ?_; rintro e w4 ⟨v4, out4, rfl, M4, hm4, hb4⟩; have x0 := (hb4.cell (p := ⟨w1.heap.size, 0, none⟩) hqw).trans c0; have x1 := (hb4.cell (p := ⟨w1.heap.size, 1, none⟩) hqw).trans c1; have HAe := Lib.hid (HAd.out.below hb4); have HIe := Lib.hid (HId.out.below hb4)) | (go_at_call 9; refine (ref_mark HRe.out hok _ roots HIe.out h4 h5).mono ?_; rintro e w5 ⟨v5, out5, rfl, M5, hm5, hb5⟩; have y0 := (hb5.cell (p := ⟨w1.heap.size, 0, none⟩) (Nat.lt_of_lt_of_le hqw hb4.size)).trans x0; have y1 := (hb5.cell (p := ⟨w1.heap.size, 1, none⟩) (Nat.lt_of_lt_of_le hqw hb4.size)).trans x1; have HH := Lib.hid (MarkedI.of1 HA2.out hb4 hb5 M4 ⟨hol4, hm4⟩ M5 hm5)) | (go_at_call 8; refine (mark_any HAe.out _ roots HIe.out h3).mono ?_; rintro e w5 ⟨v5, out5, rfl, M5, hol5, hm5, hb5, _⟩; have y0 := (hb5.cell (p := ⟨w1.heap.size, 0, none⟩) (Nat.lt_of_lt_of_le hqw hb4.size)).trans x0; have y1 := (hb5.cell (p := ⟨w1.heap.size, 1, none⟩) (Nat.lt_of_lt_of_le hqw hb4.size)).trans x1; have HH := Lib.hid (MarkedI.of2 HA2.out hb4 hb5 M5 ⟨hol5, hm5⟩ M4 hm4)))
        all_goals (go_wp2_with fail; go_meet; exact HH)
      case rest =>
        obtain ⟨out, M8, M9, hm, A6, b6⟩ := hcut.out
        obtain ⟨g8, rfl, h8⟩ := M8
        obtain ⟨g9, rfl, h9⟩ := M9
        have hol := hm.1
        rw [hol]
        have HOL := Lib.hid hol
        clear hol
        have HG8 := Lib.hid h8
        have HG9 := Lib.hid h9
        have HM := Lib.hid hm
        have HA6 := Lib.hid A6
        have HI6 := Lib.hid (HI.out.below b6)
        have HB6 := Lib.hid (Below.seq HB2.out (Nat.le_refl _) b6)
        clear hcut c0 c1 HAd HRd HId HA2 HRo2 HQ hqw h8 h9 hm A6 b6 HI HB2
        go_wp2_with fail
        go_loopg [10, 49] L.length (fun gk n i wr => ∃ k : Nat, k + gk = L.length ∧ i = .int .i64 k ∧ n = .int .i64 (Ar.free (out.take k) : Nat) ∧ Hid (Below wc.heap.size wc wr))
        case atStart => exact ⟨0, by omega, rfl, by simp [Ar.free], Lib.hid (Below.refl _ _)⟩
        case round =>
          obtain ⟨k, hk, rfl, rfl, HW⟩ := hrel
          have hle : Ar.free (out.take k) ≤ k := Nat.le_trans (List.countP_le_length) (List.length_take_le _ _)
          by_cases hltL : k < L.length
          · have hlt : k < out.length := by rw [HOL.out]; exact hltL
            have q8 := cell_at ((HW.out.block _ (lt_of_heap HG8.out)).trans HG8.out) k (v := .bool (out.getD k false)) (by simp [List.getD, hlt])
            have q9 := cell_at ((HW.out.block _ (lt_of_heap HG9.out)).trans HG9.out) k (v := .bool (out.getD k false)) (by simp [List.getD, hlt])
            have hs := free_take_succ hlt
            have hk0 : (0 : Int) ≤ k := by omega
            have hk1 : (k : Int) < L.length := by omega
            clear hlt
            cases hb : out.getD k false
            · rw [hb] at q8 q9 hs
              have HS := Lib.hid hs
              clear hs hb
              go_wp2_with fail
              go_quiet (fail)
              have q8' : (wr.drewN nq).cell? ⟨g8, k, none⟩ = some (.bool false) := q8
              have HW' := Lib.hid (Below.drewN' HW.out nq)
              clear q8 q9 HW
              generalize wr.drewN nq = wq at *
              go_wp2_with fail
              go_roundg (gk - 1)
              case measure => omega
              case rel => exact ⟨k + 1, by omega, by go_num, by rw [HS.out]; go_num, HW'⟩
            · rw [hb] at q8 q9 hs
              have HS := Lib.hid hs
              clear hs hb
              go_wp2_with fail
              go_quiet (fail)
              have q8' : (wr.drewN nq).cell? ⟨g8, k, none⟩ = some (.bool true) := q8
              have HW' := Lib.hid (Below.drewN' HW.out nq)
              clear q8 q9 HW
              generalize wr.drewN nq = wq at *
              go_wp2_with fail
              go_roundg (gk - 1)
              case measure => omega
              case rel => exact ⟨k + 1, by omega, by go_num, by rw [HS.out]; go_num, HW'⟩
          · obtain rfl : k = L.length := by omega
            rw [show out.take L.length = out from by rw [← HOL.out, List.take_length]]
            have HA7 := Lib.hid (HA6.out.below HW.out)
            have HI7 := Lib.hid (HI6.out.below HW.out)
            have HB7 := Lib.hid (Below.seq HB6.out (Nat.le_refl _) HW.out)
            go_wp2_with fail
            refine alive_any.mono ?_
            rintro e w7 ⟨rfl, hb7⟩
            have HA8 := Lib.hid (HA7.out.below hb7)
            have HI8 := Lib.hid (HI7.out.below hb7)
            have HB8 := Lib.hid (Below.seq HB7.out (Nat.le_refl _) hb7)
            clear HA7 HI7 HB7 hb7 HA6 HI6 HB6 HW
            go_wp2_with fail
            refine (dead_any HA8.out _ roots HI8.out h3).mono ?_
            rintro e w9 ⟨out2, hm2, rfl, hb9⟩
            obtain rfl := HM.out.unique hm2
            go_wp2_with fail
            go_ret
            exact ⟨rfl, Below.seq HB8.out (Nat.le_refl _) hb9⟩
end Go.Proofs.Ytknoigebkpapoaa
