/- Walk of the law SweepCompacts: it answers true. -/
import Derived.Test.YtknoigebkpapoaaDoorAl
import Derived.Test.YtknoigebkpapoaaDoorRc
set_option linter.unusedVariables false
set_option linter.unusedSimpArgs false
namespace Go.Proofs.YtknoigebkpapoaaDoor
open Go.RowKit Go.Deep
variable {w : World}

set_option maxRecDepth 100000 in
set_option maxHeartbeats 4000000 in
theorem sweepCompacts_walk (v vr : Value) (limit : Int) (xs : List Nd) (roots : List Int) (hg : ErrT w) (h : Ops w v xs) (hr : Ints w vr roots) :
    Calls Tryd.prog 3 #[v, vr, .int .i64 limit] w fun e w' => e = .returned (.bool true) ∧ Below w.heap.size w w' := by
  have HO := Lib.hid h
  have HR := Lib.hid hr
  have HG := Lib.hid hg
  obtain ⟨ao, c, rfl, hc, hc2, _⟩ := h
  obtain ⟨ar, cr, rfl, hcr, hcr2, _⟩ := hr
  unfold maxLen at hc2 hcr2
  clear hg
  go_enter Tryd.func3, Tryd.ntmps3
  go_wp2_with fail
  refine (build_any _ xs HO.out).mono ?_
  rintro e w1 ⟨hb1, ⟨hl, rfl⟩ | ⟨hl, b, vl, S, rfl, A, hS, R⟩⟩
  · have hl' : (40 : Int) < xs.length := by omega
    have HB1 := Lib.hid hb1
    clear hb1
    go_wp2_with fail
    refine alive_any.mono ?_
    rintro e w2 ⟨rfl, hb2⟩
    go_wp2_with fail
    go_ret
    exact ⟨rfl, Below.seq (Below.push HB1.out (Nat.le_refl _) _) (Nat.le_refl _) hb2⟩
  · have hl' : (xs.length : Int) ≤ 40 := by omega
    obtain ⟨⟨ao1, cap1, rfl⟩, hn⟩ := R.shape
    have hlen : (Ar.bld 60 [] xs).length ≤ 40 := by have := Ar.bld_len 60 xs []; simp at this; omega
    have HB1 := Lib.hid hb1
    have HA := Lib.hid A
    have HRo := Lib.hid R
    have hSl : ∀ k, S k → k < w1.heap.size := fun k h => (hS k h).2
    generalize Ar.bld 60 [] xs = L at *
    clear hb1 A R hS
    by_cases h100 : 30 < roots.length
    · have h100' : (30 : Int) < roots.length := by omega
      go_wp2_with fail
      refine alive_any.mono ?_
      rintro e w2 ⟨rfl, hb2⟩
      go_wp2_with fail
      go_ret
      exact ⟨rfl, Below.seq (Below.push HB1.out (Nat.le_refl _) _) (Nat.le_refl _) hb2⟩
    · have h100' : (roots.length : Int) ≤ 30 := by omega
      have HB2 := Lib.hid (Below.push HB1.out (Nat.le_refl _) (.cells #[.int .i64 60, .slice ao1 L.length cap1] 27))
      have HA2 := Lib.hid (HA.out.below (Below.push (Below.refl _ w1) (Nat.le_refl _) (.cells #[.int .i64 60, .slice ao1 L.length cap1] 27)))
      have HRo2 := Lib.hid (HRo.out.below (Below.push (Below.refl _ w1) (Nat.le_refl _) (.cells #[.int .i64 60, .slice ao1 L.length cap1] 27)))
      have hSl2 : ∀ k, S k → k < (w1.alloc (.cells #[.int .i64 60, .slice ao1 L.length cap1] 27)).heap.size := fun k h => by have := hSl k h; simp; omega
      have HQ := Lib.hid (heap_alloc_new w1 (.cells #[.int .i64 60, .slice ao1 L.length cap1] 27))
      clear HA HB1 hSl HRo
      go_wp2_with fail
      generalize w1.alloc (.cells #[.int .i64 60, .slice ao1 L.length cap1] 27) = w3 at *
      have HI := Lib.hid (HR.out.below HB2.out)
      refine (compact_any HA2.out hSl2 _ roots HI.out limit (by omega)).mono ?_
      rintro e w4 ⟨hb4, hh⟩
      have hok := HA2.out.ok
      have HB4 := Lib.hid (Below.seq HB2.out (Nat.le_refl _) hb4)
      have HR4 := Lib.hid (HRo2.out.below hb4)
      have HI4 := Lib.hid (HI.out.below hb4)
      have Q4 := (hb4.block _ (lt_of_heap HQ.out)).trans HQ.out
      have c0 := cell_at Q4 0 (v := .int .i64 60) rfl
      have c1 := cell_at Q4 1 (v := .slice ao1 L.length cap1) rfl
      have HOK := Lib.hid hok
      have HG4 := Lib.hid (HG.out.below HB4.out HG.out.lt)
      clear HA2 HRo2 HI HB2 HQ Q4 hok
      rcases hh with ⟨hno, rfl⟩ | ⟨hall, hne, ev, rfl, hev⟩ | ⟨hall, he0, bb, vv, rfl, C, O⟩
      · have HNO := Lib.hid hno
        clear hno
        clear hb4
        go_wp2_with fail
        refine (ref_compact (lima := 60) HR4.out HOK.out _ roots HI4.out limit (by omega)).mono ?_
        rintro e w5 ⟨hb5, hh5⟩
        have HB5 := Lib.hid (Below.push (Below.seq HB4.out (Nat.le_refl _) hb5) (Nat.le_refl _) (.cells #[.int .i64 0, .slice none 0 0] 27))
        have HG5 := Lib.hid (HG.out.below HB5.out HG.out.lt)
        obtain rfl : e = _ := by
          rcases hh5 with ⟨_, h5⟩ | ⟨h5, _⟩ | ⟨h5, _⟩
          · exact h5
          · exact absurd h5 HNO.out
          · exact absurd h5 HNO.out
        have HEV : Hid (ErrV (w5.alloc (.cells #[.int .i64 0, .slice none 0 0] 27)) 1 (.iface 35 (.int .i64 1))) := .inr rfl
        clear hh5
        clear hb5 c0 c1
        go_wp2_with fail
        refine (number09_any HG5.out HEV.out).mono ?_
        rintro e w6 ⟨rfl, hb6⟩
        have HB6 := Lib.hid (Below.seq HB5.out (Nat.le_refl _) hb6)
        clear hb6 HEV HB5 HG5
        go_wp2_with fail
        refine wp_loop_rounds 1 ?_
        rw [rounds_succ]
        go_wp2_with fail
        refine alive_any.mono ?_
        rintro e w7 ⟨rfl, hb7⟩
        go_wp2_with fail
        go_ret
        exact ⟨rfl, Below.seq HB6.out (Nat.le_refl _) hb7⟩
      · have HALL := Lib.hid hall
        obtain ⟨res, hres⟩ : ∃ r, Ar.mvAll (max limit 0) L roots [] [] = r := ⟨_, rfl⟩
        rw [hres] at hne hev
        obtain ⟨fb, fv, rfl, hf⟩ : ∃ fb fv, ev = .iface 94 (.pointer (some ⟨fb, 0, none⟩)) ∧ FaultAt w4 fb fv res.2.2 := by
          rcases hev with ⟨h0, _⟩ | ⟨_, fb, fv, h1, h2⟩
          · exact absurd h0 hne
          · exact ⟨fb, fv, h1, h2⟩
        have HRES := Lib.hid hres
        have HNE := Lib.hid hne
        have HF := Lib.hid hf
        have hnb : (res.2.2 != 0) = true := by simpa using hne
        clear hres hne hev hall hf
        clear hb4
        go_wp2_with fail
        refine (ref_compact (lima := 60) HR4.out HOK.out _ roots HI4.out limit (by omega)).mono ?_
        rintro e w5 ⟨hb5, hh5⟩
        have HB5 := Lib.hid (Below.push (Below.seq HB4.out (Nat.le_refl _) hb5) (Nat.le_refl _) (.cells #[.int .i64 0, .slice none 0 0] 27))
        have HG5 := Lib.hid (HG.out.below HB5.out HG.out.lt)
        obtain rfl : e = .returned (.tuple #[.agg #[.int .i64 0, .slice none 0 0], .slice none 0 0, .int .i64 res.2.2]) := by
          rw [HRES.out] at hh5
          rcases hh5 with ⟨h5, _⟩ | ⟨_, _, h5⟩ | ⟨_, h5, _⟩
          · exact absurd HALL.out h5
          · exact h5
          · exact absurd h5 HNE.out
        have HEV : Hid (ErrV (w5.alloc (.cells #[.int .i64 0, .slice none 0 0] 27)) res.2.2 (.iface 94 (.pointer (some ⟨fb, 0, none⟩)))) :=
          .inl (.inr ⟨HNE.out, fb, fv, rfl, heap_alloc_lt _ ((hb5.block fb (lt_of_heap HF.out)).trans HF.out)⟩)
        clear hh5
        clear hb5 c0 c1
        go_wp2_with fail
        refine (number09_any HG5.out HEV.out).mono ?_
        rintro e w6 ⟨rfl, hb6⟩
        have HB6 := Lib.hid (Below.seq HB5.out (Nat.le_refl _) hb6)
        clear hb6 HEV HB5 HG5
        go_wp2_with fail
        refine wp_loop_rounds 1 ?_
        rw [rounds_succ]
        go_wp2_with fail
        refine alive_any.mono ?_
        rintro e w7 ⟨rfl, hb7⟩
        go_wp2_with fail
        go_ret
        exact ⟨rfl, Below.seq HB6.out (Nat.le_refl _) hb7⟩
      · have HALL := Lib.hid hall
        obtain ⟨Lb, out, en, hres⟩ : ∃ Lb out en, Ar.mvAll (max limit 0) L roots [] [] = (Lb, out, en) := ⟨_, _, _, rfl⟩
        rw [hres] at C O he0
        obtain rfl : en = 0 := he0
        replace O : OwnInts w4 w3.heap.size vv out := O
        replace C : Arena w4 bb (max limit 0) Lb _ := C
        have HC4 := Lib.hid C
        have HY4 := Lib.hid O.ints
        obtain ⟨ay, cy, rfl, hcy, hcy2, _⟩ := O.ints
        unfold maxLen at hcy2
        have HRES := Lib.hid hres
        clear C O hb4 hres hall
        go_wp2_with fail
        refine (ref_compact (lima := 60) HR4.out HOK.out _ roots HI4.out limit (by omega)).mono ?_
        rintro e w5 ⟨hb5, hh5⟩
        rw [HRES.out] at hh5
        rcases hh5 with ⟨h5, _⟩ | ⟨_, h5, _⟩ | ⟨_, _, vl5, v5, rfl, R5, O5⟩
        · exact absurd HALL.out h5
        · exact absurd rfl h5
        replace O5 : OwnInts w5 w4.heap.size v5 out := O5
        replace R5 : Row w5 vl5 Lb := R5
        obtain ⟨⟨al, cl, rfl⟩, hnl⟩ := R5.shape
        have hp5 := Below.push (Below.refl _ w5) (Nat.le_refl _) (.cells #[.int .i64 (max limit 0), .slice al Lb.length cl] 27)
        have HB5 := Lib.hid (Below.push (Below.seq HB4.out (Nat.le_refl _) hb5) (Nat.le_refl _) (.cells #[.int .i64 (max limit 0), .slice al Lb.length cl] 27))
        have HG5 := Lib.hid (HG.out.below HB5.out HG.out.lt)
        have HC5 := Lib.hid ((HC4.out.below hb5).below hp5)
        have HY5 := Lib.hid ((HY4.out.below hb5).below hp5)
        have HZ5 := Lib.hid (O5.ints.below hp5)
        have HR5 := Lib.hid (R5.below hp5)
        have HX5 := Lib.hid (heap_alloc_new w5 (.cells #[.int .i64 (max limit 0), .slice al Lb.length cl] 27))
        obtain ⟨az, cz, rfl, hcz, hcz2, _⟩ := O5.ints
        unfold maxLen at hcz2
        clear hb5 hp5 c0 c1 R5 O5 HC4 HY4 HR4 HI4 HG4 HB4
        go_wp2_with fail
        refine (number09_any (n := 0) HG5.out (.inl (.inl ⟨rfl, rfl⟩))).mono ?_
        rintro e w6 ⟨rfl, hb6⟩
        have HB6 := Lib.hid (Below.seq HB5.out (Nat.le_refl _) hb6)
        have HC6 := Lib.hid (HC5.out.below hb6)
        have HY6 := Lib.hid (HY5.out.below hb6)
        have HZ6 := Lib.hid (HZ5.out.below hb6)
        have HR6 := Lib.hid (HR5.out.below hb6)
        have HX6 := Lib.hid ((hb6.block _ (lt_of_heap HX5.out)).trans HX5.out)
        clear hb6 HB5 HG5 HC5 HY5 HZ5 HR5 HX5
        go_wp2_with fail
        go_loopg [70] out.length (fun gk i wr => ∃ k : Nat, i = .int .i64 k ∧ k + gk = out.length ∧ Hid (Below w6.heap.size w6 wr))
        case atStart => exact ⟨0, rfl, by omega, Lib.hid (Below.refl _ _)⟩
        case round =>
          obtain ⟨k, rfl, hk, HW⟩ := hrel
          by_cases hlt : k < out.length
          · obtain ⟨ay2, cy2, hy2, hy3, hy4, hye⟩ := HY6.out
            obtain ⟨az2, cz2, hz2, hz3, hz4, hze⟩ := HZ6.out
            simp only [Value.slice.injEq, true_and] at hy2 hz2
            obtain ⟨rfl, rfl⟩ := hy2
            obtain ⟨rfl, rfl⟩ := hz2
            obtain ⟨g1, o1, rfl, e1⟩ := hye k hlt
            obtain ⟨g2, o2, rfl, e2⟩ := hze k hlt
            have q1 := (HW.out.cell (p := ⟨g1, o1 + k, none⟩) (World.block_lt_of_cell? w6 _ e1)).trans e1
            have q2 := (HW.out.cell (p := ⟨g2, o2 + k, none⟩) (World.block_lt_of_cell? w6 _ e2)).trans e2
            have hk0 : (0 : Int) ≤ k := by omega
            have hk1 : (k : Int) < out.length := by omega
            clear e1 e2 hye hze hy3 hy4 hz3 hz4
            generalize out[k] = ok at *
            go_wp2_with fail
            go_quiet (fail)
            have HW2 := Lib.hid (Below.seq HW.out (Nat.le_refl _) (Below.drawn wr nq))
            go_wp2_with fail
            go_roundg (gk - 1)
            case measure => omega
            case rel => exact ⟨k + 1, by go_num, by omega, HW2⟩
          · obtain rfl : k = out.length := by omega
            go_wp2_with fail
            refine alive_any.mono ?_
            rintro e w7 ⟨rfl, hb7⟩
            have hb67 := Below.seq HW.out (Nat.le_refl _) hb7
            have HB7 := Lib.hid (Below.seq HB6.out (Nat.le_refl _) hb67)
            have HC7 := Lib.hid (HC6.out.below hb67)
            have HR7 := Lib.hid (HR6.out.below hb67)
            have X7 := (hb67.block _ (lt_of_heap HX6.out)).trans HX6.out
            have x0 := cell_at X7 0 (v := .int .i64 (max limit 0)) rfl
            have x1 := cell_at X7 1 (v := .slice al Lb.length cl) rfl
            clear hb7 hb67 X7
            go_wp2_with fail
            refine (nodes_same HC7.out HR7.out).mono ?_
            rintro e w8 ⟨rfl, hb8⟩
            go_wp2_with fail
            go_ret
            exact ⟨rfl, Below.seq HB7.out (Nat.le_refl _) hb8⟩
end Go.Proofs.YtknoigebkpapoaaDoor
