/- Walk of the law SweepWalks: it answers true. -/
import Derived.Test.YtknoigebkpapoaaAl
import Derived.Test.YtknoigebkpapoaaPw
set_option linter.unusedVariables false
set_option linter.unusedSimpArgs false
namespace Go.Proofs.Ytknoigebkpapoaa
open Go.RowKit Go.Deep
variable {w : World}

theorem walk_to {b : Nat} {lim : Int} {L : List Nd} {S : Nat → Prop} (A : Arena w b lim L S) (r bits z : Int) (h : Ar.walk (bt bits) L r = z) :
    Calls Try.prog 14 #[.pointer (some ⟨b, 0, none⟩), .int .i64 r, .int .u64 bits] w fun e w' => e = .returned (.int .i64 z) ∧ Below w.heap.size w w' := by
  subst h
  exact walk_any A r bits

set_option maxRecDepth 100000 in
set_option maxHeartbeats 2000000 in
theorem sweepWalks_walk (v vr : Value) (bits : Int) (xs : List Nd) (roots : List Int) (h : Ops w v xs) (hr : Ints w vr roots) :
    Calls Try.prog 5 #[v, vr, .int .u64 bits] w fun e w' => e = .returned (.bool true) ∧ Below w.heap.size w w' := by
  have HO := Lib.hid h
  have HR := Lib.hid hr
  obtain ⟨ao, c, rfl, hc, hc2, _⟩ := h
  obtain ⟨ar, cr, rfl, hcr, hcr2, _⟩ := hr
  unfold maxLen at hc2 hcr2
  go_enter Try.func5, Try.ntmps5
  go_wp2_with fail
  refine (build_any _ xs HO.out).mono ?_
  rintro e w1 ⟨hb1, ⟨hl, rfl⟩ | ⟨hl, b, vl, S, rfl, A, hS, R⟩⟩
  · have hl' : (40 : Int) < xs.length := by omega
    have HB1 := Lib.hid hb1
    clear hb1
    go_wp2_with fail
    refine alive_any.mono ?_
    rintro e w2 ⟨rfl, hb2⟩
    go_wp2_with fail
    go_ret
    exact ⟨rfl, Below.seq (Below.push HB1.out (Nat.le_refl _) _) (Nat.le_refl _) hb2⟩
  · have hl' : (xs.length : Int) ≤ 40 := by omega
    obtain ⟨⟨ao1, cap1, rfl⟩, hn⟩ := R.shape
    have hlen : (Ar.bld 60 [] xs).length ≤ 40 := by have := Ar.bld_len 60 xs []; simp at this; omega
    have HB1 := Lib.hid hb1
    have HA := Lib.hid A
    have hSl : ∀ k, S k → k < w1.heap.size := fun k h => (hS k h).2
    generalize Ar.bld 60 [] xs = L at *
    clear hb1 A R hS
    by_cases h100 : 30 < roots.length
    · have h100' : (30 : Int) < roots.length := by omega
      go_wp2_with fail
      refine alive_any.mono ?_
      rintro e w2 ⟨rfl, hb2⟩
      go_wp2_with fail
      go_ret
      exact ⟨rfl, Below.seq (Below.push HB1.out (Nat.le_refl _) _) (Nat.le_refl _) hb2⟩
    · have h100' : (roots.length : Int) ≤ 30 := by omega
      have HB2 := Lib.hid (Below.push HB1.out (Nat.le_refl _) (.cells #[.int .i64 60, .slice ao1 L.length cap1] 27))
      have HA2 := Lib.hid (HA.out.below (Below.push (Below.refl _ w1) (Nat.le_refl _) (.cells #[.int .i64 60, .slice ao1 L.length cap1] 27)))
      have hSl2 : ∀ k, S k → k < (w1.alloc (.cells #[.int .i64 60, .slice ao1 L.length cap1] 27)).heap.size := fun k h => by have := hSl k h; simp; omega
      clear HA HB1 hSl
      go_wp2_with fail
      generalize w1.alloc (.cells #[.int .i64 60, .slice ao1 L.length cap1] 27) = w3 at *
      have HI := Lib.hid (HR.out.below HB2.out)
      refine (compact_any HA2.out hSl2 _ roots HI.out 60 (by omega)).mono ?_
      rintro e w4 ⟨hb4, hh⟩
      have HB4 := Lib.hid (Below.seq HB2.out (Nat.le_refl _) hb4)
      rcases hh with ⟨_, rfl⟩ | ⟨_, hne, ev, rfl, hev⟩ | ⟨hall, he0, bb, vv, rfl, C, O⟩
      · clear hb4
        go_wp2_with fail
        refine alive_any.mono ?_
        rintro e w5 ⟨rfl, hb5⟩
        go_wp2_with fail
        go_ret
        exact ⟨rfl, Below.seq HB4.out (Nat.le_refl _) hb5⟩
      · obtain ⟨fb, fv, rfl, hf⟩ : ∃ fb fv, ev = .iface 71 (.pointer (some ⟨fb, 0, none⟩)) ∧ True := by
          rcases hev with ⟨h0, _⟩ | ⟨_, fb, fv, h1, _⟩
          · exact absurd h0 hne
          · exact ⟨fb, fv, h1, trivial⟩
        clear hb4 hev hne
        go_wp2_with fail
        refine alive_any.mono ?_
        rintro e w5 ⟨rfl, hb5⟩
        go_wp2_with fail
        go_ret
        exact ⟨rfl, Below.seq HB4.out (Nat.le_refl _) hb5⟩
      · obtain ⟨Lb, out, en, hres⟩ : ∃ Lb out en, Ar.mvAll (max 60 0) L roots [] [] = (Lb, out, en) := ⟨_, _, _, rfl⟩
        rw [hres] at C O he0
        obtain rfl : en = 0 := he0
        replace O : OwnInts w4 w3.heap.size vv out := O
        replace C : Arena w4 bb (max 60 0) Lb _ := C
        obtain ⟨okb, _, ys, hoy, hyl, hys⟩ := Ar.mvAll_walk HA2.out.ok roots [] [] Lb out (by exact ⟨by simp, fun i h => by simp at h⟩) hall hres
        rw [List.nil_append] at hoy
        rw [hoy] at O
        clear hoy hres
        have HA4 := Lib.hid (HA2.out.below hb4)
        have HC4 := Lib.hid C
        have HY := Lib.hid hys
        have HI4 := Lib.hid (HI.out.below hb4)
        obtain ⟨ay, cy, rfl, hcy, hcy2, hcell⟩ := O.ints
        have HOc := Lib.hid hcell
        have hyl' := hyl
        rw [hyl] at hcy
        rw [hyl]
        unfold maxLen at hcy2
        clear C O hcell hb4 HI HA2 HB2 hys
        go_wp2_with fail
        go_loopg [51] roots.length (fun gk i wr => ∃ k : Nat, i = .int .i64 k ∧ k + gk = roots.length ∧ Hid (Below w4.heap.size w4 wr))
        case atStart => exact ⟨0, rfl, by omega, Lib.hid (Below.refl _ _)⟩
        case round =>
          obtain ⟨k, rfl, hk, HW⟩ := hrel
          by_cases hlt : k < roots.length
          · obtain ⟨ar', cr', hsl, _, _, hrc⟩ := HI4.out
            obtain ⟨rfl, rfl⟩ : ar = ar' ∧ cr = cr' := by cases hsl; exact ⟨rfl, rfl⟩
            obtain ⟨b1, o1, rfl, hc1⟩ := hrc k hlt
            have hky : k < ys.length := by omega
            obtain ⟨b2, o2, rfl, hc2'⟩ := HOc.out k hky
            have q1 := (HW.out.cell (p := ⟨b1, o1 + k, none⟩) (World.block_lt_of_cell? w4 _ hc1)).trans hc1
            have q2 := (HW.out.cell (p := ⟨b2, o2 + k, none⟩) (World.block_lt_of_cell? w4 _ hc2')).trans hc2'
            obtain ⟨_, _, hwk⟩ := HY.out k hlt hky
            have HWK := Lib.hid (hwk (bt bits))
            have HA5 := Lib.hid (HA4.out.below HW.out)
            have HC5 := Lib.hid (HC4.out.below HW.out)
            clear hsl hrc hc1 hc2' hwk
            go_wp2_with fail
            refine (walk_to HC5.out ys[k] bits _ HWK.out).mono ?_
            rintro e w6 ⟨rfl, hb6⟩
            have HA6 := Lib.hid (HA5.out.below hb6)
            have HW6 := Lib.hid (Below.seq HW.out (Nat.le_refl _) hb6)
            clear q1 q2 hb6
            go_wp2_with fail
            refine (walk_to HA6.out roots[k] bits _ rfl).mono ?_
            rintro e w7 ⟨rfl, hb7⟩
            have HW7 := Lib.hid (Below.seq HW6.out (Nat.le_refl _) hb7)
            clear hb7 HW6 HA6 HA5 HC5 HW
            go_wp2_with fail
            go_roundg (gk - 1)
            case measure => omega
            case rel => exact ⟨k + 1, by go_num, by omega, HW7⟩
          · obtain rfl : k = roots.length := by omega
            go_wp2_with fail
            refine alive_any.mono ?_
            rintro e w5 ⟨rfl, hb5⟩
            go_wp2_with fail
            go_ret
            exact ⟨rfl, Below.seq (Below.seq HB4.out (Nat.le_refl _) HW.out) (Nat.le_refl _) hb5⟩
end Go.Proofs.Ytknoigebkpapoaa
