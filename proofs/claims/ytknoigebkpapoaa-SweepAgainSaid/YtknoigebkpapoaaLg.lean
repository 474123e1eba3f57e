/- Walk of the law SweepAgain: it answers true. -/
import Derived.Test.YtknoigebkpapoaaAl
import Derived.Test.YtknoigebkpapoaaCd
set_option linter.unusedVariables false
set_option linter.unusedSimpArgs false
namespace Go.Proofs.Ytknoigebkpapoaa
open Go.RowKit Go.Deep
variable {w : World}

theorem Ar.marks_exist (L : List Nd) (roots : List Int) : ∃ m : List Bool, m.length = L.length ∧ ∀ k, k < L.length → (m.getD k false = true ↔ Ar.Reach L roots (k : Int)) := by
  obtain ⟨res, hres⟩ := Ar.markF_total L (roots.length + 3 * L.length + 1) roots (List.replicate L.length false) (by simp) (by simp [Ar.free, List.countP_replicate])
  exact ⟨res, Ar.markF_right L roots _ _ _ _ (Ar.MI.start L roots) hres⟩
theorem Ar.free_all {m : List Bool} {L : List Nd} {roots : List Int} (h : Marks L roots m) (ha : ∀ k : Nat, k < L.length → Ar.Reach L roots k) : Ar.free m = 0 := by
  unfold Ar.free
  rw [List.countP_eq_zero]
  intro b hb
  obtain ⟨i, hi, rfl⟩ := List.mem_iff_getElem.1 hb
  have hi' : i < L.length := by rw [← h.1]; exact hi
  have := (h.2 i hi').2 (ha i hi')
  simp [List.getD, hi] at this
  simp [this]

attribute [local go_sem high] eq_nd
set_option maxRecDepth 100000 in
set_option maxHeartbeats 2000000 in
theorem sweepAgain_walk (v vr : Value) (xs : List Nd) (roots : List Int) (h : Ops w v xs) (hr : Ints w vr roots) :
    Calls Try.prog 4 #[v, vr] w fun e w' => e = .returned (.bool true) ∧ Below w.heap.size w w' := by
  have HO := Lib.hid h
  have HR := Lib.hid hr
  obtain ⟨ao, c, rfl, hc, hc2, _⟩ := h
  obtain ⟨ar, cr, rfl, hcr, hcr2, _⟩ := hr
  unfold maxLen at hc2 hcr2
  go_enter Try.func4, Try.ntmps4
  go_wp2_with fail
  refine (build_any _ xs HO.out).mono ?_
  rintro e w1 ⟨hb1, ⟨hl, rfl⟩ | ⟨hl, b, vl, S, rfl, A, hS, R⟩⟩
  · have hl' : (40 : Int) < xs.length := by omega
    have HB1 := Lib.hid hb1
    clear hb1
    go_wp2_with fail
    refine alive_any.mono ?_
    rintro e w2 ⟨rfl, hb2⟩
    go_wp2_with fail
    go_ret
    exact ⟨rfl, Below.seq (Below.push HB1.out (Nat.le_refl _) _) (Nat.le_refl _) hb2⟩
  · have hl' : (xs.length : Int) ≤ 40 := by omega
    obtain ⟨⟨ao1, cap1, rfl⟩, hn⟩ := R.shape
    have hlen : (Ar.bld 60 [] xs).length ≤ 40 := by have := Ar.bld_len 60 xs []; simp at this; omega
    have HB1 := Lib.hid hb1
    have HA := Lib.hid A
    have hSl : ∀ k, S k → k < w1.heap.size := fun k h => (hS k h).2
    generalize Ar.bld 60 [] xs = L at *
    clear hb1 A R hS
    by_cases h100 : 30 < roots.length
    · have h100' : (30 : Int) < roots.length := by omega
      go_wp2_with fail
      refine alive_any.mono ?_
      rintro e w2 ⟨rfl, hb2⟩
      go_wp2_with fail
      go_ret
      exact ⟨rfl, Below.seq (Below.push HB1.out (Nat.le_refl _) _) (Nat.le_refl _) hb2⟩
    · have h100' : (roots.length : Int) ≤ 30 := by omega
      have HB2 := Lib.hid (Below.push HB1.out (Nat.le_refl _) (.cells #[.int .i64 60, .slice ao1 L.length cap1] 27))
      have HA2 := Lib.hid (HA.out.below (Below.push (Below.refl _ w1) (Nat.le_refl _) (.cells #[.int .i64 60, .slice ao1 L.length cap1] 27)))
      have hSl2 : ∀ k, S k → k < (w1.alloc (.cells #[.int .i64 60, .slice ao1 L.length cap1] 27)).heap.size := fun k h => by have := hSl k h; simp; omega
      clear HA HB1 hSl
      go_wp2_with fail
      generalize w1.alloc (.cells #[.int .i64 60, .slice ao1 L.length cap1] 27) = w3 at *
      have HI := Lib.hid (HR.out.below HB2.out)
      refine (compact_any HA2.out hSl2 _ roots HI.out 60 (by omega)).mono ?_
      rintro e w4 ⟨hb4, hh⟩
      have HB4 := Lib.hid (Below.seq HB2.out (Nat.le_refl _) hb4)
      rcases hh with ⟨_, rfl⟩ | ⟨_, hne, ev, rfl, hev⟩ | ⟨hall, he0, bb, vv, rfl, C, O⟩
      · clear hb4
        go_wp2_with fail
        refine alive_any.mono ?_
        rintro e w5 ⟨rfl, hb5⟩
        go_wp2_with fail
        go_ret
        exact ⟨rfl, Below.seq HB4.out (Nat.le_refl _) hb5⟩
      · obtain ⟨fb, fv, rfl, hf⟩ : ∃ fb fv, ev = .iface 71 (.pointer (some ⟨fb, 0, none⟩)) ∧ True := by
          rcases hev with ⟨h0, _⟩ | ⟨_, fb, fv, h1, _⟩
          · exact absurd h0 hne
          · exact ⟨fb, fv, h1, trivial⟩
        clear hb4 hev hne
        go_wp2_with fail
        refine alive_any.mono ?_
        rintro e w5 ⟨rfl, hb5⟩
        go_wp2_with fail
        go_ret
        exact ⟨rfl, Below.seq HB4.out (Nat.le_refl _) hb5⟩
      · obtain ⟨Lb, out, en, hres⟩ : ∃ Lb out en, Ar.mvAll (max 60 0) L roots [] [] = (Lb, out, en) := ⟨_, _, _, rfl⟩
        rw [hres] at C O he0
        obtain rfl : en = 0 := he0
        replace O : OwnInts w4 w3.heap.size vv out := O
        replace C : Arena w4 bb (max 60 0) Lb _ := C
        have hok := HA2.out.ok
        have HRES := Lib.hid hres
        have HALL := Lib.hid hall
        have HA4 := Lib.hid (HA2.out.below hb4)
        have HI4 := Lib.hid (HI.out.below hb4)
        have HC4 := Lib.hid C
        have HY4 := Lib.hid O.ints
        obtain ⟨m0, hm0l, hm0⟩ := Ar.marks_exist L roots
        obtain ⟨hlb, hrb, hob, hab, okb⟩ := Ar.compacted hok hall hres hm0l hm0
        have hyl : out.length = roots.length := by
          obtain ⟨_, _, ys, hoy, hyl, _⟩ := Ar.mvAll_walk hok roots [] [] Lb out Ar.ok_nil hall hres
          rw [List.nil_append] at hoy
          rw [hoy]; exact hyl
        have HOB := Lib.hid hob
        have HRB := Lib.hid hrb
        have HAB := Lib.hid hab
        have HLB := Lib.hid hlb
        have HM0 := Lib.hid (show Marks L roots m0 from ⟨hm0l, hm0⟩)
        obtain ⟨ay, cy, rfl, hcy, hcy2, _⟩ := O.ints
        rw [hyl] at HY4
        rw [hyl]
        have HYL := Lib.hid hyl
        have hol : out.length ≤ 100000 := by omega
        have HLN := Lib.hid hol
        clear C O hb4 HI HA2 HB2 hres hall hok hm0l hm0 hrb hob hab okb hyl hlb hol hcy
        go_wp2_with fail
        refine (compact_any HC4.out (fun k h => h.2) _ out HY4.out 60 HLN.out).mono ?_
        rintro e w5 ⟨hb5, hh5⟩
        rw [HAB.out] at hh5
        rcases hh5 with ⟨hno, _⟩ | ⟨_, hno, _⟩ | ⟨_, _, bc, v5, rfl, C5, O5⟩
        · exact absurd HOB.out hno
        · exact absurd rfl hno
        replace O5 : OwnInts w5 w4.heap.size v5 out := O5
        replace C5 : Arena w5 bc (max 60 0) Lb _ := C5
        have HC5 := Lib.hid C5
        have HB5 := Lib.hid (Below.seq HB4.out (Nat.le_refl _) hb5)
        have HA5 := Lib.hid (HA4.out.below hb5)
        have HI5 := Lib.hid (HI4.out.below hb5)
        have HCb := Lib.hid (HC4.out.below hb5)
        have HY5 := Lib.hid (HY4.out.below hb5)
        have HZ5 := Lib.hid O5.ints
        obtain ⟨az, cz, rfl, hcz, hcz2, _⟩ := O5.ints
        rw [HYL.out] at HZ5 hcz
        rw [HYL.out]
        unfold maxLen at hcy2 hcz2
        clear C5 O5 hb5 HA4 HI4 HC4 HY4 HB4
        go_wp2_with fail
        refine (len_any HC5.out).mono ?_
        rintro e w' ⟨rfl, rfl⟩
        go_wp2_with fail
        refine (len_any HCb.out).mono ?_
        rintro e w' ⟨rfl, rfl⟩
        go_wp2_with fail
        refine (len_any HCb.out).mono ?_
        rintro e w' ⟨rfl, rfl⟩
        go_wp2_with fail
        refine (len_any HA5.out).mono ?_
        rintro e w' ⟨rfl, rfl⟩
        go_wp2_with fail
        refine (dead_any HA5.out _ roots HI5.out (by omega)).mono ?_
        rintro e w6 ⟨m1, hm1, rfl, hb6⟩
        obtain rfl := HM0.out.unique hm1
        have hw6 : IntKind.i64.wrap ((L.length : Int) - (Ar.free m0 : Nat)) = Lb.length := by
          have := HLB.out
          rw [IntWalk.i64_in _ (by omega)]
          omega
        have HCb6 := Lib.hid (HCb.out.below hb6)
        have HC6 := Lib.hid (HC5.out.below hb6)
        have HY6 := Lib.hid (HY5.out.below hb6)
        have HZ6 := Lib.hid (HZ5.out.below hb6)
        have HB6 := Lib.hid (Below.seq HB5.out (Nat.le_refl _) hb6)
        have hle6 : out.length + 3 * Lb.length ≤ 1000000000000 := by have := HLN.out; have := HLB.out; omega
        have HLE := Lib.hid hle6
        clear hb6 hle6 HCb HC5 HY5 HZ5 HB5 HA5 HI5 hm1
        go_wp2_with fail
        refine (dead_any HCb6.out _ out HY6.out HLE.out).mono ?_
        rintro e w7 ⟨m2, hm2, rfl, hb7⟩
        have hf0 : Ar.free m2 = 0 := Ar.free_all hm2 HRB.out
        rw [hf0]
        have HCb7 := Lib.hid (HCb6.out.below hb7)
        have HC7 := Lib.hid (HC6.out.below hb7)
        have HY7 := Lib.hid (HY6.out.below hb7)
        have HZ7 := Lib.hid (HZ6.out.below hb7)
        have HB7 := Lib.hid (Below.seq HB6.out (Nat.le_refl _) hb7)
        clear hb7 hf0 hm2 HCb6 HC6 HY6 HZ6 HB6
        go_wp2_with fail
        go_loopg [100] roots.length (fun gk i wr => ∃ k : Nat, i = .int .i64 k ∧ k + gk = roots.length ∧ Hid (Below w7.heap.size w7 wr))
        case atStart => exact ⟨0, rfl, by omega, Lib.hid (Below.refl _ _)⟩
        case round =>
          obtain ⟨k, rfl, hk, HW⟩ := hrel
          by_cases hlt : k < roots.length
          · obtain ⟨a1, c1, hs1, _, _, hr1⟩ := HY7.out
            obtain ⟨a2, c2, hs2, _, _, hr2⟩ := HZ7.out
            injection hs1 with e1 e2 e3
            injection hs2 with e4 e5 e6
            subst e1 e3 e4 e6
            have hko : k < out.length := by rw [HYL.out]; exact hlt
            obtain ⟨g1, o1, rfl, d1⟩ := hr1 k hko
            obtain ⟨g2, o2, rfl, d2⟩ := hr2 k hko
            have q1 := (HW.out.cell (p := ⟨g1, o1 + k, none⟩) (World.block_lt_of_cell? w7 _ d1)).trans d1
            have q2 := (HW.out.cell (p := ⟨g2, o2 + k, none⟩) (World.block_lt_of_cell? w7 _ d2)).trans d2
            have hk0 : (0 : Int) ≤ k := by omega
            have hk1 : (k : Int) < roots.length := by omega
            clear hr1 hr2 e2 e5 d1 d2
            generalize out[k] = ok at *
            go_wp2_with fail
            go_quiet (fail)
            have HW' := Lib.hid (Below.drewN' HW.out nq)
            clear q1 q2 HW
            go_wp2_with fail
            go_roundg (gk - 1)
            case measure => omega
            case rel => exact ⟨k + 1, by go_num, by omega, HW'⟩
          · obtain rfl : k = roots.length := by omega
            obtain ⟨w8, rfl⟩ : ∃ w8, w8 = wr := ⟨_, rfl⟩
            have HCb8 := Lib.hid (HCb7.out.below HW.out)
            have HC8 := Lib.hid (HC7.out.below HW.out)
            have HB8 := Lib.hid (Below.seq HB7.out (Nat.le_refl _) HW.out)
            clear HCb7 HC7 HY7 HZ7 HB7 HW
            go_wp2_with fail
            refine (len_any HCb8.out).mono ?_
            rintro e w' ⟨rfl, rfl⟩
            have hbl : Lb.length ≤ 40 := by have := HLB.out; omega
            go_wp2_with fail
            go_loopg [115] Lb.length (fun gk i wq => ∃ k : Nat, i = .int .i64 k ∧ k + gk = Lb.length ∧ Hid (Below w8.heap.size w8 wq))
            case atStart => exact ⟨0, rfl, by omega, Lib.hid (Below.refl _ _)⟩
            case round =>
              obtain ⟨k, rfl, hk, HW⟩ := hrel
              by_cases hlt : k < Lb.length
              · have HCb9 := Lib.hid (HCb8.out.below HW.out)
                have HC9 := Lib.hid (HC8.out.below HW.out)
                go_wp2_with fail
                refine (get_in HCb9.out k hlt).mono ?_
                rintro e w9 ⟨rfl, hb9⟩
                have c9 : Below wr.heap.size wr (w9.alloc (.cells #[.int .i64 Lb[k].v, .int .i64 Lb[k].l, .int .i64 Lb[k].h] 42)) := Below.push hb9 (Nat.le_refl _) _
                have X9 := heap_alloc_new w9 (.cells #[.int .i64 Lb[k].v, .int .i64 Lb[k].l, .int .i64 Lb[k].h] 42)
                have HC10 := Lib.hid (HC9.out.below c9)
                have HW9 := Lib.hid (Below.seq HW.out (Nat.le_refl _) c9)
                have HX9 := Lib.hid X9
                clear hb9 c9 X9 HCb9 HC9 HW
                go_wp2_with fail
                refine (get_in HC10.out k hlt).mono ?_
                rintro e w10 ⟨rfl, hb10⟩
                have X10 := (hb10.block w9.heap.size (by simp)).trans HX9.out
                have x0 := cell_push (cell_at X10 0 (v := .int .i64 Lb[k].v) rfl) (.cells #[.int .i64 Lb[k].v, .int .i64 Lb[k].l, .int .i64 Lb[k].h] 42)
                have x1 := cell_push (cell_at X10 1 (v := .int .i64 Lb[k].l) rfl) (.cells #[.int .i64 Lb[k].v, .int .i64 Lb[k].l, .int .i64 Lb[k].h] 42)
                have x2 := cell_push (cell_at X10 2 (v := .int .i64 Lb[k].h) rfl) (.cells #[.int .i64 Lb[k].v, .int .i64 Lb[k].l, .int .i64 Lb[k].h] 42)
                have HW10 := Lib.hid (Below.push (Below.seq HW9.out (Nat.le_refl _) hb10) (Nat.le_refl _) (.cells #[.int .i64 Lb[k].v, .int .i64 Lb[k].l, .int .i64 Lb[k].h] 42))
                have hnd : ndEq Lb[k].v Lb[k].l Lb[k].h Lb[k].v Lb[k].l Lb[k].h = true := (ndEq_iff _ _).2 rfl
                clear hb10 X10 HX9 HW9 HC10
                go_wp2_with fail
                go_roundg (gk - 1)
                case measure => omega
                case rel => exact ⟨k + 1, by go_num, by omega, HW10⟩
              · obtain rfl : k = Lb.length := by omega
                go_wp2_with fail
                refine alive_any.mono ?_
                rintro e w11 ⟨rfl, hb11⟩
                go_wp2_with fail
                go_ret
                exact ⟨rfl, Below.seq (Below.seq HB8.out (Nat.le_refl _) HW.out) (Nat.le_refl _) hb11⟩
end Go.Proofs.Ytknoigebkpapoaa
