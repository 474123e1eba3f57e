/- Walk of the law NodeSame: it answers true. -/
import Derived.Test.YtknoigebkpapoaaDoorCf
import Derived.Deep.RegionHeld3
set_option linter.unusedVariables false
set_option linter.unusedSimpArgs false
namespace Go.Proofs.YtknoigebkpapoaaDoor
open Go.RowKit Go.Deep
variable {w : World}

set_option maxRecDepth 100000 in
set_option maxHeartbeats 4000000 in
theorem nodeSame_walk (v : Value) (i k : Int) (xs : List Nd) (hg : ErrT w) (h : Ops w v xs) :
    Calls Tryd.prog 7 #[v, .int .i64 i, .int .i64 k] w fun e w' => e = .returned (.bool true) ∧ Below w.heap.size w w' := by
  have HO := Lib.hid h
  have HG := Lib.hid hg
  obtain ⟨ao, c, rfl, hc, hc2, _⟩ := h
  unfold maxLen at hc2
  clear hg
  go_enter Tryd.func7, Tryd.ntmps7
  go_wp2_with fail
  refine (build5_any _ xs 100 HO.out).mono ?_
  rw [show max (100 : Int) 0 = 100 from rfl]
  rintro e w1 ⟨hb1, ⟨hl, rfl⟩ | ⟨hl, b, v8, S, rfl, A, hS, O, hv, hL, hR⟩⟩
  · have HB1 := Lib.hid hb1
    have HG1 := Lib.hid (HG.out.below hb1 HG.out.lt)
    clear hb1
    go_wp2_with fail
    refine (alive05 HG1.out).mono ?_
    rintro e w2 ⟨rfl, hb2⟩
    go_wp2_with fail
    go_ret
    exact ⟨rfl, Below.seq HB1.out (Nat.le_refl _) hb2⟩
  · have HB1 := Lib.hid hb1
    have HG1 := Lib.hid (HG.out.below hb1 HG.out.lt)
    have HA := Lib.hid A
    have HOK := Lib.hid A.ok
    have HH := Lib.hid (Ar.bldR_has 100 xs)
    have HI := Lib.hid O.ints
    generalize (Ar.bldR 100 xs).1 = L at *
    generalize (Ar.bldR 100 xs).2 = rs at *
    obtain ⟨ar, cr, rfl, hcr, hcr2, hcell⟩ := O.ints
    unfold maxLen at hcr2
    have HC := Lib.hid hcell
    clear hb1 A O hv hcell
    by_cases hin : 0 ≤ i ∧ 0 ≤ k ∧ i < rs.length ∧ k < rs.length
    · obtain ⟨hi0, hk0, hi1, hk1⟩ := hin
      obtain ⟨i, rfl⟩ := Int.eq_ofNat_of_zero_le hi0
      obtain ⟨k, rfl⟩ := Int.eq_ofNat_of_zero_le hk0
      have hi2 : i < rs.length := by omega
      have hk2 : k < rs.length := by omega
      have hd1 : decide ((i : Int) < 0) = false := decide_eq_false (by omega)
      have hd2 : decide ((k : Int) < 0) = false := decide_eq_false (by omega)
      have hd3 : decide (rs.length ≤ i) = false := decide_eq_false (by omega)
      have hd4 : decide (rs.length ≤ k) = false := decide_eq_false (by omega)
      obtain ⟨g, o, rfl, e1⟩ := HC.out i hi2
      obtain ⟨g', o', hgo, e2⟩ := HC.out k hk2
      simp only [Option.some.injEq, Addr.mk.injEq, and_true] at hgo
      obtain ⟨rfl, rfl⟩ := hgo
      have hgl := World.block_lt_of_cell? w1 _ e1
      have hr := HH.out rs[i] (List.getElem_mem hi2)
      have hs := HH.out rs[k] (List.getElem_mem hk2)
      have HALL := Lib.hid (sameB_all HOK.out hr hs)
      generalize rs[i] = r at *
      generalize rs[k] = s at *
      clear hr hs
      go_wp2_with fail
      go_loopg [9, 39] 4096 (fun gk u n wr => ∃ m : Nat, n = .int .u64 m ∧ m + gk = 4096 ∧ u = .bool (sameB L r s m) ∧ Hid (Below w1.heap.size w1 wr))
      case atStart => exact ⟨0, rfl, by omega, rfl, Lib.hid (Below.refl _ _)⟩
      case round =>
        obtain ⟨m, rfl, hm, rfl, HW⟩ := hrel
        have q1 := (HW.out.cell (p := ⟨g, o + i, none⟩) hgl).trans e1
        have q2 := (HW.out.cell (p := ⟨g, o + k, none⟩) hgl).trans e2
        have hgw : g < wr.heap.size := Nat.lt_of_lt_of_le hgl HW.out.size
        by_cases hlt : m < 4096
        · have hsucc := Lib.hid (sameB_succ L r s m)
          have HAd := Lib.hid (HA.out.below (Below.drew HW.out))
          cases hb : sameB L r s m
          · have HS : Hid (sameB L r s (m + 1) = false) := by rw [hsucc.out, hb]; rfl
            clear hsucc HAd
            go_wp2_with fail
            go_quiet (fail)
            have HW2 := Lib.hid (Below.seq HW.out (Nat.le_refl _) (Below.drawn wr nq))
            go_wp2_with fail
            go_roundg (gk - 1)
            case measure => omega
            case rel => exact ⟨m + 1, by go_num, by omega, by rw [HS.out], HW2⟩
          · have HS : Hid (sameB L r s (m + 1) = (Ar.wk (bt (m : Int)) L (r.toNat + 1) r == Ar.wk (bt (m : Int)) L (s.toNat + 1) s)) := by rw [hsucc.out, hb]; rfl
            clear hsucc
            have tok1 : True := trivial
            go_wp2_with fail
            go_region_held3 (fun wx => wx.cell? ⟨g, o + i, none⟩ = some (.int .i64 r) ∧ wx.cell? ⟨g, o + k, none⟩ = some (.int .i64 s))
              (first | exact ⟨q1, q2⟩ | exact ⟨y1, y2⟩ | exact ⟨z1, z2⟩)
              (first | (go_at_call 39; have _t := tok1; refine (walk_any HAd.out _ _).mono ?_; rintro e w4 ⟨rfl, hb4⟩; have y1 := (hb4.cell (p := ⟨g, o + i, none⟩) hgw).trans q1; have y2 := (hb4.cell (p := ⟨g, o + k, none⟩) hgw).trans q2; have HA4 := Lib.hid (HAd.out.below hb4); have hyl : g < w4.heap.size := Nat.lt_of_lt_of_le hgw hb4.size; clear _t tok1) | (go_at_call 39; have _t := HA4; refine (walk_any HA4.out _ _).mono ?_; rintro e w5 ⟨rfl, hb5⟩; have z1 := (hb5.cell (p := ⟨g, o + i, none⟩) hyl).trans y1; have z2 := (hb5.cell (p := ⟨g, o + k, none⟩) hyl).trans y2; clear _t))
            all_goals (
              have HX := Lib.hid (Below.seq (Below.seq (Below.drew HW.out) (Nat.le_refl _) hb4) (Nat.le_refl _) hb5)
              clear q1 q2 y1 y2 z1 z2 hb4 hb5 HAd HA4
              go_wp2_with fail
              go_roundg (gk - 1)
              case measure => omega
              case rel => exact ⟨m + 1, by go_num, by omega, by rw [HS.out], HX⟩)
        · obtain rfl : m = 4096 := by omega
          have HBw := Lib.hid (Below.seq HB1.out (Nat.le_refl _) HW.out)
          have HGd := Lib.hid (HG.out.below (Below.drew HBw.out) HG.out.lt)
          rw [HALL.out]
          go_wp2_with fail
          go_cut [6] (fun v6 wx => v6 = .bool true ∧ Hid (Below w.heap.size w wx))
          case first =>
            go_region_held3 (fun wx => wx.cell? ⟨g, o + i, none⟩ = some (.int .i64 r) ∧ wx.cell? ⟨g, o + k, none⟩ = some (.int .i64 s))
              (first | exact ⟨q1, q2⟩ | exact ⟨y1, y2⟩)
              ((go_at_call 22; refine (alive05 HGd.out).mono ?_; rintro e w4 ⟨rfl, hb4⟩; have y1 := (hb4.cell (p := ⟨g, o + i, none⟩) hgw).trans q1; have y2 := (hb4.cell (p := ⟨g, o + k, none⟩) hgw).trans q2))
            all_goals (go_wp2_with fail; go_meet; exact ⟨by simp, Lib.hid (Below.seq (Below.drew HBw.out) (Nat.le_refl _) hb4)⟩)
          case rest =>
            obtain ⟨rfl, HX⟩ := hcut
            go_wp2_with fail
            go_ret
            exact ⟨rfl, HX.out⟩
    · rcases (show i < 0 ∨ (0 ≤ i ∧ k < 0) ∨ (0 ≤ i ∧ 0 ≤ k ∧ (rs.length : Int) ≤ i) ∨ (0 ≤ i ∧ 0 ≤ k ∧ i < rs.length ∧ (rs.length : Int) ≤ k) by omega) with h1 | ⟨h1, h2⟩ | ⟨h1, h2, h3⟩ | ⟨h1, h2, h3, h4⟩
      all_goals (
        clear hin
        go_wp2_with fail
        refine (alive05 HG1.out).mono ?_
        rintro e w2 ⟨rfl, hb2⟩
        go_wp2_with fail
        go_ret
        exact ⟨rfl, Below.seq HB1.out (Nat.le_refl _) hb2⟩)
end Go.Proofs.YtknoigebkpapoaaDoor
