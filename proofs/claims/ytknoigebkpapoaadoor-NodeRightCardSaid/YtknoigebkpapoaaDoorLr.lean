/- Walk of the law NodeRight: it answers true. -/
import Derived.Test.YtknoigebkpapoaaDoorNb
import Derived.Test.YtknoigebkpapoaaDoorPw
import Derived.Deep.RegionHeld3
set_option linter.unusedVariables false
set_option linter.unusedSimpArgs false
namespace Go.Proofs.YtknoigebkpapoaaDoor
open Go.RowKit Go.Deep
variable {w : World}

theorem Ar.mk_lim (lim : Int) (L : List Nd) (v lo hi : Int) (h : (L.length : Int) ≤ max lim 0) : ((Ar.mk lim L v lo hi).1.length : Int) ≤ max lim 0 := by
  rcases Ar.mk_cases lim L v lo hi with ⟨n, _, e⟩ | ⟨_, _, _, ⟨_, e⟩ | ⟨_, _, e⟩ | ⟨_, _, hl, e⟩⟩ <;> rw [e]
  · exact h
  · exact h
  · exact h
  · simp; omega
theorem Ar.bldR_lim (lim : Int) (xs : List Nd) : ((Ar.bldR lim xs).1.length : Int) ≤ max lim 0 := by
  have h : ∀ (xs : List Nd) (p : List Nd × List Int), (p.1.length : Int) ≤ max lim 0 → ((xs.foldl (Ar.stepR lim) p).1.length : Int) ≤ max lim 0 := by
    intro xs
    induction xs with
    | nil => intro p hp; exact hp
    | cons o l ih => intro p hp; exact ih _ (Ar.mk_lim lim p.1 o.v o.l o.h hp)
  exact h xs ([], []) (by simp; omega)

attribute [local go_sem high] eq_nd
set_option maxRecDepth 100000 in
set_option maxHeartbeats 4000000 in
theorem nodeRight_walk (limit : Int) (v : Value) (xs : List Nd) (hg : ErrT w) (h : Ops w v xs) :
    Calls Tryd.prog 8 #[.int .i64 limit, v] w fun e w' => e = .returned (.bool true) ∧ Below w.heap.size w w' := by
  have HO := Lib.hid h
  have HG := Lib.hid hg
  obtain ⟨ao, c, rfl, hc, hc2, _⟩ := h
  unfold maxLen at hc2
  clear hg
  go_enter Tryd.func8, Tryd.ntmps8
  go_wp2_with fail
  refine (build5_any _ xs limit HO.out).mono ?_
  rintro e w1 ⟨hb1, ⟨hl, rfl⟩ | ⟨hl, b, v8, S, rfl, A, hS, O, hv, hL, hR⟩⟩
  · have hl' : (60 : Int) < xs.length := by omega
    have HB1 := Lib.hid hb1
    have HG1 := Lib.hid (HG.out.below hb1 HG.out.lt)
    clear hb1
    go_wp2_with fail
    refine (alive05 HG1.out).mono ?_
    rintro e w2 ⟨rfl, hb2⟩
    go_wp2_with fail
    go_ret
    exact ⟨rfl, Below.seq HB1.out (Nat.le_refl _) hb2⟩
  · have hlm := Ar.bldR_lim (max limit 0) xs
    have HB1 := Lib.hid hb1
    have HA := Lib.hid A
    have hmx : max (max limit 0) 0 = max limit 0 := by omega
    rw [hmx] at hlm
    have HOK := Lib.hid A.ok
    generalize (Ar.bldR (max limit 0) xs).1 = L at *
    clear hb1 A O hv hR hmx
    go_upto_region 4 with (fail)
    go_cut [31] (fun v31 wx => v31 = .bool false ∧ w1 = wx)
    case first =>
      by_cases hlz : limit < 0
      · have hl0 : (L.length : Int) ≤ 0 := by omega
        clear hlm
        go_wp2_with fail
        refine (len_any HA.out).mono ?_
        rintro e w' ⟨rfl, rfl⟩
        go_wp2_with fail
        go_meet
        exact ⟨congrArg Value.bool (decide_eq_false (by omega)), rfl⟩
      · have hl0 : 0 ≤ limit := by omega
        have hl1 : (L.length : Int) ≤ limit := by omega
        clear hlm hlz
        go_wp2_with fail
        refine (len_any HA.out).mono ?_
        rintro e w' ⟨rfl, rfl⟩
        go_wp2_with fail
        go_meet
        exact ⟨congrArg Value.bool (decide_eq_false (by omega)), rfl⟩
    obtain ⟨rfl, rfl⟩ := hcut
    clear hlm
    go_wp2_with fail
    refine (len_any HA.out).mono ?_
    rintro e w' ⟨rfl, rfl⟩
    go_wp2_with fail
    go_loopg [34] L.length (fun gk i wr => ∃ k : Nat, i = .int .i64 k ∧ k + gk = L.length ∧ Hid (Below w1.heap.size w1 wr))
    case atStart => exact ⟨0, rfl, by omega, Lib.hid (Below.refl _ _)⟩
    case round =>
      obtain ⟨k, rfl, hk, HW⟩ := hrel
      obtain ⟨gk0, hgk0⟩ : ∃ g, g = gk := ⟨_, rfl⟩
      subst hgk0
      by_cases hlt : k < L.length
      · have HAr := Lib.hid (HA.out.below HW.out)
        go_wp2_with fail
        refine (get_in HAr.out k hlt).mono ?_
        rintro e w2 ⟨rfl, hb2⟩
        have hp2 := Below.push (Below.refl _ w2) (Nat.le_refl _) (.cells #[.int .i64 L[k].v, .int .i64 L[k].l, .int .i64 L[k].h] 57)
        have HB2 := Lib.hid (Below.seq (Below.seq HW.out (Nat.le_refl _) hb2) (Nat.le_refl _) hp2)
        have HX2 := Lib.hid (heap_alloc_new w2 (.cells #[.int .i64 L[k].v, .int .i64 L[k].l, .int .i64 L[k].h] 57))
        have hsz : (w2.alloc (.cells #[.int .i64 L[k].v, .int .i64 L[k].l, .int .i64 L[k].h] 57)).heap.size = w2.heap.size + 1 := by simp
        clear hb2 hp2 HW HAr
        go_wp2_with fail
        generalize w2.alloc (.cells #[.int .i64 L[k].v, .int .i64 L[k].l, .int .i64 L[k].h] 57) = w3 at *
        have he := HOK.out.each k hlt
        have q1 : (L[k].l == L[k].h) = false := beq_eq_false_iff_ne.2 he.2.2.1
        have q2 : decide (Ar.var L L[k].l ≤ L[k].v) = false := decide_eq_false (by have := he.2.2.2.2.2.2.2.1; omega)
        have q3 : decide (Ar.var L L[k].h ≤ L[k].v) = false := decide_eq_false (by have := he.2.2.2.2.2.2.2.2; omega)
        have q4 : decide (L[k].v < 0) = false := decide_eq_false (by have := he.1; omega)
        have q5 : decide (12 ≤ L[k].v) = false := decide_eq_false (by have := he.2.1; omega)
        have HAd := Lib.hid (HA.out.below (Below.drew HB2.out))
        have x0 := cell_at HX2.out 0 (v := .int .i64 L[k].v) rfl
        have x1 := cell_at HX2.out 1 (v := .int .i64 L[k].l) rfl
        have x2 := cell_at HX2.out 2 (v := .int .i64 L[k].h) rfl
        have hxl := lt_of_heap HX2.out
        have tok1 : True := trivial
        clear he
        go_cut [79] (fun v79 wx => v79 = .bool false ∧ Hid (Below w3.heap.size w3 wx))
        case first =>
          go_region_held3 (fun wx => wx.cell? ⟨w2.heap.size, 0, none⟩ = some (.int .i64 L[k].v) ∧ wx.cell? ⟨w2.heap.size, 1, none⟩ = some (.int .i64 L[k].l) ∧ wx.cell? ⟨w2.heap.size, 2, none⟩ = some (.int .i64 L[k].h))
            (first | exact ⟨x0, x1, x2⟩ | exact ⟨y0, y1, y2⟩ | exact ⟨z0, z1, z2⟩)
            (first | (go_at_call 30; have _t := tok1; refine (var_any HAd.out _).mono ?_; rintro e w4 ⟨rfl, hb4⟩; have y0 := (hb4.cell (p := ⟨w2.heap.size, 0, none⟩) hxl).trans x0; have y1 := (hb4.cell (p := ⟨w2.heap.size, 1, none⟩) hxl).trans x1; have y2 := (hb4.cell (p := ⟨w2.heap.size, 2, none⟩) hxl).trans x2; have HA4 := Lib.hid (HAd.out.below hb4); have hyl : w2.heap.size < w4.heap.size := Nat.lt_of_lt_of_le hxl hb4.size; clear _t tok1) | (go_at_call 30; have _t := HA4; refine (var_any HA4.out _).mono ?_; rintro e w5 ⟨rfl, hb5⟩; have z0 := (hb5.cell (p := ⟨w2.heap.size, 0, none⟩) hyl).trans y0; have z1 := (hb5.cell (p := ⟨w2.heap.size, 1, none⟩) hyl).trans y1; have z2 := (hb5.cell (p := ⟨w2.heap.size, 2, none⟩) hyl).trans y2; clear _t))
          all_goals (go_wp2_with fail; go_meet; exact ⟨rfl, Lib.hid (Below.seq (Below.seq (Below.drew (Below.refl _ w3)) (Nat.le_refl _) hb4) (Nat.le_refl _) hb5)⟩)
        case rest =>
          obtain ⟨rfl, HC⟩ := hcut
          have HB4 := Lib.hid (Below.seq HB2.out (Nat.le_refl _) HC.out)
          have HX4 := Lib.hid ((HC.out.block _ hxl).trans HX2.out)
          clear HC HAd HX2 HB2 x0 x1 x2 q1 q2 q3 q4 q5 tok1
          go_wp2_with fail
          go_loopg [81] k (fun gj j wx => ∃ m : Nat, j = .int .i64 m ∧ m + gj = k ∧ Hid (Below wc.heap.size wc wx))
          case atStart => exact ⟨0, rfl, by omega, Lib.hid (Below.refl _ _)⟩
          case round =>
            obtain ⟨m, rfl, hm, HV⟩ := hrel
            by_cases hml : m < k
            · have hne : L[m]'(by omega) ≠ L[k] := fun e => by
                have := (List.getElem_inj (h₀ := show m < L.length by omega) (h₁ := hlt) HOK.out.nodup).1 e
                omega
              have hE : ndEq (L[m]'(by omega)).v (L[m]'(by omega)).l (L[m]'(by omega)).h L[k].v L[k].l L[k].h = false := by
                cases hq : ndEq (L[m]'(by omega)).v (L[m]'(by omega)).l (L[m]'(by omega)).h L[k].v L[k].l L[k].h
                · rfl
                · exact absurd ((ndEq_iff _ _).1 hq) hne
              have HAw := Lib.hid (HA.out.below (Below.seq HB4.out (Nat.le_refl _) HV.out))
              clear hne
              go_wp2_with fail
              refine (get_in HAw.out m (by omega)).mono ?_
              rintro e w6 ⟨rfl, hb6⟩
              have hbv := Below.seq HV.out (Nat.le_refl _) hb6
              have X6 := (hbv.block _ (lt_of_heap HX4.out)).trans HX4.out
              have x0 := cell_at X6 0 (v := .int .i64 L[k].v) rfl
              have x1 := cell_at X6 1 (v := .int .i64 L[k].l) rfl
              have x2 := cell_at X6 2 (v := .int .i64 L[k].h) rfl
              have hlw := lt_of_heap X6
              have HV6 := Lib.hid (Below.push hbv (Nat.le_refl _) (.cells #[.int .i64 (L[m]'(by omega)).v, .int .i64 (L[m]'(by omega)).l, .int .i64 (L[m]'(by omega)).h] 57))
              clear hb6 hbv X6 HAw
              go_wp2_with fail
              go_roundg (gk - 1)
              case measure => omega
              case rel => exact ⟨m + 1, by go_num, by omega, HV6⟩
            · obtain rfl : m = k := by omega
              have HW2 := Lib.hid (Below.seq HB4.out (Nat.le_refl _) HV.out)
              go_wp2_with fail
              go_roundg (gk0 - 1)
              case measure => omega
              case rel => exact ⟨m + 1, by go_num, by omega, HW2⟩
      · obtain rfl : k = L.length := by omega
        have HBw := Lib.hid (Below.seq HB1.out (Nat.le_refl _) HW.out)
        have HGw := Lib.hid (HG.out.below HBw.out HG.out.lt)
        go_wp2_with fail
        refine (alive05 HGw.out).mono ?_
        rintro e w2 ⟨rfl, hb2⟩
        go_wp2_with fail
        go_ret
        exact ⟨rfl, Below.seq HBw.out (Nat.le_refl _) hb2⟩
end Go.Proofs.YtknoigebkpapoaaDoor
