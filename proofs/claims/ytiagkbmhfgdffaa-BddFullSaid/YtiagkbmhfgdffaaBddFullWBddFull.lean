/- Walk of the law BddFull: it answers true. -/
import Derived.Test.YtiagkbmhfgdffaaBddFullRun
import Derived.Test.YtiagkbmhfgdffaaGf
import Derived.Test.YtiagkbmhfgdffaaGe
import Derived.Deep.RegionHeld3
set_option linter.unusedVariables false
set_option linter.unusedSimpArgs false
namespace Go.Proofs.Ytiagkbmhfgdffaa.PBddFull
open Go Go.RowKit Go.Deep Go.Maps Go.Proofs.YtiagkbmhfgdffaaW.PrintWords Go.Proofs.YtiagkbmhfgdffaaW.PrintLast Go.Proofs.YtiagkbmhfgdffaaW.PrintMore
variable {w : World}
set_option maxRecDepth 100000 in
set_option maxHeartbeats 16000000 in
theorem BddFull_walk (limit cache : Int) (v : Value) (xs : List Op7) (h : Ops7 w v xs) :
    Calls Try.prog 9 #[.int .i64 limit, .int .i64 cache, v] w fun e w' => e = .returned (.bool true) ∧ Below w.heap.size w w' := by
  have HO := Lib.hid h
  obtain ⟨ao, c, rfl, hc, hc2, -⟩ := h
  unfold maxLen at hc2
  go_enter Try.func9, Try.ntmps9
  go_wp2_with fail
  refine (bdd_new limit cache).mono ?_
  rintro e w1 ⟨mg, rfl, M1, hb1⟩
  have HM1 := Lib.hid M1
  have HB1 := Lib.hid hb1
  clear M1 hb1
  by_cases hx : 20 < xs.length
  · have hx' : (20 : Int) < xs.length := by omega
    go_wp2_with fail
    refine (alive_any w1).mono ?_
    rintro e w2 ⟨rfl, hb2⟩
    have HB2 := Lib.hid (HB1.out.trans (hb2.mono HB1.out.size))
    clear hb2
    go_wp2_with fail
    go_ret
    exact ⟨rfl, HB2.out⟩
  by_cases hli : 65536 < limit
  · have hx' : (xs.length : Int) ≤ 20 := by omega
    go_wp2_with fail
    refine (alive_any w1).mono ?_
    rintro e w2 ⟨rfl, hb2⟩
    have HB2 := Lib.hid (HB1.out.trans (hb2.mono HB1.out.size))
    clear hb2
    go_wp2_with fail
    go_ret
    exact ⟨rfl, HB2.out⟩
  · have hx' : (xs.length : Int) ≤ 20 := by omega
    have hli' : limit ≤ 65536 := by omega
    go_wp2_with fail
    refine (run_any (lim := max limit 0) (by omega) HM1.out HO.out HB1.out (fun k hk => hk.1) (by omega)).mono ?_
    rintro e w2 ⟨vl, vt, S', rfl, hI⟩
    have HG := Lib.hid (Good.run (lim := max limit 0) (by omega) xs)
    have hlen := runR7_len (lim := max limit 0) xs
    generalize runR7 (max limit 0) xs = s at *
    have HB2 := Lib.hid (HB1.out.trans (hI.tch.below HB1.out.size (fun k hk c => by have := c.1; omega)))
    have hli := hI.l.ints
    have hti := Tbs.of_N hI.t
    have HM2 := Lib.hid hI.m
    obtain ⟨al, cl, rfl, hlc, hlm, hlcell⟩ := hli
    obtain ⟨at', ct, rfl, htc, htm, htcell⟩ := hti
    unfold maxLen at hlm htm
    have HL := Lib.hid hlcell
    have HT := Lib.hid htcell
    have HRm : Hid (s.L.length < 100000000000) := Lib.hid (by have := HG.out.room; omega)
    have hgl := HG.out.len
    clear hI hlcell htcell HM1
    have hroom := HG.out.room
    have hmm : max (max limit 0) 0 = max limit 0 := by omega
    rw [hmm] at hroom
    clear hmm
    go_upto_region 5 with fail
    go_cut [49] (fun v49 wx => v49 = .bool false ∧ w2 = wx)
    case first =>
      by_cases hlz : limit < 0
      · have hl0 : (s.L.length : Int) ≤ 0 := by omega
        clear hroom
        go_wp2_with fail
        refine (arena_any HM2.out).mono ?_
        rintro e w' ⟨⟨b, rfl, hA⟩, rfl⟩
        have HA := Lib.hid hA
        clear hA
        go_wp2_with fail
        refine (len_any HA.out).mono ?_
        rintro e w' ⟨rfl, rfl⟩
        go_wp2_with fail
        go_meet
        first | exact ⟨rfl, rfl⟩ | exact ⟨congrArg Value.bool (decide_eq_false (by omega)), rfl⟩
      · have hl0 : 0 ≤ limit := by omega
        have hl1 : (s.L.length : Int) ≤ limit := by omega
        clear hroom hlz
        go_wp2_with fail
        refine (arena_any HM2.out).mono ?_
        rintro e w' ⟨⟨b, rfl, hA⟩, rfl⟩
        have HA := Lib.hid hA
        clear hA
        go_wp2_with fail
        refine (len_any HA.out).mono ?_
        rintro e w' ⟨rfl, rfl⟩
        go_wp2_with fail
        go_meet
        first | exact ⟨rfl, rfl⟩ | exact ⟨congrArg Value.bool (decide_eq_false (by omega)), rfl⟩
    obtain ⟨rfl, rfl⟩ := hcut
    clear hroom
    have HW0 : Hid (Below w2.heap.size w2 w2) := Lib.hid (Below.refl _ _)
    go_wp2_with fail
    go_loopg [52] s.l.length (fun gk vi wr => ∃ i : Nat, vi = .int .i64 i ∧ i + gk = s.l.length ∧ Hid (Below w2.heap.size w2 wr))
    case atStart => exact ⟨0, rfl, by omega, HW0⟩
    case round =>
      clear HW0
      obtain ⟨i, rfl, hi, HW⟩ := hrel
      by_cases hlt : i < s.l.length
      · obtain ⟨b, o, rfl, e1⟩ := HL.out i hlt
        obtain ⟨g, q, u, rfl, f1, hu⟩ := HT.out i (by omega)
        have si := HG.out.sem i hlt
        have ei : s.T.getD i [] = s.T[i] := by simp [List.getD, show i < s.T.length by omega]
        rw [ei] at si
        have HSm := Lib.hid si
        have HU := Lib.hid (hu.below HW.out)
        have hgb := World.block_lt_of_cell? w2 _ e1
        have hgg := World.block_lt_of_cell? w2 _ f1
        obtain ⟨Au, cu, rfl, -, -⟩ := hu
        have q1 := (HW.out.cell (p := ⟨b, o + i, none⟩) hgb).trans e1
        have q2 := (HW.out.cell (p := ⟨g, q + i, none⟩) hgg).trans f1
        have hbw : b < wr.heap.size := Nat.lt_of_lt_of_le hgb HW.out.size
        have hgw : g < wr.heap.size := Nat.lt_of_lt_of_le hgg HW.out.size
        generalize s.l[i] = x at *
        generalize s.T[i] = X at *
        have HMw := Lib.hid (HM2.out.below HW.out)
        have HUw := HU
        clear HU
        clear e1 f1 si ei hgb hgg
        go_wp2_with fail
        refine wp_region_held_drew (S := fun w' => w'.cell? ⟨b, o + i, none⟩ = some (.int .i64 x) ∧ w'.cell? ⟨g, q + i, none⟩ = some (.slice Au X.length cu)) (by kernel_rfl) ?_ (fun hHeld => ?_)
        focus ((try dsimp only); (first | done | (exact ⟨cell_below ((Below.refl wr.heap.size wr).drew) q1, cell_below ((Below.refl wr.heap.size wr).drew) q2⟩)); done)
        (refine wpAnyH_take (i := 0) (oi := ⟨some 55, _, _, _, _, _⟩) (v := ?_) rfl (by kernel_rfl) (by kernel_rfl) (by kernel_rfl) (fun _ _ _ h => h) (Or.inl ⟨by kernel_rfl, ?_⟩) hHeld ?_; rotate_left; focus (intro w hSw; (try dsimp only at hSw); go_simp; (try with_reducible rfl); done))
        (first | (simp only [Act.put, List.setIfInBounds_toArray, List.set_cons_zero, List.set_cons_succ]) | (simp only [Act.put, List.setIfInBounds_toArray, List.set]) | (simp only [Act.put]) | skip)
        (refine wpAnyH_take (i := 1) (oi := ⟨some 56, _, _, _, _, _⟩) (v := ?_) rfl (by kernel_rfl) (by kernel_rfl) (by kernel_rfl) (fun _ _ _ h => h) (Or.inl ⟨by kernel_rfl, ?_⟩) hHeld ?_; rotate_left; focus (intro w hSw; (try dsimp only at hSw); go_simp; (try with_reducible rfl); done))
        (first | (simp only [Act.put, List.setIfInBounds_toArray, List.set_cons_zero, List.set_cons_succ]) | (simp only [Act.put, List.setIfInBounds_toArray, List.set]) | (simp only [Act.put]) | skip)
        (refine wpAnyH_take (i := 2) (oi := ⟨some 57, _, _, _, _, _⟩) (v := ?_) rfl (by kernel_rfl) (by kernel_rfl) (by kernel_rfl) (fun _ _ _ h => h) (Or.inl ⟨by kernel_rfl, ?_⟩) hHeld ?_; rotate_left; focus (intro w hSw; (try dsimp only at hSw); go_simp; (try with_reducible rfl); done))
        (first | (simp only [Act.put, List.setIfInBounds_toArray, List.set_cons_zero, List.set_cons_succ]) | (simp only [Act.put, List.setIfInBounds_toArray, List.set]) | (simp only [Act.put]) | skip)
        (refine wpAnyH_take (i := 3) (oi := ⟨some 58, _, _, _, _, _⟩) (v := ?_) rfl (by kernel_rfl) (by kernel_rfl) (by kernel_rfl) (fun _ _ _ h => h) (Or.inl ⟨by kernel_rfl, ?_⟩) hHeld ?_; rotate_left; focus (intro w hSw; (try dsimp only at hSw); go_simp; (try with_reducible rfl); done))
        (first | (simp only [Act.put, List.setIfInBounds_toArray, List.set_cons_zero, List.set_cons_succ]) | (simp only [Act.put, List.setIfInBounds_toArray, List.set]) | (simp only [Act.put]) | skip)
        (refine wpAnyH_take (i := 4) (oi := ⟨some 59, _, _, _, _, _⟩) (v := ?_) rfl (by kernel_rfl) (by kernel_rfl) (by kernel_rfl) (fun _ _ _ h => h) (Or.inl ⟨by kernel_rfl, ?_⟩) hHeld ?_; rotate_left; focus (intro w hSw; (try dsimp only at hSw); go_simp; (try with_reducible rfl); done))
        (first | (simp only [Act.put, List.setIfInBounds_toArray, List.set_cons_zero, List.set_cons_succ]) | (simp only [Act.put, List.setIfInBounds_toArray, List.set]) | (simp only [Act.put]) | skip)
        (refine wpAnyH_take (i := 5) (oi := ⟨some 60, _, _, _, _, _⟩) (v := ?_) rfl (by kernel_rfl) (by kernel_rfl) (by kernel_rfl) (fun _ _ _ h => h) (Or.inl ⟨by kernel_rfl, ?_⟩) hHeld ?_; rotate_left; focus (intro w hSw; (try dsimp only at hSw); go_simp; (try with_reducible rfl); done))
        (first | (simp only [Act.put, List.setIfInBounds_toArray, List.set_cons_zero, List.set_cons_succ]) | (simp only [Act.put, List.setIfInBounds_toArray, List.set]) | (simp only [Act.put]) | skip)
        (refine wpAnyH_take (i := 6) (oi := ⟨some 61, _, _, _, _, _⟩) (v := ?_) rfl (by kernel_rfl) (by kernel_rfl) (by kernel_rfl) (fun _ _ _ h => h) (Or.inl ⟨by kernel_rfl, ?_⟩) hHeld ?_; rotate_left; focus (intro w hSw; (try dsimp only at hSw); go_simp; (try with_reducible rfl); done))
        (first | (simp only [Act.put, List.setIfInBounds_toArray, List.set_cons_zero, List.set_cons_succ]) | (simp only [Act.put, List.setIfInBounds_toArray, List.set]) | (simp only [Act.put]) | skip)
        (refine wpAnyH_take (i := 7) (oi := ⟨some 62, _, _, _, _, _⟩) (v := ?_) rfl (by kernel_rfl) (by kernel_rfl) (by kernel_rfl) (fun _ _ _ h => h) (Or.inl ⟨by kernel_rfl, ?_⟩) hHeld ?_; rotate_left; focus (intro w hSw; (try dsimp only at hSw); go_simp; (try with_reducible rfl); done))
        (first | (simp only [Act.put, List.setIfInBounds_toArray, List.set_cons_zero, List.set_cons_succ]) | (simp only [Act.put, List.setIfInBounds_toArray, List.set]) | (simp only [Act.put]) | skip)
        (refine wpAnyH_take (i := 8) (oi := ⟨some 63, _, _, _, _, _⟩) (v := ?_) rfl (by kernel_rfl) (by kernel_rfl) (by kernel_rfl) (fun _ _ _ h => h) (Or.inl ⟨by kernel_rfl, ?_⟩) hHeld ?_; rotate_left; focus (intro w hSw; (try dsimp only at hSw); go_simp; (try with_reducible rfl); done))
        (first | (simp only [Act.put, List.setIfInBounds_toArray, List.set_cons_zero, List.set_cons_succ]) | (simp only [Act.put, List.setIfInBounds_toArray, List.set]) | (simp only [Act.put]) | skip)
        refine wpAnyH_ready (rs := [9]) (by kernel_rfl) (by simp) (AllReadyH.cons (o := ⟨some 64, _, _, _, _, _⟩) rfl (fun K hK => ?_) AllReadyH.nil)
        go_simp
        refine (says_any (HMw.out.below (Below.refl wr.heap.size wr).drew) HRm.out (HUw.out.below (Below.refl wr.heap.size wr).drew) HSm.out).mono ?_
        rintro e w3 ⟨rfl, hb⟩
        have cur := seq ((Below.refl wr.heap.size wr).drew) hb
        clear hb
        (try dsimp only)
        refine Shut.out hK _ _ (by (try dsimp only); (first | done | (exact ⟨cell_below (cur) q1, cell_below (cur) q2⟩))) (fun hHeld => ?_)
        clear hK K
        (first | (simp only [Act.put, List.setIfInBounds_toArray, List.set_cons_zero, List.set_cons_succ]) | (simp only [Act.put, List.setIfInBounds_toArray, List.set]) | (simp only [Act.put]) | skip)
        (refine wpAnyH_take (i := 10) (oi := ⟨some 65, _, _, _, _, _⟩) (v := ?_) rfl (by kernel_rfl) (by kernel_rfl) (by kernel_rfl) (fun _ _ _ h => h) (Or.inl ⟨by kernel_rfl, ?_⟩) hHeld ?_; rotate_left; focus (intro w hSw; (try dsimp only at hSw); go_simp; (try with_reducible rfl); done))
        (first | (simp only [Act.put, List.setIfInBounds_toArray, List.set_cons_zero, List.set_cons_succ]) | (simp only [Act.put, List.setIfInBounds_toArray, List.set]) | (simp only [Act.put]) | skip)
        refine wpAnyH_done (by kernel_rfl) ?_ _
        have HX := Lib.hid (seq HW.out cur)
        clear q1 q2 cur hHeld
        go_wp2_with fail
        go_roundg (gk - 1)
        case measure => omega
        case rel => exact ⟨i + 1, by go_num, by omega, HX⟩
      · go_wp2_with fail
        refine (alive_any wr).mono ?_
        rintro e w3 ⟨rfl, hb3⟩
        have HB3 := Lib.hid (HB2.out.trans ((HW.out.trans (hb3.mono HW.out.size)).mono HB2.out.size))
        clear hb3
        go_wp2_with fail
        go_ret
        exact ⟨rfl, HB3.out⟩
end Go.Proofs.Ytiagkbmhfgdffaa.PBddFull
