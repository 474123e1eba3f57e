/- Walk of the law BddAll: it answers true. -/
import Derived.Test.YtiagkbmhfgdffaaBddAllRun
import Derived.Test.YtiagkbmhfgdffaaGf
import Derived.Test.YtiagkbmhfgdffaaGe
import Derived.Deep.RegionHeld3
set_option linter.unusedVariables false
set_option linter.unusedSimpArgs false
namespace Go.Proofs.Ytiagkbmhfgdffaa.PBddAll
open Go Go.RowKit Go.Deep Go.Maps Go.Proofs.YtiagkbmhfgdffaaW.PrintWords Go.Proofs.YtiagkbmhfgdffaaW.PrintLast Go.Proofs.YtiagkbmhfgdffaaW.PrintMore
variable {w : World}
def nar (xs : List Op7) (k : Nat) : Bool := (xs.take k).all fun o => decide (o.v < 6)
theorem nar_succ {xs : List Op7} {k : Nat} (h : k < xs.length) : nar xs (k + 1) = (nar xs k && decide (xs[k].v < 6)) := by
  unfold nar
  rw [List.take_succ_eq_append_getElem h, List.all_append]
  simp
set_option maxRecDepth 100000 in
set_option maxHeartbeats 16000000 in
theorem BddAll_walk (cache : Int) (v : Value) (xs : List Op7) (h : Ops7 w v xs) :
    Calls Try.prog 3 #[.int .i64 cache, v] w fun e w' => e = .returned (.bool true) ∧ Below w.heap.size w w' := by
  have HO := Lib.hid h
  obtain ⟨ao, c, rfl, hc, hc2, hcell⟩ := h
  have HC := Lib.hid hcell
  clear hcell
  unfold maxLen at hc2
  go_enter Try.func3, Try.ntmps3
  go_wp2_with fail
  refine (bdd_new 65536 cache).mono ?_
  rintro e w1 ⟨mg, rfl, M1, hb1⟩
  rw [show max (65536 : Int) 0 = 65536 from rfl] at M1
  have HM1 := Lib.hid M1
  have HB1 := Lib.hid hb1
  clear M1 hb1
  by_cases hx : 20 < xs.length
  · have hx' : (20 : Int) < xs.length := by omega
    go_wp2_with fail
    refine (alive_any w1).mono ?_
    rintro e w2 ⟨rfl, hb2⟩
    have HB2 := Lib.hid (HB1.out.trans (hb2.mono HB1.out.size))
    clear hb2
    go_wp2_with fail
    go_ret
    exact ⟨rfl, HB2.out⟩
  · have hx' : (xs.length : Int) ≤ 20 := by omega
    go_wp2_with fail
    refine (run_any (lim := 65536) (by decide) HM1.out HO.out HB1.out (fun k hk => hk.1) (by omega)).mono ?_
    rintro e w2 ⟨vl, vt, S', rfl, hI⟩
    have HG := Lib.hid (Good.run (lim := 65536) (by omega) xs)
    have hlen := runR7_len (lim := 65536) xs
    have HNar : Hid (nar xs xs.length = true → (runR7 65536 xs).full = 0) := Lib.hid (fun hn => narrow_full (fun o ho => by
      unfold nar at hn
      rw [List.take_length, List.all_eq_true] at hn
      simpa using hn o ho) (by omega))
    generalize runR7 (65536) xs = s at *
    have HB2 := Lib.hid (HB1.out.trans (hI.tch.below HB1.out.size (fun k hk c => by have := c.1; omega)))
    have hli := hI.l.ints
    have hti := Tbs.of_N hI.t
    have HM2 := Lib.hid hI.m
    obtain ⟨al, cl, rfl, hlc, hlm, hlcell⟩ := hli
    obtain ⟨at', ct, rfl, htc, htm, htcell⟩ := hti
    unfold maxLen at hlm htm
    have HL := Lib.hid hlcell
    have HT := Lib.hid htcell
    have HRm : Hid (s.L.length < 100000000000) := Lib.hid (by have := HG.out.room; omega)
    have hgl := HG.out.len
    clear hI hlcell htcell HM1
    have HW00 : Hid (Below w2.heap.size w2 w2) := Lib.hid (Below.refl _ _)
    go_wp2_with fail
    go_loopg [10, 40] xs.length (fun gk v10 vk wr => ∃ k : Nat, vk = .int .i64 k ∧ k + gk = xs.length ∧ v10 = .bool (nar xs k) ∧ Hid (Below w2.heap.size w2 wr))
    case atStart => exact ⟨0, rfl, by omega, rfl, HW00⟩
    case round =>
      clear HW00
      obtain ⟨k, rfl, hk, rfl, HW⟩ := hrel
      by_cases hlt : k < xs.length
      · obtain ⟨b, o, rfl, hb, c0, c1, c2, c3, c4, c5⟩ := HC.out k hlt
        have HSucc := Lib.hid (nar_succ hlt)
        have hbw := HB2.out.trans (HW.out.mono HB2.out.size)
        generalize xs[k] = op at *
        obtain ⟨kd, ov, oa, ob, oc, oy⟩ := op
        dsimp only at c0 c1 c2 c3 c4 c5
        replace c0 := (hbw.cell (p := ⟨b, o + k * 6, none⟩) hb).trans c0
        replace c1 := (hbw.cell (p := ⟨b, o + k * 6 + 1, none⟩) hb).trans c1
        replace c2 := (hbw.cell (p := ⟨b, o + k * 6 + 2, none⟩) hb).trans c2
        replace c3 := (hbw.cell (p := ⟨b, o + k * 6 + 3, none⟩) hb).trans c3
        replace c4 := (hbw.cell (p := ⟨b, o + k * 6 + 4, none⟩) hb).trans c4
        replace c5 := (hbw.cell (p := ⟨b, o + k * 6 + 5, none⟩) hb).trans c5
        have hk1 := heap_alloc_new wr (.cells #[.int .i64 kd, .int .i64 ov, .int .i64 oa, .int .i64 ob, .int .i64 oc, .bool oy] 31)
        have HWa := Lib.hid (HW.out.alloc HW.out.size (.cells #[.int .i64 kd, .int .i64 ov, .int .i64 oa, .int .i64 ob, .int .i64 oc, .bool oy] 31))
        have x1 := cell_at hk1 1 (v := .int .i64 ov) rfl
        clear hbw hk1
        cases hnr : nar xs k
        · have HE : Hid (nar xs (k + 1) = false) := Lib.hid (by rw [HSucc.out, hnr]; rfl)
          clear hnr
          go_wp2_with fail
          go_roundg (gk - 1)
          case measure => omega
          case rel => exact ⟨k + 1, by go_num, by omega, by rw [HE.out], HWa⟩
        · have HE : Hid (nar xs (k + 1) = decide (ov < 6)) := Lib.hid (by rw [HSucc.out, hnr]; rfl)
          clear hnr
          go_wp2_with fail
          go_roundg (gk - 1)
          case measure => omega
          case rel => exact ⟨k + 1, by go_num, by omega, by rw [HE.out], HWa⟩
      · have hke : k = xs.length := by omega
        subst hke
        have HW0 := Lib.hid HW.out
        go_wp2_with fail
        go_loopg [53] s.l.length (fun gk vi wr => ∃ i : Nat, vi = .int .i64 i ∧ i + gk = s.l.length ∧ Hid (Below w2.heap.size w2 wr))
        case atStart => exact ⟨0, rfl, by omega, HW0⟩
        case round =>
          clear HW0
          obtain ⟨i, rfl, hi, HW⟩ := hrel
          by_cases hlt : i < s.l.length
          · obtain ⟨b, o, rfl, e1⟩ := HL.out i hlt
            obtain ⟨g, q, u, rfl, f1, hu⟩ := HT.out i (by omega)
            have si := HG.out.sem i hlt
            have ei : s.T.getD i [] = s.T[i] := by simp [List.getD, show i < s.T.length by omega]
            rw [ei] at si
            have HSm := Lib.hid si
            have HU := Lib.hid (hu.below HW.out)
            have hgb := World.block_lt_of_cell? w2 _ e1
            have hgg := World.block_lt_of_cell? w2 _ f1
            obtain ⟨Au, cu, rfl, -, -⟩ := hu
            have q1 := (HW.out.cell (p := ⟨b, o + i, none⟩) hgb).trans e1
            have q2 := (HW.out.cell (p := ⟨g, q + i, none⟩) hgg).trans f1
            have hbw : b < wr.heap.size := Nat.lt_of_lt_of_le hgb HW.out.size
            have hgw : g < wr.heap.size := Nat.lt_of_lt_of_le hgg HW.out.size
            generalize s.l[i] = x at *
            generalize s.T[i] = X at *
            have HMw := Lib.hid (HM2.out.below HW.out)
            have HUw := HU
            clear HU
            clear e1 f1 si ei hgb hgg
            go_wp2_with fail
            refine wp_region_held_drew (S := fun w' => w'.cell? ⟨b, o + i, none⟩ = some (.int .i64 x) ∧ w'.cell? ⟨g, q + i, none⟩ = some (.slice Au X.length cu)) (by kernel_rfl) ?_ (fun hHeld => ?_)
            focus ((try dsimp only); (first | done | (exact ⟨cell_below ((Below.refl wr.heap.size wr).drew) q1, cell_below ((Below.refl wr.heap.size wr).drew) q2⟩)); done)
            (refine wpAnyH_take (i := 0) (oi := ⟨some 56, _, _, _, _, _⟩) (v := ?_) rfl (by kernel_rfl) (by kernel_rfl) (by kernel_rfl) (fun _ _ _ h => h) (Or.inl ⟨by kernel_rfl, ?_⟩) hHeld ?_; rotate_left; focus (intro w hSw; (try dsimp only at hSw); go_simp; (try with_reducible rfl); done))
            (first | (simp only [Act.put, List.setIfInBounds_toArray, List.set_cons_zero, List.set_cons_succ]) | (simp only [Act.put, List.setIfInBounds_toArray, List.set]) | (simp only [Act.put]) | skip)
            (refine wpAnyH_take (i := 1) (oi := ⟨some 57, _, _, _, _, _⟩) (v := ?_) rfl (by kernel_rfl) (by kernel_rfl) (by kernel_rfl) (fun _ _ _ h => h) (Or.inl ⟨by kernel_rfl, ?_⟩) hHeld ?_; rotate_left; focus (intro w hSw; (try dsimp only at hSw); go_simp; (try with_reducible rfl); done))
            (first | (simp only [Act.put, List.setIfInBounds_toArray, List.set_cons_zero, List.set_cons_succ]) | (simp only [Act.put, List.setIfInBounds_toArray, List.set]) | (simp only [Act.put]) | skip)
            (refine wpAnyH_take (i := 2) (oi := ⟨some 58, _, _, _, _, _⟩) (v := ?_) rfl (by kernel_rfl) (by kernel_rfl) (by kernel_rfl) (fun _ _ _ h => h) (Or.inl ⟨by kernel_rfl, ?_⟩) hHeld ?_; rotate_left; focus (intro w hSw; (try dsimp only at hSw); go_simp; (try with_reducible rfl); done))
            (first | (simp only [Act.put, List.setIfInBounds_toArray, List.set_cons_zero, List.set_cons_succ]) | (simp only [Act.put, List.setIfInBounds_toArray, List.set]) | (simp only [Act.put]) | skip)
            (refine wpAnyH_take (i := 3) (oi := ⟨some 59, _, _, _, _, _⟩) (v := ?_) rfl (by kernel_rfl) (by kernel_rfl) (by kernel_rfl) (fun _ _ _ h => h) (Or.inl ⟨by kernel_rfl, ?_⟩) hHeld ?_; rotate_left; focus (intro w hSw; (try dsimp only at hSw); go_simp; (try with_reducible rfl); done))
            (first | (simp only [Act.put, List.setIfInBounds_toArray, List.set_cons_zero, List.set_cons_succ]) | (simp only [Act.put, List.setIfInBounds_toArray, List.set]) | (simp only [Act.put]) | skip)
            (refine wpAnyH_take (i := 4) (oi := ⟨some 60, _, _, _, _, _⟩) (v := ?_) rfl (by kernel_rfl) (by kernel_rfl) (by kernel_rfl) (fun _ _ _ h => h) (Or.inl ⟨by kernel_rfl, ?_⟩) hHeld ?_; rotate_left; focus (intro w hSw; (try dsimp only at hSw); go_simp; (try with_reducible rfl); done))
            (first | (simp only [Act.put, List.setIfInBounds_toArray, List.set_cons_zero, List.set_cons_succ]) | (simp only [Act.put, List.setIfInBounds_toArray, List.set]) | (simp only [Act.put]) | skip)
            (refine wpAnyH_take (i := 5) (oi := ⟨some 61, _, _, _, _, _⟩) (v := ?_) rfl (by kernel_rfl) (by kernel_rfl) (by kernel_rfl) (fun _ _ _ h => h) (Or.inl ⟨by kernel_rfl, ?_⟩) hHeld ?_; rotate_left; focus (intro w hSw; (try dsimp only at hSw); go_simp; (try with_reducible rfl); done))
            (first | (simp only [Act.put, List.setIfInBounds_toArray, List.set_cons_zero, List.set_cons_succ]) | (simp only [Act.put, List.setIfInBounds_toArray, List.set]) | (simp only [Act.put]) | skip)
            (refine wpAnyH_take (i := 6) (oi := ⟨some 62, _, _, _, _, _⟩) (v := ?_) rfl (by kernel_rfl) (by kernel_rfl) (by kernel_rfl) (fun _ _ _ h => h) (Or.inl ⟨by kernel_rfl, ?_⟩) hHeld ?_; rotate_left; focus (intro w hSw; (try dsimp only at hSw); go_simp; (try with_reducible rfl); done))
            (first | (simp only [Act.put, List.setIfInBounds_toArray, List.set_cons_zero, List.set_cons_succ]) | (simp only [Act.put, List.setIfInBounds_toArray, List.set]) | (simp only [Act.put]) | skip)
            (refine wpAnyH_take (i := 7) (oi := ⟨some 63, _, _, _, _, _⟩) (v := ?_) rfl (by kernel_rfl) (by kernel_rfl) (by kernel_rfl) (fun _ _ _ h => h) (Or.inl ⟨by kernel_rfl, ?_⟩) hHeld ?_; rotate_left; focus (intro w hSw; (try dsimp only at hSw); go_simp; (try with_reducible rfl); done))
            (first | (simp only [Act.put, List.setIfInBounds_toArray, List.set_cons_zero, List.set_cons_succ]) | (simp only [Act.put, List.setIfInBounds_toArray, List.set]) | (simp only [Act.put]) | skip)
            (refine wpAnyH_take (i := 8) (oi := ⟨some 64, _, _, _, _, _⟩) (v := ?_) rfl (by kernel_rfl) (by kernel_rfl) (by kernel_rfl) (fun _ _ _ h => h) (Or.inl ⟨by kernel_rfl, ?_⟩) hHeld ?_; rotate_left; focus (intro w hSw; (try dsimp only at hSw); go_simp; (try with_reducible rfl); done))
            (first | (simp only [Act.put, List.setIfInBounds_toArray, List.set_cons_zero, List.set_cons_succ]) | (simp only [Act.put, List.setIfInBounds_toArray, List.set]) | (simp only [Act.put]) | skip)
            refine wpAnyH_ready (rs := [9]) (by kernel_rfl) (by simp) (AllReadyH.cons (o := ⟨some 65, _, _, _, _, _⟩) rfl (fun K hK => ?_) AllReadyH.nil)
            go_simp
            refine (says_any (HMw.out.below (Below.refl wr.heap.size wr).drew) HRm.out (HUw.out.below (Below.refl wr.heap.size wr).drew) HSm.out).mono ?_
            rintro e w3 ⟨rfl, hb⟩
            have cur := seq ((Below.refl wr.heap.size wr).drew) hb
            clear hb
            (try dsimp only)
            refine Shut.out hK _ _ (by (try dsimp only); (first | done | (exact ⟨cell_below (cur) q1, cell_below (cur) q2⟩))) (fun hHeld => ?_)
            clear hK K
            (first | (simp only [Act.put, List.setIfInBounds_toArray, List.set_cons_zero, List.set_cons_succ]) | (simp only [Act.put, List.setIfInBounds_toArray, List.set]) | (simp only [Act.put]) | skip)
            (refine wpAnyH_take (i := 10) (oi := ⟨some 66, _, _, _, _, _⟩) (v := ?_) rfl (by kernel_rfl) (by kernel_rfl) (by kernel_rfl) (fun _ _ _ h => h) (Or.inl ⟨by kernel_rfl, ?_⟩) hHeld ?_; rotate_left; focus (intro w hSw; (try dsimp only at hSw); go_simp; (try with_reducible rfl); done))
            (first | (simp only [Act.put, List.setIfInBounds_toArray, List.set_cons_zero, List.set_cons_succ]) | (simp only [Act.put, List.setIfInBounds_toArray, List.set]) | (simp only [Act.put]) | skip)
            refine wpAnyH_done (by kernel_rfl) ?_ _
            have HX := Lib.hid (seq HW.out cur)
            clear q1 q2 cur hHeld
            go_wp2_with fail
            go_roundg (gk - 1)
            case measure => omega
            case rel => exact ⟨i + 1, by go_num, by omega, HX⟩
          · go_wp2_with fail
            refine (alive_any wr).mono ?_
            rintro e w3 ⟨rfl, hb3⟩
            have HB3 := Lib.hid (HB2.out.trans ((HW.out.trans (hb3.mono HW.out.size)).mono HB2.out.size))
            clear hb3
            cases hnr : nar xs xs.length
            · go_wp2_with fail
              go_ret
              exact ⟨rfl, HB3.out⟩
            · have hf0 : s.full = 0 := HNar.out hnr
              go_wp2_with fail
              go_ret
              exact ⟨rfl, HB3.out⟩
end Go.Proofs.Ytiagkbmhfgdffaa.PBddAll
