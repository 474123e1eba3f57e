/- Walk of the law BddCache: it answers true. -/
import Derived.Test.YtiagkbmhfgdffaaBddCacheRun
import Derived.Test.YtiagkbmhfgdffaaGf
set_option linter.unusedVariables false
set_option linter.unusedSimpArgs false
namespace Go.Proofs.Ytiagkbmhfgdffaa.PBddCache
open Go Go.RowKit Go.Deep Go.Maps Go.Proofs.YtiagkbmhfgdffaaW.PrintWords Go.Proofs.YtiagkbmhfgdffaaW.PrintLast Go.Proofs.YtiagkbmhfgdffaaW.PrintMore
variable {w : World}
set_option maxRecDepth 100000 in
set_option maxHeartbeats 16000000 in
theorem BddCache_walk (one two : Int) (v : Value) (xs : List Op7) (h : Ops7 w v xs) :
    Calls Try.prog 5 #[.int .i64 one, .int .i64 two, v] w fun e w' => e = .returned (.bool true) ∧ Below w.heap.size w w' := by
  have HO := Lib.hid h
  obtain ⟨ao, c, rfl, hc, hc2, -⟩ := h
  unfold maxLen at hc2
  go_enter Try.func5, Try.ntmps5
  go_wp2_with fail
  refine (bdd_new 65536 one).mono ?_
  rintro e w1 ⟨ma, rfl, M1, hb1⟩
  rw [show max (65536 : Int) 0 = 65536 from rfl] at M1
  have HM1 := Lib.hid M1
  have HB1 := Lib.hid hb1
  clear M1 hb1
  go_wp2_with fail
  refine (bdd_new 65536 two).mono ?_
  rintro e w2 ⟨mb, rfl, M2, hb2⟩
  rw [show max (65536 : Int) 0 = 65536 from rfl] at M2
  have HA2 := Lib.hid (HM1.out.below hb2)
  have HM2 := Lib.hid M2
  have HB2 := Lib.hid (HB1.out.trans (hb2.mono HB1.out.size))
  have HZ := Lib.hid hb2.size
  clear M2 hb2 HM1
  by_cases hx : 16 < xs.length
  · have hx' : (16 : Int) < xs.length := by omega
    go_wp2_with fail
    refine (alive_any w2).mono ?_
    rintro e w3 ⟨rfl, hb3⟩
    have HB3 := Lib.hid (HB2.out.trans (hb3.mono HB2.out.size))
    clear hb3
    go_wp2_with fail
    go_ret
    exact ⟨rfl, HB3.out⟩
  · have hx' : (xs.length : Int) ≤ 16 := by omega
    go_wp2_with fail
    refine (run_any (lim := 65536) (by decide) HA2.out HO.out HB2.out (fun k hk => hk.1) (by omega)).mono ?_
    rintro e w3 ⟨vl, vt, S', rfl, hI⟩
    have HG := Lib.hid (Good.run (lim := 65536) (by decide) xs)
    have hlen := runR7_len (lim := 65536) xs
    have HB3 := Lib.hid (HB2.out.trans (hI.tch.below HB2.out.size (fun k hk c => by have := c.1; omega)))
    have HM3 := Lib.hid (HM2.out.touch hI.tch (fun k hk c => by have := c.2; have := hk.1; omega))
    have HA3 := Lib.hid hI.m
    have HSub := Lib.hid hI.sub
    have HOw := Lib.hid hI.l
    clear hI HA2 HM2
    go_wp2_with fail
    refine (run_any (lim := 65536) (by decide) HM3.out HO.out HB3.out (fun k hk => by have := hk.1; have := HB1.out.size; omega) (by omega)).mono ?_
    rintro e w4 ⟨ul, ut, S2, rfl, hJ⟩
    have HB4 := Lib.hid (HB3.out.trans (hJ.tch.below HB3.out.size (fun k hk c => by have := c.1; have := HB1.out.size; omega)))
    have HA4 := Lib.hid (HA3.out.touch hJ.tch (fun k hk c => by
      have := HZ.out
      rcases HSub.out k hk with h | h
      · have := h.2; have := c.1; omega
      · have := c.2; omega))
    have hli := HOw.out.ints.touch hJ.tch (fun k hk he c => by have := (HOw.out.lt he).1; have := c.2; omega)
    have hui := hJ.l.ints
    have HM4 := Lib.hid hJ.m
    generalize runR7 65536 xs = s at *
    obtain ⟨al, cl, rfl, hlc, hlm, hlcell⟩ := hli
    obtain ⟨au, cu, rfl, huc, hum, hucell⟩ := hui
    unfold maxLen at hlm hum
    have HL := Lib.hid hlcell
    have HU := Lib.hid hucell
    have HRm : Hid (s.L.length < 100000000000) := Lib.hid (by have := HG.out.room; omega)
    clear hJ hlcell hucell HM3 HA3 HSub HOw hx
    go_wp2_with fail
    go_loopg [89] s.l.length (fun gk vi wr => ∃ i : Nat, vi = .int .i64 i ∧ i + gk = s.l.length ∧ Hid (Below w4.heap.size w4 wr))
    case atStart => exact ⟨0, rfl, by omega, Lib.hid (Below.refl _ _)⟩
    case round =>
      obtain ⟨i, rfl, hi, HW⟩ := hrel
      obtain ⟨gk0, hgk0⟩ : ∃ g, g = gk := ⟨_, rfl⟩
      subst hgk0
      by_cases hlt : i < s.l.length
      · have hi9 : (i : Int) < s.l.length := by omega
        go_wp2_with fail
        go_loopg [93] i (fun gj vk wx => ∃ k : Nat, vk = .int .i64 k ∧ k + gj = i ∧ Hid (Below w4.heap.size w4 wx))
        case atStart => exact ⟨0, rfl, by omega, HW⟩
        case round =>
          clear HW
          obtain ⟨k, rfl, hk, HW⟩ := hrel
          by_cases hkl : k < i
          · obtain ⟨b, p, rfl, e1⟩ := HL.out i hlt
            obtain ⟨b', p', hbo, e2⟩ := HL.out k (by omega)
            simp only [Option.some.injEq, Addr.mk.injEq, and_true] at hbo
            obtain ⟨rfl, rfl⟩ := hbo
            obtain ⟨g, q, rfl, f1⟩ := HU.out i hlt
            obtain ⟨g', q', hgq, f2⟩ := HU.out k (by omega)
            simp only [Option.some.injEq, Addr.mk.injEq, and_true] at hgq
            obtain ⟨rfl, rfl⟩ := hgq
            have hne : ((s.l[i] == s.l[k]) != (s.l[i] == s.l[k])) = false := by cases (s.l[i] == s.l[k]) <;> rfl
            generalize s.l[i] = x at *
            generalize s.l[k] = y at *
            replace e1 := cell_below HW.out e1
            replace e2 := cell_below HW.out e2
            replace f1 := cell_below HW.out f1
            replace f2 := cell_below HW.out f2
            have hk9 : (k : Int) < s.l.length := by omega
            go_wp2_with fail
            go_quiet (fail)
            have HW2 := Lib.hid (HW.out.trans ((drawn7 wr nq).mono HW.out.size))
            go_wp2_with fail
            go_roundg (gk - 1)
            case measure => omega
            case rel => exact ⟨k + 1, by go_num, by omega, HW2⟩
          · go_wp2_with fail
            go_loopg [116] 4096 (fun gj vk wx => ∃ n : Nat, vk = .int .i64 n ∧ n + gj = 4096 ∧ Hid (Below w4.heap.size w4 wx))
            case atStart => exact ⟨0, rfl, by omega, HW⟩
            case round =>
              clear HW
              obtain ⟨n, rfl, hn, HW⟩ := hrel
              by_cases hnl : n < 4096
              · obtain ⟨b, p, rfl, e1⟩ := HL.out i hlt
                obtain ⟨g, q, rfl, f1⟩ := HU.out i hlt
                have q1 := cell_below HW.out e1
                have q2 := cell_below HW.out f1
                generalize s.l[i] = x at *
                have HMa := Lib.hid (HA4.out.below HW.out)
                have HMb := Lib.hid (HM4.out.below HW.out)
                have hwr : IntKind.u64.wrap ((n : Nat) : Int) = ((n : Nat) : Int) := u64_nat n (by omega)
                have HC1 : Hid (∀ W, Below wr.heap.size wr W → Calls Try.prog 15 #[.pointer (some ⟨ma, 0, none⟩), .int .i64 x, .int .u64 (IntKind.u64.wrap ((n : Nat) : Int))] W (fun e w' => e = .returned (.bool (evB n x s.L)) ∧ Below W.heap.size W w')) := Lib.hid (fun W hW => by rw [hwr]; exact eval_any (HMa.out.below hW) x n)
                have HC2 : Hid (∀ W, Below wr.heap.size wr W → Calls Try.prog 15 #[.pointer (some ⟨mb, 0, none⟩), .int .i64 x, .int .u64 (IntKind.u64.wrap ((n : Nat) : Int))] W (fun e w' => e = .returned (.bool (evB n x s.L)) ∧ Below W.heap.size W w')) := Lib.hid (fun W hW => by rw [hwr]; exact eval_any (HMb.out.below hW) x n)
                generalize evB n x s.L = z at *
                have hzz : (z != z) = false := by cases z <;> rfl
                clear e1 f1 HMa HMb hwr
                go_wp2_with fail
                refine wp_region_held_drew (S := fun w' => w'.cell? ⟨b, p + i, none⟩ = some (.int .i64 x) ∧ w'.cell? ⟨g, q + i, none⟩ = some (.int .i64 x)) (by kernel_rfl) ?_ (fun hHeld => ?_)
                focus ((try dsimp only); (first | done | (exact ⟨cell_below ((Below.refl wr.heap.size wr).drew) q1, cell_below ((Below.refl wr.heap.size wr).drew) q2⟩)); done)
                (refine wpAnyH_take (i := 0) (oi := ⟨some 119, _, _, _, _, _⟩) (v := ?_) rfl (by kernel_rfl) (by kernel_rfl) (by kernel_rfl) (fun _ _ _ h => h) (Or.inl ⟨by kernel_rfl, ?_⟩) hHeld ?_; rotate_left; focus (intro w hSw; (try dsimp only at hSw); go_simp; (try with_reducible rfl); done))
                (first | (simp only [Act.put, List.setIfInBounds_toArray, List.set_cons_zero, List.set_cons_succ]) | (simp only [Act.put, List.setIfInBounds_toArray, List.set]) | (simp only [Act.put]) | skip)
                (refine wpAnyH_take (i := 1) (oi := ⟨some 120, _, _, _, _, _⟩) (v := ?_) rfl (by kernel_rfl) (by kernel_rfl) (by kernel_rfl) (fun _ _ _ h => h) (Or.inl ⟨by kernel_rfl, ?_⟩) hHeld ?_; rotate_left; focus (intro w hSw; (try dsimp only at hSw); go_simp; (try with_reducible rfl); done))
                (first | (simp only [Act.put, List.setIfInBounds_toArray, List.set_cons_zero, List.set_cons_succ]) | (simp only [Act.put, List.setIfInBounds_toArray, List.set]) | (simp only [Act.put]) | skip)
                (refine wpAnyH_take (i := 2) (oi := ⟨some 121, _, _, _, _, _⟩) (v := ?_) rfl (by kernel_rfl) (by kernel_rfl) (by kernel_rfl) (fun _ _ _ h => h) (Or.inl ⟨by kernel_rfl, ?_⟩) hHeld ?_; rotate_left; focus (intro w hSw; (try dsimp only at hSw); go_simp; (try with_reducible rfl); done))
                (first | (simp only [Act.put, List.setIfInBounds_toArray, List.set_cons_zero, List.set_cons_succ]) | (simp only [Act.put, List.setIfInBounds_toArray, List.set]) | (simp only [Act.put]) | skip)
                (refine wpAnyH_take (i := 3) (oi := ⟨some 122, _, _, _, _, _⟩) (v := ?_) rfl (by kernel_rfl) (by kernel_rfl) (by kernel_rfl) (fun _ _ _ h => h) (Or.inl ⟨by kernel_rfl, ?_⟩) hHeld ?_; rotate_left; focus (intro w hSw; (try dsimp only at hSw); go_simp; (try with_reducible rfl); done))
                (first | (simp only [Act.put, List.setIfInBounds_toArray, List.set_cons_zero, List.set_cons_succ]) | (simp only [Act.put, List.setIfInBounds_toArray, List.set]) | (simp only [Act.put]) | skip)
                (refine wpAnyH_take (i := 4) (oi := ⟨some 123, _, _, _, _, _⟩) (v := ?_) rfl (by kernel_rfl) (by kernel_rfl) (by kernel_rfl) (fun _ _ _ h => h) (Or.inl ⟨by kernel_rfl, ?_⟩) hHeld ?_; rotate_left; focus (intro w hSw; (try dsimp only at hSw); go_simp; (try with_reducible rfl); done))
                (first | (simp only [Act.put, List.setIfInBounds_toArray, List.set_cons_zero, List.set_cons_succ]) | (simp only [Act.put, List.setIfInBounds_toArray, List.set]) | (simp only [Act.put]) | skip)
                (refine wpAnyH_take (i := 5) (oi := ⟨some 124, _, _, _, _, _⟩) (v := ?_) rfl (by kernel_rfl) (by kernel_rfl) (by kernel_rfl) (fun _ _ _ h => h) (Or.inl ⟨by kernel_rfl, ?_⟩) hHeld ?_; rotate_left; focus (intro w hSw; (try dsimp only at hSw); go_simp; (try with_reducible rfl); done))
                (first | (simp only [Act.put, List.setIfInBounds_toArray, List.set_cons_zero, List.set_cons_succ]) | (simp only [Act.put, List.setIfInBounds_toArray, List.set]) | (simp only [Act.put]) | skip)
                (refine wpAnyH_take (i := 6) (oi := ⟨some 125, _, _, _, _, _⟩) (v := ?_) rfl (by kernel_rfl) (by kernel_rfl) (by kernel_rfl) (fun _ _ _ h => h) (Or.inl ⟨by kernel_rfl, ?_⟩) hHeld ?_; rotate_left; focus (intro w hSw; (try dsimp only at hSw); go_simp; (try with_reducible rfl); done))
                (first | (simp only [Act.put, List.setIfInBounds_toArray, List.set_cons_zero, List.set_cons_succ]) | (simp only [Act.put, List.setIfInBounds_toArray, List.set]) | (simp only [Act.put]) | skip)
                (refine wpAnyH_take (i := 8) (oi := ⟨some 127, _, _, _, _, _⟩) (v := ?_) rfl (by kernel_rfl) (by kernel_rfl) (by kernel_rfl) (fun _ _ _ h => h) (Or.inl ⟨by kernel_rfl, ?_⟩) hHeld ?_; rotate_left; focus (intro w hSw; (try dsimp only at hSw); go_simp; (try with_reducible rfl); done))
                (first | (simp only [Act.put, List.setIfInBounds_toArray, List.set_cons_zero, List.set_cons_succ]) | (simp only [Act.put, List.setIfInBounds_toArray, List.set]) | (simp only [Act.put]) | skip)
                (refine wpAnyH_take (i := 9) (oi := ⟨some 128, _, _, _, _, _⟩) (v := ?_) rfl (by kernel_rfl) (by kernel_rfl) (by kernel_rfl) (fun _ _ _ h => h) (Or.inl ⟨by kernel_rfl, ?_⟩) hHeld ?_; rotate_left; focus (intro w hSw; (try dsimp only at hSw); go_simp; (try with_reducible rfl); done))
                (first | (simp only [Act.put, List.setIfInBounds_toArray, List.set_cons_zero, List.set_cons_succ]) | (simp only [Act.put, List.setIfInBounds_toArray, List.set]) | (simp only [Act.put]) | skip)
                (refine wpAnyH_take (i := 10) (oi := ⟨some 129, _, _, _, _, _⟩) (v := ?_) rfl (by kernel_rfl) (by kernel_rfl) (by kernel_rfl) (fun _ _ _ h => h) (Or.inl ⟨by kernel_rfl, ?_⟩) hHeld ?_; rotate_left; focus (intro w hSw; (try dsimp only at hSw); go_simp; (try with_reducible rfl); done))
                (first | (simp only [Act.put, List.setIfInBounds_toArray, List.set_cons_zero, List.set_cons_succ]) | (simp only [Act.put, List.setIfInBounds_toArray, List.set]) | (simp only [Act.put]) | skip)
                (refine wpAnyH_take (i := 11) (oi := ⟨some 130, _, _, _, _, _⟩) (v := ?_) rfl (by kernel_rfl) (by kernel_rfl) (by kernel_rfl) (fun _ _ _ h => h) (Or.inl ⟨by kernel_rfl, ?_⟩) hHeld ?_; rotate_left; focus (intro w hSw; (try dsimp only at hSw); go_simp; (try with_reducible rfl); done))
                (first | (simp only [Act.put, List.setIfInBounds_toArray, List.set_cons_zero, List.set_cons_succ]) | (simp only [Act.put, List.setIfInBounds_toArray, List.set]) | (simp only [Act.put]) | skip)
                (refine wpAnyH_take (i := 12) (oi := ⟨some 131, _, _, _, _, _⟩) (v := ?_) rfl (by kernel_rfl) (by kernel_rfl) (by kernel_rfl) (fun _ _ _ h => h) (Or.inl ⟨by kernel_rfl, ?_⟩) hHeld ?_; rotate_left; focus (intro w hSw; (try dsimp only at hSw); go_simp; (try with_reducible rfl); done))
                (first | (simp only [Act.put, List.setIfInBounds_toArray, List.set_cons_zero, List.set_cons_succ]) | (simp only [Act.put, List.setIfInBounds_toArray, List.set]) | (simp only [Act.put]) | skip)
                (refine wpAnyH_take (i := 13) (oi := ⟨some 132, _, _, _, _, _⟩) (v := ?_) rfl (by kernel_rfl) (by kernel_rfl) (by kernel_rfl) (fun _ _ _ h => h) (Or.inl ⟨by kernel_rfl, ?_⟩) hHeld ?_; rotate_left; focus (intro w hSw; (try dsimp only at hSw); go_simp; (try with_reducible rfl); done))
                (first | (simp only [Act.put, List.setIfInBounds_toArray, List.set_cons_zero, List.set_cons_succ]) | (simp only [Act.put, List.setIfInBounds_toArray, List.set]) | (simp only [Act.put]) | skip)
                (refine wpAnyH_take (i := 14) (oi := ⟨some 133, _, _, _, _, _⟩) (v := ?_) rfl (by kernel_rfl) (by kernel_rfl) (by kernel_rfl) (fun _ _ _ h => h) (Or.inl ⟨by kernel_rfl, ?_⟩) hHeld ?_; rotate_left; focus (intro w hSw; (try dsimp only at hSw); go_simp; (try with_reducible rfl); done))
                (first | (simp only [Act.put, List.setIfInBounds_toArray, List.set_cons_zero, List.set_cons_succ]) | (simp only [Act.put, List.setIfInBounds_toArray, List.set]) | (simp only [Act.put]) | skip)
                refine wpAnyH_ready (rs := [7]) (by kernel_rfl) (by simp) (AllReadyH.cons (o := ⟨some 126, _, _, _, _, _⟩) rfl (fun K hK => ?_) AllReadyH.nil)
                go_simp
                refine (HC1.out _ ((Below.refl wr.heap.size wr).drew)).mono ?_
                rintro e w3 ⟨rfl, hb⟩
                have cur := seq ((Below.refl wr.heap.size wr).drew) hb
                clear hb
                (try dsimp only)
                refine Shut.out hK _ _ (by (try dsimp only); (first | done | (exact ⟨cell_below (cur) q1, cell_below (cur) q2⟩))) (fun hHeld => ?_)
                clear hK K
                (first | (simp only [Act.put, List.setIfInBounds_toArray, List.set_cons_zero, List.set_cons_succ]) | (simp only [Act.put, List.setIfInBounds_toArray, List.set]) | (simp only [Act.put]) | skip)
                refine wpAnyH_ready (rs := [15]) (by kernel_rfl) (by simp) (AllReadyH.cons (o := ⟨some 134, _, _, _, _, _⟩) rfl (fun K hK => ?_) AllReadyH.nil)
                go_simp
                refine (HC2.out _ (cur)).mono ?_
                rintro e w3 ⟨rfl, hb⟩
                replace cur := seq cur hb
                clear hb
                (try dsimp only)
                refine Shut.out hK _ _ (by (try dsimp only); (first | done | (exact ⟨cell_below (cur) q1, cell_below (cur) q2⟩))) (fun hHeld => ?_)
                clear hK K
                (first | (simp only [Act.put, List.setIfInBounds_toArray, List.set_cons_zero, List.set_cons_succ]) | (simp only [Act.put, List.setIfInBounds_toArray, List.set]) | (simp only [Act.put]) | skip)
                (refine wpAnyH_take (i := 16) (oi := ⟨some 135, _, _, _, _, _⟩) (v := ?_) rfl (by kernel_rfl) (by kernel_rfl) (by kernel_rfl) (fun _ _ _ h => h) (Or.inl ⟨by kernel_rfl, ?_⟩) hHeld ?_; rotate_left; focus (intro w hSw; (try dsimp only at hSw); go_simp; (try with_reducible rfl); done))
                (first | (simp only [Act.put, List.setIfInBounds_toArray, List.set_cons_zero, List.set_cons_succ]) | (simp only [Act.put, List.setIfInBounds_toArray, List.set]) | (simp only [Act.put]) | skip)
                refine wpAnyH_done (by kernel_rfl) ?_ _
                have HX := Lib.hid (seq HW.out cur)
                clear q1 q2 cur hHeld
                go_wp2_with fail
                go_roundg (gk - 1)
                case measure => omega
                case rel => exact ⟨n + 1, by go_num, by omega, HX⟩
              · go_wp2_with fail
                go_roundg (gk0 - 1)
                case measure => omega
                case rel => exact ⟨i + 1, by go_num, by omega, HW⟩
      · go_wp2_with fail
        refine (alive_any wr).mono ?_
        rintro e w5 ⟨rfl, hb5⟩
        have HB5 := Lib.hid (HB4.out.trans ((HW.out.trans (hb5.mono HW.out.size)).mono HB4.out.size))
        clear hb5
        go_wp2_with fail
        go_ret
        exact ⟨rfl, HB5.out⟩
end Go.Proofs.Ytiagkbmhfgdffaa.PBddCache
