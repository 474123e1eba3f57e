/- Walk of the law SpanLaws: it answers true. -/
import Derived.Test.YtjddafaaplhnfaaDoorSpanLawsWSl0
import Derived.Test.YtjddafaaplhnfaaDoorSpanLawsSm
import Derived.Test.YtjddafaaplhnfaaDoorPSpanLawsx41
import Derived.Test.YtjddafaaplhnfaaDoorPm
set_option linter.unusedVariables false
set_option linter.unusedSimpArgs false
namespace Go.Proofs.YtjddafaaplhnfaaDoor.PSpanLaws
open Go Go.RowKit Go.Deep Go.Proofs.YtjddafaaplhnfaaDoorW.PrintWords Go.Proofs.YtjddafaaplhnfaaDoorW.PrintLast Go.Proofs.YtjddafaaplhnfaaDoorW.PrintMore
variable {w : World}
attribute [local go_sem high] eq_sp
set_option maxRecDepth 100000 in
set_option maxHeartbeats 16000000 in
theorem SpanLaws_walkA (a0 a1 b0 b1 n : Int) (hT : Tabs w) (hx : Sp.has a0 a1 n = true) (hy : Bool) (ehy : Sp.has b0 b1 n = hy) :
    Calls Tryd.prog 8 #[.agg #[.int .i64 a0, .int .i64 a1], .agg #[.int .i64 b0, .int .i64 b1], .int .i64 n] w fun e w' => e = .returned (.bool true) ∧ Below w.heap.size w w' := by
  have HX := Lib.hid hx
  have HY := Lib.hid ehy
  clear hx ehy
  have sy : (hy == hy) = true := by simp
  have HT := Lib.hid hT
  clear hT
  have hjh := Sp.has_join (a0 := a0) (a1 := a1) (b0 := b0) (b1 := b1) (n := n)
  have hjc := Sp.join_comm a0 a1 b0 b1
  have hjl := Sp.leq_join a0 a1 b0 b1
  have hjr := Sp.right_join a0 a1 b0 b1
  obtain ⟨⟨j0, j1⟩, hj⟩ : ∃ p, Sp.join a0 a1 b0 b1 = p := ⟨_, rfl⟩
  rw [hj] at hjh hjc hjl hjr
  have Hj := Lib.hid hj
  clear hj
  have Hjh := Lib.hid hjh
  clear hjh
  have Hjc := Lib.hid hjc
  clear hjc
  have Hjl := Lib.hid hjl
  clear hjl
  have Hjr := Lib.hid hjr
  clear hjr
  have sj : spEq j0 j1 j0 j1 = true := by simp [spEq]
  have hmh := Sp.has_meet a0 a1 b0 b1 n
  have hmc := Sp.meet_comm a0 a1 b0 b1
  have hml := Sp.leq_meet a0 a1 b0 b1
  have hmr := Sp.right_meet a0 a1 b0 b1
  obtain ⟨⟨m0, m1⟩, hm⟩ : ∃ p, Sp.meet a0 a1 b0 b1 = p := ⟨_, rfl⟩
  rw [hm] at hmh hmc hml hmr
  have Hm := Lib.hid hm
  clear hm
  have Hmh := Lib.hid hmh
  clear hmh
  have Hmc := Lib.hid hmc
  clear hmc
  have Hml := Lib.hid hml
  clear hml
  have Hmr := Lib.hid hmr
  clear hmr
  have sm : spEq m0 m1 m0 m1 = true := by simp [spEq]
  go_enter Tryd.func8, Tryd.ntmps8
  go_upto_region 1 with fail
  go_cut [7, 8] (fun v7 v8 wc => ∃ g7 g8 : Nat, v7 = .pointer (some ⟨g7, 0, none⟩) ∧ v8 = .pointer (some ⟨g8, 0, none⟩) ∧ Hid (Below w.heap.size w wc) ∧ Hid (wc.heap[g7]? = some (.cells #[.int .i64 a0, .int .i64 a1] 24 (0, 0))) ∧ Hid (wc.heap[g8]? = some (.cells #[.int .i64 b0, .int .i64 b1] 24 (0, 0))))
  case first =>
    obtain ⟨ka, kb, HB⟩ := box2 w (.cells #[.int .i64 a0, .int .i64 a1] 23) (.cells #[.int .i64 b0, .int .i64 b1] 23) (Below.refl _ _)
    obtain ⟨qa0, qa1, -, -⟩ := cells2 ka
    obtain ⟨qb0, qb1, -, -⟩ := cells2 kb
    have HB' := Lib.hid HB
    clear ka kb HB
    go_wp2_with fail
    go_region
    all_goals (go_wp2_with fail; go_meet)
    all_goals first
      | exact ⟨_, _, rfl, rfl, (Below.push (Below.push HB'.out (by omega) (.cells #[.int .i64 a0, .int .i64 a1] 24)) (by have := size2 ((w.alloc (.cells #[.int .i64 a0, .int .i64 a1] 23)).alloc (.cells #[.int .i64 b0, .int .i64 b1] 23)) (.cells #[.int .i64 a0, .int .i64 a1] 24); omega) (.cells #[.int .i64 b0, .int .i64 b1] 24)).drew, (by have := (two_boxes ((w.alloc (.cells #[.int .i64 a0, .int .i64 a1] 23)).alloc (.cells #[.int .i64 b0, .int .i64 b1] 23)) (.cells #[.int .i64 a0, .int .i64 a1] 24) (.cells #[.int .i64 b0, .int .i64 b1] 24)).1; rw [size2, size2] at this; exact this), (by have := (two_boxes ((w.alloc (.cells #[.int .i64 a0, .int .i64 a1] 23)).alloc (.cells #[.int .i64 b0, .int .i64 b1] 23)) (.cells #[.int .i64 a0, .int .i64 a1] 24) (.cells #[.int .i64 b0, .int .i64 b1] 24)).2; rw [size2, size2] at this; exact this)⟩
      | exact ⟨_, _, rfl, rfl, (Below.push (Below.push HB'.out (by omega) (.cells #[.int .i64 b0, .int .i64 b1] 24)) (by have := size2 ((w.alloc (.cells #[.int .i64 a0, .int .i64 a1] 23)).alloc (.cells #[.int .i64 b0, .int .i64 b1] 23)) (.cells #[.int .i64 b0, .int .i64 b1] 24); omega) (.cells #[.int .i64 a0, .int .i64 a1] 24)).drew, (by have := (two_boxes ((w.alloc (.cells #[.int .i64 a0, .int .i64 a1] 23)).alloc (.cells #[.int .i64 b0, .int .i64 b1] 23)) (.cells #[.int .i64 b0, .int .i64 b1] 24) (.cells #[.int .i64 a0, .int .i64 a1] 24)).2; rw [size2, size2] at this; exact this), (by have := (two_boxes ((w.alloc (.cells #[.int .i64 a0, .int .i64 a1] 23)).alloc (.cells #[.int .i64 b0, .int .i64 b1] 23)) (.cells #[.int .i64 b0, .int .i64 b1] 24) (.cells #[.int .i64 a0, .int .i64 a1] 24)).1; rw [size2, size2] at this; exact this)⟩
  case rest =>
    obtain ⟨g7, g8, rfl, rfl, HB, K7, K8⟩ := hcut
    have cur0 := HB.out
    obtain ⟨x0, x1, -, -⟩ := cells2 K7.out
    obtain ⟨x2, x3, -, -⟩ := cells2 K8.out
    have Hx0 := Lib.hid cur0
    clear HB cur0
    go_upto_region 2 with fail
    go_cut [9, 10] (fun v9 v10 wd => ∃ g9 g10 : Nat, v9 = .pointer (some ⟨g9, 0, none⟩) ∧ v10 = .pointer (some ⟨g10, 0, none⟩) ∧ Hid (Below w.heap.size w wd) ∧ Hid (wd.heap[g7]? = some (.cells #[.int .i64 a0, .int .i64 a1] 24 (0, 0))) ∧ Hid (wd.heap[g8]? = some (.cells #[.int .i64 b0, .int .i64 b1] 24 (0, 0))) ∧ Hid (wd.heap[g9]? = some (.cells #[.int .i64 j0, .int .i64 j1] 24 (0, 0))) ∧ Hid (wd.heap[g10]? = some (.cells #[.int .i64 m0, .int .i64 m1] 24 (0, 0))))
    case first =>
      go_wp2_with fail
      refine start_ (n := 10) (S := fun w' => w'.cell? ⟨g7, 0, none⟩ = some (.int .i64 a0) ∧ w'.cell? ⟨g7, 1, none⟩ = some (.int .i64 a1) ∧ w'.cell? ⟨g8, 0, none⟩ = some (.int .i64 b0) ∧ w'.cell? ⟨g8, 1, none⟩ = some (.int .i64 b1)) (ds := [8, 9]) #[false, false, false, false, false, false, false, false, false, false] (by kernel_rfl) rfl rfl ⟨cell_below ((Below.refl wc.heap.size wc).drew) x0, cell_below ((Below.refl wc.heap.size wc).drew) x1, cell_below ((Below.refl wc.heap.size wc).drew) x2, cell_below ((Below.refl wc.heap.size wc).drew) x3⟩ (fun hHeld => ?_)
      refine take_ (i := 0) (N := some 13) (v := ?_) (a' := ?_) #[true, false, false, false, false, false, false, false, false, false] rfl rfl (by kernel_rfl) (fun _ _ _ h => h) (Or.inl ⟨by rfl, ?_⟩) hHeld ?_ ?_
      rotate_left
      · rintro w' ⟨s0, s1, s2, s3⟩
        go_simp
        with_reducible rfl
      rotate_left
      · simp only [Act.put, List.setIfInBounds_toArray, List.set_cons_zero, List.set_cons_succ, i64_w, i32_w]
        rfl
      refine take_ (i := 1) (N := some 14) (v := ?_) (a' := ?_) #[true, true, false, false, false, false, false, false, false, false] rfl rfl (by kernel_rfl) (fun _ _ _ h => h) (Or.inl ⟨by rfl, ?_⟩) hHeld ?_ ?_
      rotate_left
      · rintro w' ⟨s0, s1, s2, s3⟩
        go_simp
        with_reducible rfl
      rotate_left
      · simp only [Act.put, List.setIfInBounds_toArray, List.set_cons_zero, List.set_cons_succ, i64_w, i32_w]
        rfl
      refine take_ (i := 3) (N := some 16) (v := ?_) (a' := ?_) #[true, true, false, true, false, false, false, false, false, false] rfl rfl (by kernel_rfl) (fun _ _ _ h => h) (Or.inl ⟨by rfl, ?_⟩) hHeld ?_ ?_
      rotate_left
      · rintro w' ⟨s0, s1, s2, s3⟩
        go_simp
        with_reducible rfl
      rotate_left
      · simp only [Act.put, List.setIfInBounds_toArray, List.set_cons_zero, List.set_cons_succ, i64_w, i32_w]
        rfl
      refine take_ (i := 4) (N := some 17) (v := ?_) (a' := ?_) #[true, true, false, true, true, false, false, false, false, false] rfl rfl (by kernel_rfl) (fun _ _ _ h => h) (Or.inl ⟨by rfl, ?_⟩) hHeld ?_ ?_
      rotate_left
      · rintro w' ⟨s0, s1, s2, s3⟩
        go_simp
        with_reducible rfl
      rotate_left
      · simp only [Act.put, List.setIfInBounds_toArray, List.set_cons_zero, List.set_cons_succ, i64_w, i32_w]
        rfl
      refine join_ (σ := Nat × Nat) 2 #[true, true, true, true, true, true, true, true, false, false] (fun zz => [(15, .agg #[.int .i64 j0, .int .i64 j1]), (18, .agg #[.int .i64 m0, .int .i64 m1]), (9, .pointer (some ⟨zz.1, 0, none⟩)), (10, .pointer (some ⟨zz.2, 0, none⟩))]) (fun zz w' => Below wc.heap.size wc w' ∧ w'.heap[zz.1]? = some (.cells #[.int .i64 0, .int .i64 0] 24 (0, 0)) ∧ wc.heap.size ≤ zz.1 ∧ w'.heap[zz.2]? = some (.cells #[.int .i64 0, .int .i64 0] 24 (0, 0)) ∧ wc.heap.size ≤ zz.2 ∧ zz.1 ≠ zz.2) ?_ ?_
      rotate_left
      · intro hJ2_5_6_7
        refine join_ (σ := Nat) 3 #[true, true, true, true, true, true, true, false, false, false] (fun zz => [(15, .agg #[.int .i64 j0, .int .i64 j1]), (18, .agg #[.int .i64 m0, .int .i64 m1]), (9, .pointer (some ⟨zz, 0, none⟩))]) (fun zz w' => Below wc.heap.size wc w' ∧ w'.heap[zz]? = some (.cells #[.int .i64 0, .int .i64 0] 24 (0, 0)) ∧ wc.heap.size ≤ zz) ?_ ?_
        rotate_left
        · intro hJ2_5_6
          refine join_ (σ := Nat) 3 #[true, true, true, true, true, true, false, true, false, false] (fun zz => [(15, .agg #[.int .i64 j0, .int .i64 j1]), (18, .agg #[.int .i64 m0, .int .i64 m1]), (10, .pointer (some ⟨zz, 0, none⟩))]) (fun zz w' => Below wc.heap.size wc w' ∧ w'.heap[zz]? = some (.cells #[.int .i64 0, .int .i64 0] 24 (0, 0)) ∧ wc.heap.size ≤ zz) ?_ ?_
          rotate_left
          · intro hJ2_5_7
            refine join_ (σ := Nat × Nat) 3 #[true, true, true, true, true, false, true, true, false, false] (fun zz => [(15, .agg #[.int .i64 j0, .int .i64 j1]), (9, .pointer (some ⟨zz.1, 0, none⟩)), (10, .pointer (some ⟨zz.2, 0, none⟩))]) (fun zz w' => Below wc.heap.size wc w' ∧ w'.heap[zz.1]? = some (.cells #[.int .i64 0, .int .i64 0] 24 (0, 0)) ∧ wc.heap.size ≤ zz.1 ∧ w'.heap[zz.2]? = some (.cells #[.int .i64 0, .int .i64 0] 24 (0, 0)) ∧ wc.heap.size ≤ zz.2 ∧ zz.1 ≠ zz.2) ?_ ?_
            rotate_left
            · intro hJ2_6_7
              refine join_ (σ := Unit) 4 #[true, true, true, true, true, true, false, false, false, false] (fun zz => [(15, .agg #[.int .i64 j0, .int .i64 j1]), (18, .agg #[.int .i64 m0, .int .i64 m1])]) (fun zz w' => Below wc.heap.size wc w') ?_ ?_
              rotate_left
              · intro hJ2_5
                refine join_ (σ := Nat) 4 #[true, true, true, true, true, false, true, false, false, false] (fun zz => [(15, .agg #[.int .i64 j0, .int .i64 j1]), (9, .pointer (some ⟨zz, 0, none⟩))]) (fun zz w' => Below wc.heap.size wc w' ∧ w'.heap[zz]? = some (.cells #[.int .i64 0, .int .i64 0] 24 (0, 0)) ∧ wc.heap.size ≤ zz) ?_ ?_
                rotate_left
                · intro hJ2_6
                  refine join_ (σ := Nat) 4 #[true, true, true, true, true, false, false, true, false, false] (fun zz => [(15, .agg #[.int .i64 j0, .int .i64 j1]), (10, .pointer (some ⟨zz, 0, none⟩))]) (fun zz w' => Below wc.heap.size wc w' ∧ w'.heap[zz]? = some (.cells #[.int .i64 0, .int .i64 0] 24 (0, 0)) ∧ wc.heap.size ≤ zz) ?_ ?_
                  rotate_left
                  · intro hJ2_7
                    refine join_ (σ := Nat × Nat) 4 #[true, true, false, true, true, false, true, true, false, false] (fun zz => [(9, .pointer (some ⟨zz.1, 0, none⟩)), (10, .pointer (some ⟨zz.2, 0, none⟩))]) (fun zz w' => Below wc.heap.size wc w' ∧ w'.heap[zz.1]? = some (.cells #[.int .i64 0, .int .i64 0] 24 (0, 0)) ∧ wc.heap.size ≤ zz.1 ∧ w'.heap[zz.2]? = some (.cells #[.int .i64 0, .int .i64 0] 24 (0, 0)) ∧ wc.heap.size ≤ zz.2 ∧ zz.1 ≠ zz.2) ?_ ?_
                    rotate_left
                    · intro hJ6_7
                      refine join_ (σ := Unit) 5 #[true, true, true, true, true, false, false, false, false, false] (fun zz => [(15, .agg #[.int .i64 j0, .int .i64 j1])]) (fun zz w' => Below wc.heap.size wc w') ?_ ?_
                      rotate_left
                      · intro hJ2
                        refine join_ (σ := Nat) 5 #[true, true, false, true, true, false, true, false, false, false] (fun zz => [(9, .pointer (some ⟨zz, 0, none⟩))]) (fun zz w' => Below wc.heap.size wc w' ∧ w'.heap[zz]? = some (.cells #[.int .i64 0, .int .i64 0] 24 (0, 0)) ∧ wc.heap.size ≤ zz) ?_ ?_
                        rotate_left
                        · intro hJ6
                          refine join_ (σ := Nat) 5 #[true, true, false, true, true, false, false, true, false, false] (fun zz => [(10, .pointer (some ⟨zz, 0, none⟩))]) (fun zz w' => Below wc.heap.size wc w' ∧ w'.heap[zz]? = some (.cells #[.int .i64 0, .int .i64 0] 24 (0, 0)) ∧ wc.heap.size ≤ zz) ?_ ?_
                          rotate_left
                          · intro hJ7
                            refine three_ (i := 2) (j := 6) (k := 7) (Ni := some 15) (Nj := some 9) (Nk := some 10) #[true, true, true, true, true, false, false, false, false, false] #[true, true, false, true, true, false, true, false, false, false] #[true, true, false, true, true, false, false, true, false, false] rfl rfl rfl rfl rfl rfl (by kernel_rfl) (by decide) (by decide) (by decide) (fun K hK => ?_) (fun K hK => ?_) (fun K hK => ?_)
                            · skip
                              refine goes_ Tryd.func26 (by kernel_rfl) rfl #[.agg #[.int .i64 a0, .int .i64 a1], .agg #[.int .i64 b0, .int .i64 b1]] (by rfl) rfl rfl (by simp only [List.map_toArray, List.map_cons, List.map_nil]; rfl) ?_
                              with_reducible refine (join_to a0 a1 b0 b1 j0 j1 Hj.out _).mono ?_
                              rintro e w3 ⟨rfl, hb⟩
                              refine ⟨_, rfl, ?_⟩
                              have cur3 := seq ((Below.refl wc.heap.size wc).drew) hb
                              refine hK.out _ _ ⟨cell_below (cur3) x0, cell_below (cur3) x1, cell_below (cur3) x2, cell_below (cur3) x3⟩ (fun hHeld => ?_)
                              clear hK K
                              refine norm_ (a' := ?_) ?_ ?_
                              rotate_left
                              · show Act.put _ (some 15) _ = _
                                simp only [Act.put, List.setIfInBounds_toArray, List.set_cons_zero, List.set_cons_succ, i64_w, i32_w]
                                rfl
                              exact norm_ (by first | (simp only [putAll, Act.put, List.setIfInBounds_toArray, List.set_cons_zero, List.set_cons_succ]; done) | (simp only [putAll, Act.put, List.setIfInBounds_toArray, List.set_cons_zero, List.set_cons_succ]; rfl)) (hJ2 () _ cur3)
                            · skip
                              refine value_ (w1 := ?_) (v := ?_) (by rfl) rfl ?_ ?_
                              rotate_left 2
                              · go_simp
                                constructor
                                · rfl
                                · rfl
                              have cur3 := Below.push ((Below.refl wc.heap.size wc).drew) (Nat.le_refl _) (.cells #[.int .i64 0, .int .i64 0] 24)
                              refine hK.out _ _ ⟨cell_below (cur3) x0, cell_below (cur3) x1, cell_below (cur3) x2, cell_below (cur3) x3⟩ (fun hHeld => ?_)
                              clear hK K
                              refine norm_ (a' := ?_) ?_ ?_
                              rotate_left
                              · show Act.put _ (some 9) _ = _
                                simp only [Act.put, List.setIfInBounds_toArray, List.set_cons_zero, List.set_cons_succ, i64_w, i32_w]
                                rfl
                              exact norm_ (by first | (simp only [putAll, Act.put, List.setIfInBounds_toArray, List.set_cons_zero, List.set_cons_succ]; done) | (simp only [putAll, Act.put, List.setIfInBounds_toArray, List.set_cons_zero, List.set_cons_succ]; rfl)) (hJ6 (wc.drew.heap.size) _ ⟨cur3, blk_new _ _, ((Below.refl wc.heap.size wc).drew).size⟩)
                            · skip
                              refine value_ (w1 := ?_) (v := ?_) (by rfl) rfl ?_ ?_
                              rotate_left 2
                              · go_simp
                                constructor
                                · rfl
                                · rfl
                              have cur3 := Below.push ((Below.refl wc.heap.size wc).drew) (Nat.le_refl _) (.cells #[.int .i64 0, .int .i64 0] 24)
                              refine hK.out _ _ ⟨cell_below (cur3) x0, cell_below (cur3) x1, cell_below (cur3) x2, cell_below (cur3) x3⟩ (fun hHeld => ?_)
                              clear hK K
                              refine norm_ (a' := ?_) ?_ ?_
                              rotate_left
                              · show Act.put _ (some 10) _ = _
                                simp only [Act.put, List.setIfInBounds_toArray, List.set_cons_zero, List.set_cons_succ, i64_w, i32_w]
                                rfl
                              exact norm_ (by first | (simp only [putAll, Act.put, List.setIfInBounds_toArray, List.set_cons_zero, List.set_cons_succ]; done) | (simp only [putAll, Act.put, List.setIfInBounds_toArray, List.set_cons_zero, List.set_cons_succ]; rfl)) (hJ7 (wc.drew.heap.size) _ ⟨cur3, blk_new _ _, ((Below.refl wc.heap.size wc).drew).size⟩)
                          · skip
                            rintro ga7 w1 ⟨cur, p7, q7⟩
                            have hHeld : w1.cell? ⟨g7, 0, none⟩ = some (.int .i64 a0) ∧ w1.cell? ⟨g7, 1, none⟩ = some (.int .i64 a1) ∧ w1.cell? ⟨g8, 0, none⟩ = some (.int .i64 b0) ∧ w1.cell? ⟨g8, 1, none⟩ = some (.int .i64 b1) := ⟨cell_below (cur) x0, cell_below (cur) x1, cell_below (cur) x2, cell_below (cur) x3⟩
                            refine norm_ (a' := ?_) ?_ ?_
                            rotate_left
                            · simp only [putAll, Act.put, List.setIfInBounds_toArray, List.set_cons_zero, List.set_cons_succ]
                              rfl
                            refine two_ (i := 2) (j := 6) (Ni := some 15) (Nj := some 9) #[true, true, true, true, true, false, false, true, false, false] #[true, true, false, true, true, false, true, true, false, false] rfl rfl rfl rfl (by kernel_rfl) (by decide) (by decide) (fun K hK => ?_) (fun K hK => ?_)
                            · skip
                              refine goes_ Tryd.func26 (by kernel_rfl) rfl #[.agg #[.int .i64 a0, .int .i64 a1], .agg #[.int .i64 b0, .int .i64 b1]] (by rfl) rfl rfl (by simp only [List.map_toArray, List.map_cons, List.map_nil]; rfl) ?_
                              with_reducible refine (join_to a0 a1 b0 b1 j0 j1 Hj.out _).mono ?_
                              rintro e w3 ⟨rfl, hb⟩
                              refine ⟨_, rfl, ?_⟩
                              have cur3 := seq (cur) hb
                              have p3_7 := blk_below p7 hb
                              refine hK.out _ _ ⟨cell_below (cur3) x0, cell_below (cur3) x1, cell_below (cur3) x2, cell_below (cur3) x3⟩ (fun hHeld => ?_)
                              clear hK K
                              refine norm_ (a' := ?_) ?_ ?_
                              rotate_left
                              · show Act.put _ (some 15) _ = _
                                simp only [Act.put, List.setIfInBounds_toArray, List.set_cons_zero, List.set_cons_succ, i64_w, i32_w]
                                rfl
                              exact norm_ (by first | (simp only [putAll, Act.put, List.setIfInBounds_toArray, List.set_cons_zero, List.set_cons_succ]; done) | (simp only [putAll, Act.put, List.setIfInBounds_toArray, List.set_cons_zero, List.set_cons_succ]; rfl)) (hJ2_7 ga7 _ ⟨cur3, p3_7, q7⟩)
                            · skip
                              refine value_ (w1 := ?_) (v := ?_) (by rfl) rfl ?_ ?_
                              rotate_left 2
                              · go_simp
                                constructor
                                · rfl
                                · rfl
                              have cur3 := Below.push (cur) (Nat.le_refl _) (.cells #[.int .i64 0, .int .i64 0] 24)
                              have p3_7 := blk_alloc p7 (.cells #[.int .i64 0, .int .i64 0] 24)
                              refine hK.out _ _ ⟨cell_below (cur3) x0, cell_below (cur3) x1, cell_below (cur3) x2, cell_below (cur3) x3⟩ (fun hHeld => ?_)
                              clear hK K
                              refine norm_ (a' := ?_) ?_ ?_
                              rotate_left
                              · show Act.put _ (some 9) _ = _
                                simp only [Act.put, List.setIfInBounds_toArray, List.set_cons_zero, List.set_cons_succ, i64_w, i32_w]
                                rfl
                              exact norm_ (by first | (simp only [putAll, Act.put, List.setIfInBounds_toArray, List.set_cons_zero, List.set_cons_succ]; done) | (simp only [putAll, Act.put, List.setIfInBounds_toArray, List.set_cons_zero, List.set_cons_succ]; rfl)) (hJ6_7 (w1.heap.size, ga7) _ ⟨cur3, blk_new _ _, (cur).size, p3_7, q7, (Nat.ne_of_gt (blk_lt p7))⟩)
                        · skip
                          rintro ga6 w1 ⟨cur, p6, q6⟩
                          have hHeld : w1.cell? ⟨g7, 0, none⟩ = some (.int .i64 a0) ∧ w1.cell? ⟨g7, 1, none⟩ = some (.int .i64 a1) ∧ w1.cell? ⟨g8, 0, none⟩ = some (.int .i64 b0) ∧ w1.cell? ⟨g8, 1, none⟩ = some (.int .i64 b1) := ⟨cell_below (cur) x0, cell_below (cur) x1, cell_below (cur) x2, cell_below (cur) x3⟩
                          refine norm_ (a' := ?_) ?_ ?_
                          rotate_left
                          · simp only [putAll, Act.put, List.setIfInBounds_toArray, List.set_cons_zero, List.set_cons_succ]
                            rfl
                          refine two_ (i := 2) (j := 7) (Ni := some 15) (Nj := some 10) #[true, true, true, true, true, false, true, false, false, false] #[true, true, false, true, true, false, true, true, false, false] rfl rfl rfl rfl (by kernel_rfl) (by decide) (by decide) (fun K hK => ?_) (fun K hK => ?_)
                          · skip
                            refine goes_ Tryd.func26 (by kernel_rfl) rfl #[.agg #[.int .i64 a0, .int .i64 a1], .agg #[.int .i64 b0, .int .i64 b1]] (by rfl) rfl rfl (by simp only [List.map_toArray, List.map_cons, List.map_nil]; rfl) ?_
                            with_reducible refine (join_to a0 a1 b0 b1 j0 j1 Hj.out _).mono ?_
                            rintro e w3 ⟨rfl, hb⟩
                            refine ⟨_, rfl, ?_⟩
                            have cur3 := seq (cur) hb
                            have p3_6 := blk_below p6 hb
                            refine hK.out _ _ ⟨cell_below (cur3) x0, cell_below (cur3) x1, cell_below (cur3) x2, cell_below (cur3) x3⟩ (fun hHeld => ?_)
                            clear hK K
                            refine norm_ (a' := ?_) ?_ ?_
                            rotate_left
                            · show Act.put _ (some 15) _ = _
                              simp only [Act.put, List.setIfInBounds_toArray, List.set_cons_zero, List.set_cons_succ, i64_w, i32_w]
                              rfl
                            exact norm_ (by first | (simp only [putAll, Act.put, List.setIfInBounds_toArray, List.set_cons_zero, List.set_cons_succ]; done) | (simp only [putAll, Act.put, List.setIfInBounds_toArray, List.set_cons_zero, List.set_cons_succ]; rfl)) (hJ2_6 ga6 _ ⟨cur3, p3_6, q6⟩)
                          · skip
                            refine value_ (w1 := ?_) (v := ?_) (by rfl) rfl ?_ ?_
                            rotate_left 2
                            · go_simp
                              constructor
                              · rfl
                              · rfl
                            have cur3 := Below.push (cur) (Nat.le_refl _) (.cells #[.int .i64 0, .int .i64 0] 24)
                            have p3_6 := blk_alloc p6 (.cells #[.int .i64 0, .int .i64 0] 24)
                            refine hK.out _ _ ⟨cell_below (cur3) x0, cell_below (cur3) x1, cell_below (cur3) x2, cell_below (cur3) x3⟩ (fun hHeld => ?_)
                            clear hK K
                            refine norm_ (a' := ?_) ?_ ?_
                            rotate_left
                            · show Act.put _ (some 10) _ = _
                              simp only [Act.put, List.setIfInBounds_toArray, List.set_cons_zero, List.set_cons_succ, i64_w, i32_w]
                              rfl
                            exact norm_ (by first | (simp only [putAll, Act.put, List.setIfInBounds_toArray, List.set_cons_zero, List.set_cons_succ]; done) | (simp only [putAll, Act.put, List.setIfInBounds_toArray, List.set_cons_zero, List.set_cons_succ]; rfl)) (hJ6_7 (ga6, w1.heap.size) _ ⟨cur3, p3_6, q6, blk_new _ _, (cur).size, (Nat.ne_of_lt (blk_lt p6))⟩)
                      · skip
                        rintro ⟨⟩ w1 cur
                        have hHeld : w1.cell? ⟨g7, 0, none⟩ = some (.int .i64 a0) ∧ w1.cell? ⟨g7, 1, none⟩ = some (.int .i64 a1) ∧ w1.cell? ⟨g8, 0, none⟩ = some (.int .i64 b0) ∧ w1.cell? ⟨g8, 1, none⟩ = some (.int .i64 b1) := ⟨cell_below (cur) x0, cell_below (cur) x1, cell_below (cur) x2, cell_below (cur) x3⟩
                        refine norm_ (a' := ?_) ?_ ?_
                        rotate_left
                        · simp only [putAll, Act.put, List.setIfInBounds_toArray, List.set_cons_zero, List.set_cons_succ]
                          rfl
                        refine three_ (i := 5) (j := 6) (k := 7) (Ni := some 18) (Nj := some 9) (Nk := some 10) #[true, true, true, true, true, true, false, false, false, false] #[true, true, true, true, true, false, true, false, false, false] #[true, true, true, true, true, false, false, true, false, false] rfl rfl rfl rfl rfl rfl (by kernel_rfl) (by decide) (by decide) (by decide) (fun K hK => ?_) (fun K hK => ?_) (fun K hK => ?_)
                        · skip
                          refine goes_ Tryd.func20 (by kernel_rfl) rfl #[.agg #[.int .i64 a0, .int .i64 a1], .agg #[.int .i64 b0, .int .i64 b1]] (by rfl) rfl rfl (by simp only [List.map_toArray, List.map_cons, List.map_nil]; rfl) ?_
                          with_reducible refine (meet_to a0 a1 b0 b1 m0 m1 Hm.out _).mono ?_
                          rintro e w3 ⟨rfl, hb⟩
                          refine ⟨_, rfl, ?_⟩
                          have cur3 := seq (cur) hb
                          refine hK.out _ _ ⟨cell_below (cur3) x0, cell_below (cur3) x1, cell_below (cur3) x2, cell_below (cur3) x3⟩ (fun hHeld => ?_)
                          clear hK K
                          refine norm_ (a' := ?_) ?_ ?_
                          rotate_left
                          · show Act.put _ (some 18) _ = _
                            simp only [Act.put, List.setIfInBounds_toArray, List.set_cons_zero, List.set_cons_succ, i64_w, i32_w]
                            rfl
                          exact norm_ (by first | (simp only [putAll, Act.put, List.setIfInBounds_toArray, List.set_cons_zero, List.set_cons_succ]; done) | (simp only [putAll, Act.put, List.setIfInBounds_toArray, List.set_cons_zero, List.set_cons_succ]; rfl)) (hJ2_5 () _ cur3)
                        · skip
                          refine value_ (w1 := ?_) (v := ?_) (by rfl) rfl ?_ ?_
                          rotate_left 2
                          · go_simp
                            constructor
                            · rfl
                            · rfl
                          have cur3 := Below.push (cur) (Nat.le_refl _) (.cells #[.int .i64 0, .int .i64 0] 24)
                          refine hK.out _ _ ⟨cell_below (cur3) x0, cell_below (cur3) x1, cell_below (cur3) x2, cell_below (cur3) x3⟩ (fun hHeld => ?_)
                          clear hK K
                          refine norm_ (a' := ?_) ?_ ?_
                          rotate_left
                          · show Act.put _ (some 9) _ = _
                            simp only [Act.put, List.setIfInBounds_toArray, List.set_cons_zero, List.set_cons_succ, i64_w, i32_w]
                            rfl
                          exact norm_ (by first | (simp only [putAll, Act.put, List.setIfInBounds_toArray, List.set_cons_zero, List.set_cons_succ]; done) | (simp only [putAll, Act.put, List.setIfInBounds_toArray, List.set_cons_zero, List.set_cons_succ]; rfl)) (hJ2_6 (w1.heap.size) _ ⟨cur3, blk_new _ _, (cur).size⟩)
                        · skip
                          refine value_ (w1 := ?_) (v := ?_) (by rfl) rfl ?_ ?_
                          rotate_left 2
                          · go_simp
                            constructor
                            · rfl
                            · rfl
                          have cur3 := Below.push (cur) (Nat.le_refl _) (.cells #[.int .i64 0, .int .i64 0] 24)
                          refine hK.out _ _ ⟨cell_below (cur3) x0, cell_below (cur3) x1, cell_below (cur3) x2, cell_below (cur3) x3⟩ (fun hHeld => ?_)
                          clear hK K
                          refine norm_ (a' := ?_) ?_ ?_
                          rotate_left
                          · show Act.put _ (some 10) _ = _
                            simp only [Act.put, List.setIfInBounds_toArray, List.set_cons_zero, List.set_cons_succ, i64_w, i32_w]
                            rfl
                          exact norm_ (by first | (simp only [putAll, Act.put, List.setIfInBounds_toArray, List.set_cons_zero, List.set_cons_succ]; done) | (simp only [putAll, Act.put, List.setIfInBounds_toArray, List.set_cons_zero, List.set_cons_succ]; rfl)) (hJ2_7 (w1.heap.size) _ ⟨cur3, blk_new _ _, (cur).size⟩)
                    · skip
                      rintro ⟨ga6, ga7⟩ w1 ⟨cur, p6, q6, p7, q7, ne6_7⟩
                      dsimp only at p6 q6 p7 q7 ne6_7
                      have hHeld : w1.cell? ⟨g7, 0, none⟩ = some (.int .i64 a0) ∧ w1.cell? ⟨g7, 1, none⟩ = some (.int .i64 a1) ∧ w1.cell? ⟨g8, 0, none⟩ = some (.int .i64 b0) ∧ w1.cell? ⟨g8, 1, none⟩ = some (.int .i64 b1) := ⟨cell_below (cur) x0, cell_below (cur) x1, cell_below (cur) x2, cell_below (cur) x3⟩
                      refine norm_ (a' := ?_) ?_ ?_
                      rotate_left
                      · simp only [putAll, Act.put, List.setIfInBounds_toArray, List.set_cons_zero, List.set_cons_succ]
                        rfl
                      refine one_ (i := 2) (N := some 15) #[true, true, true, true, true, false, true, true, false, false] rfl rfl (by kernel_rfl) (by decide) (fun K hK => ?_)
                      refine goes_ Tryd.func26 (by kernel_rfl) rfl #[.agg #[.int .i64 a0, .int .i64 a1], .agg #[.int .i64 b0, .int .i64 b1]] (by rfl) rfl rfl (by simp only [List.map_toArray, List.map_cons, List.map_nil]; rfl) ?_
                      with_reducible refine (join_to a0 a1 b0 b1 j0 j1 Hj.out _).mono ?_
                      rintro e w3 ⟨rfl, hb⟩
                      refine ⟨_, rfl, ?_⟩
                      have cur3 := seq (cur) hb
                      have p3_6 := blk_below p6 hb
                      have p3_7 := blk_below p7 hb
                      refine hK.out _ _ ⟨cell_below (cur3) x0, cell_below (cur3) x1, cell_below (cur3) x2, cell_below (cur3) x3⟩ (fun hHeld => ?_)
                      clear hK K
                      refine norm_ (a' := ?_) ?_ ?_
                      rotate_left
                      · show Act.put _ (some 15) _ = _
                        simp only [Act.put, List.setIfInBounds_toArray, List.set_cons_zero, List.set_cons_succ, i64_w, i32_w]
                        rfl
                      exact norm_ (by first | (simp only [putAll, Act.put, List.setIfInBounds_toArray, List.set_cons_zero, List.set_cons_succ]; done) | (simp only [putAll, Act.put, List.setIfInBounds_toArray, List.set_cons_zero, List.set_cons_succ]; rfl)) (hJ2_6_7 (ga6, ga7) _ ⟨cur3, p3_6, q6, p3_7, q7, ne6_7⟩)
                  · skip
                    rintro ga7 w1 ⟨cur, p7, q7⟩
                    have hHeld : w1.cell? ⟨g7, 0, none⟩ = some (.int .i64 a0) ∧ w1.cell? ⟨g7, 1, none⟩ = some (.int .i64 a1) ∧ w1.cell? ⟨g8, 0, none⟩ = some (.int .i64 b0) ∧ w1.cell? ⟨g8, 1, none⟩ = some (.int .i64 b1) := ⟨cell_below (cur) x0, cell_below (cur) x1, cell_below (cur) x2, cell_below (cur) x3⟩
                    refine norm_ (a' := ?_) ?_ ?_
                    rotate_left
                    · simp only [putAll, Act.put, List.setIfInBounds_toArray, List.set_cons_zero, List.set_cons_succ]
                      rfl
                    refine two_ (i := 5) (j := 6) (Ni := some 18) (Nj := some 9) #[true, true, true, true, true, true, false, true, false, false] #[true, true, true, true, true, false, true, true, false, false] rfl rfl rfl rfl (by kernel_rfl) (by decide) (by decide) (fun K hK => ?_) (fun K hK => ?_)
                    · skip
                      refine goes_ Tryd.func20 (by kernel_rfl) rfl #[.agg #[.int .i64 a0, .int .i64 a1], .agg #[.int .i64 b0, .int .i64 b1]] (by rfl) rfl rfl (by simp only [List.map_toArray, List.map_cons, List.map_nil]; rfl) ?_
                      with_reducible refine (meet_to a0 a1 b0 b1 m0 m1 Hm.out _).mono ?_
                      rintro e w3 ⟨rfl, hb⟩
                      refine ⟨_, rfl, ?_⟩
                      have cur3 := seq (cur) hb
                      have p3_7 := blk_below p7 hb
                      refine hK.out _ _ ⟨cell_below (cur3) x0, cell_below (cur3) x1, cell_below (cur3) x2, cell_below (cur3) x3⟩ (fun hHeld => ?_)
                      clear hK K
                      refine norm_ (a' := ?_) ?_ ?_
                      rotate_left
                      · show Act.put _ (some 18) _ = _
                        simp only [Act.put, List.setIfInBounds_toArray, List.set_cons_zero, List.set_cons_succ, i64_w, i32_w]
                        rfl
                      exact norm_ (by first | (simp only [putAll, Act.put, List.setIfInBounds_toArray, List.set_cons_zero, List.set_cons_succ]; done) | (simp only [putAll, Act.put, List.setIfInBounds_toArray, List.set_cons_zero, List.set_cons_succ]; rfl)) (hJ2_5_7 ga7 _ ⟨cur3, p3_7, q7⟩)
                    · skip
                      refine value_ (w1 := ?_) (v := ?_) (by rfl) rfl ?_ ?_
                      rotate_left 2
                      · go_simp
                        constructor
                        · rfl
                        · rfl
                      have cur3 := Below.push (cur) (Nat.le_refl _) (.cells #[.int .i64 0, .int .i64 0] 24)
                      have p3_7 := blk_alloc p7 (.cells #[.int .i64 0, .int .i64 0] 24)
                      refine hK.out _ _ ⟨cell_below (cur3) x0, cell_below (cur3) x1, cell_below (cur3) x2, cell_below (cur3) x3⟩ (fun hHeld => ?_)
                      clear hK K
                      refine norm_ (a' := ?_) ?_ ?_
                      rotate_left
                      · show Act.put _ (some 9) _ = _
                        simp only [Act.put, List.setIfInBounds_toArray, List.set_cons_zero, List.set_cons_succ, i64_w, i32_w]
                        rfl
                      exact norm_ (by first | (simp only [putAll, Act.put, List.setIfInBounds_toArray, List.set_cons_zero, List.set_cons_succ]; done) | (simp only [putAll, Act.put, List.setIfInBounds_toArray, List.set_cons_zero, List.set_cons_succ]; rfl)) (hJ2_6_7 (w1.heap.size, ga7) _ ⟨cur3, blk_new _ _, (cur).size, p3_7, q7, (Nat.ne_of_gt (blk_lt p7))⟩)
                · skip
                  rintro ga6 w1 ⟨cur, p6, q6⟩
                  have hHeld : w1.cell? ⟨g7, 0, none⟩ = some (.int .i64 a0) ∧ w1.cell? ⟨g7, 1, none⟩ = some (.int .i64 a1) ∧ w1.cell? ⟨g8, 0, none⟩ = some (.int .i64 b0) ∧ w1.cell? ⟨g8, 1, none⟩ = some (.int .i64 b1) := ⟨cell_below (cur) x0, cell_below (cur) x1, cell_below (cur) x2, cell_below (cur) x3⟩
                  refine norm_ (a' := ?_) ?_ ?_
                  rotate_left
                  · simp only [putAll, Act.put, List.setIfInBounds_toArray, List.set_cons_zero, List.set_cons_succ]
                    rfl
                  refine two_ (i := 5) (j := 7) (Ni := some 18) (Nj := some 10) #[true, true, true, true, true, true, true, false, false, false] #[true, true, true, true, true, false, true, true, false, false] rfl rfl rfl rfl (by kernel_rfl) (by decide) (by decide) (fun K hK => ?_) (fun K hK => ?_)
                  · skip
                    refine goes_ Tryd.func20 (by kernel_rfl) rfl #[.agg #[.int .i64 a0, .int .i64 a1], .agg #[.int .i64 b0, .int .i64 b1]] (by rfl) rfl rfl (by simp only [List.map_toArray, List.map_cons, List.map_nil]; rfl) ?_
                    with_reducible refine (meet_to a0 a1 b0 b1 m0 m1 Hm.out _).mono ?_
                    rintro e w3 ⟨rfl, hb⟩
                    refine ⟨_, rfl, ?_⟩
                    have cur3 := seq (cur) hb
                    have p3_6 := blk_below p6 hb
                    refine hK.out _ _ ⟨cell_below (cur3) x0, cell_below (cur3) x1, cell_below (cur3) x2, cell_below (cur3) x3⟩ (fun hHeld => ?_)
                    clear hK K
                    refine norm_ (a' := ?_) ?_ ?_
                    rotate_left
                    · show Act.put _ (some 18) _ = _
                      simp only [Act.put, List.setIfInBounds_toArray, List.set_cons_zero, List.set_cons_succ, i64_w, i32_w]
                      rfl
                    exact norm_ (by first | (simp only [putAll, Act.put, List.setIfInBounds_toArray, List.set_cons_zero, List.set_cons_succ]; done) | (simp only [putAll, Act.put, List.setIfInBounds_toArray, List.set_cons_zero, List.set_cons_succ]; rfl)) (hJ2_5_6 ga6 _ ⟨cur3, p3_6, q6⟩)
                  · skip
                    refine value_ (w1 := ?_) (v := ?_) (by rfl) rfl ?_ ?_
                    rotate_left 2
                    · go_simp
                      constructor
                      · rfl
                      · rfl
                    have cur3 := Below.push (cur) (Nat.le_refl _) (.cells #[.int .i64 0, .int .i64 0] 24)
                    have p3_6 := blk_alloc p6 (.cells #[.int .i64 0, .int .i64 0] 24)
                    refine hK.out _ _ ⟨cell_below (cur3) x0, cell_below (cur3) x1, cell_below (cur3) x2, cell_below (cur3) x3⟩ (fun hHeld => ?_)
                    clear hK K
                    refine norm_ (a' := ?_) ?_ ?_
                    rotate_left
                    · show Act.put _ (some 10) _ = _
                      simp only [Act.put, List.setIfInBounds_toArray, List.set_cons_zero, List.set_cons_succ, i64_w, i32_w]
                      rfl
                    exact norm_ (by first | (simp only [putAll, Act.put, List.setIfInBounds_toArray, List.set_cons_zero, List.set_cons_succ]; done) | (simp only [putAll, Act.put, List.setIfInBounds_toArray, List.set_cons_zero, List.set_cons_succ]; rfl)) (hJ2_6_7 (ga6, w1.heap.size) _ ⟨cur3, p3_6, q6, blk_new _ _, (cur).size, (Nat.ne_of_lt (blk_lt p6))⟩)
              · skip
                rintro ⟨⟩ w1 cur
                have hHeld : w1.cell? ⟨g7, 0, none⟩ = some (.int .i64 a0) ∧ w1.cell? ⟨g7, 1, none⟩ = some (.int .i64 a1) ∧ w1.cell? ⟨g8, 0, none⟩ = some (.int .i64 b0) ∧ w1.cell? ⟨g8, 1, none⟩ = some (.int .i64 b1) := ⟨cell_below (cur) x0, cell_below (cur) x1, cell_below (cur) x2, cell_below (cur) x3⟩
                refine norm_ (a' := ?_) ?_ ?_
                rotate_left
                · simp only [putAll, Act.put, List.setIfInBounds_toArray, List.set_cons_zero, List.set_cons_succ]
                  rfl
                refine two_ (i := 6) (j := 7) (Ni := some 9) (Nj := some 10) #[true, true, true, true, true, true, true, false, false, false] #[true, true, true, true, true, true, false, true, false, false] rfl rfl rfl rfl (by kernel_rfl) (by decide) (by decide) (fun K hK => ?_) (fun K hK => ?_)
                · skip
                  refine value_ (w1 := ?_) (v := ?_) (by rfl) rfl ?_ ?_
                  rotate_left 2
                  · go_simp
                    constructor
                    · rfl
                    · rfl
                  have cur3 := Below.push (cur) (Nat.le_refl _) (.cells #[.int .i64 0, .int .i64 0] 24)
                  refine hK.out _ _ ⟨cell_below (cur3) x0, cell_below (cur3) x1, cell_below (cur3) x2, cell_below (cur3) x3⟩ (fun hHeld => ?_)
                  clear hK K
                  refine norm_ (a' := ?_) ?_ ?_
                  rotate_left
                  · show Act.put _ (some 9) _ = _
                    simp only [Act.put, List.setIfInBounds_toArray, List.set_cons_zero, List.set_cons_succ, i64_w, i32_w]
                    rfl
                  exact norm_ (by first | (simp only [putAll, Act.put, List.setIfInBounds_toArray, List.set_cons_zero, List.set_cons_succ]; done) | (simp only [putAll, Act.put, List.setIfInBounds_toArray, List.set_cons_zero, List.set_cons_succ]; rfl)) (hJ2_5_6 (w1.heap.size) _ ⟨cur3, blk_new _ _, (cur).size⟩)
                · skip
                  refine value_ (w1 := ?_) (v := ?_) (by rfl) rfl ?_ ?_
                  rotate_left 2
                  · go_simp
                    constructor
                    · rfl
                    · rfl
                  have cur3 := Below.push (cur) (Nat.le_refl _) (.cells #[.int .i64 0, .int .i64 0] 24)
                  refine hK.out _ _ ⟨cell_below (cur3) x0, cell_below (cur3) x1, cell_below (cur3) x2, cell_below (cur3) x3⟩ (fun hHeld => ?_)
                  clear hK K
                  refine norm_ (a' := ?_) ?_ ?_
                  rotate_left
                  · show Act.put _ (some 10) _ = _
                    simp only [Act.put, List.setIfInBounds_toArray, List.set_cons_zero, List.set_cons_succ, i64_w, i32_w]
                    rfl
                  exact norm_ (by first | (simp only [putAll, Act.put, List.setIfInBounds_toArray, List.set_cons_zero, List.set_cons_succ]; done) | (simp only [putAll, Act.put, List.setIfInBounds_toArray, List.set_cons_zero, List.set_cons_succ]; rfl)) (hJ2_5_7 (w1.heap.size) _ ⟨cur3, blk_new _ _, (cur).size⟩)
            · skip
              rintro ⟨ga6, ga7⟩ w1 ⟨cur, p6, q6, p7, q7, ne6_7⟩
              dsimp only at p6 q6 p7 q7 ne6_7
              have hHeld : w1.cell? ⟨g7, 0, none⟩ = some (.int .i64 a0) ∧ w1.cell? ⟨g7, 1, none⟩ = some (.int .i64 a1) ∧ w1.cell? ⟨g8, 0, none⟩ = some (.int .i64 b0) ∧ w1.cell? ⟨g8, 1, none⟩ = some (.int .i64 b1) := ⟨cell_below (cur) x0, cell_below (cur) x1, cell_below (cur) x2, cell_below (cur) x3⟩
              refine norm_ (a' := ?_) ?_ ?_
              rotate_left
              · simp only [putAll, Act.put, List.setIfInBounds_toArray, List.set_cons_zero, List.set_cons_succ]
                rfl
              refine one_ (i := 5) (N := some 18) #[true, true, true, true, true, true, true, true, false, false] rfl rfl (by kernel_rfl) (by decide) (fun K hK => ?_)
              refine goes_ Tryd.func20 (by kernel_rfl) rfl #[.agg #[.int .i64 a0, .int .i64 a1], .agg #[.int .i64 b0, .int .i64 b1]] (by rfl) rfl rfl (by simp only [List.map_toArray, List.map_cons, List.map_nil]; rfl) ?_
              with_reducible refine (meet_to a0 a1 b0 b1 m0 m1 Hm.out _).mono ?_
              rintro e w3 ⟨rfl, hb⟩
              refine ⟨_, rfl, ?_⟩
              have cur3 := seq (cur) hb
              have p3_6 := blk_below p6 hb
              have p3_7 := blk_below p7 hb
              refine hK.out _ _ ⟨cell_below (cur3) x0, cell_below (cur3) x1, cell_below (cur3) x2, cell_below (cur3) x3⟩ (fun hHeld => ?_)
              clear hK K
              refine norm_ (a' := ?_) ?_ ?_
              rotate_left
              · show Act.put _ (some 18) _ = _
                simp only [Act.put, List.setIfInBounds_toArray, List.set_cons_zero, List.set_cons_succ, i64_w, i32_w]
                rfl
              exact norm_ (by first | (simp only [putAll, Act.put, List.setIfInBounds_toArray, List.set_cons_zero, List.set_cons_succ]; done) | (simp only [putAll, Act.put, List.setIfInBounds_toArray, List.set_cons_zero, List.set_cons_succ]; rfl)) (hJ2_5_6_7 (ga6, ga7) _ ⟨cur3, p3_6, q6, p3_7, q7, ne6_7⟩)
          · skip
            rintro ga7 w1 ⟨cur, p7, q7⟩
            have hHeld : w1.cell? ⟨g7, 0, none⟩ = some (.int .i64 a0) ∧ w1.cell? ⟨g7, 1, none⟩ = some (.int .i64 a1) ∧ w1.cell? ⟨g8, 0, none⟩ = some (.int .i64 b0) ∧ w1.cell? ⟨g8, 1, none⟩ = some (.int .i64 b1) := ⟨cell_below (cur) x0, cell_below (cur) x1, cell_below (cur) x2, cell_below (cur) x3⟩
            refine norm_ (a' := ?_) ?_ ?_
            rotate_left
            · simp only [putAll, Act.put, List.setIfInBounds_toArray, List.set_cons_zero, List.set_cons_succ]
              rfl
            refine one_ (i := 6) (N := some 9) #[true, true, true, true, true, true, true, true, false, false] rfl rfl (by kernel_rfl) (by decide) (fun K hK => ?_)
            refine value_ (w1 := ?_) (v := ?_) (by rfl) rfl ?_ ?_
            rotate_left 2
            · go_simp
              constructor
              · rfl
              · rfl
            have cur3 := Below.push (cur) (Nat.le_refl _) (.cells #[.int .i64 0, .int .i64 0] 24)
            have p3_7 := blk_alloc p7 (.cells #[.int .i64 0, .int .i64 0] 24)
            refine hK.out _ _ ⟨cell_below (cur3) x0, cell_below (cur3) x1, cell_below (cur3) x2, cell_below (cur3) x3⟩ (fun hHeld => ?_)
            clear hK K
            refine norm_ (a' := ?_) ?_ ?_
            rotate_left
            · show Act.put _ (some 9) _ = _
              simp only [Act.put, List.setIfInBounds_toArray, List.set_cons_zero, List.set_cons_succ, i64_w, i32_w]
              rfl
            exact norm_ (by first | (simp only [putAll, Act.put, List.setIfInBounds_toArray, List.set_cons_zero, List.set_cons_succ]; done) | (simp only [putAll, Act.put, List.setIfInBounds_toArray, List.set_cons_zero, List.set_cons_succ]; rfl)) (hJ2_5_6_7 (w1.heap.size, ga7) _ ⟨cur3, blk_new _ _, (cur).size, p3_7, q7, (Nat.ne_of_gt (blk_lt p7))⟩)
        · skip
          rintro ga6 w1 ⟨cur, p6, q6⟩
          have hHeld : w1.cell? ⟨g7, 0, none⟩ = some (.int .i64 a0) ∧ w1.cell? ⟨g7, 1, none⟩ = some (.int .i64 a1) ∧ w1.cell? ⟨g8, 0, none⟩ = some (.int .i64 b0) ∧ w1.cell? ⟨g8, 1, none⟩ = some (.int .i64 b1) := ⟨cell_below (cur) x0, cell_below (cur) x1, cell_below (cur) x2, cell_below (cur) x3⟩
          refine norm_ (a' := ?_) ?_ ?_
          rotate_left
          · simp only [putAll, Act.put, List.setIfInBounds_toArray, List.set_cons_zero, List.set_cons_succ]
            rfl
          refine one_ (i := 7) (N := some 10) #[true, true, true, true, true, true, true, true, false, false] rfl rfl (by kernel_rfl) (by decide) (fun K hK => ?_)
          refine value_ (w1 := ?_) (v := ?_) (by rfl) rfl ?_ ?_
          rotate_left 2
          · go_simp
            constructor
            · rfl
            · rfl
          have cur3 := Below.push (cur) (Nat.le_refl _) (.cells #[.int .i64 0, .int .i64 0] 24)
          have p3_6 := blk_alloc p6 (.cells #[.int .i64 0, .int .i64 0] 24)
          refine hK.out _ _ ⟨cell_below (cur3) x0, cell_below (cur3) x1, cell_below (cur3) x2, cell_below (cur3) x3⟩ (fun hHeld => ?_)
          clear hK K
          refine norm_ (a' := ?_) ?_ ?_
          rotate_left
          · show Act.put _ (some 10) _ = _
            simp only [Act.put, List.setIfInBounds_toArray, List.set_cons_zero, List.set_cons_succ, i64_w, i32_w]
            rfl
          exact norm_ (by first | (simp only [putAll, Act.put, List.setIfInBounds_toArray, List.set_cons_zero, List.set_cons_succ]; done) | (simp only [putAll, Act.put, List.setIfInBounds_toArray, List.set_cons_zero, List.set_cons_succ]; rfl)) (hJ2_5_6_7 (ga6, w1.heap.size) _ ⟨cur3, p3_6, q6, blk_new _ _, (cur).size, (Nat.ne_of_lt (blk_lt p6))⟩)
      rintro ⟨ga6, ga7⟩ w1 ⟨cur, p6, q6, p7, q7, ne6_7⟩
      dsimp only at p6 q6 p7 q7 ne6_7
      have hHeld : w1.cell? ⟨g7, 0, none⟩ = some (.int .i64 a0) ∧ w1.cell? ⟨g7, 1, none⟩ = some (.int .i64 a1) ∧ w1.cell? ⟨g8, 0, none⟩ = some (.int .i64 b0) ∧ w1.cell? ⟨g8, 1, none⟩ = some (.int .i64 b1) := ⟨cell_below (cur) x0, cell_below (cur) x1, cell_below (cur) x2, cell_below (cur) x3⟩
      refine norm_ (a' := ?_) ?_ ?_
      rotate_left
      · simp only [putAll, Act.put, List.setIfInBounds_toArray, List.set_cons_zero, List.set_cons_succ]
        rfl
      refine last_ (i := 8) (N := none) #[true, true, true, true, true, true, true, true, true, false] rfl rfl (by kernel_rfl) (by decide) (fun K hK => ?_)
      obtain ⟨u6_0, u6_1, u6_2, u6_3⟩ := cells2 p6
      obtain ⟨u7_0, u7_1, u7_2, u7_3⟩ := cells2 p7
      refine skip_ (w1 := ?_) (by rfl) rfl ?_ ?_
      rotate_left
      · go_simp
        rfl
      refine hK.out _ _ ?_
      clear hK K
      refine last_ (i := 9) (N := none) #[true, true, true, true, true, true, true, true, true, true] rfl rfl (by kernel_rfl) (by decide) (fun K hK => ?_)
      refine skip_ (w1 := ?_) (by rfl) rfl ?_ ?_
      rotate_left
      · go_simp
        rfl
      refine hK.out _ _ ?_
      clear hK K
      refine done_ (by kernel_rfl) ?_
      go_wp2_with fail
      go_meet
      have BB := seq Hx0.out cur
      have z0 := Hx0.out.size
      have l7 := blk_lt K7.out
      have l8 := blk_lt K8.out
      have n1 : g7 ≠ ga6 := by omega
      have n2 : g7 ≠ ga7 := by omega
      have n3 : g8 ≠ ga6 := by omega
      have n4 : g8 ≠ ga7 := by omega
      have E1 := Lib.hid (put2_below (.int .i64 j0) (.int .i64 j1) (.int .i64 m0) (.int .i64 m1) BB (show w.heap.size ≤ ga6 by omega) (show w.heap.size ≤ ga7 by omega))
      have E2 := Lib.hid (put2_far (.int .i64 j0) (.int .i64 j1) (.int .i64 m0) (.int .i64 m1) (blk_below K7.out cur) n1 n2)
      have E3 := Lib.hid (put2_far (.int .i64 j0) (.int .i64 j1) (.int .i64 m0) (.int .i64 m1) (blk_below K8.out cur) n3 n4)
      have E4 := Lib.hid (put2_a (.int .i64 j0) (.int .i64 j1) (.int .i64 m0) (.int .i64 m1) p6 ne6_7)
      have E5 := Lib.hid (put2_b (.int .i64 j0) (.int .i64 j1) (.int .i64 m0) (.int .i64 m1) p7 ne6_7)
      exact ⟨ga6, ga7, rfl, rfl, E1, E2, E3, E4, E5⟩
    case rest =>
      clear Hx0 x0 x1 x2 x3 K7 K8
      obtain ⟨g9, g10, rfl, rfl, HB, K7, K8, K9, K10⟩ := hcut
      obtain ⟨x0, x1, -, -⟩ := cells2 K7.out
      obtain ⟨x2, x3, -, -⟩ := cells2 K8.out
      obtain ⟨x4, x5, -, -⟩ := cells2 K9.out
      obtain ⟨x6, x7, -, -⟩ := cells2 K10.out
      clear K7 K8 K9 K10
      go_wp2_with fail
      (try simp only [List.append])
      refine wp_region_held_drew (S := fun w' => w'.cell? ⟨g7, 0, none⟩ = some (.int .i64 a0) ∧ w'.cell? ⟨g7, 1, none⟩ = some (.int .i64 a1) ∧ w'.cell? ⟨g8, 0, none⟩ = some (.int .i64 b0) ∧ w'.cell? ⟨g8, 1, none⟩ = some (.int .i64 b1) ∧ w'.cell? ⟨g9, 0, none⟩ = some (.int .i64 j0) ∧ w'.cell? ⟨g9, 1, none⟩ = some (.int .i64 j1) ∧ w'.cell? ⟨g10, 0, none⟩ = some (.int .i64 m0) ∧ w'.cell? ⟨g10, 1, none⟩ = some (.int .i64 m1)) (by kernel_rfl) ?_ (fun hHeld => ?_)
      focus ((try dsimp only); (first | done | (exact ⟨cell_below ((Below.refl wc.heap.size wc).drew) x0, cell_below ((Below.refl wc.heap.size wc).drew) x1, cell_below ((Below.refl wc.heap.size wc).drew) x2, cell_below ((Below.refl wc.heap.size wc).drew) x3, cell_below ((Below.refl wc.heap.size wc).drew) x4, cell_below ((Below.refl wc.heap.size wc).drew) x5, cell_below ((Below.refl wc.heap.size wc).drew) x6, cell_below ((Below.refl wc.heap.size wc).drew) x7⟩)); done)
      refine wpAnyH_ready (rs := [0]) (by kernel_rfl) (by simp) (AllReadyH.cons (o := ⟨some 19, _, _, _, _, _⟩) rfl (fun K hK => ?_) AllReadyH.nil)
      go_simp
      refine (alive02 (HT.out.below (seq HB.out ((Below.refl wc.heap.size wc).drew)))).mono ?_
      rintro e w3 ⟨rfl, hb⟩
      have cur := seq ((Below.refl wc.heap.size wc).drew) hb
      clear hb
      (try dsimp only)
      refine Shut.out hK _ _ (by (try dsimp only); (first | done | (exact ⟨cell_below (cur) x0, cell_below (cur) x1, cell_below (cur) x2, cell_below (cur) x3, cell_below (cur) x4, cell_below (cur) x5, cell_below (cur) x6, cell_below (cur) x7⟩))) (fun hHeld => ?_)
      clear hK K
      (first | (simp only [Act.put, List.setIfInBounds_toArray, List.set_cons_zero, List.set_cons_succ]) | (simp only [Act.put, List.setIfInBounds_toArray, List.set]) | (simp only [Act.put]) | skip)
      (refine wpAnyH_take (i := 1) (oi := ⟨some 20, _, _, _, _, _⟩) (v := ?_) rfl (by kernel_rfl) (by kernel_rfl) (by kernel_rfl) (fun _ _ _ h => h) (Or.inl ⟨by kernel_rfl, ?_⟩) hHeld ?_; rotate_left; focus (intro w hSw; (try dsimp only at hSw); go_simp; (try with_reducible rfl); done); (first | (simp only [Act.put, List.setIfInBounds_toArray, List.set_cons_zero, List.set_cons_succ]) | (simp only [Act.put, List.setIfInBounds_toArray, List.set]) | (simp only [Act.put]) | skip))
      (refine wpAnyH_take (i := 2) (oi := ⟨some 21, _, _, _, _, _⟩) (v := ?_) rfl (by kernel_rfl) (by kernel_rfl) (by kernel_rfl) (fun _ _ _ h => h) (Or.inl ⟨by kernel_rfl, ?_⟩) hHeld ?_; rotate_left; focus (intro w hSw; (try dsimp only at hSw); go_simp; (try with_reducible rfl); done); (first | (simp only [Act.put, List.setIfInBounds_toArray, List.set_cons_zero, List.set_cons_succ]) | (simp only [Act.put, List.setIfInBounds_toArray, List.set]) | (simp only [Act.put]) | skip))
      (refine wpAnyH_take (i := 3) (oi := ⟨some 22, _, _, _, _, _⟩) (v := ?_) rfl (by kernel_rfl) (by kernel_rfl) (by kernel_rfl) (fun _ _ _ h => h) (Or.inl ⟨by kernel_rfl, ?_⟩) hHeld ?_; rotate_left; focus (intro w hSw; (try dsimp only at hSw); go_simp; (try with_reducible rfl); done); (first | (simp only [Act.put, List.setIfInBounds_toArray, List.set_cons_zero, List.set_cons_succ]) | (simp only [Act.put, List.setIfInBounds_toArray, List.set]) | (simp only [Act.put]) | skip))
      (refine wpAnyH_take (i := 5) (oi := ⟨some 24, _, _, _, _, _⟩) (v := ?_) rfl (by kernel_rfl) (by kernel_rfl) (by kernel_rfl) (fun _ _ _ h => h) (Or.inl ⟨by kernel_rfl, ?_⟩) hHeld ?_; rotate_left; focus (intro w hSw; (try dsimp only at hSw); go_simp; (try with_reducible rfl); done); (first | (simp only [Act.put, List.setIfInBounds_toArray, List.set_cons_zero, List.set_cons_succ]) | (simp only [Act.put, List.setIfInBounds_toArray, List.set]) | (simp only [Act.put]) | skip))
      (refine wpAnyH_take (i := 6) (oi := ⟨some 25, _, _, _, _, _⟩) (v := ?_) rfl (by kernel_rfl) (by kernel_rfl) (by kernel_rfl) (fun _ _ _ h => h) (Or.inl ⟨by kernel_rfl, ?_⟩) hHeld ?_; rotate_left; focus (intro w hSw; (try dsimp only at hSw); go_simp; (try with_reducible rfl); done); (first | (simp only [Act.put, List.setIfInBounds_toArray, List.set_cons_zero, List.set_cons_succ]) | (simp only [Act.put, List.setIfInBounds_toArray, List.set]) | (simp only [Act.put]) | skip))
      refine wpAnyH_ready (rs := [4]) (by kernel_rfl) (by simp) (AllReadyH.cons (o := ⟨some 23, _, _, _, _, _⟩) rfl (fun K hK => ?_) AllReadyH.nil)
      go_simp
      refine (has_to m0 m1 n hy (by rw [Hmh.out, HX.out, HY.out]; rfl) _).mono ?_
      rintro e w3 ⟨rfl, hb⟩
      replace cur := seq cur hb
      clear hb
      (try dsimp only)
      refine Shut.out hK _ _ (by (try dsimp only); (first | done | (exact ⟨cell_below (cur) x0, cell_below (cur) x1, cell_below (cur) x2, cell_below (cur) x3, cell_below (cur) x4, cell_below (cur) x5, cell_below (cur) x6, cell_below (cur) x7⟩))) (fun hHeld => ?_)
      clear hK K
      (first | (simp only [Act.put, List.setIfInBounds_toArray, List.set_cons_zero, List.set_cons_succ]) | (simp only [Act.put, List.setIfInBounds_toArray, List.set]) | (simp only [Act.put]) | skip)
      refine wpAnyH_ready (rs := [7]) (by kernel_rfl) (by simp) (AllReadyH.cons (o := ⟨some 26, _, _, _, _, _⟩) rfl (fun K hK => ?_) AllReadyH.nil)
      go_simp
      refine (has_to a0 a1 n true HX.out _).mono ?_
      rintro e w3 ⟨rfl, hb⟩
      replace cur := seq cur hb
      clear hb
      (try dsimp only)
      refine Shut.out hK _ _ (by (try dsimp only); (first | done | (exact ⟨cell_below (cur) x0, cell_below (cur) x1, cell_below (cur) x2, cell_below (cur) x3, cell_below (cur) x4, cell_below (cur) x5, cell_below (cur) x6, cell_below (cur) x7⟩))) (fun hHeld => ?_)
      clear hK K
      (first | (simp only [Act.put, List.setIfInBounds_toArray, List.set_cons_zero, List.set_cons_succ]) | (simp only [Act.put, List.setIfInBounds_toArray, List.set]) | (simp only [Act.put]) | skip)
      (refine wpAnyH_take (i := 8) (oi := ⟨some 27, _, _, _, _, _⟩) (v := ?_) rfl (by kernel_rfl) (by kernel_rfl) (by kernel_rfl) (fun _ _ _ h => h) (Or.inl ⟨by kernel_rfl, ?_⟩) hHeld ?_; rotate_left; focus (intro w hSw; (try dsimp only at hSw); go_simp; (try with_reducible rfl); done); (first | (simp only [Act.put, List.setIfInBounds_toArray, List.set_cons_zero, List.set_cons_succ]) | (simp only [Act.put, List.setIfInBounds_toArray, List.set]) | (simp only [Act.put]) | skip))
      (refine wpAnyH_take (i := 9) (oi := ⟨some 28, _, _, _, _, _⟩) (v := ?_) rfl (by kernel_rfl) (by kernel_rfl) (by kernel_rfl) (fun _ _ _ h => h) (Or.inl ⟨by kernel_rfl, ?_⟩) hHeld ?_; rotate_left; focus (intro w hSw; (try dsimp only at hSw); go_simp; (try with_reducible rfl); done); (first | (simp only [Act.put, List.setIfInBounds_toArray, List.set_cons_zero, List.set_cons_succ]) | (simp only [Act.put, List.setIfInBounds_toArray, List.set]) | (simp only [Act.put]) | skip))
      (refine wpAnyH_take (i := 10) (oi := ⟨some 29, _, _, _, _, _⟩) (v := ?_) rfl (by kernel_rfl) (by kernel_rfl) (by kernel_rfl) (fun _ _ _ h => h) (Or.inl ⟨by kernel_rfl, ?_⟩) hHeld ?_; rotate_left; focus (intro w hSw; (try dsimp only at hSw); go_simp; (try with_reducible rfl); done); (first | (simp only [Act.put, List.setIfInBounds_toArray, List.set_cons_zero, List.set_cons_succ]) | (simp only [Act.put, List.setIfInBounds_toArray, List.set]) | (simp only [Act.put]) | skip))
      refine wpAnyH_ready (rs := [11]) (by kernel_rfl) (by simp) (AllReadyH.cons (o := ⟨some 30, _, _, _, _, _⟩) rfl (fun K hK => ?_) AllReadyH.nil)
      go_simp
      refine (has_to b0 b1 n hy HY.out _).mono ?_
      rintro e w3 ⟨rfl, hb⟩
      replace cur := seq cur hb
      clear hb
      (try dsimp only)
      refine Shut.out hK _ _ (by (try dsimp only); (first | done | (exact ⟨cell_below (cur) x0, cell_below (cur) x1, cell_below (cur) x2, cell_below (cur) x3, cell_below (cur) x4, cell_below (cur) x5, cell_below (cur) x6, cell_below (cur) x7⟩))) (fun hHeld => ?_)
      clear hK K
      (first | (simp only [Act.put, List.setIfInBounds_toArray, List.set_cons_zero, List.set_cons_succ]) | (simp only [Act.put, List.setIfInBounds_toArray, List.set]) | (simp only [Act.put]) | skip)
      (refine wpAnyH_take (i := 12) (oi := ⟨some 31, _, _, _, _, _⟩) (v := ?_) rfl (by kernel_rfl) (by kernel_rfl) (by kernel_rfl) (fun _ _ _ h => h) (Or.inl ⟨by kernel_rfl, ?_⟩) hHeld ?_; rotate_left; focus (intro w hSw; (try dsimp only at hSw); go_simp; (try with_reducible rfl); done); (first | (simp only [Act.put, List.setIfInBounds_toArray, List.set_cons_zero, List.set_cons_succ]) | (simp only [Act.put, List.setIfInBounds_toArray, List.set]) | (simp only [Act.put]) | skip))
      (refine wpAnyH_take (i := 13) (oi := ⟨some 32, _, _, _, _, _⟩) (v := ?_) rfl (by kernel_rfl) (by kernel_rfl) (by kernel_rfl) (fun _ _ _ h => h) (Or.inl ⟨by kernel_rfl, ?_⟩) hHeld ?_; rotate_left; focus (intro w hSw; (try dsimp only at hSw); go_simp; (try with_reducible rfl); done); (first | (simp only [Act.put, List.setIfInBounds_toArray, List.set_cons_zero, List.set_cons_succ]) | (simp only [Act.put, List.setIfInBounds_toArray, List.set]) | (simp only [Act.put]) | skip))
      (refine wpAnyH_take (i := 14) (oi := ⟨some 33, _, _, _, _, _⟩) (v := ?_) rfl (by kernel_rfl) (by kernel_rfl) (by kernel_rfl) (fun _ _ _ h => h) (Or.inl ⟨by kernel_rfl, ?_⟩) hHeld ?_; rotate_left; focus (intro w hSw; (try dsimp only at hSw); go_simp; (try with_reducible rfl); done); (first | (simp only [Act.put, List.setIfInBounds_toArray, List.set_cons_zero, List.set_cons_succ]) | (simp only [Act.put, List.setIfInBounds_toArray, List.set]) | (simp only [Act.put]) | skip))
      (refine wpAnyH_take (i := 15) (oi := ⟨some 34, _, _, _, _, _⟩) (v := ?_) rfl (by kernel_rfl) (by kernel_rfl) (by kernel_rfl) (fun _ _ _ h => h) (Or.inl ⟨by kernel_rfl, ?_⟩) hHeld ?_; rotate_left; focus (intro w hSw; (try dsimp only at hSw); go_simp; (try with_reducible rfl); done); (first | (simp only [Act.put, List.setIfInBounds_toArray, List.set_cons_zero, List.set_cons_succ]) | (simp only [Act.put, List.setIfInBounds_toArray, List.set]) | (simp only [Act.put]) | skip))
      (refine wpAnyH_take (i := 16) (oi := ⟨some 35, _, _, _, _, _⟩) (v := ?_) rfl (by kernel_rfl) (by kernel_rfl) (by kernel_rfl) (fun _ _ _ h => h) (Or.inl ⟨by kernel_rfl, ?_⟩) hHeld ?_; rotate_left; focus (intro w hSw; (try dsimp only at hSw); go_simp; (try with_reducible rfl); done); (first | (simp only [Act.put, List.setIfInBounds_toArray, List.set_cons_zero, List.set_cons_succ]) | (simp only [Act.put, List.setIfInBounds_toArray, List.set]) | (simp only [Act.put]) | skip))
      (refine wpAnyH_take (i := 17) (oi := ⟨some 36, _, _, _, _, _⟩) (v := ?_) rfl (by kernel_rfl) (by kernel_rfl) (by kernel_rfl) (fun _ _ _ h => h) (Or.inl ⟨by kernel_rfl, ?_⟩) hHeld ?_; rotate_left; focus (intro w hSw; (try dsimp only at hSw); go_simp; (try with_reducible rfl); done); (first | (simp only [Act.put, List.setIfInBounds_toArray, List.set_cons_zero, List.set_cons_succ]) | (simp only [Act.put, List.setIfInBounds_toArray, List.set]) | (simp only [Act.put]) | skip))
      refine wpAnyH_ready (rs := [18]) (by kernel_rfl) (by simp) (AllReadyH.cons (o := ⟨some 37, _, _, _, _, _⟩) rfl (fun K hK => ?_) AllReadyH.nil)
      go_simp
      refine (has_to a0 a1 n true HX.out _).mono ?_
      rintro e w3 ⟨rfl, hb⟩
      replace cur := seq cur hb
      clear hb
      (try dsimp only)
      refine Shut.out hK _ _ (by (try dsimp only); (first | done | (exact ⟨cell_below (cur) x0, cell_below (cur) x1, cell_below (cur) x2, cell_below (cur) x3, cell_below (cur) x4, cell_below (cur) x5, cell_below (cur) x6, cell_below (cur) x7⟩))) (fun hHeld => ?_)
      clear hK K
      (first | (simp only [Act.put, List.setIfInBounds_toArray, List.set_cons_zero, List.set_cons_succ]) | (simp only [Act.put, List.setIfInBounds_toArray, List.set]) | (simp only [Act.put]) | skip)
      (refine wpAnyH_take (i := 19) (oi := ⟨some 38, _, _, _, _, _⟩) (v := ?_) rfl (by kernel_rfl) (by kernel_rfl) (by kernel_rfl) (fun _ _ _ h => h) (Or.inl ⟨by kernel_rfl, ?_⟩) hHeld ?_; rotate_left; focus (intro w hSw; (try dsimp only at hSw); go_simp; (try with_reducible rfl); done); (first | (simp only [Act.put, List.setIfInBounds_toArray, List.set_cons_zero, List.set_cons_succ]) | (simp only [Act.put, List.setIfInBounds_toArray, List.set]) | (simp only [Act.put]) | skip))
      (refine wpAnyH_take (i := 20) (oi := ⟨some 39, _, _, _, _, _⟩) (v := ?_) rfl (by kernel_rfl) (by kernel_rfl) (by kernel_rfl) (fun _ _ _ h => h) (Or.inl ⟨by kernel_rfl, ?_⟩) hHeld ?_; rotate_left; focus (intro w hSw; (try dsimp only at hSw); go_simp; (try with_reducible rfl); done); (first | (simp only [Act.put, List.setIfInBounds_toArray, List.set_cons_zero, List.set_cons_succ]) | (simp only [Act.put, List.setIfInBounds_toArray, List.set]) | (simp only [Act.put]) | skip))
      (refine wpAnyH_take (i := 21) (oi := ⟨some 40, _, _, _, _, _⟩) (v := undef) rfl (by kernel_rfl) (by kernel_rfl) (by kernel_rfl) (fun _ _ _ h => h) (Or.inr ⟨by kernel_rfl, rfl⟩) hHeld ?_; (first | (simp only [Act.put, List.setIfInBounds_toArray, List.set_cons_zero, List.set_cons_succ]) | (simp only [Act.put, List.setIfInBounds_toArray, List.set]) | (simp only [Act.put]) | skip))
      (refine wpAnyH_take (i := 22) (oi := ⟨some 41, _, _, _, _, _⟩) (v := undef) rfl (by kernel_rfl) (by kernel_rfl) (by kernel_rfl) (fun _ _ _ h => h) (Or.inr ⟨by kernel_rfl, rfl⟩) hHeld ?_; (first | (simp only [Act.put, List.setIfInBounds_toArray, List.set_cons_zero, List.set_cons_succ]) | (simp only [Act.put, List.setIfInBounds_toArray, List.set]) | (simp only [Act.put]) | skip))
      (refine wpAnyH_take (i := 23) (oi := ⟨some 42, _, _, _, _, _⟩) (v := undef) rfl (by kernel_rfl) (by kernel_rfl) (by kernel_rfl) (fun _ _ _ h => h) (Or.inr ⟨by kernel_rfl, rfl⟩) hHeld ?_; (first | (simp only [Act.put, List.setIfInBounds_toArray, List.set_cons_zero, List.set_cons_succ]) | (simp only [Act.put, List.setIfInBounds_toArray, List.set]) | (simp only [Act.put]) | skip))
      (refine wpAnyH_take (i := 24) (oi := ⟨some 43, _, _, _, _, _⟩) (v := undef) rfl (by kernel_rfl) (by kernel_rfl) (by kernel_rfl) (fun _ _ _ h => h) (Or.inr ⟨by kernel_rfl, rfl⟩) hHeld ?_; (first | (simp only [Act.put, List.setIfInBounds_toArray, List.set_cons_zero, List.set_cons_succ]) | (simp only [Act.put, List.setIfInBounds_toArray, List.set]) | (simp only [Act.put]) | skip))
      (refine wpAnyH_take (i := 25) (oi := ⟨some 44, _, _, _, _, _⟩) (v := ?_) rfl (by kernel_rfl) (by kernel_rfl) (by kernel_rfl) (fun _ _ _ h => h) (Or.inl ⟨by kernel_rfl, ?_⟩) hHeld ?_; rotate_left; focus (intro w hSw; (try dsimp only at hSw); go_simp; (try with_reducible rfl); done); (first | (simp only [Act.put, List.setIfInBounds_toArray, List.set_cons_zero, List.set_cons_succ]) | (simp only [Act.put, List.setIfInBounds_toArray, List.set]) | (simp only [Act.put]) | skip))
      (refine wpAnyH_take (i := 26) (oi := ⟨some 45, _, _, _, _, _⟩) (v := ?_) rfl (by kernel_rfl) (by kernel_rfl) (by kernel_rfl) (fun _ _ _ h => h) (Or.inl ⟨by kernel_rfl, ?_⟩) hHeld ?_; rotate_left; focus (intro w hSw; (try dsimp only at hSw); go_simp; (try with_reducible rfl); done); (first | (simp only [Act.put, List.setIfInBounds_toArray, List.set_cons_zero, List.set_cons_succ]) | (simp only [Act.put, List.setIfInBounds_toArray, List.set]) | (simp only [Act.put]) | skip))
      (refine wpAnyH_take (i := 27) (oi := ⟨some 46, _, _, _, _, _⟩) (v := ?_) rfl (by kernel_rfl) (by kernel_rfl) (by kernel_rfl) (fun _ _ _ h => h) (Or.inl ⟨by kernel_rfl, ?_⟩) hHeld ?_; rotate_left; focus (intro w hSw; (try dsimp only at hSw); go_simp; (try with_reducible rfl); done); (first | (simp only [Act.put, List.setIfInBounds_toArray, List.set_cons_zero, List.set_cons_succ]) | (simp only [Act.put, List.setIfInBounds_toArray, List.set]) | (simp only [Act.put]) | skip))
      (refine wpAnyH_take (i := 28) (oi := ⟨some 47, _, _, _, _, _⟩) (v := ?_) rfl (by kernel_rfl) (by kernel_rfl) (by kernel_rfl) (fun _ _ _ h => h) (Or.inl ⟨by kernel_rfl, ?_⟩) hHeld ?_; rotate_left; focus (intro w hSw; (try dsimp only at hSw); go_simp; (try with_reducible rfl); done); (first | (simp only [Act.put, List.setIfInBounds_toArray, List.set_cons_zero, List.set_cons_succ]) | (simp only [Act.put, List.setIfInBounds_toArray, List.set]) | (simp only [Act.put]) | skip))
      refine wpAnyH_ready (rs := [29]) (by kernel_rfl) (by simp) (AllReadyH.cons (o := ⟨some 48, _, _, _, _, _⟩) rfl (fun K hK => ?_) AllReadyH.nil)
      go_simp
      refine (has_to j0 j1 n true (Hjh.out (by rw [HX.out, HY.out]; first | rfl | exact Bool.true_or _)) _).mono ?_
      rintro e w3 ⟨rfl, hb⟩
      replace cur := seq cur hb
      clear hb
      (try dsimp only)
      refine Shut.out hK _ _ (by (try dsimp only); (first | done | (exact ⟨cell_below (cur) x0, cell_below (cur) x1, cell_below (cur) x2, cell_below (cur) x3, cell_below (cur) x4, cell_below (cur) x5, cell_below (cur) x6, cell_below (cur) x7⟩))) (fun hHeld => ?_)
      clear hK K
      (first | (simp only [Act.put, List.setIfInBounds_toArray, List.set_cons_zero, List.set_cons_succ]) | (simp only [Act.put, List.setIfInBounds_toArray, List.set]) | (simp only [Act.put]) | skip)
      (refine wpAnyH_take (i := 30) (oi := ⟨some 49, _, _, _, _, _⟩) (v := ?_) rfl (by kernel_rfl) (by kernel_rfl) (by kernel_rfl) (fun _ _ _ h => h) (Or.inl ⟨by kernel_rfl, ?_⟩) hHeld ?_; rotate_left; focus (intro w hSw; (try dsimp only at hSw); go_simp; (try with_reducible rfl); done); (first | (simp only [Act.put, List.setIfInBounds_toArray, List.set_cons_zero, List.set_cons_succ]) | (simp only [Act.put, List.setIfInBounds_toArray, List.set]) | (simp only [Act.put]) | skip))
      (refine wpAnyH_take (i := 31) (oi := ⟨some 50, _, _, _, _, _⟩) (v := ?_) rfl (by kernel_rfl) (by kernel_rfl) (by kernel_rfl) (fun _ _ _ h => h) (Or.inl ⟨by kernel_rfl, ?_⟩) hHeld ?_; rotate_left; focus (intro w hSw; (try dsimp only at hSw); go_simp; (try with_reducible rfl); done); (first | (simp only [Act.put, List.setIfInBounds_toArray, List.set_cons_zero, List.set_cons_succ]) | (simp only [Act.put, List.setIfInBounds_toArray, List.set]) | (simp only [Act.put]) | skip))
      (refine wpAnyH_take (i := 32) (oi := ⟨some 51, _, _, _, _, _⟩) (v := ?_) rfl (by kernel_rfl) (by kernel_rfl) (by kernel_rfl) (fun _ _ _ h => h) (Or.inl ⟨by kernel_rfl, ?_⟩) hHeld ?_; rotate_left; focus (intro w hSw; (try dsimp only at hSw); go_simp; (try with_reducible rfl); done); (first | (simp only [Act.put, List.setIfInBounds_toArray, List.set_cons_zero, List.set_cons_succ]) | (simp only [Act.put, List.setIfInBounds_toArray, List.set]) | (simp only [Act.put]) | skip))
      (refine wpAnyH_take (i := 33) (oi := ⟨some 52, _, _, _, _, _⟩) (v := ?_) rfl (by kernel_rfl) (by kernel_rfl) (by kernel_rfl) (fun _ _ _ h => h) (Or.inl ⟨by kernel_rfl, ?_⟩) hHeld ?_; rotate_left; focus (intro w hSw; (try dsimp only at hSw); go_simp; (try with_reducible rfl); done); (first | (simp only [Act.put, List.setIfInBounds_toArray, List.set_cons_zero, List.set_cons_succ]) | (simp only [Act.put, List.setIfInBounds_toArray, List.set]) | (simp only [Act.put]) | skip))
      (refine wpAnyH_take (i := 34) (oi := ⟨some 53, _, _, _, _, _⟩) (v := ?_) rfl (by kernel_rfl) (by kernel_rfl) (by kernel_rfl) (fun _ _ _ h => h) (Or.inl ⟨by kernel_rfl, ?_⟩) hHeld ?_; rotate_left; focus (intro w hSw; (try dsimp only at hSw); go_simp; (try with_reducible rfl); done); (first | (simp only [Act.put, List.setIfInBounds_toArray, List.set_cons_zero, List.set_cons_succ]) | (simp only [Act.put, List.setIfInBounds_toArray, List.set]) | (simp only [Act.put]) | skip))
      (refine wpAnyH_take (i := 36) (oi := ⟨some 55, _, _, _, _, _⟩) (v := ?_) rfl (by kernel_rfl) (by kernel_rfl) (by kernel_rfl) (fun _ _ _ h => h) (Or.inl ⟨by kernel_rfl, ?_⟩) hHeld ?_; rotate_left; focus (intro w hSw; (try dsimp only at hSw); go_simp; (try with_reducible rfl); done); (first | (simp only [Act.put, List.setIfInBounds_toArray, List.set_cons_zero, List.set_cons_succ]) | (simp only [Act.put, List.setIfInBounds_toArray, List.set]) | (simp only [Act.put]) | skip))
      refine wpAnyH_ready (rs := [35]) (by kernel_rfl) (by simp) (AllReadyH.cons (o := ⟨some 54, _, _, _, _, _⟩) rfl (fun K hK => ?_) AllReadyH.nil)
      go_simp
      refine (join_to b0 b1 a0 a1 j0 j1 Hjc.out _).mono ?_
      rintro e w3 ⟨rfl, hb⟩
      replace cur := seq cur hb
      clear hb
      (try dsimp only)
      refine Shut.out hK _ _ (by (try dsimp only); (first | done | (exact ⟨cell_below (cur) x0, cell_below (cur) x1, cell_below (cur) x2, cell_below (cur) x3, cell_below (cur) x4, cell_below (cur) x5, cell_below (cur) x6, cell_below (cur) x7⟩))) (fun hHeld => ?_)
      clear hK K
      (first | (simp only [Act.put, List.setIfInBounds_toArray, List.set_cons_zero, List.set_cons_succ]) | (simp only [Act.put, List.setIfInBounds_toArray, List.set]) | (simp only [Act.put]) | skip)
      (refine wpAnyH_take (i := 37) (oi := ⟨some 56, _, _, _, _, _⟩) (v := ?_) rfl (by kernel_rfl) (by kernel_rfl) (by kernel_rfl) (fun _ _ _ h => h) (Or.inl ⟨by kernel_rfl, ?_⟩) hHeld ?_; rotate_left; focus (intro w hSw; (try dsimp only at hSw); go_simp; (try with_reducible rfl); done); (first | (simp only [Act.put, List.setIfInBounds_toArray, List.set_cons_zero, List.set_cons_succ]) | (simp only [Act.put, List.setIfInBounds_toArray, List.set]) | (simp only [Act.put]) | skip))
      (refine wpAnyH_take (i := 38) (oi := ⟨some 57, _, _, _, _, _⟩) (v := ?_) rfl (by kernel_rfl) (by kernel_rfl) (by kernel_rfl) (fun _ _ _ h => h) (Or.inl ⟨by kernel_rfl, ?_⟩) hHeld ?_; rotate_left; focus (intro w hSw; (try dsimp only at hSw); go_simp; (try with_reducible rfl); done); (first | (simp only [Act.put, List.setIfInBounds_toArray, List.set_cons_zero, List.set_cons_succ]) | (simp only [Act.put, List.setIfInBounds_toArray, List.set]) | (simp only [Act.put]) | skip))
      (refine wpAnyH_take (i := 39) (oi := ⟨some 58, _, _, _, _, _⟩) (v := ?_) rfl (by kernel_rfl) (by kernel_rfl) (by kernel_rfl) (fun _ _ _ h => h) (Or.inl ⟨by kernel_rfl, ?_⟩) hHeld ?_; rotate_left; focus (intro w hSw; (try dsimp only at hSw); go_simp; (try with_reducible rfl); done); (first | (simp only [Act.put, List.setIfInBounds_toArray, List.set_cons_zero, List.set_cons_succ]) | (simp only [Act.put, List.setIfInBounds_toArray, List.set]) | (simp only [Act.put]) | skip))
      (refine wpAnyH_take (i := 40) (oi := ⟨some 59, _, _, _, _, _⟩) (v := ?_) rfl (by kernel_rfl) (by kernel_rfl) (by kernel_rfl) (fun _ _ _ h => h) (Or.inl ⟨by kernel_rfl, ?_⟩) hHeld ?_; rotate_left; focus (intro w hSw; (try dsimp only at hSw); go_simp; (try with_reducible rfl); done); (first | (simp only [Act.put, List.setIfInBounds_toArray, List.set_cons_zero, List.set_cons_succ]) | (simp only [Act.put, List.setIfInBounds_toArray, List.set]) | (simp only [Act.put]) | skip))
      (refine wpAnyH_take (i := 41) (oi := ⟨some 60, _, _, _, _, _⟩) (v := ?_) rfl (by kernel_rfl) (by kernel_rfl) (by kernel_rfl) (fun _ _ _ h => h) (Or.inl ⟨by kernel_rfl, ?_⟩) hHeld ?_; rotate_left; focus (intro w hSw; (try dsimp only at hSw); go_simp; (try with_reducible rfl); done); (first | (simp only [Act.put, List.setIfInBounds_toArray, List.set_cons_zero, List.set_cons_succ]) | (simp only [Act.put, List.setIfInBounds_toArray, List.set]) | (simp only [Act.put]) | skip))
      (refine wpAnyH_take (i := 43) (oi := ⟨some 62, _, _, _, _, _⟩) (v := ?_) rfl (by kernel_rfl) (by kernel_rfl) (by kernel_rfl) (fun _ _ _ h => h) (Or.inl ⟨by kernel_rfl, ?_⟩) hHeld ?_; rotate_left; focus (intro w hSw; (try dsimp only at hSw); go_simp; (try with_reducible rfl); done); (first | (simp only [Act.put, List.setIfInBounds_toArray, List.set_cons_zero, List.set_cons_succ]) | (simp only [Act.put, List.setIfInBounds_toArray, List.set]) | (simp only [Act.put]) | skip))
      refine wpAnyH_ready (rs := [42]) (by kernel_rfl) (by simp) (AllReadyH.cons (o := ⟨some 61, _, _, _, _, _⟩) rfl (fun K hK => ?_) AllReadyH.nil)
      go_simp
      refine (meet_to b0 b1 a0 a1 m0 m1 Hmc.out _).mono ?_
      rintro e w3 ⟨rfl, hb⟩
      replace cur := seq cur hb
      clear hb
      (try dsimp only)
      refine Shut.out hK _ _ (by (try dsimp only); (first | done | (exact ⟨cell_below (cur) x0, cell_below (cur) x1, cell_below (cur) x2, cell_below (cur) x3, cell_below (cur) x4, cell_below (cur) x5, cell_below (cur) x6, cell_below (cur) x7⟩))) (fun hHeld => ?_)
      clear hK K
      (first | (simp only [Act.put, List.setIfInBounds_toArray, List.set_cons_zero, List.set_cons_succ]) | (simp only [Act.put, List.setIfInBounds_toArray, List.set]) | (simp only [Act.put]) | skip)
      (refine wpAnyH_take (i := 44) (oi := ⟨some 63, _, _, _, _, _⟩) (v := ?_) rfl (by kernel_rfl) (by kernel_rfl) (by kernel_rfl) (fun _ _ _ h => h) (Or.inl ⟨by kernel_rfl, ?_⟩) hHeld ?_; rotate_left; focus (intro w hSw; (try dsimp only at hSw); go_simp; (try with_reducible rfl); done); (first | (simp only [Act.put, List.setIfInBounds_toArray, List.set_cons_zero, List.set_cons_succ]) | (simp only [Act.put, List.setIfInBounds_toArray, List.set]) | (simp only [Act.put]) | skip))
      (refine wpAnyH_take (i := 45) (oi := ⟨some 64, _, _, _, _, _⟩) (v := ?_) rfl (by kernel_rfl) (by kernel_rfl) (by kernel_rfl) (fun _ _ _ h => h) (Or.inl ⟨by kernel_rfl, ?_⟩) hHeld ?_; rotate_left; focus (intro w hSw; (try dsimp only at hSw); go_simp; (try with_reducible rfl); done); (first | (simp only [Act.put, List.setIfInBounds_toArray, List.set_cons_zero, List.set_cons_succ]) | (simp only [Act.put, List.setIfInBounds_toArray, List.set]) | (simp only [Act.put]) | skip))
      (refine wpAnyH_take (i := 46) (oi := ⟨some 65, _, _, _, _, _⟩) (v := ?_) rfl (by kernel_rfl) (by kernel_rfl) (by kernel_rfl) (fun _ _ _ h => h) (Or.inl ⟨by kernel_rfl, ?_⟩) hHeld ?_; rotate_left; focus (intro w hSw; (try dsimp only at hSw); go_simp; (try with_reducible rfl); done); (first | (simp only [Act.put, List.setIfInBounds_toArray, List.set_cons_zero, List.set_cons_succ]) | (simp only [Act.put, List.setIfInBounds_toArray, List.set]) | (simp only [Act.put]) | skip))
      (refine wpAnyH_take (i := 47) (oi := ⟨some 66, _, _, _, _, _⟩) (v := ?_) rfl (by kernel_rfl) (by kernel_rfl) (by kernel_rfl) (fun _ _ _ h => h) (Or.inl ⟨by kernel_rfl, ?_⟩) hHeld ?_; rotate_left; focus (intro w hSw; (try dsimp only at hSw); go_simp; (try with_reducible rfl); done); (first | (simp only [Act.put, List.setIfInBounds_toArray, List.set_cons_zero, List.set_cons_succ]) | (simp only [Act.put, List.setIfInBounds_toArray, List.set]) | (simp only [Act.put]) | skip))
      (refine wpAnyH_take (i := 48) (oi := ⟨some 67, _, _, _, _, _⟩) (v := ?_) rfl (by kernel_rfl) (by kernel_rfl) (by kernel_rfl) (fun _ _ _ h => h) (Or.inl ⟨by kernel_rfl, ?_⟩) hHeld ?_; rotate_left; focus (intro w hSw; (try dsimp only at hSw); go_simp; (try with_reducible rfl); done); (first | (simp only [Act.put, List.setIfInBounds_toArray, List.set_cons_zero, List.set_cons_succ]) | (simp only [Act.put, List.setIfInBounds_toArray, List.set]) | (simp only [Act.put]) | skip))
      refine wpAnyH_ready (rs := [49]) (by kernel_rfl) (by simp) (AllReadyH.cons (o := ⟨some 68, _, _, _, _, _⟩) rfl (fun K hK => ?_) AllReadyH.nil)
      go_simp
      refine (leq_to m0 m1 a0 a1 true Hml.out _).mono ?_
      rintro e w3 ⟨rfl, hb⟩
      replace cur := seq cur hb
      clear hb
      (try dsimp only)
      refine Shut.out hK _ _ (by (try dsimp only); (first | done | (exact ⟨cell_below (cur) x0, cell_below (cur) x1, cell_below (cur) x2, cell_below (cur) x3, cell_below (cur) x4, cell_below (cur) x5, cell_below (cur) x6, cell_below (cur) x7⟩))) (fun hHeld => ?_)
      clear hK K
      (first | (simp only [Act.put, List.setIfInBounds_toArray, List.set_cons_zero, List.set_cons_succ]) | (simp only [Act.put, List.setIfInBounds_toArray, List.set]) | (simp only [Act.put]) | skip)
      (refine wpAnyH_take (i := 50) (oi := ⟨some 69, _, _, _, _, _⟩) (v := ?_) rfl (by kernel_rfl) (by kernel_rfl) (by kernel_rfl) (fun _ _ _ h => h) (Or.inl ⟨by kernel_rfl, ?_⟩) hHeld ?_; rotate_left; focus (intro w hSw; (try dsimp only at hSw); go_simp; (try with_reducible rfl); done); (first | (simp only [Act.put, List.setIfInBounds_toArray, List.set_cons_zero, List.set_cons_succ]) | (simp only [Act.put, List.setIfInBounds_toArray, List.set]) | (simp only [Act.put]) | skip))
      (refine wpAnyH_take (i := 51) (oi := ⟨some 70, _, _, _, _, _⟩) (v := ?_) rfl (by kernel_rfl) (by kernel_rfl) (by kernel_rfl) (fun _ _ _ h => h) (Or.inl ⟨by kernel_rfl, ?_⟩) hHeld ?_; rotate_left; focus (intro w hSw; (try dsimp only at hSw); go_simp; (try with_reducible rfl); done); (first | (simp only [Act.put, List.setIfInBounds_toArray, List.set_cons_zero, List.set_cons_succ]) | (simp only [Act.put, List.setIfInBounds_toArray, List.set]) | (simp only [Act.put]) | skip))
      (refine wpAnyH_take (i := 52) (oi := ⟨some 71, _, _, _, _, _⟩) (v := ?_) rfl (by kernel_rfl) (by kernel_rfl) (by kernel_rfl) (fun _ _ _ h => h) (Or.inl ⟨by kernel_rfl, ?_⟩) hHeld ?_; rotate_left; focus (intro w hSw; (try dsimp only at hSw); go_simp; (try with_reducible rfl); done); (first | (simp only [Act.put, List.setIfInBounds_toArray, List.set_cons_zero, List.set_cons_succ]) | (simp only [Act.put, List.setIfInBounds_toArray, List.set]) | (simp only [Act.put]) | skip))
      (refine wpAnyH_take (i := 53) (oi := ⟨some 72, _, _, _, _, _⟩) (v := ?_) rfl (by kernel_rfl) (by kernel_rfl) (by kernel_rfl) (fun _ _ _ h => h) (Or.inl ⟨by kernel_rfl, ?_⟩) hHeld ?_; rotate_left; focus (intro w hSw; (try dsimp only at hSw); go_simp; (try with_reducible rfl); done); (first | (simp only [Act.put, List.setIfInBounds_toArray, List.set_cons_zero, List.set_cons_succ]) | (simp only [Act.put, List.setIfInBounds_toArray, List.set]) | (simp only [Act.put]) | skip))
      refine wpAnyH_ready (rs := [54]) (by kernel_rfl) (by simp) (AllReadyH.cons (o := ⟨some 73, _, _, _, _, _⟩) rfl (fun K hK => ?_) AllReadyH.nil)
      go_simp
      refine (leq_to a0 a1 j0 j1 true Hjl.out _).mono ?_
      rintro e w3 ⟨rfl, hb⟩
      replace cur := seq cur hb
      clear hb
      (try dsimp only)
      refine Shut.out hK _ _ (by (try dsimp only); (first | done | (exact ⟨cell_below (cur) x0, cell_below (cur) x1, cell_below (cur) x2, cell_below (cur) x3, cell_below (cur) x4, cell_below (cur) x5, cell_below (cur) x6, cell_below (cur) x7⟩))) (fun hHeld => ?_)
      clear hK K
      (first | (simp only [Act.put, List.setIfInBounds_toArray, List.set_cons_zero, List.set_cons_succ]) | (simp only [Act.put, List.setIfInBounds_toArray, List.set]) | (simp only [Act.put]) | skip)
      (refine wpAnyH_take (i := 55) (oi := ⟨some 74, _, _, _, _, _⟩) (v := ?_) rfl (by kernel_rfl) (by kernel_rfl) (by kernel_rfl) (fun _ _ _ h => h) (Or.inl ⟨by kernel_rfl, ?_⟩) hHeld ?_; rotate_left; focus (intro w hSw; (try dsimp only at hSw); go_simp; (try with_reducible rfl); done); (first | (simp only [Act.put, List.setIfInBounds_toArray, List.set_cons_zero, List.set_cons_succ]) | (simp only [Act.put, List.setIfInBounds_toArray, List.set]) | (simp only [Act.put]) | skip))
      (refine wpAnyH_take (i := 56) (oi := ⟨some 75, _, _, _, _, _⟩) (v := ?_) rfl (by kernel_rfl) (by kernel_rfl) (by kernel_rfl) (fun _ _ _ h => h) (Or.inl ⟨by kernel_rfl, ?_⟩) hHeld ?_; rotate_left; focus (intro w hSw; (try dsimp only at hSw); go_simp; (try with_reducible rfl); done); (first | (simp only [Act.put, List.setIfInBounds_toArray, List.set_cons_zero, List.set_cons_succ]) | (simp only [Act.put, List.setIfInBounds_toArray, List.set]) | (simp only [Act.put]) | skip))
      (refine wpAnyH_take (i := 57) (oi := ⟨some 76, _, _, _, _, _⟩) (v := ?_) rfl (by kernel_rfl) (by kernel_rfl) (by kernel_rfl) (fun _ _ _ h => h) (Or.inl ⟨by kernel_rfl, ?_⟩) hHeld ?_; rotate_left; focus (intro w hSw; (try dsimp only at hSw); go_simp; (try with_reducible rfl); done); (first | (simp only [Act.put, List.setIfInBounds_toArray, List.set_cons_zero, List.set_cons_succ]) | (simp only [Act.put, List.setIfInBounds_toArray, List.set]) | (simp only [Act.put]) | skip))
      refine wpAnyH_ready (rs := [58]) (by kernel_rfl) (by simp) (AllReadyH.cons (o := ⟨some 77, _, _, _, _, _⟩) rfl (fun K hK => ?_) AllReadyH.nil)
      go_simp
      refine (right_to j0 j1 true Hjr.out _).mono ?_
      rintro e w3 ⟨rfl, hb⟩
      replace cur := seq cur hb
      clear hb
      (try dsimp only)
      refine Shut.out hK _ _ (by (try dsimp only); (first | done | (exact ⟨cell_below (cur) x0, cell_below (cur) x1, cell_below (cur) x2, cell_below (cur) x3, cell_below (cur) x4, cell_below (cur) x5, cell_below (cur) x6, cell_below (cur) x7⟩))) (fun hHeld => ?_)
      clear hK K
      (first | (simp only [Act.put, List.setIfInBounds_toArray, List.set_cons_zero, List.set_cons_succ]) | (simp only [Act.put, List.setIfInBounds_toArray, List.set]) | (simp only [Act.put]) | skip)
      (refine wpAnyH_take (i := 59) (oi := ⟨some 78, _, _, _, _, _⟩) (v := ?_) rfl (by kernel_rfl) (by kernel_rfl) (by kernel_rfl) (fun _ _ _ h => h) (Or.inl ⟨by kernel_rfl, ?_⟩) hHeld ?_; rotate_left; focus (intro w hSw; (try dsimp only at hSw); go_simp; (try with_reducible rfl); done); (first | (simp only [Act.put, List.setIfInBounds_toArray, List.set_cons_zero, List.set_cons_succ]) | (simp only [Act.put, List.setIfInBounds_toArray, List.set]) | (simp only [Act.put]) | skip))
      (refine wpAnyH_take (i := 60) (oi := ⟨some 79, _, _, _, _, _⟩) (v := ?_) rfl (by kernel_rfl) (by kernel_rfl) (by kernel_rfl) (fun _ _ _ h => h) (Or.inl ⟨by kernel_rfl, ?_⟩) hHeld ?_; rotate_left; focus (intro w hSw; (try dsimp only at hSw); go_simp; (try with_reducible rfl); done); (first | (simp only [Act.put, List.setIfInBounds_toArray, List.set_cons_zero, List.set_cons_succ]) | (simp only [Act.put, List.setIfInBounds_toArray, List.set]) | (simp only [Act.put]) | skip))
      (refine wpAnyH_take (i := 61) (oi := ⟨some 80, _, _, _, _, _⟩) (v := ?_) rfl (by kernel_rfl) (by kernel_rfl) (by kernel_rfl) (fun _ _ _ h => h) (Or.inl ⟨by kernel_rfl, ?_⟩) hHeld ?_; rotate_left; focus (intro w hSw; (try dsimp only at hSw); go_simp; (try with_reducible rfl); done); (first | (simp only [Act.put, List.setIfInBounds_toArray, List.set_cons_zero, List.set_cons_succ]) | (simp only [Act.put, List.setIfInBounds_toArray, List.set]) | (simp only [Act.put]) | skip))
      refine wpAnyH_ready (rs := [62]) (by kernel_rfl) (by simp) (AllReadyH.cons (o := ⟨some 81, _, _, _, _, _⟩) rfl (fun K hK => ?_) AllReadyH.nil)
      go_simp
      refine (right_to m0 m1 true Hmr.out _).mono ?_
      rintro e w3 ⟨rfl, hb⟩
      replace cur := seq cur hb
      clear hb
      (try dsimp only)
      refine Shut.out hK _ _ (by (try dsimp only); (first | done | (exact ⟨cell_below (cur) x0, cell_below (cur) x1, cell_below (cur) x2, cell_below (cur) x3, cell_below (cur) x4, cell_below (cur) x5, cell_below (cur) x6, cell_below (cur) x7⟩))) (fun hHeld => ?_)
      clear hK K
      (first | (simp only [Act.put, List.setIfInBounds_toArray, List.set_cons_zero, List.set_cons_succ]) | (simp only [Act.put, List.setIfInBounds_toArray, List.set]) | (simp only [Act.put]) | skip)
      (refine wpAnyH_take (i := 63) (oi := ⟨some 82, _, _, _, _, _⟩) (v := ?_) rfl (by kernel_rfl) (by kernel_rfl) (by kernel_rfl) (fun _ _ _ h => h) (Or.inl ⟨by kernel_rfl, ?_⟩) hHeld ?_; rotate_left; focus (intro w hSw; (try dsimp only at hSw); go_simp; (try with_reducible rfl); done); (first | (simp only [Act.put, List.setIfInBounds_toArray, List.set_cons_zero, List.set_cons_succ]) | (simp only [Act.put, List.setIfInBounds_toArray, List.set]) | (simp only [Act.put]) | skip))
      (refine wpAnyH_take (i := 64) (oi := ⟨some 6, _, _, _, _, _⟩) (v := ?_) rfl (by kernel_rfl) (by kernel_rfl) (by kernel_rfl) (fun _ _ _ h => h) (Or.inl ⟨by kernel_rfl, ?_⟩) hHeld ?_; rotate_left; focus (intro w hSw; (try dsimp only at hSw); go_simp; (try with_reducible rfl); done); (first | (simp only [Act.put, List.setIfInBounds_toArray, List.set_cons_zero, List.set_cons_succ]) | (simp only [Act.put, List.setIfInBounds_toArray, List.set]) | (simp only [Act.put]) | skip))
      refine wpAnyH_done (by kernel_rfl) ?_ _
      have HC := Lib.hid (seq HB.out cur)
      clear cur x0 x1 x2 x3 x4 x5 x6 x7 hHeld
      go_wp2_with fail
      go_ret
      exact ⟨rfl, HC.out⟩
end Go.Proofs.YtjddafaaplhnfaaDoor.PSpanLaws
