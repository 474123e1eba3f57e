/- Texts of this claim, one behind the other: Sk, WSpanSound, RowSpanSound. -/
import Derived.Test.YtjddafaaplhnfaaDoorPSpanSoundx43
import Derived.Test.YtjddafaaplhnfaaDoorSpanSoundSm
import Derived.Test.YtjddafaaplhnfaaDoorPm
import Derived.Test.YtjddafaaplhnfaaDoorRows
import Derived.Test.YtjddafaaplhnfaaDoorTie
import Derived.Test.YtjddafaaplhnfaaDoorCards
import Derived.WalkKit
import Derived.ShutString
import Derived.ChangeSame
import Derived.ChangeVars
import Derived.JoinedOf
import Derived.LaidLaws
import Derived.LaidHandle
import Derived.Stop.Joined
import Derived.Stop.LaidErr
import Derived.SevenTiedAt
import Derived.Lay
import Derived.WideKeyPair
import Derived.Lib.SmallJoins
import Derived.ChangeMaps5
set_option linter.unusedVariables false
set_option linter.unusedSimpArgs false
namespace Go.Proofs.YtjddafaaplhnfaaDoor.PSpanSound
open Go Go.RowKit Go.Proofs.YtjddafaaplhnfaaDoorW.PrintWords Go.Proofs.YtjddafaaplhnfaaDoorW.PrintLast Go.Proofs.YtjddafaaplhnfaaDoorW.PrintMore Go.Shelf

theorem told_t (a : Int) : bound_told.f a true = some (Bd.told a) := by
  unfold bound_told.f Bd.told
  rw [if_pos rfl, In_f]
  simp only [Option.bind_some]
  split <;> rfl
theorem told_f (a : Int) : bound_told.f a false = some (0, 10) := rfl
theorem times_f (k : Nat) {a b : Int} (ha : Bd.inn a = true) (hb : Bd.inn b = true) : bound_times.f (k + 1) a b = some (if Bd.inn (a * b) = true then (a * b, true) else (0, false)) := by
  rw [Bd.inn_iff] at ha hb
  unfold bound_times.f
  rw [mx_abs (by omega), mx_abs (by omega)]
  obtain ⟨x, hx⟩ : ∃ x, a.natAbs = x := ⟨_, rfl⟩
  obtain ⟨y, hy⟩ : ∃ y, b.natAbs = y := ⟨_, rfl⟩
  have hs := sign_mul x y hx hy
  rw [hx, hy, Mul64_f x y (by omega) (by omega)]
  simp only [Option.bind_some]
  rw [hs]
  generalize x * y = p
  by_cases h1 : ((p / 18446744073709551616 : Nat) : Int) > 0
  · rw [if_pos h1]
    have : Bd.inn (if (decide (a < 0) != decide (b < 0)) = true then -(p : Int) else (p : Int)) = false := by rw [Bd.inn_not]; split <;> omega
    rw [this]; rfl
  · rw [if_neg h1]
    obtain e : p % 18446744073709551616 = p := by omega
    rw [e]
    by_cases h2 : (p : Int) > 1152921504606846976
    · rw [decide_eq_true h2]
      have : Bd.inn (if (decide (a < 0) != decide (b < 0)) = true then -(p : Int) else (p : Int)) = false := by rw [Bd.inn_not]; split <;> omega
      rw [this]; rfl
    · rw [decide_eq_false h2]
      have : Bd.inn (if (decide (a < 0) != decide (b < 0)) = true then -(p : Int) else (p : Int)) = true := by rw [Bd.inn_iff]; split <;> omega
      rw [this, if_pos rfl]
      simp only [bound_times.j0]
      rw [if_neg (by simp), w64 (n := (p : Int)) (by omega), w64 (n := -(p : Int)) (by omega)]
      split <;> rfl

theorem tdiv_rangeB {a b : Int} (ha : Bd.inn a = true) (hb : b ≠ 0) : -1152921504606846976 ≤ a.tdiv b ∧ a.tdiv b ≤ 1152921504606846976 := by
  rw [Bd.inn_iff] at ha
  have h1 : (a.tdiv b).natAbs ≤ a.natAbs := by
    rw [Int.natAbs_tdiv]; exact Nat.div_le_self _ _
  omega

theorem Calc_f (k : Nat) (op a b : Int) : bound_Calc.f (k + 2) op a b = some (Bd.calc' op a b) := by
  unfold bound_Calc.f Bd.calc'
  by_cases h0 : op < 0
  · rw [if_pos h0, if_pos (.inl h0)]; rfl
  · rw [if_neg h0]
    by_cases h3 : op > 3
    · rw [if_pos h3, if_pos (.inr (.inl h3))]; rfl
    · rw [if_neg h3, In_f, In_f]
      simp only [Option.bind_some]
      cases ha : Bd.inn a
      · rw [if_neg (by simp), if_pos (.inr (.inr (.inl rfl)))]; rfl
      · rw [if_pos rfl]
        cases hb : Bd.inn b
        · rw [if_pos (.inr (.inr (.inr rfl)))]; rfl
        · rw [if_neg (by simp; omega)]
          have ha' := Bd.inn_iff.1 ha
          have hb' := Bd.inn_iff.1 hb
          simp only [bound_Calc.j0]
          rw [if_neg (by simp)]
          by_cases o1 : op = 1
          · rw [if_pos o1, if_neg (by omega), if_pos o1, w64 (n := -b) (by omega), w64 (by omega), told_t, Int.sub_eq_add_neg]; rfl
          · rw [if_neg o1]
            by_cases o0 : op = 0
            · rw [if_pos o0, if_pos o0, w64 (by omega), told_t]; rfl
            · rw [if_neg o0, if_neg o0, if_neg o1]
              by_cases o2 : op = 2
              · rw [if_pos o2, if_pos o2, times_f k ha hb]
                simp only [Option.bind_some]
                cases hp : Bd.inn (a * b)
                · rw [if_neg (by simp), told_f]
                  simp only [Option.bind_some, Bd.told, hp]; rfl
                · rw [if_pos rfl, told_t]; rfl
              · rw [if_neg o2, if_neg o2]
                by_cases hz : b = 0
                · rw [if_pos hz, if_pos hz]
                · rw [if_neg hz, if_neg hz]
                  have := tdiv_rangeB ha hz
                  rw [w64 (by omega), told_t]; rfl

theorem bcalc_to (op a b v1 v2 : Int) (h : Bd.calc' op a b = (v1, v2)) (w : World) :
    Calls Tryd.prog 36 #[.int .i64 op, .int .i64 a, .int .i64 b] w fun e w' => e = .returned (.tuple #[.int .i64 v1, .int .i64 v2]) ∧ Below w.heap.size w w' :=
  (bound_Calc.calls 2 op a b v1 v2 w (by rw [Calc_f, h])).mono fun e w' h => ⟨h.1, by first | exact h.2 | exact h.2.below⟩
end Go.Proofs.YtjddafaaplhnfaaDoor.PSpanSound

set_option linter.unusedVariables false
set_option linter.unusedSimpArgs false
namespace Go.Proofs.YtjddafaaplhnfaaDoor.PSpanSound
open Go Go.RowKit Go.Deep Go.Proofs.YtjddafaaplhnfaaDoorW.PrintWords Go.Proofs.YtjddafaaplhnfaaDoorW.PrintLast Go.Proofs.YtjddafaaplhnfaaDoorW.PrintMore
variable {w : World}
theorem cells3 {w1 : World} {b : Nat} {x y z : Value} {T : TypeId} (h : w1.heap[b]? = some (.cells #[x, y, z] T (0, 0))) : w1.cell? ⟨b, 0, none⟩ = some x ∧ w1.cell? ⟨b, 1, none⟩ = some y ∧ w1.cell? ⟨b, 2, none⟩ = some z :=
  ⟨(blk_cell h 0).trans rfl, (blk_cell h 1).trans rfl, (blk_cell h 2).trans rfl⟩
/-- How far the walk has come: both spans lie in boxes of their own. -/
def Mid (w wd : World) (p0 p1 p2 q0 q1 q2 a0 a1 b0 b1 : Int) (ga gb : Nat) : Prop :=
  wd.heap[w.heap.size]? = some (.cells #[.int .i64 p0, .int .i64 p1, .int .i64 p2] 55 (0, 0)) ∧ wd.heap[w.heap.size + 1]? = some (.cells #[.int .i64 q0, .int .i64 q1, .int .i64 q2] 55 (0, 0)) ∧ wd.heap[ga]? = some (.cells #[.int .i64 a0, .int .i64 a1] 24 (0, 0)) ∧ wd.heap[gb]? = some (.cells #[.int .i64 b0, .int .i64 b1] 24 (0, 0)) ∧ Below w.heap.size w wd
set_option maxRecDepth 100000 in
set_option maxHeartbeats 16000000 in
theorem SpanSound_walk (op p0 p1 p2 q0 q1 q2 : Int) (hT : Tabs w) :
    Calls Tryd.prog 9 #[.int .i64 op, .agg #[.int .i64 p0, .int .i64 p1, .int .i64 p2], .agg #[.int .i64 q0, .int .i64 q1, .int .i64 q2]] w fun e w' => e = .returned (.bool true) ∧ Below w.heap.size w w' := by
  have HT := Lib.hid hT
  clear hT
  obtain ⟨⟨a0, a1⟩, ha⟩ : ∃ p, Sp.of p0 p1 = p := ⟨_, rfl⟩
  obtain ⟨⟨b0, b1⟩, hb⟩ : ∃ p, Sp.of q0 q1 = p := ⟨_, rfl⟩
  have HA := Lib.hid ha
  have HBB := Lib.hid hb
  clear ha hb
  go_enter Tryd.func9, Tryd.ntmps9
  go_upto_region 1 with fail
  go_cut [7, 8] (fun v7 v8 wd => ∃ ga gb : Nat, v7 = .pointer (some ⟨ga, 0, none⟩) ∧ v8 = .pointer (some ⟨gb, 0, none⟩) ∧ Hid (Mid w wd p0 p1 p2 q0 q1 q2 a0 a1 b0 b1 ga gb))
  case first =>
    go_wp2_with fail
    obtain ⟨ka, kb, HB⟩ := box2 w (.cells #[.int .i64 p0, .int .i64 p1, .int .i64 p2] 55) (.cells #[.int .i64 q0, .int .i64 q1, .int .i64 q2] 55) (Below.refl _ _)
    generalize (w.alloc (.cells #[.int .i64 p0, .int .i64 p1, .int .i64 p2] 55)).alloc (.cells #[.int .i64 q0, .int .i64 q1, .int .i64 q2] 55) = wb at *
    obtain ⟨xp0, xp1, -⟩ := cells3 ka
    obtain ⟨xq0, xq1, -⟩ := cells3 kb
    have KA := Lib.hid ka
    have KB := Lib.hid kb
    have HB0 := Lib.hid HB
    clear ka kb HB
    refine start_ (n := 14) (S := fun w' => w'.cell? ⟨w.heap.size, 0, none⟩ = some (.int .i64 p0) ∧ w'.cell? ⟨w.heap.size, 1, none⟩ = some (.int .i64 p1) ∧ w'.cell? ⟨w.heap.size + 1, 0, none⟩ = some (.int .i64 q0) ∧ w'.cell? ⟨w.heap.size + 1, 1, none⟩ = some (.int .i64 q1)) (ds := [12, 13]) #[false, false, false, false, false, false, false, false, false, false, false, false, false, false] (by kernel_rfl) rfl rfl ⟨cell_below ((Below.refl wb.heap.size wb).drew) xp0, cell_below ((Below.refl wb.heap.size wb).drew) xp1, cell_below ((Below.refl wb.heap.size wb).drew) xq0, cell_below ((Below.refl wb.heap.size wb).drew) xq1⟩ (fun hHeld => ?_)
    refine pure_ (i := 0) (N := some 13) (v := ?_) (a' := ?_) #[true, false, false, false, false, false, false, false, false, false, false, false, false, false] rfl rfl (by kernel_rfl) (fun _ _ _ h => h) (Or.inl ⟨by rfl, ?_⟩) ?_ ?_
    rotate_left
    · intro w'
      go_simp
      with_reducible rfl
    rotate_left
    · simp only [Act.put, List.setIfInBounds_toArray, List.set_cons_zero, List.set_cons_succ, i64_w, i32_w]
      rfl
    refine pure_ (i := 2) (N := some 15) (v := ?_) (a' := ?_) #[true, false, true, false, false, false, false, false, false, false, false, false, false, false] rfl rfl (by kernel_rfl) (fun _ _ _ h => h) (Or.inl ⟨by rfl, ?_⟩) ?_ ?_
    rotate_left
    · intro w'
      go_simp
      with_reducible rfl
    rotate_left
    · simp only [Act.put, List.setIfInBounds_toArray, List.set_cons_zero, List.set_cons_succ, i64_w, i32_w]
      rfl
    refine pure_ (i := 5) (N := some 18) (v := ?_) (a' := ?_) #[true, false, true, false, false, true, false, false, false, false, false, false, false, false] rfl rfl (by kernel_rfl) (fun _ _ _ h => h) (Or.inl ⟨by rfl, ?_⟩) ?_ ?_
    rotate_left
    · intro w'
      go_simp
      with_reducible rfl
    rotate_left
    · simp only [Act.put, List.setIfInBounds_toArray, List.set_cons_zero, List.set_cons_succ, i64_w, i32_w]
      rfl
    refine pure_ (i := 7) (N := some 20) (v := ?_) (a' := ?_) #[true, false, true, false, false, true, false, true, false, false, false, false, false, false] rfl rfl (by kernel_rfl) (fun _ _ _ h => h) (Or.inl ⟨by rfl, ?_⟩) ?_ ?_
    rotate_left
    · intro w'
      go_simp
      with_reducible rfl
    rotate_left
    · simp only [Act.put, List.setIfInBounds_toArray, List.set_cons_zero, List.set_cons_succ, i64_w, i32_w]
      rfl
    refine take_ (i := 1) (N := some 14) (v := ?_) (a' := ?_) #[true, true, true, false, false, true, false, true, false, false, false, false, false, false] rfl rfl (by kernel_rfl) (fun _ _ _ h => h) (Or.inl ⟨by rfl, ?_⟩) hHeld ?_ ?_
    rotate_left
    · rintro w' ⟨s0, s1, s2, s3⟩
      go_simp
      with_reducible rfl
    rotate_left
    · simp only [Act.put, List.setIfInBounds_toArray, List.set_cons_zero, List.set_cons_succ, i64_w, i32_w]
      rfl
    refine take_ (i := 3) (N := some 16) (v := ?_) (a' := ?_) #[true, true, true, true, false, true, false, true, false, false, false, false, false, false] rfl rfl (by kernel_rfl) (fun _ _ _ h => h) (Or.inl ⟨by rfl, ?_⟩) hHeld ?_ ?_
    rotate_left
    · rintro w' ⟨s0, s1, s2, s3⟩
      go_simp
      with_reducible rfl
    rotate_left
    · simp only [Act.put, List.setIfInBounds_toArray, List.set_cons_zero, List.set_cons_succ, i64_w, i32_w]
      rfl
    refine take_ (i := 6) (N := some 19) (v := ?_) (a' := ?_) #[true, true, true, true, false, true, true, true, false, false, false, false, false, false] rfl rfl (by kernel_rfl) (fun _ _ _ h => h) (Or.inl ⟨by rfl, ?_⟩) hHeld ?_ ?_
    rotate_left
    · rintro w' ⟨s0, s1, s2, s3⟩
      go_simp
      with_reducible rfl
    rotate_left
    · simp only [Act.put, List.setIfInBounds_toArray, List.set_cons_zero, List.set_cons_succ, i64_w, i32_w]
      rfl
    refine take_ (i := 8) (N := some 21) (v := ?_) (a' := ?_) #[true, true, true, true, false, true, true, true, true, false, false, false, false, false] rfl rfl (by kernel_rfl) (fun _ _ _ h => h) (Or.inl ⟨by rfl, ?_⟩) hHeld ?_ ?_
    rotate_left
    · rintro w' ⟨s0, s1, s2, s3⟩
      go_simp
      with_reducible rfl
    rotate_left
    · simp only [Act.put, List.setIfInBounds_toArray, List.set_cons_zero, List.set_cons_succ, i64_w, i32_w]
      rfl
    refine join_ (σ := Nat × Nat) 2 #[true, true, true, true, true, true, true, true, true, true, true, true, false, false] (fun zz => [(17, .agg #[.int .i64 a0, .int .i64 a1]), (22, .agg #[.int .i64 b0, .int .i64 b1]), (7, .pointer (some ⟨zz.1, 0, none⟩)), (8, .pointer (some ⟨zz.2, 0, none⟩))]) (fun zz w' => Below wb.heap.size wb w' ∧ w'.heap[zz.1]? = some (.cells #[.int .i64 0, .int .i64 0] 24 (0, 0)) ∧ wb.heap.size ≤ zz.1 ∧ w'.heap[zz.2]? = some (.cells #[.int .i64 0, .int .i64 0] 24 (0, 0)) ∧ wb.heap.size ≤ zz.2 ∧ zz.1 ≠ zz.2) ?_ ?_
    rotate_left
    · intro hJ4_9_10_11
      refine join_ (σ := Nat) 3 #[true, true, true, true, true, true, true, true, true, true, true, false, false, false] (fun zz => [(17, .agg #[.int .i64 a0, .int .i64 a1]), (22, .agg #[.int .i64 b0, .int .i64 b1]), (7, .pointer (some ⟨zz, 0, none⟩))]) (fun zz w' => Below wb.heap.size wb w' ∧ w'.heap[zz]? = some (.cells #[.int .i64 0, .int .i64 0] 24 (0, 0)) ∧ wb.heap.size ≤ zz) ?_ ?_
      rotate_left
      · intro hJ4_9_10
        refine join_ (σ := Nat) 3 #[true, true, true, true, true, true, true, true, true, true, false, true, false, false] (fun zz => [(17, .agg #[.int .i64 a0, .int .i64 a1]), (22, .agg #[.int .i64 b0, .int .i64 b1]), (8, .pointer (some ⟨zz, 0, none⟩))]) (fun zz w' => Below wb.heap.size wb w' ∧ w'.heap[zz]? = some (.cells #[.int .i64 0, .int .i64 0] 24 (0, 0)) ∧ wb.heap.size ≤ zz) ?_ ?_
        rotate_left
        · intro hJ4_9_11
          refine join_ (σ := Nat × Nat) 3 #[true, true, true, true, true, true, true, true, true, false, true, true, false, false] (fun zz => [(17, .agg #[.int .i64 a0, .int .i64 a1]), (7, .pointer (some ⟨zz.1, 0, none⟩)), (8, .pointer (some ⟨zz.2, 0, none⟩))]) (fun zz w' => Below wb.heap.size wb w' ∧ w'.heap[zz.1]? = some (.cells #[.int .i64 0, .int .i64 0] 24 (0, 0)) ∧ wb.heap.size ≤ zz.1 ∧ w'.heap[zz.2]? = some (.cells #[.int .i64 0, .int .i64 0] 24 (0, 0)) ∧ wb.heap.size ≤ zz.2 ∧ zz.1 ≠ zz.2) ?_ ?_
          rotate_left
          · intro hJ4_10_11
            refine join_ (σ := Unit) 4 #[true, true, true, true, true, true, true, true, true, true, false, false, false, false] (fun zz => [(17, .agg #[.int .i64 a0, .int .i64 a1]), (22, .agg #[.int .i64 b0, .int .i64 b1])]) (fun zz w' => Below wb.heap.size wb w') ?_ ?_
            rotate_left
            · intro hJ4_9
              refine join_ (σ := Nat) 4 #[true, true, true, true, true, true, true, true, true, false, true, false, false, false] (fun zz => [(17, .agg #[.int .i64 a0, .int .i64 a1]), (7, .pointer (some ⟨zz, 0, none⟩))]) (fun zz w' => Below wb.heap.size wb w' ∧ w'.heap[zz]? = some (.cells #[.int .i64 0, .int .i64 0] 24 (0, 0)) ∧ wb.heap.size ≤ zz) ?_ ?_
              rotate_left
              · intro hJ4_10
                refine join_ (σ := Nat) 4 #[true, true, true, true, true, true, true, true, true, false, false, true, false, false] (fun zz => [(17, .agg #[.int .i64 a0, .int .i64 a1]), (8, .pointer (some ⟨zz, 0, none⟩))]) (fun zz w' => Below wb.heap.size wb w' ∧ w'.heap[zz]? = some (.cells #[.int .i64 0, .int .i64 0] 24 (0, 0)) ∧ wb.heap.size ≤ zz) ?_ ?_
                rotate_left
                · intro hJ4_11
                  refine join_ (σ := Nat × Nat) 4 #[true, true, true, true, false, true, true, true, true, false, true, true, false, false] (fun zz => [(7, .pointer (some ⟨zz.1, 0, none⟩)), (8, .pointer (some ⟨zz.2, 0, none⟩))]) (fun zz w' => Below wb.heap.size wb w' ∧ w'.heap[zz.1]? = some (.cells #[.int .i64 0, .int .i64 0] 24 (0, 0)) ∧ wb.heap.size ≤ zz.1 ∧ w'.heap[zz.2]? = some (.cells #[.int .i64 0, .int .i64 0] 24 (0, 0)) ∧ wb.heap.size ≤ zz.2 ∧ zz.1 ≠ zz.2) ?_ ?_
                  rotate_left
                  · intro hJ10_11
                    refine join_ (σ := Unit) 5 #[true, true, true, true, true, true, true, true, true, false, false, false, false, false] (fun zz => [(17, .agg #[.int .i64 a0, .int .i64 a1])]) (fun zz w' => Below wb.heap.size wb w') ?_ ?_
                    rotate_left
                    · intro hJ4
                      refine join_ (σ := Nat) 5 #[true, true, true, true, false, true, true, true, true, false, true, false, false, false] (fun zz => [(7, .pointer (some ⟨zz, 0, none⟩))]) (fun zz w' => Below wb.heap.size wb w' ∧ w'.heap[zz]? = some (.cells #[.int .i64 0, .int .i64 0] 24 (0, 0)) ∧ wb.heap.size ≤ zz) ?_ ?_
                      rotate_left
                      · intro hJ10
                        refine join_ (σ := Nat) 5 #[true, true, true, true, false, true, true, true, true, false, false, true, false, false] (fun zz => [(8, .pointer (some ⟨zz, 0, none⟩))]) (fun zz w' => Below wb.heap.size wb w' ∧ w'.heap[zz]? = some (.cells #[.int .i64 0, .int .i64 0] 24 (0, 0)) ∧ wb.heap.size ≤ zz) ?_ ?_
                        rotate_left
                        · intro hJ11
                          refine three_ (i := 4) (j := 10) (k := 11) (Ni := some 17) (Nj := some 7) (Nk := some 8) #[true, true, true, true, true, true, true, true, true, false, false, false, false, false] #[true, true, true, true, false, true, true, true, true, false, true, false, false, false] #[true, true, true, true, false, true, true, true, true, false, false, true, false, false] rfl rfl rfl rfl rfl rfl (by kernel_rfl) (by decide) (by decide) (by decide) (fun K hK => ?_) (fun K hK => ?_) (fun K hK => ?_)
                          · skip
                            refine goes_ Tryd.func34 (by kernel_rfl) rfl #[.int .i64 p0, .int .i64 p1] (by rfl) rfl rfl (by simp only [List.map_toArray, List.map_cons, List.map_nil]; rfl) ?_
                            with_reducible refine (of_to p0 p1 a0 a1 HA.out _).mono ?_
                            rintro e w3 ⟨rfl, hb⟩
                            refine ⟨_, rfl, ?_⟩
                            have cur3 := seq ((Below.refl wb.heap.size wb).drew) hb
                            refine hK.out _ _ ⟨cell_below (cur3) xp0, cell_below (cur3) xp1, cell_below (cur3) xq0, cell_below (cur3) xq1⟩ (fun hHeld => ?_)
                            clear hK K
                            refine norm_ (a' := ?_) ?_ ?_
                            rotate_left
                            · show Act.put _ (some 17) _ = _
                              simp only [Act.put, List.setIfInBounds_toArray, List.set_cons_zero, List.set_cons_succ, i64_w, i32_w]
                              rfl
                            exact norm_ (by first | (simp only [putAll, Act.put, List.setIfInBounds_toArray, List.set_cons_zero, List.set_cons_succ]; done) | (simp only [putAll, Act.put, List.setIfInBounds_toArray, List.set_cons_zero, List.set_cons_succ]; rfl)) (hJ4 () _ cur3)
                          · skip
                            refine value_ (w1 := ?_) (v := ?_) (by rfl) rfl ?_ ?_
                            rotate_left 2
                            · go_simp
                              constructor
                              · rfl
                              · rfl
                            have cur3 := Below.push ((Below.refl wb.heap.size wb).drew) (Nat.le_refl _) (.cells #[.int .i64 0, .int .i64 0] 24)
                            refine hK.out _ _ ⟨cell_below (cur3) xp0, cell_below (cur3) xp1, cell_below (cur3) xq0, cell_below (cur3) xq1⟩ (fun hHeld => ?_)
                            clear hK K
                            refine norm_ (a' := ?_) ?_ ?_
                            rotate_left
                            · show Act.put _ (some 7) _ = _
                              simp only [Act.put, List.setIfInBounds_toArray, List.set_cons_zero, List.set_cons_succ, i64_w, i32_w]
                              rfl
                            exact norm_ (by first | (simp only [putAll, Act.put, List.setIfInBounds_toArray, List.set_cons_zero, List.set_cons_succ]; done) | (simp only [putAll, Act.put, List.setIfInBounds_toArray, List.set_cons_zero, List.set_cons_succ]; rfl)) (hJ10 (wb.drew.heap.size) _ ⟨cur3, blk_new _ _, ((Below.refl wb.heap.size wb).drew).size⟩)
                          · skip
                            refine value_ (w1 := ?_) (v := ?_) (by rfl) rfl ?_ ?_
                            rotate_left 2
                            · go_simp
                              constructor
                              · rfl
                              · rfl
                            have cur3 := Below.push ((Below.refl wb.heap.size wb).drew) (Nat.le_refl _) (.cells #[.int .i64 0, .int .i64 0] 24)
                            refine hK.out _ _ ⟨cell_below (cur3) xp0, cell_below (cur3) xp1, cell_below (cur3) xq0, cell_below (cur3) xq1⟩ (fun hHeld => ?_)
                            clear hK K
                            refine norm_ (a' := ?_) ?_ ?_
                            rotate_left
                            · show Act.put _ (some 8) _ = _
                              simp only [Act.put, List.setIfInBounds_toArray, List.set_cons_zero, List.set_cons_succ, i64_w, i32_w]
                              rfl
                            exact norm_ (by first | (simp only [putAll, Act.put, List.setIfInBounds_toArray, List.set_cons_zero, List.set_cons_succ]; done) | (simp only [putAll, Act.put, List.setIfInBounds_toArray, List.set_cons_zero, List.set_cons_succ]; rfl)) (hJ11 (wb.drew.heap.size) _ ⟨cur3, blk_new _ _, ((Below.refl wb.heap.size wb).drew).size⟩)
                        · skip
                          rintro ga11 w1 ⟨cur, p11, q11⟩
                          have hHeld : w1.cell? ⟨w.heap.size, 0, none⟩ = some (.int .i64 p0) ∧ w1.cell? ⟨w.heap.size, 1, none⟩ = some (.int .i64 p1) ∧ w1.cell? ⟨w.heap.size + 1, 0, none⟩ = some (.int .i64 q0) ∧ w1.cell? ⟨w.heap.size + 1, 1, none⟩ = some (.int .i64 q1) := ⟨cell_below (cur) xp0, cell_below (cur) xp1, cell_below (cur) xq0, cell_below (cur) xq1⟩
                          refine norm_ (a' := ?_) ?_ ?_
                          rotate_left
                          · simp only [putAll, Act.put, List.setIfInBounds_toArray, List.set_cons_zero, List.set_cons_succ]
                            rfl
                          refine two_ (i := 4) (j := 10) (Ni := some 17) (Nj := some 7) #[true, true, true, true, true, true, true, true, true, false, false, true, false, false] #[true, true, true, true, false, true, true, true, true, false, true, true, false, false] rfl rfl rfl rfl (by kernel_rfl) (by decide) (by decide) (fun K hK => ?_) (fun K hK => ?_)
                          · skip
                            refine goes_ Tryd.func34 (by kernel_rfl) rfl #[.int .i64 p0, .int .i64 p1] (by rfl) rfl rfl (by simp only [List.map_toArray, List.map_cons, List.map_nil]; rfl) ?_
                            with_reducible refine (of_to p0 p1 a0 a1 HA.out _).mono ?_
                            rintro e w3 ⟨rfl, hb⟩
                            refine ⟨_, rfl, ?_⟩
                            have cur3 := seq (cur) hb
                            have p3_11 := blk_below p11 hb
                            refine hK.out _ _ ⟨cell_below (cur3) xp0, cell_below (cur3) xp1, cell_below (cur3) xq0, cell_below (cur3) xq1⟩ (fun hHeld => ?_)
                            clear hK K
                            refine norm_ (a' := ?_) ?_ ?_
                            rotate_left
                            · show Act.put _ (some 17) _ = _
                              simp only [Act.put, List.setIfInBounds_toArray, List.set_cons_zero, List.set_cons_succ, i64_w, i32_w]
                              rfl
                            exact norm_ (by first | (simp only [putAll, Act.put, List.setIfInBounds_toArray, List.set_cons_zero, List.set_cons_succ]; done) | (simp only [putAll, Act.put, List.setIfInBounds_toArray, List.set_cons_zero, List.set_cons_succ]; rfl)) (hJ4_11 ga11 _ ⟨cur3, p3_11, q11⟩)
                          · skip
                            refine value_ (w1 := ?_) (v := ?_) (by rfl) rfl ?_ ?_
                            rotate_left 2
                            · go_simp
                              constructor
                              · rfl
                              · rfl
                            have cur3 := Below.push (cur) (Nat.le_refl _) (.cells #[.int .i64 0, .int .i64 0] 24)
                            have p3_11 := blk_alloc p11 (.cells #[.int .i64 0, .int .i64 0] 24)
                            refine hK.out _ _ ⟨cell_below (cur3) xp0, cell_below (cur3) xp1, cell_below (cur3) xq0, cell_below (cur3) xq1⟩ (fun hHeld => ?_)
                            clear hK K
                            refine norm_ (a' := ?_) ?_ ?_
                            rotate_left
                            · show Act.put _ (some 7) _ = _
                              simp only [Act.put, List.setIfInBounds_toArray, List.set_cons_zero, List.set_cons_succ, i64_w, i32_w]
                              rfl
                            exact norm_ (by first | (simp only [putAll, Act.put, List.setIfInBounds_toArray, List.set_cons_zero, List.set_cons_succ]; done) | (simp only [putAll, Act.put, List.setIfInBounds_toArray, List.set_cons_zero, List.set_cons_succ]; rfl)) (hJ10_11 (w1.heap.size, ga11) _ ⟨cur3, blk_new _ _, (cur).size, p3_11, q11, (Nat.ne_of_gt (blk_lt p11))⟩)
                      · skip
                        rintro ga10 w1 ⟨cur, p10, q10⟩
                        have hHeld : w1.cell? ⟨w.heap.size, 0, none⟩ = some (.int .i64 p0) ∧ w1.cell? ⟨w.heap.size, 1, none⟩ = some (.int .i64 p1) ∧ w1.cell? ⟨w.heap.size + 1, 0, none⟩ = some (.int .i64 q0) ∧ w1.cell? ⟨w.heap.size + 1, 1, none⟩ = some (.int .i64 q1) := ⟨cell_below (cur) xp0, cell_below (cur) xp1, cell_below (cur) xq0, cell_below (cur) xq1⟩
                        refine norm_ (a' := ?_) ?_ ?_
                        rotate_left
                        · simp only [putAll, Act.put, List.setIfInBounds_toArray, List.set_cons_zero, List.set_cons_succ]
                          rfl
                        refine two_ (i := 4) (j := 11) (Ni := some 17) (Nj := some 8) #[true, true, true, true, true, true, true, true, true, false, true, false, false, false] #[true, true, true, true, false, true, true, true, true, false, true, true, false, false] rfl rfl rfl rfl (by kernel_rfl) (by decide) (by decide) (fun K hK => ?_) (fun K hK => ?_)
                        · skip
                          refine goes_ Tryd.func34 (by kernel_rfl) rfl #[.int .i64 p0, .int .i64 p1] (by rfl) rfl rfl (by simp only [List.map_toArray, List.map_cons, List.map_nil]; rfl) ?_
                          with_reducible refine (of_to p0 p1 a0 a1 HA.out _).mono ?_
                          rintro e w3 ⟨rfl, hb⟩
                          refine ⟨_, rfl, ?_⟩
                          have cur3 := seq (cur) hb
                          have p3_10 := blk_below p10 hb
                          refine hK.out _ _ ⟨cell_below (cur3) xp0, cell_below (cur3) xp1, cell_below (cur3) xq0, cell_below (cur3) xq1⟩ (fun hHeld => ?_)
                          clear hK K
                          refine norm_ (a' := ?_) ?_ ?_
                          rotate_left
                          · show Act.put _ (some 17) _ = _
                            simp only [Act.put, List.setIfInBounds_toArray, List.set_cons_zero, List.set_cons_succ, i64_w, i32_w]
                            rfl
                          exact norm_ (by first | (simp only [putAll, Act.put, List.setIfInBounds_toArray, List.set_cons_zero, List.set_cons_succ]; done) | (simp only [putAll, Act.put, List.setIfInBounds_toArray, List.set_cons_zero, List.set_cons_succ]; rfl)) (hJ4_10 ga10 _ ⟨cur3, p3_10, q10⟩)
                        · skip
                          refine value_ (w1 := ?_) (v := ?_) (by rfl) rfl ?_ ?_
                          rotate_left 2
                          · go_simp
                            constructor
                            · rfl
                            · rfl
                          have cur3 := Below.push (cur) (Nat.le_refl _) (.cells #[.int .i64 0, .int .i64 0] 24)
                          have p3_10 := blk_alloc p10 (.cells #[.int .i64 0, .int .i64 0] 24)
                          refine hK.out _ _ ⟨cell_below (cur3) xp0, cell_below (cur3) xp1, cell_below (cur3) xq0, cell_below (cur3) xq1⟩ (fun hHeld => ?_)
                          clear hK K
                          refine norm_ (a' := ?_) ?_ ?_
                          rotate_left
                          · show Act.put _ (some 8) _ = _
                            simp only [Act.put, List.setIfInBounds_toArray, List.set_cons_zero, List.set_cons_succ, i64_w, i32_w]
                            rfl
                          exact norm_ (by first | (simp only [putAll, Act.put, List.setIfInBounds_toArray, List.set_cons_zero, List.set_cons_succ]; done) | (simp only [putAll, Act.put, List.setIfInBounds_toArray, List.set_cons_zero, List.set_cons_succ]; rfl)) (hJ10_11 (ga10, w1.heap.size) _ ⟨cur3, p3_10, q10, blk_new _ _, (cur).size, (Nat.ne_of_lt (blk_lt p10))⟩)
                    · skip
                      rintro ⟨⟩ w1 cur
                      have hHeld : w1.cell? ⟨w.heap.size, 0, none⟩ = some (.int .i64 p0) ∧ w1.cell? ⟨w.heap.size, 1, none⟩ = some (.int .i64 p1) ∧ w1.cell? ⟨w.heap.size + 1, 0, none⟩ = some (.int .i64 q0) ∧ w1.cell? ⟨w.heap.size + 1, 1, none⟩ = some (.int .i64 q1) := ⟨cell_below (cur) xp0, cell_below (cur) xp1, cell_below (cur) xq0, cell_below (cur) xq1⟩
                      refine norm_ (a' := ?_) ?_ ?_
                      rotate_left
                      · simp only [putAll, Act.put, List.setIfInBounds_toArray, List.set_cons_zero, List.set_cons_succ]
                        rfl
                      refine three_ (i := 9) (j := 10) (k := 11) (Ni := some 22) (Nj := some 7) (Nk := some 8) #[true, true, true, true, true, true, true, true, true, true, false, false, false, false] #[true, true, true, true, true, true, true, true, true, false, true, false, false, false] #[true, true, true, true, true, true, true, true, true, false, false, true, false, false] rfl rfl rfl rfl rfl rfl (by kernel_rfl) (by decide) (by decide) (by decide) (fun K hK => ?_) (fun K hK => ?_) (fun K hK => ?_)
                      · skip
                        refine goes_ Tryd.func34 (by kernel_rfl) rfl #[.int .i64 q0, .int .i64 q1] (by rfl) rfl rfl (by simp only [List.map_toArray, List.map_cons, List.map_nil]; rfl) ?_
                        with_reducible refine (of_to q0 q1 b0 b1 HBB.out _).mono ?_
                        rintro e w3 ⟨rfl, hb⟩
                        refine ⟨_, rfl, ?_⟩
                        have cur3 := seq (cur) hb
                        refine hK.out _ _ ⟨cell_below (cur3) xp0, cell_below (cur3) xp1, cell_below (cur3) xq0, cell_below (cur3) xq1⟩ (fun hHeld => ?_)
                        clear hK K
                        refine norm_ (a' := ?_) ?_ ?_
                        rotate_left
                        · show Act.put _ (some 22) _ = _
                          simp only [Act.put, List.setIfInBounds_toArray, List.set_cons_zero, List.set_cons_succ, i64_w, i32_w]
                          rfl
                        exact norm_ (by first | (simp only [putAll, Act.put, List.setIfInBounds_toArray, List.set_cons_zero, List.set_cons_succ]; done) | (simp only [putAll, Act.put, List.setIfInBounds_toArray, List.set_cons_zero, List.set_cons_succ]; rfl)) (hJ4_9 () _ cur3)
                      · skip
                        refine value_ (w1 := ?_) (v := ?_) (by rfl) rfl ?_ ?_
                        rotate_left 2
                        · go_simp
                          constructor
                          · rfl
                          · rfl
                        have cur3 := Below.push (cur) (Nat.le_refl _) (.cells #[.int .i64 0, .int .i64 0] 24)
                        refine hK.out _ _ ⟨cell_below (cur3) xp0, cell_below (cur3) xp1, cell_below (cur3) xq0, cell_below (cur3) xq1⟩ (fun hHeld => ?_)
                        clear hK K
                        refine norm_ (a' := ?_) ?_ ?_
                        rotate_left
                        · show Act.put _ (some 7) _ = _
                          simp only [Act.put, List.setIfInBounds_toArray, List.set_cons_zero, List.set_cons_succ, i64_w, i32_w]
                          rfl
                        exact norm_ (by first | (simp only [putAll, Act.put, List.setIfInBounds_toArray, List.set_cons_zero, List.set_cons_succ]; done) | (simp only [putAll, Act.put, List.setIfInBounds_toArray, List.set_cons_zero, List.set_cons_succ]; rfl)) (hJ4_10 (w1.heap.size) _ ⟨cur3, blk_new _ _, (cur).size⟩)
                      · skip
                        refine value_ (w1 := ?_) (v := ?_) (by rfl) rfl ?_ ?_
                        rotate_left 2
                        · go_simp
                          constructor
                          · rfl
                          · rfl
                        have cur3 := Below.push (cur) (Nat.le_refl _) (.cells #[.int .i64 0, .int .i64 0] 24)
                        refine hK.out _ _ ⟨cell_below (cur3) xp0, cell_below (cur3) xp1, cell_below (cur3) xq0, cell_below (cur3) xq1⟩ (fun hHeld => ?_)
                        clear hK K
                        refine norm_ (a' := ?_) ?_ ?_
                        rotate_left
                        · show Act.put _ (some 8) _ = _
                          simp only [Act.put, List.setIfInBounds_toArray, List.set_cons_zero, List.set_cons_succ, i64_w, i32_w]
                          rfl
                        exact norm_ (by first | (simp only [putAll, Act.put, List.setIfInBounds_toArray, List.set_cons_zero, List.set_cons_succ]; done) | (simp only [putAll, Act.put, List.setIfInBounds_toArray, List.set_cons_zero, List.set_cons_succ]; rfl)) (hJ4_11 (w1.heap.size) _ ⟨cur3, blk_new _ _, (cur).size⟩)
                  · skip
                    rintro ⟨ga10, ga11⟩ w1 ⟨cur, p10, q10, p11, q11, ne10_11⟩
                    dsimp only at p10 q10 p11 q11 ne10_11
                    have hHeld : w1.cell? ⟨w.heap.size, 0, none⟩ = some (.int .i64 p0) ∧ w1.cell? ⟨w.heap.size, 1, none⟩ = some (.int .i64 p1) ∧ w1.cell? ⟨w.heap.size + 1, 0, none⟩ = some (.int .i64 q0) ∧ w1.cell? ⟨w.heap.size + 1, 1, none⟩ = some (.int .i64 q1) := ⟨cell_below (cur) xp0, cell_below (cur) xp1, cell_below (cur) xq0, cell_below (cur) xq1⟩
                    refine norm_ (a' := ?_) ?_ ?_
                    rotate_left
                    · simp only [putAll, Act.put, List.setIfInBounds_toArray, List.set_cons_zero, List.set_cons_succ]
                      rfl
                    refine one_ (i := 4) (N := some 17) #[true, true, true, true, true, true, true, true, true, false, true, true, false, false] rfl rfl (by kernel_rfl) (by decide) (fun K hK => ?_)
                    refine goes_ Tryd.func34 (by kernel_rfl) rfl #[.int .i64 p0, .int .i64 p1] (by rfl) rfl rfl (by simp only [List.map_toArray, List.map_cons, List.map_nil]; rfl) ?_
                    with_reducible refine (of_to p0 p1 a0 a1 HA.out _).mono ?_
                    rintro e w3 ⟨rfl, hb⟩
                    refine ⟨_, rfl, ?_⟩
                    have cur3 := seq (cur) hb
                    have p3_10 := blk_below p10 hb
                    have p3_11 := blk_below p11 hb
                    refine hK.out _ _ ⟨cell_below (cur3) xp0, cell_below (cur3) xp1, cell_below (cur3) xq0, cell_below (cur3) xq1⟩ (fun hHeld => ?_)
                    clear hK K
                    refine norm_ (a' := ?_) ?_ ?_
                    rotate_left
                    · show Act.put _ (some 17) _ = _
                      simp only [Act.put, List.setIfInBounds_toArray, List.set_cons_zero, List.set_cons_succ, i64_w, i32_w]
                      rfl
                    exact norm_ (by first | (simp only [putAll, Act.put, List.setIfInBounds_toArray, List.set_cons_zero, List.set_cons_succ]; done) | (simp only [putAll, Act.put, List.setIfInBounds_toArray, List.set_cons_zero, List.set_cons_succ]; rfl)) (hJ4_10_11 (ga10, ga11) _ ⟨cur3, p3_10, q10, p3_11, q11, ne10_11⟩)
                · skip
                  rintro ga11 w1 ⟨cur, p11, q11⟩
                  have hHeld : w1.cell? ⟨w.heap.size, 0, none⟩ = some (.int .i64 p0) ∧ w1.cell? ⟨w.heap.size, 1, none⟩ = some (.int .i64 p1) ∧ w1.cell? ⟨w.heap.size + 1, 0, none⟩ = some (.int .i64 q0) ∧ w1.cell? ⟨w.heap.size + 1, 1, none⟩ = some (.int .i64 q1) := ⟨cell_below (cur) xp0, cell_below (cur) xp1, cell_below (cur) xq0, cell_below (cur) xq1⟩
                  refine norm_ (a' := ?_) ?_ ?_
                  rotate_left
                  · simp only [putAll, Act.put, List.setIfInBounds_toArray, List.set_cons_zero, List.set_cons_succ]
                    rfl
                  refine two_ (i := 9) (j := 10) (Ni := some 22) (Nj := some 7) #[true, true, true, true, true, true, true, true, true, true, false, true, false, false] #[true, true, true, true, true, true, true, true, true, false, true, true, false, false] rfl rfl rfl rfl (by kernel_rfl) (by decide) (by decide) (fun K hK => ?_) (fun K hK => ?_)
                  · skip
                    refine goes_ Tryd.func34 (by kernel_rfl) rfl #[.int .i64 q0, .int .i64 q1] (by rfl) rfl rfl (by simp only [List.map_toArray, List.map_cons, List.map_nil]; rfl) ?_
                    with_reducible refine (of_to q0 q1 b0 b1 HBB.out _).mono ?_
                    rintro e w3 ⟨rfl, hb⟩
                    refine ⟨_, rfl, ?_⟩
                    have cur3 := seq (cur) hb
                    have p3_11 := blk_below p11 hb
                    refine hK.out _ _ ⟨cell_below (cur3) xp0, cell_below (cur3) xp1, cell_below (cur3) xq0, cell_below (cur3) xq1⟩ (fun hHeld => ?_)
                    clear hK K
                    refine norm_ (a' := ?_) ?_ ?_
                    rotate_left
                    · show Act.put _ (some 22) _ = _
                      simp only [Act.put, List.setIfInBounds_toArray, List.set_cons_zero, List.set_cons_succ, i64_w, i32_w]
                      rfl
                    exact norm_ (by first | (simp only [putAll, Act.put, List.setIfInBounds_toArray, List.set_cons_zero, List.set_cons_succ]; done) | (simp only [putAll, Act.put, List.setIfInBounds_toArray, List.set_cons_zero, List.set_cons_succ]; rfl)) (hJ4_9_11 ga11 _ ⟨cur3, p3_11, q11⟩)
                  · skip
                    refine value_ (w1 := ?_) (v := ?_) (by rfl) rfl ?_ ?_
                    rotate_left 2
                    · go_simp
                      constructor
                      · rfl
                      · rfl
                    have cur3 := Below.push (cur) (Nat.le_refl _) (.cells #[.int .i64 0, .int .i64 0] 24)
                    have p3_11 := blk_alloc p11 (.cells #[.int .i64 0, .int .i64 0] 24)
                    refine hK.out _ _ ⟨cell_below (cur3) xp0, cell_below (cur3) xp1, cell_below (cur3) xq0, cell_below (cur3) xq1⟩ (fun hHeld => ?_)
                    clear hK K
                    refine norm_ (a' := ?_) ?_ ?_
                    rotate_left
                    · show Act.put _ (some 7) _ = _
                      simp only [Act.put, List.setIfInBounds_toArray, List.set_cons_zero, List.set_cons_succ, i64_w, i32_w]
                      rfl
                    exact norm_ (by first | (simp only [putAll, Act.put, List.setIfInBounds_toArray, List.set_cons_zero, List.set_cons_succ]; done) | (simp only [putAll, Act.put, List.setIfInBounds_toArray, List.set_cons_zero, List.set_cons_succ]; rfl)) (hJ4_10_11 (w1.heap.size, ga11) _ ⟨cur3, blk_new _ _, (cur).size, p3_11, q11, (Nat.ne_of_gt (blk_lt p11))⟩)
              · skip
                rintro ga10 w1 ⟨cur, p10, q10⟩
                have hHeld : w1.cell? ⟨w.heap.size, 0, none⟩ = some (.int .i64 p0) ∧ w1.cell? ⟨w.heap.size, 1, none⟩ = some (.int .i64 p1) ∧ w1.cell? ⟨w.heap.size + 1, 0, none⟩ = some (.int .i64 q0) ∧ w1.cell? ⟨w.heap.size + 1, 1, none⟩ = some (.int .i64 q1) := ⟨cell_below (cur) xp0, cell_below (cur) xp1, cell_below (cur) xq0, cell_below (cur) xq1⟩
                refine norm_ (a' := ?_) ?_ ?_
                rotate_left
                · simp only [putAll, Act.put, List.setIfInBounds_toArray, List.set_cons_zero, List.set_cons_succ]
                  rfl
                refine two_ (i := 9) (j := 11) (Ni := some 22) (Nj := some 8) #[true, true, true, true, true, true, true, true, true, true, true, false, false, false] #[true, true, true, true, true, true, true, true, true, false, true, true, false, false] rfl rfl rfl rfl (by kernel_rfl) (by decide) (by decide) (fun K hK => ?_) (fun K hK => ?_)
                · skip
                  refine goes_ Tryd.func34 (by kernel_rfl) rfl #[.int .i64 q0, .int .i64 q1] (by rfl) rfl rfl (by simp only [List.map_toArray, List.map_cons, List.map_nil]; rfl) ?_
                  with_reducible refine (of_to q0 q1 b0 b1 HBB.out _).mono ?_
                  rintro e w3 ⟨rfl, hb⟩
                  refine ⟨_, rfl, ?_⟩
                  have cur3 := seq (cur) hb
                  have p3_10 := blk_below p10 hb
                  refine hK.out _ _ ⟨cell_below (cur3) xp0, cell_below (cur3) xp1, cell_below (cur3) xq0, cell_below (cur3) xq1⟩ (fun hHeld => ?_)
                  clear hK K
                  refine norm_ (a' := ?_) ?_ ?_
                  rotate_left
                  · show Act.put _ (some 22) _ = _
                    simp only [Act.put, List.setIfInBounds_toArray, List.set_cons_zero, List.set_cons_succ, i64_w, i32_w]
                    rfl
                  exact norm_ (by first | (simp only [putAll, Act.put, List.setIfInBounds_toArray, List.set_cons_zero, List.set_cons_succ]; done) | (simp only [putAll, Act.put, List.setIfInBounds_toArray, List.set_cons_zero, List.set_cons_succ]; rfl)) (hJ4_9_10 ga10 _ ⟨cur3, p3_10, q10⟩)
                · skip
                  refine value_ (w1 := ?_) (v := ?_) (by rfl) rfl ?_ ?_
                  rotate_left 2
                  · go_simp
                    constructor
                    · rfl
                    · rfl
                  have cur3 := Below.push (cur) (Nat.le_refl _) (.cells #[.int .i64 0, .int .i64 0] 24)
                  have p3_10 := blk_alloc p10 (.cells #[.int .i64 0, .int .i64 0] 24)
                  refine hK.out _ _ ⟨cell_below (cur3) xp0, cell_below (cur3) xp1, cell_below (cur3) xq0, cell_below (cur3) xq1⟩ (fun hHeld => ?_)
                  clear hK K
                  refine norm_ (a' := ?_) ?_ ?_
                  rotate_left
                  · show Act.put _ (some 8) _ = _
                    simp only [Act.put, List.setIfInBounds_toArray, List.set_cons_zero, List.set_cons_succ, i64_w, i32_w]
                    rfl
                  exact norm_ (by first | (simp only [putAll, Act.put, List.setIfInBounds_toArray, List.set_cons_zero, List.set_cons_succ]; done) | (simp only [putAll, Act.put, List.setIfInBounds_toArray, List.set_cons_zero, List.set_cons_succ]; rfl)) (hJ4_10_11 (ga10, w1.heap.size) _ ⟨cur3, p3_10, q10, blk_new _ _, (cur).size, (Nat.ne_of_lt (blk_lt p10))⟩)
            · skip
              rintro ⟨⟩ w1 cur
              have hHeld : w1.cell? ⟨w.heap.size, 0, none⟩ = some (.int .i64 p0) ∧ w1.cell? ⟨w.heap.size, 1, none⟩ = some (.int .i64 p1) ∧ w1.cell? ⟨w.heap.size + 1, 0, none⟩ = some (.int .i64 q0) ∧ w1.cell? ⟨w.heap.size + 1, 1, none⟩ = some (.int .i64 q1) := ⟨cell_below (cur) xp0, cell_below (cur) xp1, cell_below (cur) xq0, cell_below (cur) xq1⟩
              refine norm_ (a' := ?_) ?_ ?_
              rotate_left
              · simp only [putAll, Act.put, List.setIfInBounds_toArray, List.set_cons_zero, List.set_cons_succ]
                rfl
              refine two_ (i := 10) (j := 11) (Ni := some 7) (Nj := some 8) #[true, true, true, true, true, true, true, true, true, true, true, false, false, false] #[true, true, true, true, true, true, true, true, true, true, false, true, false, false] rfl rfl rfl rfl (by kernel_rfl) (by decide) (by decide) (fun K hK => ?_) (fun K hK => ?_)
              · skip
                refine value_ (w1 := ?_) (v := ?_) (by rfl) rfl ?_ ?_
                rotate_left 2
                · go_simp
                  constructor
                  · rfl
                  · rfl
                have cur3 := Below.push (cur) (Nat.le_refl _) (.cells #[.int .i64 0, .int .i64 0] 24)
                refine hK.out _ _ ⟨cell_below (cur3) xp0, cell_below (cur3) xp1, cell_below (cur3) xq0, cell_below (cur3) xq1⟩ (fun hHeld => ?_)
                clear hK K
                refine norm_ (a' := ?_) ?_ ?_
                rotate_left
                · show Act.put _ (some 7) _ = _
                  simp only [Act.put, List.setIfInBounds_toArray, List.set_cons_zero, List.set_cons_succ, i64_w, i32_w]
                  rfl
                exact norm_ (by first | (simp only [putAll, Act.put, List.setIfInBounds_toArray, List.set_cons_zero, List.set_cons_succ]; done) | (simp only [putAll, Act.put, List.setIfInBounds_toArray, List.set_cons_zero, List.set_cons_succ]; rfl)) (hJ4_9_10 (w1.heap.size) _ ⟨cur3, blk_new _ _, (cur).size⟩)
              · skip
                refine value_ (w1 := ?_) (v := ?_) (by rfl) rfl ?_ ?_
                rotate_left 2
                · go_simp
                  constructor
                  · rfl
                  · rfl
                have cur3 := Below.push (cur) (Nat.le_refl _) (.cells #[.int .i64 0, .int .i64 0] 24)
                refine hK.out _ _ ⟨cell_below (cur3) xp0, cell_below (cur3) xp1, cell_below (cur3) xq0, cell_below (cur3) xq1⟩ (fun hHeld => ?_)
                clear hK K
                refine norm_ (a' := ?_) ?_ ?_
                rotate_left
                · show Act.put _ (some 8) _ = _
                  simp only [Act.put, List.setIfInBounds_toArray, List.set_cons_zero, List.set_cons_succ, i64_w, i32_w]
                  rfl
                exact norm_ (by first | (simp only [putAll, Act.put, List.setIfInBounds_toArray, List.set_cons_zero, List.set_cons_succ]; done) | (simp only [putAll, Act.put, List.setIfInBounds_toArray, List.set_cons_zero, List.set_cons_succ]; rfl)) (hJ4_9_11 (w1.heap.size) _ ⟨cur3, blk_new _ _, (cur).size⟩)
          · skip
            rintro ⟨ga10, ga11⟩ w1 ⟨cur, p10, q10, p11, q11, ne10_11⟩
            dsimp only at p10 q10 p11 q11 ne10_11
            have hHeld : w1.cell? ⟨w.heap.size, 0, none⟩ = some (.int .i64 p0) ∧ w1.cell? ⟨w.heap.size, 1, none⟩ = some (.int .i64 p1) ∧ w1.cell? ⟨w.heap.size + 1, 0, none⟩ = some (.int .i64 q0) ∧ w1.cell? ⟨w.heap.size + 1, 1, none⟩ = some (.int .i64 q1) := ⟨cell_below (cur) xp0, cell_below (cur) xp1, cell_below (cur) xq0, cell_below (cur) xq1⟩
            refine norm_ (a' := ?_) ?_ ?_
            rotate_left
            · simp only [putAll, Act.put, List.setIfInBounds_toArray, List.set_cons_zero, List.set_cons_succ]
              rfl
            refine one_ (i := 9) (N := some 22) #[true, true, true, true, true, true, true, true, true, true, true, true, false, false] rfl rfl (by kernel_rfl) (by decide) (fun K hK => ?_)
            refine goes_ Tryd.func34 (by kernel_rfl) rfl #[.int .i64 q0, .int .i64 q1] (by rfl) rfl rfl (by simp only [List.map_toArray, List.map_cons, List.map_nil]; rfl) ?_
            with_reducible refine (of_to q0 q1 b0 b1 HBB.out _).mono ?_
            rintro e w3 ⟨rfl, hb⟩
            refine ⟨_, rfl, ?_⟩
            have cur3 := seq (cur) hb
            have p3_10 := blk_below p10 hb
            have p3_11 := blk_below p11 hb
            refine hK.out _ _ ⟨cell_below (cur3) xp0, cell_below (cur3) xp1, cell_below (cur3) xq0, cell_below (cur3) xq1⟩ (fun hHeld => ?_)
            clear hK K
            refine norm_ (a' := ?_) ?_ ?_
            rotate_left
            · show Act.put _ (some 22) _ = _
              simp only [Act.put, List.setIfInBounds_toArray, List.set_cons_zero, List.set_cons_succ, i64_w, i32_w]
              rfl
            exact norm_ (by first | (simp only [putAll, Act.put, List.setIfInBounds_toArray, List.set_cons_zero, List.set_cons_succ]; done) | (simp only [putAll, Act.put, List.setIfInBounds_toArray, List.set_cons_zero, List.set_cons_succ]; rfl)) (hJ4_9_10_11 (ga10, ga11) _ ⟨cur3, p3_10, q10, p3_11, q11, ne10_11⟩)
        · skip
          rintro ga11 w1 ⟨cur, p11, q11⟩
          have hHeld : w1.cell? ⟨w.heap.size, 0, none⟩ = some (.int .i64 p0) ∧ w1.cell? ⟨w.heap.size, 1, none⟩ = some (.int .i64 p1) ∧ w1.cell? ⟨w.heap.size + 1, 0, none⟩ = some (.int .i64 q0) ∧ w1.cell? ⟨w.heap.size + 1, 1, none⟩ = some (.int .i64 q1) := ⟨cell_below (cur) xp0, cell_below (cur) xp1, cell_below (cur) xq0, cell_below (cur) xq1⟩
          refine norm_ (a' := ?_) ?_ ?_
          rotate_left
          · simp only [putAll, Act.put, List.setIfInBounds_toArray, List.set_cons_zero, List.set_cons_succ]
            rfl
          refine one_ (i := 10) (N := some 7) #[true, true, true, true, true, true, true, true, true, true, true, true, false, false] rfl rfl (by kernel_rfl) (by decide) (fun K hK => ?_)
          refine value_ (w1 := ?_) (v := ?_) (by rfl) rfl ?_ ?_
          rotate_left 2
          · go_simp
            constructor
            · rfl
            · rfl
          have cur3 := Below.push (cur) (Nat.le_refl _) (.cells #[.int .i64 0, .int .i64 0] 24)
          have p3_11 := blk_alloc p11 (.cells #[.int .i64 0, .int .i64 0] 24)
          refine hK.out _ _ ⟨cell_below (cur3) xp0, cell_below (cur3) xp1, cell_below (cur3) xq0, cell_below (cur3) xq1⟩ (fun hHeld => ?_)
          clear hK K
          refine norm_ (a' := ?_) ?_ ?_
          rotate_left
          · show Act.put _ (some 7) _ = _
            simp only [Act.put, List.setIfInBounds_toArray, List.set_cons_zero, List.set_cons_succ, i64_w, i32_w]
            rfl
          exact norm_ (by first | (simp only [putAll, Act.put, List.setIfInBounds_toArray, List.set_cons_zero, List.set_cons_succ]; done) | (simp only [putAll, Act.put, List.setIfInBounds_toArray, List.set_cons_zero, List.set_cons_succ]; rfl)) (hJ4_9_10_11 (w1.heap.size, ga11) _ ⟨cur3, blk_new _ _, (cur).size, p3_11, q11, (Nat.ne_of_gt (blk_lt p11))⟩)
      · skip
        rintro ga10 w1 ⟨cur, p10, q10⟩
        have hHeld : w1.cell? ⟨w.heap.size, 0, none⟩ = some (.int .i64 p0) ∧ w1.cell? ⟨w.heap.size, 1, none⟩ = some (.int .i64 p1) ∧ w1.cell? ⟨w.heap.size + 1, 0, none⟩ = some (.int .i64 q0) ∧ w1.cell? ⟨w.heap.size + 1, 1, none⟩ = some (.int .i64 q1) := ⟨cell_below (cur) xp0, cell_below (cur) xp1, cell_below (cur) xq0, cell_below (cur) xq1⟩
        refine norm_ (a' := ?_) ?_ ?_
        rotate_left
        · simp only [putAll, Act.put, List.setIfInBounds_toArray, List.set_cons_zero, List.set_cons_succ]
          rfl
        refine one_ (i := 11) (N := some 8) #[true, true, true, true, true, true, true, true, true, true, true, true, false, false] rfl rfl (by kernel_rfl) (by decide) (fun K hK => ?_)
        refine value_ (w1 := ?_) (v := ?_) (by rfl) rfl ?_ ?_
        rotate_left 2
        · go_simp
          constructor
          · rfl
          · rfl
        have cur3 := Below.push (cur) (Nat.le_refl _) (.cells #[.int .i64 0, .int .i64 0] 24)
        have p3_10 := blk_alloc p10 (.cells #[.int .i64 0, .int .i64 0] 24)
        refine hK.out _ _ ⟨cell_below (cur3) xp0, cell_below (cur3) xp1, cell_below (cur3) xq0, cell_below (cur3) xq1⟩ (fun hHeld => ?_)
        clear hK K
        refine norm_ (a' := ?_) ?_ ?_
        rotate_left
        · show Act.put _ (some 8) _ = _
          simp only [Act.put, List.setIfInBounds_toArray, List.set_cons_zero, List.set_cons_succ, i64_w, i32_w]
          rfl
        exact norm_ (by first | (simp only [putAll, Act.put, List.setIfInBounds_toArray, List.set_cons_zero, List.set_cons_succ]; done) | (simp only [putAll, Act.put, List.setIfInBounds_toArray, List.set_cons_zero, List.set_cons_succ]; rfl)) (hJ4_9_10_11 (ga10, w1.heap.size) _ ⟨cur3, p3_10, q10, blk_new _ _, (cur).size, (Nat.ne_of_lt (blk_lt p10))⟩)
    rintro ⟨ga10, ga11⟩ w1 ⟨cur, p10, q10, p11, q11, ne10_11⟩
    dsimp only at p10 q10 p11 q11 ne10_11
    have hHeld : w1.cell? ⟨w.heap.size, 0, none⟩ = some (.int .i64 p0) ∧ w1.cell? ⟨w.heap.size, 1, none⟩ = some (.int .i64 p1) ∧ w1.cell? ⟨w.heap.size + 1, 0, none⟩ = some (.int .i64 q0) ∧ w1.cell? ⟨w.heap.size + 1, 1, none⟩ = some (.int .i64 q1) := ⟨cell_below (cur) xp0, cell_below (cur) xp1, cell_below (cur) xq0, cell_below (cur) xq1⟩
    refine norm_ (a' := ?_) ?_ ?_
    rotate_left
    · simp only [putAll, Act.put, List.setIfInBounds_toArray, List.set_cons_zero, List.set_cons_succ]
      rfl
    refine last_ (i := 12) (N := none) #[true, true, true, true, true, true, true, true, true, true, true, true, true, false] rfl rfl (by kernel_rfl) (by decide) (fun K hK => ?_)
    obtain ⟨u10_0, u10_1, u10_2, u10_3⟩ := cells2 p10
    obtain ⟨u11_0, u11_1, u11_2, u11_3⟩ := cells2 p11
    refine skip_ (w1 := ?_) (by rfl) rfl ?_ ?_
    rotate_left
    · go_simp
      rfl
    refine hK.out _ _ ?_
    clear hK K
    refine last_ (i := 13) (N := none) #[true, true, true, true, true, true, true, true, true, true, true, true, true, true] rfl rfl (by kernel_rfl) (by decide) (fun K hK => ?_)
    refine skip_ (w1 := ?_) (by rfl) rfl ?_ ?_
    rotate_left
    · go_simp
      rfl
    refine hK.out _ _ ?_
    clear hK K
    refine done_ (by kernel_rfl) ?_
    go_wp2_with fail
    go_meet
    have BB := seq HB0.out cur
    have z0 := HB0.out.size
    have l1 := blk_lt KA.out
    have l2 := blk_lt KB.out
    have n1 : w.heap.size ≠ ga10 := by omega
    have n2 : w.heap.size ≠ ga11 := by omega
    have n3 : w.heap.size + 1 ≠ ga10 := by omega
    have n4 : w.heap.size + 1 ≠ ga11 := by omega
    exact ⟨ga10, ga11, rfl, rfl, Lib.hid ⟨put2_far (.int .i64 a0) (.int .i64 a1) (.int .i64 b0) (.int .i64 b1) (blk_below KA.out cur) n1 n2, put2_far (.int .i64 a0) (.int .i64 a1) (.int .i64 b0) (.int .i64 b1) (blk_below KB.out cur) n3 n4, put2_a (.int .i64 a0) (.int .i64 a1) (.int .i64 b0) (.int .i64 b1) p10 ne10_11, put2_b (.int .i64 a0) (.int .i64 a1) (.int .i64 b0) (.int .i64 b1) p11 ne10_11, put2_below (.int .i64 a0) (.int .i64 a1) (.int .i64 b0) (.int .i64 b1) BB (show w.heap.size ≤ ga10 by omega) (show w.heap.size ≤ ga11 by omega)⟩⟩
  case rest =>
    obtain ⟨ga, gb, rfl, rfl, HM⟩ := hcut
    obtain ⟨ka, kb, kc, kd, HB⟩ := HM.out
    obtain ⟨-, -, xp2⟩ := cells3 ka
    obtain ⟨-, -, xq2⟩ := cells3 kb
    obtain ⟨xa0, xa1, -, -⟩ := cells2 kc
    obtain ⟨xb0, xb1, -, -⟩ := cells2 kd
    have HB0 := Lib.hid HB
    clear ka kb kc kd HB HM
    cases hc : Sp.has a0 a1 p2
    · have HC := Lib.hid hc
      clear hc
      go_wp2_with fail
      refine (has_to a0 a1 p2 false HC.out _).mono ?_
      rintro e w1 ⟨rfl, hb1⟩
      replace xp2 := cell_below hb1 xp2
      replace xq2 := cell_below hb1 xq2
      replace xa0 := cell_below hb1 xa0
      replace xa1 := cell_below hb1 xa1
      replace xb0 := cell_below hb1 xb0
      replace xb1 := cell_below hb1 xb1
      have HB1 := Lib.hid (seq HB0.out hb1)
      clear hb1
      go_wp2_with fail
      refine (alive02 (HT.out.below HB1.out)).mono ?_
      rintro e w2 ⟨rfl, hb2⟩
      have HB2 := Lib.hid (seq HB1.out hb2)
      clear hb2
      go_wp2_with fail
      go_ret
      exact ⟨rfl, HB2.out⟩
    · have HC := Lib.hid hc
      clear hc
      go_wp2_with fail
      refine (has_to a0 a1 p2 true HC.out _).mono ?_
      rintro e w1 ⟨rfl, hb1⟩
      replace xp2 := cell_below hb1 xp2
      replace xq2 := cell_below hb1 xq2
      replace xa0 := cell_below hb1 xa0
      replace xa1 := cell_below hb1 xa1
      replace xb0 := cell_below hb1 xb0
      replace xb1 := cell_below hb1 xb1
      have HB1 := Lib.hid (seq HB0.out hb1)
      clear hb1
      cases hc2 : Sp.has b0 b1 q2
      · have HC2 := Lib.hid hc2
        clear hc2
        go_wp2_with fail
        refine (has_to b0 b1 q2 false HC2.out _).mono ?_
        rintro e w2 ⟨rfl, hb2⟩
        replace xp2 := cell_below hb2 xp2
        replace xq2 := cell_below hb2 xq2
        replace xa0 := cell_below hb2 xa0
        replace xa1 := cell_below hb2 xa1
        replace xb0 := cell_below hb2 xb0
        replace xb1 := cell_below hb2 xb1
        have HB2 := Lib.hid (seq HB1.out hb2)
        clear hb2
        go_wp2_with fail
        refine (alive02 (HT.out.below HB2.out)).mono ?_
        rintro e w3 ⟨rfl, hb3⟩
        have HB3 := Lib.hid (seq HB2.out hb3)
        clear hb3
        go_wp2_with fail
        go_ret
        exact ⟨rfl, HB3.out⟩
      · have HC2 := Lib.hid hc2
        clear hc2
        by_cases c3 : op < 0
        · have d1 : decide (op < 0) = true := by simp [c3]
          go_wp2_with fail
          refine (has_to b0 b1 q2 true HC2.out _).mono ?_
          rintro e w2 ⟨rfl, hb2⟩
          replace xp2 := cell_below hb2 xp2
          replace xq2 := cell_below hb2 xq2
          replace xa0 := cell_below hb2 xa0
          replace xa1 := cell_below hb2 xa1
          replace xb0 := cell_below hb2 xb0
          replace xb1 := cell_below hb2 xb1
          have HB2 := Lib.hid (seq HB1.out hb2)
          clear hb2
          go_wp2_with fail
          refine (alive02 (HT.out.below HB2.out)).mono ?_
          rintro e w3 ⟨rfl, hb3⟩
          have HB3 := Lib.hid (seq HB2.out hb3)
          clear hb3
          go_wp2_with fail
          go_ret
          exact ⟨rfl, HB3.out⟩
        · have d1 : decide (op < 0) = false := by simp; omega
          by_cases c4 : 3 < op
          · have d2 : decide (3 < op) = true := by simp [c4]
            go_wp2_with fail
            refine (has_to b0 b1 q2 true HC2.out _).mono ?_
            rintro e w2 ⟨rfl, hb2⟩
            replace xp2 := cell_below hb2 xp2
            replace xq2 := cell_below hb2 xq2
            replace xa0 := cell_below hb2 xa0
            replace xa1 := cell_below hb2 xa1
            replace xb0 := cell_below hb2 xb0
            replace xb1 := cell_below hb2 xb1
            have HB2 := Lib.hid (seq HB1.out hb2)
            clear hb2
            go_wp2_with fail
            refine (alive02 (HT.out.below HB2.out)).mono ?_
            rintro e w3 ⟨rfl, hb3⟩
            have HB3 := Lib.hid (seq HB2.out hb3)
            clear hb3
            go_wp2_with fail
            go_ret
            exact ⟨rfl, HB3.out⟩
          · have d2 : decide (3 < op) = false := by simp; omega
            have hsd := Sp.sound (show 0 ≤ op by omega) (show op ≤ 3 by omega) HC.out HC2.out
            obtain ⟨⟨⟨s0, s1⟩, ov⟩, hs⟩ : ∃ p, Sp.reck op a0 a1 b0 b1 = p := ⟨_, rfl⟩
            obtain ⟨⟨n, m⟩, hn⟩ : ∃ p, Bd.calc' op p2 q2 = p := ⟨_, rfl⟩
            rw [hs, hn] at hsd
            have HS := Lib.hid hs
            have HN := Lib.hid hn
            have HSD := Lib.hid hsd
            clear hs hn hsd
            go_wp2_with fail
            refine (has_to b0 b1 q2 true HC2.out _).mono ?_
            rintro e w2 ⟨rfl, hb2⟩
            replace xp2 := cell_below hb2 xp2
            replace xq2 := cell_below hb2 xq2
            replace xa0 := cell_below hb2 xa0
            replace xa1 := cell_below hb2 xa1
            replace xb0 := cell_below hb2 xb0
            replace xb1 := cell_below hb2 xb1
            have HB2 := Lib.hid (seq HB1.out hb2)
            clear hb2
            go_wp2_with fail
            refine (calc_to op a0 a1 b0 b1 s0 s1 ov HS.out _).mono ?_
            rintro e w3 ⟨rfl, hb3⟩
            replace xp2 := cell_below hb3 xp2
            replace xq2 := cell_below hb3 xq2
            replace xa0 := cell_below hb3 xa0
            replace xa1 := cell_below hb3 xa1
            replace xb0 := cell_below hb3 xb0
            replace xb1 := cell_below hb3 xb1
            have HB3 := Lib.hid (seq HB2.out hb3)
            clear hb3
            have zp2 := cell_alloc (.cells #[.int .i64 s0, .int .i64 s1] 24) xp2
            have zq2 := cell_alloc (.cells #[.int .i64 s0, .int .i64 s1] 24) xq2
            obtain ⟨zs0, zs1, -, -⟩ := cells2 (blk_new w3 (.cells #[.int .i64 s0, .int .i64 s1] 24))
            have HB3b := Lib.hid (Below.push HB3.out (Nat.le_refl _) (.cells #[.int .i64 s0, .int .i64 s1] 24))
            clear xp2 xq2 xa0 xa1 xb0 xb1 HB3
            go_wp2_with fail
            refine (bcalc_to op p2 q2 n m HN.out _).mono ?_
            rintro e w4 ⟨rfl, hb4⟩
            replace zs0 := cell_below hb4 zs0
            replace zs1 := cell_below hb4 zs1
            have HB4 := Lib.hid (seq HB3b.out hb4)
            clear hb4 HB3b zp2 zq2
            rcases HSD.out with ⟨hm, hh⟩ | ⟨hm, ho⟩
            · obtain rfl : m = 0 := hm
              have HH : Hid (Sp.has s0 s1 n = true) := Lib.hid hh
              clear hh
              go_wp2_with fail
              refine (alive02 (HT.out.below HB4.out)).mono ?_
              rintro e w5 ⟨rfl, hb5⟩
              have HB5 := Lib.hid (seq HB4.out hb5)
              replace zs0 := cell_below hb5 zs0
              replace zs1 := cell_below hb5 zs1
              clear hb5
              go_wp2_with fail
              refine (has_to s0 s1 n true HH.out _).mono ?_
              rintro e w6 ⟨rfl, hb6⟩
              have HB6 := Lib.hid (seq HB5.out hb6)
              clear hb6
              go_wp2_with fail
              go_ret
              exact ⟨rfl, HB6.out⟩
            · obtain rfl : ov = true := ho
              have he1 : (m == 0) = false := beq_eq_false_iff_ne.2 hm
              have he2 : (m != 0) = true := bne_iff_ne.2 hm
              clear hm
              go_wp2_with fail
              refine (alive02 (HT.out.below HB4.out)).mono ?_
              rintro e w5 ⟨rfl, hb5⟩
              have HB5 := Lib.hid (seq HB4.out hb5)
              replace zs0 := cell_below hb5 zs0
              replace zs1 := cell_below hb5 zs1
              clear hb5
              go_wp2_with fail
              go_ret
              exact ⟨rfl, HB5.out⟩
end Go.Proofs.YtjddafaaplhnfaaDoor.PSpanSound

set_option linter.unusedVariables false
namespace Go.Proofs.YtjddafaaplhnfaaDoor.SpanSound
open Go Go.ChangeShapes Go.WideShapes Go.ChangeAt Go.RowKit PSpanSound
theorem own : ownKnob Tryd.prog.godebug = none := by kernel_rfl
theorem laidOut : laidOutB Tryd.prog = true := by kernel_rfl
theorem tabs_of_laid {W : World} (h : laidMetH Tryd.prog Rows.spanSoundRow.laid W) : Tabs W := by
  have h' : laidMet Tryd.prog [("math/bits.deBruijn32tab", Rows.laid_math_bits_deBruijn32tab), ("math/bits.deBruijn64tab", Rows.laid_math_bits_deBruijn64tab), ("internal/strconv.uint64pow10", Rows.laid_internal_strconv_uint64pow10)] W := h
  have hp := Lib.tabIs_of_head (zs := Lib.pow10Tab) tab_pow tab_powT Tryd.underlying87 Tryd.underlying75 tab_cellsU64 tab_cellsTab h'.tail.tail
  exact ⟨hp⟩
/-- A world that meets the condition. -/
noncomputable def laidWorld (os : Os) : World := World.laidAll Tryd.prog os Rows.spanSoundRow.laid
theorem laidWorld_met (os : Os) (args : Array Value) : laidMetH Tryd.prog Rows.spanSoundRow.laid ((laidWorld os).forCall (fun _ _ => 0) ⟨#[], args, []⟩).memory :=
  laidMetH_of_parts (laidMet_of_run' 8 (by kernel_rfl) (by kernel_rfl)) (by kernel_rfl)
set_option maxRecDepth 100000 in
theorem lifted (os : Os) (started : os.Started) (H : Type) (enc : TypeId × Value → H) :
    ReturnsInHanded {} Tryd.checked os 9 .any (fun w args => (Rows.spanSoundSpec.pre enc Tryd.prog Tryd.f9 [] false w args ∧ laidMetH Tryd.prog Rows.spanSoundRow.laid w) ∧ sizedMet enc Tryd.prog Tryd.f9 (OpenSpec.ofChange Rows.spanSoundSpec) false w args)
      (Rows.spanSoundSpec.post enc Tryd.prog Tryd.f9 false true false false) := by
  refine returnsInHanded_of_change_and (C := Tryd.checked) (X := fun w _ => laidMetH Tryd.prog Rows.spanSoundRow.laid w) (fun _ _ _ hh h => h.of_heap hh) own started (by kernel_rfl) Tryd.func9
    (ChangeSpec.witness_at (enc := enc) (C := Tryd.checked) (os := os) (X := fun w _ => laidMetH Tryd.prog Rows.spanSoundRow.laid w) false (laidWorld os) #[.int .i64 0, .agg #[.int .i64 0, .int .i64 0, .int .i64 0], .agg #[.int .i64 0, .int .i64 0, .int .i64 0]] 8 (World.laidAll_os _ _ _) (by kernel_rfl) (by kernel_rfl) (by kernel_rfl) (by kernel_rfl) (by kernel_rfl) (laidWorld_met os _)) ?_
  intro W base args ds gs before hval0 hW hcnd0 hsz0 hL hx0
  have hval : ∀ (j : Nat) t v, Tryd.f9.params[j]? = some t → args[j]? = some v → Value.okWide Tryd.prog W .any base t v := hval0
  have hW' := hW
  obtain ⟨p, q, hA0, hV, rfl, hfz, hnd⟩ := hW
  have hT := tabs_of_laid hL
  have hA : DataW.TrodAll enc Tryd.prog W 0 (fun _ => true) true Tryd.f9.params.toList args.toList ds p := hA0
  rw [Tryd.params9] at hA hval
  obtain ⟨v0, vs0, d0, ds0, p0, q0, hargs, rfl, rfl, h0, r0⟩ := trodAll_cons hA
  obtain ⟨v1, vs1, d1, ds1, p1, q1, rfl, rfl, rfl, h1, r1⟩ := trodAll_cons r0
  obtain ⟨v2, vs2, d2, ds2, p2, q2, rfl, rfl, rfl, h2, r2⟩ := trodAll_cons r1
  obtain ⟨rfl, rfl, rfl⟩ := trodAll_nil r2
  obtain rfl : args = #[v0, v1, v2] := by cases args; simp_all
  obtain ⟨rfl, rfl⟩ := trodVars_none hV
  obtain ⟨a0, rfl, rfl, rfl, w0⟩ := open_int Tryd.underlying3 (hval 0 3 v0 rfl rfl) h0
  have A1 : Go.WideMaps.ArrKey Tryd.prog 55 3 3 := ⟨Tryd.underlying55, by kernel_rfl, by kernel_rfl, by kernel_rfl⟩
  obtain ⟨a1, b1, c1, rfl, rfl, rfl, wa1, wb1, wc1⟩ := open_three A1 Tryd.underlying3 (hval 1 55 v1 rfl rfl) h1
  have A2 : Go.WideMaps.ArrKey Tryd.prog 55 3 3 := ⟨Tryd.underlying55, by kernel_rfl, by kernel_rfl, by kernel_rfl⟩
  obtain ⟨a2, b2, c2, rfl, rfl, rfl, wa2, wb2, wc2⟩ := open_three A2 Tryd.underlying3 (hval 2 55 v2 rfl rfl) h2
  clear hA0 hval0 hsz0 hcnd0 hx0
  refine (PSpanSound.SpanSound_walk a0 a1 b1 c1 a2 b2 c2 hT).mono fun e W' ⟨he, bel⟩ => ?_
  subst he
  exact ⟨_, rfl, _, _, _, [], _, [], hW', trodAll_mk1 (shut_bool Tryd.underlying4 _), (trodAll_cons_mk (shut_int Tryd.underlying3 w0) (trodAll_cons_mk (shut_three A1 Tryd.underlying3 wa1 wb1 wc1) (trodAll_cons_mk (shut_three A2 Tryd.underlying3 wa2 wb2 wc2) trodAll_mk0))), rfl, bel.frame _, fun h => by cases h⟩
theorem over : Rows.SpanSoundSaid :=
  OpenClaim.holds_of_wide 9 Tryd.f9 rfl rfl rfl rfl rfl rfl rfl ⟨rfl, rfl, rfl, rfl, rfl⟩ rfl rfl rfl rfl rfl (by kernel_rfl) Tryd.func9 (by kernel_rfl)
    (of_decide_eq_true (by kernel_rfl)) (by unfold Func.isWrapper; first | (rw [if_pos (by decide +kernel)]; kernel_rfl) | (rw [if_neg (by decide +kernel)]; exact ⟨rfl, rfl⟩))
    (fun os started H enc _ => lifted os started H enc)
theorem proved : Rows.SpanSoundCardSaid :=
  Claim7.holds_tied_plain_at .later [] [.data, .data, .data] true (true, "dd4255569846f32772da1bc8f9ad4daf2d0e0abb43648cb154e52fabfac71cc0") false
    over (fun _ h => by cases h) (by kernel_rfl) (fun _ h => by cases h) spanSound_row_tie rfl ⟨rfl, rfl⟩ (by kernel_rfl) rfl
    (fun f fn hf hfn => by
      obtain rfl : f = 9 := Option.some.inj ((show Tryd.prog.funcNamed "helmsman/helmsmanlaw02.SpanSound" = some 9 by kernel_rfl).symm.trans hf) |>.symm
      obtain rfl : fn = Tryd.f9 := (Option.some.inj (Tryd.func9.symm.trans hfn)).symm
      exact ⟨by kernel_rfl, fun j t ht => by
        rw [Tryd.params9] at ht
        have hts : t ∈ [3, 55, 55] := by
          rcases j with _ | _ | _ | j
          · simp at ht; simp [ht]
          · simp at ht; simp [ht]
          · simp at ht; simp [ht]
          · simp at ht
        simp only [List.mem_cons, List.not_mem_nil, or_false] at hts
        rcases hts with rfl | rfl | rfl <;> exact (show Tryd.prog.wantsStandIn _ = false by kernel_rfl)⟩)
    (by kernel_rfl)
#print axioms proved
end Go.Proofs.YtjddafaaplhnfaaDoor.SpanSound
namespace Go.Proofs.YtjddafaaplhnfaaDoor
/-- The card, under a short name, for the claim. -/
theorem spanSound_holds : Rows.SpanSoundCardSaid := SpanSound.proved
end Go.Proofs.YtjddafaaplhnfaaDoor
