/- Texts of this claim, one behind the other: Sk, Rr, WSpanReached, RowSpanReached. -/
import Derived.Test.YtjddafaaplhnfaaDoorPSpanReachedx48
import Derived.Test.YtjddafaaplhnfaaDoorSpanReachedSm
import Derived.Test.YtjddafaaplhnfaaDoorPSpanReachedx45
import Derived.Test.YtjddafaaplhnfaaDoorPm
import Derived.Test.YtjddafaaplhnfaaDoorRows
import Derived.Test.YtjddafaaplhnfaaDoorTie
import Derived.Test.YtjddafaaplhnfaaDoorCards
import Derived.WalkKit
import Derived.ShutString
import Derived.ChangeSame
import Derived.ChangeVars
import Derived.JoinedOf
import Derived.LaidLaws
import Derived.LaidHandle
import Derived.Stop.Joined
import Derived.Stop.LaidErr
import Derived.SevenTiedAt
import Derived.Lay
import Derived.WideKeyPair
import Derived.Lib.SmallJoins
import Derived.ChangeMaps5
set_option linter.unusedVariables false
set_option linter.unusedSimpArgs false
namespace Go.Proofs.YtjddafaaplhnfaaDoor.PSpanReached
open Go Go.RowKit Go.Proofs.YtjddafaaplhnfaaDoorW.PrintWords Go.Proofs.YtjddafaaplhnfaaDoorW.PrintLast Go.Proofs.YtjddafaaplhnfaaDoorW.PrintMore Go.Shelf

theorem told_t (a : Int) : bound_told.f a true = some (Bd.told a) := by
  unfold bound_told.f Bd.told
  rw [if_pos rfl, In_f]
  simp only [Option.bind_some]
  split <;> rfl
theorem told_f (a : Int) : bound_told.f a false = some (0, 10) := rfl
theorem times_f (k : Nat) {a b : Int} (ha : Bd.inn a = true) (hb : Bd.inn b = true) : bound_times.f (k + 1) a b = some (if Bd.inn (a * b) = true then (a * b, true) else (0, false)) := by
  rw [Bd.inn_iff] at ha hb
  unfold bound_times.f
  rw [mx_abs (by omega), mx_abs (by omega)]
  obtain ⟨x, hx⟩ : ∃ x, a.natAbs = x := ⟨_, rfl⟩
  obtain ⟨y, hy⟩ : ∃ y, b.natAbs = y := ⟨_, rfl⟩
  have hs := sign_mul x y hx hy
  rw [hx, hy, Mul64_f x y (by omega) (by omega)]
  simp only [Option.bind_some]
  rw [hs]
  generalize x * y = p
  by_cases h1 : ((p / 18446744073709551616 : Nat) : Int) > 0
  · rw [if_pos h1]
    have : Bd.inn (if (decide (a < 0) != decide (b < 0)) = true then -(p : Int) else (p : Int)) = false := by rw [Bd.inn_not]; split <;> omega
    rw [this]; rfl
  · rw [if_neg h1]
    obtain e : p % 18446744073709551616 = p := by omega
    rw [e]
    by_cases h2 : (p : Int) > 1152921504606846976
    · rw [decide_eq_true h2]
      have : Bd.inn (if (decide (a < 0) != decide (b < 0)) = true then -(p : Int) else (p : Int)) = false := by rw [Bd.inn_not]; split <;> omega
      rw [this]; rfl
    · rw [decide_eq_false h2]
      have : Bd.inn (if (decide (a < 0) != decide (b < 0)) = true then -(p : Int) else (p : Int)) = true := by rw [Bd.inn_iff]; split <;> omega
      rw [this, if_pos rfl]
      simp only [bound_times.j0]
      rw [if_neg (by simp), w64 (n := (p : Int)) (by omega), w64 (n := -(p : Int)) (by omega)]
      split <;> rfl

theorem tdiv_rangeB {a b : Int} (ha : Bd.inn a = true) (hb : b ≠ 0) : -1152921504606846976 ≤ a.tdiv b ∧ a.tdiv b ≤ 1152921504606846976 := by
  rw [Bd.inn_iff] at ha
  have h1 : (a.tdiv b).natAbs ≤ a.natAbs := by
    rw [Int.natAbs_tdiv]; exact Nat.div_le_self _ _
  omega

theorem Calc_f (k : Nat) (op a b : Int) : bound_Calc.f (k + 2) op a b = some (Bd.calc' op a b) := by
  unfold bound_Calc.f Bd.calc'
  by_cases h0 : op < 0
  · rw [if_pos h0, if_pos (.inl h0)]; rfl
  · rw [if_neg h0]
    by_cases h3 : op > 3
    · rw [if_pos h3, if_pos (.inr (.inl h3))]; rfl
    · rw [if_neg h3, In_f, In_f]
      simp only [Option.bind_some]
      cases ha : Bd.inn a
      · rw [if_neg (by simp), if_pos (.inr (.inr (.inl rfl)))]; rfl
      · rw [if_pos rfl]
        cases hb : Bd.inn b
        · rw [if_pos (.inr (.inr (.inr rfl)))]; rfl
        · rw [if_neg (by simp; omega)]
          have ha' := Bd.inn_iff.1 ha
          have hb' := Bd.inn_iff.1 hb
          simp only [bound_Calc.j0]
          rw [if_neg (by simp)]
          by_cases o1 : op = 1
          · rw [if_pos o1, if_neg (by omega), if_pos o1, w64 (n := -b) (by omega), w64 (by omega), told_t, Int.sub_eq_add_neg]; rfl
          · rw [if_neg o1]
            by_cases o0 : op = 0
            · rw [if_pos o0, if_pos o0, w64 (by omega), told_t]; rfl
            · rw [if_neg o0, if_neg o0, if_neg o1]
              by_cases o2 : op = 2
              · rw [if_pos o2, if_pos o2, times_f k ha hb]
                simp only [Option.bind_some]
                cases hp : Bd.inn (a * b)
                · rw [if_neg (by simp), told_f]
                  simp only [Option.bind_some, Bd.told, hp]; rfl
                · rw [if_pos rfl, told_t]; rfl
              · rw [if_neg o2, if_neg o2]
                by_cases hz : b = 0
                · rw [if_pos hz, if_pos hz]
                · rw [if_neg hz, if_neg hz]
                  have := tdiv_rangeB ha hz
                  rw [w64 (by omega), told_t]; rfl

theorem bcalc_to (op a b v1 v2 : Int) (h : Bd.calc' op a b = (v1, v2)) (w : World) :
    Calls Tryd.prog 36 #[.int .i64 op, .int .i64 a, .int .i64 b] w fun e w' => e = .returned (.tuple #[.int .i64 v1, .int .i64 v2]) ∧ Below w.heap.size w w' :=
  (bound_Calc.calls 2 op a b v1 v2 w (by rw [Calc_f, h])).mono fun e w' h => ⟨h.1, by first | exact h.2 | exact h.2.below⟩
end Go.Proofs.YtjddafaaplhnfaaDoor.PSpanReached

set_option linter.unusedVariables false
set_option linter.unusedSimpArgs false
namespace Go.Proofs.YtjddafaaplhnfaaDoor.PSpanReached
open Go Go.RowKit Go.Proofs.YtjddafaaplhnfaaDoorW.PrintWords Go.Proofs.YtjddafaaplhnfaaDoorW.PrintLast Go.Proofs.YtjddafaaplhnfaaDoorW.PrintMore

theorem rTop : helmsmanref01_Top.f = some 1152921504606846976 := rfl
theorem rIn_f (a : Int) : helmsmanref01_In.f a = some (Bd.inn a) := by
  unfold helmsmanref01_In.f Bd.inn
  rw [rTop]
  simp only [Option.bind_some]
  rw [w64 (by omega)]
  by_cases h : a ≥ -1152921504606846976
  · rw [if_pos h, decide_eq_true (show -1152921504606846976 ≤ a from h), Bool.true_and]
  · rw [if_neg h, decide_eq_false (show ¬ -1152921504606846976 ≤ a from h), Bool.false_and]
theorem rRight_f (k : Nat) (a b : Int) : helmsmanref02_Right.f (k + 1) a b = some (Sp.right a b) := by
  unfold helmsmanref02_Right.f
  have j0 : ∀ x, helmsmanref02_Right.j0 (k + 1) x a b = some (if x = true then true else Sp.ok a b) := by
    intro x
    simp only [helmsmanref02_Right.j0]
    cases x
    · rw [if_neg (by simp), if_neg (by simp), rIn_f, rIn_f]
      simp only [Option.bind_some]
      have e : Sp.ok a b = true ↔ Bd.inn a = true ∧ Bd.inn b = true ∧ a ≤ b := by rw [Sp.ok_iff, Bd.inn_iff, Bd.inn_iff]; omega
      cases ha : Bd.inn a
      · rw [if_neg (by simp)]; cases h : Sp.ok a b
        · rfl
        · rw [h, ha] at e; simp at e
      · rw [if_pos rfl]
        cases hb : Bd.inn b
        · rw [if_neg (by simp)]; cases h : Sp.ok a b
          · rfl
          · rw [h, hb] at e; simp at e
        · rw [if_pos rfl]
          congr 1
          rw [Bool.eq_iff_iff, e]; simp [ha, hb]
    · rfl
  unfold Sp.right
  by_cases c : a = 1
  · rw [if_pos c, j0]
    congr 1
    subst c
    cases Sp.ok 1 b <;> cases (b == 0) <;> rfl
  · rw [if_neg c, j0, if_neg (by simp), beq_false_of_ne c]
    simp
theorem rNone_f (k : Nat) (a b : Int) : helmsmanref02_None.f (k + 1) a b = some (!Sp.ok a b) := by
  unfold helmsmanref02_None.f
  rw [rRight_f]
  simp only [Option.bind_some, Sp.right]
  cases h : Sp.ok a b
  · by_cases c : (a == 1 && b == 0) = true
    · rw [c]
      simp only [Bool.and_eq_true, beq_iff_eq] at c
      simp [c.1, c.2]
    · rw [Bool.not_eq_true] at c
      rw [c]
      rfl
  · have := Sp.ok_iff.1 h
    simp
    omega
theorem rHas_f (k : Nat) (a b n : Int) : helmsmanref02_Has.f (k + 1) a b n = some (Sp.has a b n) := by
  unfold helmsmanref02_Has.f Sp.has
  rw [rNone_f]
  simp only [Option.bind_some]
  cases h : Sp.ok a b
  · rfl
  · rw [if_neg (by simp)]
    by_cases c : a ≤ n
    · rw [if_pos c]; simp [c]
    · rw [if_neg c]; simp [c]
theorem rhas_to (a b n : Int) (v : Bool) (h : Sp.has a b n = v) (w : World) :
    Calls Tryd.prog 31 #[.agg #[.int .i64 a, .int .i64 b], .int .i64 n] w fun e w' => e = .returned (.bool v) ∧ Below w.heap.size w w' :=
  (helmsmanref02_Has.calls 1 a b n v w (by rw [rHas_f, h])).mono fun e w' h => ⟨h.1, by first | exact h.2 | exact h.2.below⟩
end Go.Proofs.YtjddafaaplhnfaaDoor.PSpanReached

set_option linter.unusedVariables false
set_option linter.unusedSimpArgs false
namespace Go.Proofs.YtjddafaaplhnfaaDoor.PSpanReached
open Go Go.RowKit Go.Deep Go.Proofs.YtjddafaaplhnfaaDoorW.PrintWords Go.Proofs.YtjddafaaplhnfaaDoorW.PrintLast Go.Proofs.YtjddafaaplhnfaaDoorW.PrintMore
variable {w : World}
attribute [local go_sem high] eq_sp
/-- What the law looks for: does this pair make that end. -/
def fE (op b0 b1 s : Int) (p : Int × Int) : Bool := ((Bd.calc' op p.1 p.2).2 == 0 && Sp.has b0 b1 p.2) && (Bd.calc' op p.1 p.2).1 == s
def prs (a0 a1 b0 b1 : Int) : List (Int × Int) := [(a0, b0), (a0, b1), (a0, -1), (a0, 1), (a1, b0), (a1, b1), (a1, -1), (a1, 1)]
def hit (op a0 a1 b0 b1 s c : Int) (n : Nat) : Bool := (s == c) || ((prs a0 a1 b0 b1).take n).any (fE op b0 b1 s)
theorem hit_0 (op a0 a1 b0 b1 s c : Int) : hit op a0 a1 b0 b1 s c 0 = (s == c) := by simp [hit]
theorem hit_n {op a0 a1 b0 b1 s c x y : Int} {n : Nat} (h : (prs a0 a1 b0 b1)[n]? = some (x, y)) : hit op a0 a1 b0 b1 s c (n + 1) = (hit op a0 a1 b0 b1 s c n || fE op b0 b1 s (x, y)) := by
  unfold hit
  rw [List.take_add_one, h, List.any_append]
  simp [Bool.or_assoc]
theorem hit_8 {op a0 a1 b0 b1 s c : Int} (h : s = c ∨ ∃ x y : Int, (x = a0 ∨ x = a1) ∧ (y = b0 ∨ y = b1 ∨ y = -1 ∨ y = 1) ∧ Sp.has b0 b1 y = true ∧ Bd.calc' op x y = (s, 0)) : hit op a0 a1 b0 b1 s c 8 = true := by
  unfold hit
  rcases h with h | ⟨x, y, hx, hy, h1, h2⟩
  · rw [beq_iff_eq.2 h]; rfl
  · have e : (prs a0 a1 b0 b1).take 8 = prs a0 a1 b0 b1 := rfl
    have hm : (x, y) ∈ prs a0 a1 b0 b1 := by
      unfold prs
      rcases hx with rfl | rfl <;> rcases hy with rfl | rfl | rfl | rfl <;> simp
    rw [e, Bool.or_eq_true, List.any_eq_true]
    exact .inr ⟨(x, y), hm, by unfold fE; rw [h2, h1]; simp⟩
theorem fE_off1 {op b0 b1 s x y n m : Int} (hn : Bd.calc' op x y = (n, m)) (hm : (m == 0) = false) : fE op b0 b1 s (x, y) = false := by
  unfold fE; rw [hn]; dsimp only; rw [hm]; rfl
theorem fE_off2 {op b0 b1 s x y n m : Int} (hn : Bd.calc' op x y = (n, m)) (hh : Sp.has b0 b1 y = false) : fE op b0 b1 s (x, y) = false := by
  unfold fE; dsimp only; rw [hh]; simp
theorem fE_on {op b0 b1 s x y n m : Int} (hn : Bd.calc' op x y = (n, m)) (hm : (m == 0) = true) (hh : Sp.has b0 b1 y = true) : fE op b0 b1 s (x, y) = (n == s) := by
  unfold fE; rw [hn, hh]; dsimp only; rw [hm]; rfl
set_option maxRecDepth 100000 in
set_option maxHeartbeats 16000000 in
theorem SpanReached_walk (op a0 a1 b0 b1 : Int) (hT : Tabs w) :
    Calls Tryd.prog 10 #[.int .i64 op, .agg #[.int .i64 a0, .int .i64 a1], .agg #[.int .i64 b0, .int .i64 b1]] w fun e w' => e = .returned (.bool true) ∧ Below w.heap.size w w' := by
  have HT := Lib.hid hT
  clear hT
  obtain ⟨⟨⟨s0, s1⟩, ov⟩, hs⟩ : ∃ p, Sp.reck op a0 a1 b0 b1 = p := ⟨_, rfl⟩
  have HS := Lib.hid hs
  clear hs
  go_enter Tryd.func10, Tryd.ntmps10
  go_wp2_with fail
  obtain ⟨ka, kb, HB⟩ := box2 w (.cells #[.int .i64 a0, .int .i64 a1] 23) (.cells #[.int .i64 b0, .int .i64 b1] 23) (Below.refl _ _)
  generalize (w.alloc (.cells #[.int .i64 a0, .int .i64 a1] 23)).alloc (.cells #[.int .i64 b0, .int .i64 b1] 23) = wb at *
  refine (calc_to op a0 a1 b0 b1 s0 s1 ov HS.out _).mono ?_
  rintro e w1 ⟨rfl, hb1⟩
  have ka1 := blk_alloc (blk_below ka hb1) (.cells #[.int .i64 s0, .int .i64 s1] 24)
  have kb1 := blk_alloc (blk_below kb hb1) (.cells #[.int .i64 s0, .int .i64 s1] 24)
  have ks := blk_new w1 (.cells #[.int .i64 s0, .int .i64 s1] 24)
  have HB1 := Lib.hid (Below.push (seq HB hb1) (Nat.le_refl _) (.cells #[.int .i64 s0, .int .i64 s1] 24))
  obtain ⟨zs0, zs1, -, -⟩ := cells2 ks
  have KA := Lib.hid ka1
  have KB := Lib.hid kb1
  have KS := Lib.hid ks
  clear ka kb HB hb1 ka1 kb1 ks
  obtain ⟨E, hE⟩ : ∃ E, spEq s0 s1 1 0 = E := ⟨_, rfl⟩
  go_wp2_with fail
  generalize w1.alloc (.cells #[.int .i64 s0, .int .i64 s1] 24) = wx at *
  generalize w1.heap.size = gs at zs0 zs1 KS ⊢
  clear w1
  cases E with
  | true =>
    refine wp_region_held_drew (S := fun w' => w'.cell? ⟨gs, 0, none⟩ = some (.int .i64 s0) ∧ w'.cell? ⟨gs, 1, none⟩ = some (.int .i64 s1)) (by kernel_rfl) ?_ (fun hHeld => ?_)
    focus ((try dsimp only); (first | done | (exact ⟨cell_below ((Below.refl wx.heap.size wx).drew) zs0, cell_below ((Below.refl wx.heap.size wx).drew) zs1⟩)); done)
    (refine wpAnyH_take (i := 0) (oi := ⟨some 24, _, _, _, _, _⟩) (v := ?_) rfl (by kernel_rfl) (by kernel_rfl) (by kernel_rfl) (fun _ _ _ h => h) (Or.inl ⟨by kernel_rfl, ?_⟩) hHeld ?_; rotate_left; focus (intro w hSw; (try dsimp only at hSw); go_simp; (try with_reducible rfl); done))
    (first | (simp only [Act.put, List.setIfInBounds_toArray, List.set_cons_zero, List.set_cons_succ]) | (simp only [Act.put, List.setIfInBounds_toArray, List.set]) | (simp only [Act.put]) | skip)
    refine wpAnyH_ready (rs := [1]) (by kernel_rfl) (by simp) (AllReadyH.cons (o := ⟨some 25, _, _, _, _, _⟩) rfl (fun K hK => ?_) AllReadyH.nil)
    go_simp
    refine (empty_to _).mono ?_
    rintro e w3 ⟨rfl, hb⟩
    have cur := seq ((Below.refl wx.heap.size wx).drew) hb
    clear hb
    (try dsimp only)
    refine Shut.out hK _ _ (by (try dsimp only); (first | done | (exact ⟨cell_below (cur) zs0, cell_below (cur) zs1⟩))) (fun hHeld => ?_)
    clear hK K
    (first | (simp only [Act.put, List.setIfInBounds_toArray, List.set_cons_zero, List.set_cons_succ]) | (simp only [Act.put, List.setIfInBounds_toArray, List.set]) | (simp only [Act.put]) | skip)
    (refine wpAnyH_take (i := 2) (oi := ⟨some 26, _, _, _, _, _⟩) (v := ?_) rfl (by kernel_rfl) (by kernel_rfl) (by kernel_rfl) (fun _ _ _ h => h) (Or.inl ⟨by kernel_rfl, ?_⟩) hHeld ?_; rotate_left; focus (intro w hSw; (try dsimp only at hSw); go_simp; (try with_reducible rfl); done))
    (first | (simp only [Act.put, List.setIfInBounds_toArray, List.set_cons_zero, List.set_cons_succ]) | (simp only [Act.put, List.setIfInBounds_toArray, List.set]) | (simp only [Act.put]) | skip)
    (refine wpAnyH_take (i := 3) (oi := ⟨some 27, _, _, _, _, _⟩) (v := ?_) rfl (by kernel_rfl) (by kernel_rfl) (by kernel_rfl) (fun _ _ _ h => h) (Or.inl ⟨by kernel_rfl, ?_⟩) hHeld ?_; rotate_left; focus (intro w hSw; (try dsimp only at hSw); go_simp; (try with_reducible rfl); done))
    (first | (simp only [Act.put, List.setIfInBounds_toArray, List.set_cons_zero, List.set_cons_succ]) | (simp only [Act.put, List.setIfInBounds_toArray, List.set]) | (simp only [Act.put]) | skip)
    (refine wpAnyH_take (i := 4) (oi := ⟨some 28, _, _, _, _, _⟩) (v := undef) rfl (by kernel_rfl) (by kernel_rfl) (by kernel_rfl) (fun _ _ _ h => h) (Or.inr ⟨by kernel_rfl, rfl⟩) hHeld ?_)
    (first | (simp only [Act.put, List.setIfInBounds_toArray, List.set_cons_zero, List.set_cons_succ]) | (simp only [Act.put, List.setIfInBounds_toArray, List.set]) | (simp only [Act.put]) | skip)
    (refine wpAnyH_take (i := 5) (oi := ⟨some 29, _, _, _, _, _⟩) (v := undef) rfl (by kernel_rfl) (by kernel_rfl) (by kernel_rfl) (fun _ _ _ h => h) (Or.inr ⟨by kernel_rfl, rfl⟩) hHeld ?_)
    (first | (simp only [Act.put, List.setIfInBounds_toArray, List.set_cons_zero, List.set_cons_succ]) | (simp only [Act.put, List.setIfInBounds_toArray, List.set]) | (simp only [Act.put]) | skip)
    (refine wpAnyH_take (i := 6) (oi := ⟨some 30, _, _, _, _, _⟩) (v := ?_) rfl (by kernel_rfl) (by kernel_rfl) (by kernel_rfl) (fun _ _ _ h => h) (Or.inl ⟨by kernel_rfl, ?_⟩) hHeld ?_; rotate_left; focus (intro w hSw; (try dsimp only at hSw); go_simp; (try with_reducible rfl); done))
    (first | (simp only [Act.put, List.setIfInBounds_toArray, List.set_cons_zero, List.set_cons_succ]) | (simp only [Act.put, List.setIfInBounds_toArray, List.set]) | (simp only [Act.put]) | skip)
    (refine wpAnyH_take (i := 7) (oi := ⟨some 31, _, _, _, _, _⟩) (v := ?_) rfl (by kernel_rfl) (by kernel_rfl) (by kernel_rfl) (fun _ _ _ h => h) (Or.inl ⟨by kernel_rfl, ?_⟩) hHeld ?_; rotate_left; focus (intro w hSw; (try dsimp only at hSw); go_simp; (try with_reducible rfl); done))
    (first | (simp only [Act.put, List.setIfInBounds_toArray, List.set_cons_zero, List.set_cons_succ]) | (simp only [Act.put, List.setIfInBounds_toArray, List.set]) | (simp only [Act.put]) | skip)
    (refine wpAnyH_take (i := 8) (oi := ⟨some 32, _, _, _, _, _⟩) (v := undef) rfl (by kernel_rfl) (by kernel_rfl) (by kernel_rfl) (fun _ _ _ h => h) (Or.inr ⟨by kernel_rfl, rfl⟩) hHeld ?_)
    (first | (simp only [Act.put, List.setIfInBounds_toArray, List.set_cons_zero, List.set_cons_succ]) | (simp only [Act.put, List.setIfInBounds_toArray, List.set]) | (simp only [Act.put]) | skip)
    (refine wpAnyH_take (i := 9) (oi := ⟨some 33, _, _, _, _, _⟩) (v := undef) rfl (by kernel_rfl) (by kernel_rfl) (by kernel_rfl) (fun _ _ _ h => h) (Or.inr ⟨by kernel_rfl, rfl⟩) hHeld ?_)
    (first | (simp only [Act.put, List.setIfInBounds_toArray, List.set_cons_zero, List.set_cons_succ]) | (simp only [Act.put, List.setIfInBounds_toArray, List.set]) | (simp only [Act.put]) | skip)
    (refine wpAnyH_take (i := 10) (oi := ⟨some 34, _, _, _, _, _⟩) (v := ?_) rfl (by kernel_rfl) (by kernel_rfl) (by kernel_rfl) (fun _ _ _ h => h) (Or.inl ⟨by kernel_rfl, ?_⟩) hHeld ?_; rotate_left; focus (intro w hSw; (try dsimp only at hSw); go_simp; (try with_reducible rfl); done))
    (first | (simp only [Act.put, List.setIfInBounds_toArray, List.set_cons_zero, List.set_cons_succ]) | (simp only [Act.put, List.setIfInBounds_toArray, List.set]) | (simp only [Act.put]) | skip)
    refine wpAnyH_done (by kernel_rfl) ?_ _
    go_wp2_with fail
    have HB2 := Lib.hid (seq HB1.out cur)
    clear zs0 zs1 cur
    refine (alive02 (HT.out.below HB2.out)).mono ?_
    rintro e w4 ⟨rfl, hb4⟩
    have HB3 := Lib.hid (seq HB2.out hb4)
    clear hb4
    go_wp2_with fail
    go_ret
    exact ⟨rfl, HB3.out⟩
  | false =>
    have hne : (s0, s1) ≠ (1, 0) := by
      intro e
      injection e with e1 e2
      subst e1 e2
      exact absurd hE (by decide)
    obtain ⟨ha, hb, h0, h3⟩ : Sp.ok a0 a1 = true ∧ Sp.ok b0 b1 = true ∧ 0 ≤ op ∧ op ≤ 3 := by
      have hs := HS.out
      unfold Sp.reck at hs
      split at hs
      · exact absurd (congrArg Prod.fst hs).symm hne
      · rename_i hq
        rw [not_or, not_or, not_or] at hq
        exact ⟨by simpa using hq.1, by simpa using hq.2.1, by omega, by omega⟩
    have hr := Sp.reached h0 h3 ha hb (by rw [HS.out]; exact hne)
    rw [HS.out] at hr
    have HL : Hid (hit op a0 a1 b0 b1 s0 (-1152921504606846976) 8 = true) := Lib.hid (hit_8 hr.1)
    have HH : Hid (hit op a0 a1 b0 b1 s1 1152921504606846976 8 = true) := Lib.hid (hit_8 hr.2)
    clear hr hne ha hb
    have d1 : decide (op < 0) = false := decide_eq_false (by omega)
    have d2 : decide (3 < op) = false := decide_eq_false (by omega)
    clear h0 h3
    refine wp_region_held_drew (S := fun w' => w'.cell? ⟨gs, 0, none⟩ = some (.int .i64 s0) ∧ w'.cell? ⟨gs, 1, none⟩ = some (.int .i64 s1)) (by kernel_rfl) ?_ (fun hHeld => ?_)
    focus ((try dsimp only); (first | done | (exact ⟨cell_below ((Below.refl wx.heap.size wx).drew) zs0, cell_below ((Below.refl wx.heap.size wx).drew) zs1⟩)); done)
    (refine wpAnyH_take (i := 0) (oi := ⟨some 24, _, _, _, _, _⟩) (v := ?_) rfl (by kernel_rfl) (by kernel_rfl) (by kernel_rfl) (fun _ _ _ h => h) (Or.inl ⟨by kernel_rfl, ?_⟩) hHeld ?_; rotate_left; focus (intro w hSw; (try dsimp only at hSw); go_simp; (try with_reducible rfl); done))
    (first | (simp only [Act.put, List.setIfInBounds_toArray, List.set_cons_zero, List.set_cons_succ]) | (simp only [Act.put, List.setIfInBounds_toArray, List.set]) | (simp only [Act.put]) | skip)
    refine wpAnyH_ready (rs := [1]) (by kernel_rfl) (by simp) (AllReadyH.cons (o := ⟨some 25, _, _, _, _, _⟩) rfl (fun K hK => ?_) AllReadyH.nil)
    go_simp
    refine (empty_to _).mono ?_
    rintro e w3 ⟨rfl, hb⟩
    have cur := seq ((Below.refl wx.heap.size wx).drew) hb
    clear hb
    (try dsimp only)
    refine Shut.out hK _ _ (by (try dsimp only); (first | done | (exact ⟨cell_below (cur) zs0, cell_below (cur) zs1⟩))) (fun hHeld => ?_)
    clear hK K
    (first | (simp only [Act.put, List.setIfInBounds_toArray, List.set_cons_zero, List.set_cons_succ]) | (simp only [Act.put, List.setIfInBounds_toArray, List.set]) | (simp only [Act.put]) | skip)
    (refine wpAnyH_take (i := 2) (oi := ⟨some 26, _, _, _, _, _⟩) (v := ?_) rfl (by kernel_rfl) (by kernel_rfl) (by kernel_rfl) (fun _ _ _ h => h) (Or.inl ⟨by kernel_rfl, ?_⟩) hHeld ?_; rotate_left; focus (intro w hSw; (try dsimp only at hSw); go_simp; (try with_reducible rfl); done))
    (first | (simp only [Act.put, List.setIfInBounds_toArray, List.set_cons_zero, List.set_cons_succ]) | (simp only [Act.put, List.setIfInBounds_toArray, List.set]) | (simp only [Act.put]) | skip)
    (refine wpAnyH_take (i := 3) (oi := ⟨some 27, _, _, _, _, _⟩) (v := ?_) rfl (by kernel_rfl) (by kernel_rfl) (by kernel_rfl) (fun _ _ _ h => h) (Or.inl ⟨by kernel_rfl, ?_⟩) hHeld ?_; rotate_left; focus (intro w hSw; (try dsimp only at hSw); go_simp; (try with_reducible rfl); done))
    (first | (simp only [Act.put, List.setIfInBounds_toArray, List.set_cons_zero, List.set_cons_succ]) | (simp only [Act.put, List.setIfInBounds_toArray, List.set]) | (simp only [Act.put]) | skip)
    (refine wpAnyH_take (i := 4) (oi := ⟨some 28, _, _, _, _, _⟩) (v := ?_) rfl (by kernel_rfl) (by kernel_rfl) (by kernel_rfl) (fun _ _ _ h => h) (Or.inl ⟨by kernel_rfl, ?_⟩) hHeld ?_; rotate_left; focus (intro w hSw; (try dsimp only at hSw); go_simp; (try with_reducible rfl); done))
    (first | (simp only [Act.put, List.setIfInBounds_toArray, List.set_cons_zero, List.set_cons_succ]) | (simp only [Act.put, List.setIfInBounds_toArray, List.set]) | (simp only [Act.put]) | skip)
    (refine wpAnyH_take (i := 5) (oi := ⟨some 29, _, _, _, _, _⟩) (v := ?_) rfl (by kernel_rfl) (by kernel_rfl) (by kernel_rfl) (fun _ _ _ h => h) (Or.inl ⟨by kernel_rfl, ?_⟩) hHeld ?_; rotate_left; focus (intro w hSw; (try dsimp only at hSw); go_simp; (try with_reducible rfl); done))
    (first | (simp only [Act.put, List.setIfInBounds_toArray, List.set_cons_zero, List.set_cons_succ]) | (simp only [Act.put, List.setIfInBounds_toArray, List.set]) | (simp only [Act.put]) | skip)
    (refine wpAnyH_take (i := 6) (oi := ⟨some 30, _, _, _, _, _⟩) (v := ?_) rfl (by kernel_rfl) (by kernel_rfl) (by kernel_rfl) (fun _ _ _ h => h) (Or.inl ⟨by kernel_rfl, ?_⟩) hHeld ?_; rotate_left; focus (intro w hSw; (try dsimp only at hSw); go_simp; (try with_reducible rfl); done))
    (first | (simp only [Act.put, List.setIfInBounds_toArray, List.set_cons_zero, List.set_cons_succ]) | (simp only [Act.put, List.setIfInBounds_toArray, List.set]) | (simp only [Act.put]) | skip)
    (refine wpAnyH_take (i := 7) (oi := ⟨some 31, _, _, _, _, _⟩) (v := ?_) rfl (by kernel_rfl) (by kernel_rfl) (by kernel_rfl) (fun _ _ _ h => h) (Or.inl ⟨by kernel_rfl, ?_⟩) hHeld ?_; rotate_left; focus (intro w hSw; (try dsimp only at hSw); go_simp; (try with_reducible rfl); done))
    (first | (simp only [Act.put, List.setIfInBounds_toArray, List.set_cons_zero, List.set_cons_succ]) | (simp only [Act.put, List.setIfInBounds_toArray, List.set]) | (simp only [Act.put]) | skip)
    (refine wpAnyH_take (i := 8) (oi := ⟨some 32, _, _, _, _, _⟩) (v := ?_) rfl (by kernel_rfl) (by kernel_rfl) (by kernel_rfl) (fun _ _ _ h => h) (Or.inl ⟨by kernel_rfl, ?_⟩) hHeld ?_; rotate_left; focus (intro w hSw; (try dsimp only at hSw); go_simp; (try with_reducible rfl); done))
    (first | (simp only [Act.put, List.setIfInBounds_toArray, List.set_cons_zero, List.set_cons_succ]) | (simp only [Act.put, List.setIfInBounds_toArray, List.set]) | (simp only [Act.put]) | skip)
    (refine wpAnyH_take (i := 9) (oi := ⟨some 33, _, _, _, _, _⟩) (v := ?_) rfl (by kernel_rfl) (by kernel_rfl) (by kernel_rfl) (fun _ _ _ h => h) (Or.inl ⟨by kernel_rfl, ?_⟩) hHeld ?_; rotate_left; focus (intro w hSw; (try dsimp only at hSw); go_simp; (try with_reducible rfl); done))
    (first | (simp only [Act.put, List.setIfInBounds_toArray, List.set_cons_zero, List.set_cons_succ]) | (simp only [Act.put, List.setIfInBounds_toArray, List.set]) | (simp only [Act.put]) | skip)
    (refine wpAnyH_take (i := 10) (oi := ⟨some 34, _, _, _, _, _⟩) (v := ?_) rfl (by kernel_rfl) (by kernel_rfl) (by kernel_rfl) (fun _ _ _ h => h) (Or.inl ⟨by kernel_rfl, ?_⟩) hHeld ?_; rotate_left; focus (intro w hSw; (try dsimp only at hSw); go_simp; (try with_reducible rfl); done))
    (first | (simp only [Act.put, List.setIfInBounds_toArray, List.set_cons_zero, List.set_cons_succ]) | (simp only [Act.put, List.setIfInBounds_toArray, List.set]) | (simp only [Act.put]) | skip)
    refine wpAnyH_done (by kernel_rfl) ?_ _
    replace zs0 := cell_below cur zs0
    replace zs1 := cell_below cur zs1
    have HB2 := Lib.hid (seq HB1.out cur)
    replace KA := Lib.hid (blk_below KA.out cur)
    replace KB := Lib.hid (blk_below KB.out cur)
    replace KS := Lib.hid (blk_below KS.out cur)
    clear cur d1 d2 HB1 hE
    skip
    go_upto_region 4 with fail
    clear hHeld
    refine wp_region_held_drew (S := fun w' => w'.cell? ⟨gs, 0, none⟩ = some (.int .i64 s0) ∧ w'.cell? ⟨gs, 1, none⟩ = some (.int .i64 s1)) (by kernel_rfl) ?_ (fun hHeld => ?_)
    focus ((try dsimp only); (first | done | (exact ⟨cell_below ((Below.refl w3.heap.size w3).drew) zs0, cell_below ((Below.refl w3.heap.size w3).drew) zs1⟩)); done)
    (refine wpAnyH_take (i := 0) (oi := ⟨some 36, _, _, _, _, _⟩) (v := ?_) rfl (by kernel_rfl) (by kernel_rfl) (by kernel_rfl) (fun _ _ _ h => h) (Or.inl ⟨by kernel_rfl, ?_⟩) hHeld ?_; rotate_left; focus (intro w hSw; (try dsimp only at hSw); go_simp; (try with_reducible rfl); done))
    (first | (simp only [Act.put, List.setIfInBounds_toArray, List.set_cons_zero, List.set_cons_succ]) | (simp only [Act.put, List.setIfInBounds_toArray, List.set]) | (simp only [Act.put]) | skip)
    (refine wpAnyH_take (i := 1) (oi := ⟨some 37, _, _, _, _, _⟩) (v := ?_) rfl (by kernel_rfl) (by kernel_rfl) (by kernel_rfl) (fun _ _ _ h => h) (Or.inl ⟨by kernel_rfl, ?_⟩) hHeld ?_; rotate_left; focus (intro w hSw; (try dsimp only at hSw); go_simp; (try with_reducible rfl); done))
    (first | (simp only [Act.put, List.setIfInBounds_toArray, List.set_cons_zero, List.set_cons_succ]) | (simp only [Act.put, List.setIfInBounds_toArray, List.set]) | (simp only [Act.put]) | skip)
    (refine wpAnyH_take (i := 2) (oi := ⟨some 38, _, _, _, _, _⟩) (v := ?_) rfl (by kernel_rfl) (by kernel_rfl) (by kernel_rfl) (fun _ _ _ h => h) (Or.inl ⟨by kernel_rfl, ?_⟩) hHeld ?_; rotate_left; focus (intro w hSw; (try dsimp only at hSw); go_simp; (try with_reducible rfl); done))
    (first | (simp only [Act.put, List.setIfInBounds_toArray, List.set_cons_zero, List.set_cons_succ]) | (simp only [Act.put, List.setIfInBounds_toArray, List.set]) | (simp only [Act.put]) | skip)
    (refine wpAnyH_take (i := 3) (oi := ⟨some 39, _, _, _, _, _⟩) (v := ?_) rfl (by kernel_rfl) (by kernel_rfl) (by kernel_rfl) (fun _ _ _ h => h) (Or.inl ⟨by kernel_rfl, ?_⟩) hHeld ?_; rotate_left; focus (intro w hSw; (try dsimp only at hSw); go_simp; (try with_reducible rfl); done))
    (first | (simp only [Act.put, List.setIfInBounds_toArray, List.set_cons_zero, List.set_cons_succ]) | (simp only [Act.put, List.setIfInBounds_toArray, List.set]) | (simp only [Act.put]) | skip)
    (refine wpAnyH_take (i := 4) (oi := ⟨some 40, _, _, _, _, _⟩) (v := ?_) rfl (by kernel_rfl) (by kernel_rfl) (by kernel_rfl) (fun _ _ _ h => h) (Or.inl ⟨by kernel_rfl, ?_⟩) hHeld ?_; rotate_left; focus (intro w hSw; (try dsimp only at hSw); go_simp; (try with_reducible rfl); done))
    (first | (simp only [Act.put, List.setIfInBounds_toArray, List.set_cons_zero, List.set_cons_succ]) | (simp only [Act.put, List.setIfInBounds_toArray, List.set]) | (simp only [Act.put]) | skip)
    (refine wpAnyH_take (i := 5) (oi := ⟨some 41, _, _, _, _, _⟩) (v := ?_) rfl (by kernel_rfl) (by kernel_rfl) (by kernel_rfl) (fun _ _ _ h => h) (Or.inl ⟨by kernel_rfl, ?_⟩) hHeld ?_; rotate_left; focus (intro w hSw; (try dsimp only at hSw); go_simp; (try with_reducible rfl); done))
    (first | (simp only [Act.put, List.setIfInBounds_toArray, List.set_cons_zero, List.set_cons_succ]) | (simp only [Act.put, List.setIfInBounds_toArray, List.set]) | (simp only [Act.put]) | skip)
    (refine wpAnyH_take (i := 6) (oi := ⟨some 9, _, _, _, _, _⟩) (v := ?_) rfl (by kernel_rfl) (by kernel_rfl) (by kernel_rfl) (fun _ _ _ h => h) (Or.inl ⟨by kernel_rfl, ?_⟩) hHeld ?_; rotate_left; focus (intro w hSw; (try dsimp only at hSw); go_simp; (try with_reducible rfl); done))
    (first | (simp only [Act.put, List.setIfInBounds_toArray, List.set_cons_zero, List.set_cons_succ]) | (simp only [Act.put, List.setIfInBounds_toArray, List.set]) | (simp only [Act.put]) | skip)
    (refine wpAnyH_take (i := 7) (oi := ⟨some 10, _, _, _, _, _⟩) (v := ?_) rfl (by kernel_rfl) (by kernel_rfl) (by kernel_rfl) (fun _ _ _ h => h) (Or.inl ⟨by kernel_rfl, ?_⟩) hHeld ?_; rotate_left; focus (intro w hSw; (try dsimp only at hSw); go_simp; (try with_reducible rfl); done))
    (first | (simp only [Act.put, List.setIfInBounds_toArray, List.set_cons_zero, List.set_cons_succ]) | (simp only [Act.put, List.setIfInBounds_toArray, List.set]) | (simp only [Act.put]) | skip)
    refine wpAnyH_done (by kernel_rfl) ?_ _
    obtain ⟨xa0, xa1, -, -⟩ := cells2 KA.out
    replace xa0 := cell_drew xa0
    replace xa1 := cell_drew xa1
    clear zs0 zs1 hHeld
    go_wp2_with fail
    have HB3 := Lib.hid ((Below.push HB2.out (Nat.le_refl _) (.cells #[.int .i64 a0, .int .i64 a1] 3)).drew)
    have KX : Hid ((w3.alloc (.cells #[.int .i64 a0, .int .i64 a1] 3)).drew.heap[w3.heap.size]? = some (.cells #[.int .i64 a0, .int .i64 a1] 3 (0, 0))) := Lib.hid (blk_new w3 (.cells #[.int .i64 a0, .int .i64 a1] 3))
    have KB3 : Hid ((w3.alloc (.cells #[.int .i64 a0, .int .i64 a1] 3)).drew.heap[w.heap.size + 1]? = some (.cells #[.int .i64 b0, .int .i64 b1] 23 (0, 0))) := Lib.hid (blk_alloc KB.out (.cells #[.int .i64 a0, .int .i64 a1] 3))
    have KS3 : Hid ((w3.alloc (.cells #[.int .i64 a0, .int .i64 a1] 3)).drew.heap[gs]? = some (.cells #[.int .i64 s0, .int .i64 s1] 24 (0, 0))) := Lib.hid (blk_alloc KS.out (.cells #[.int .i64 a0, .int .i64 a1] 3))
    clear xa0 xa1 KA KB KS HB2
    generalize (w3.alloc (.cells #[.int .i64 a0, .int .i64 a1] 3)).drew = wl at *
    generalize w3.heap.size = gx at KX ⊢
    clear w3
    go_loopg [9, 10, 48] 2 (fun gk v9 v10 i wr => ∃ k : Nat, i = .int .i64 k ∧ k + gk = 2 ∧ v9 = .bool (hit op a0 a1 b0 b1 s0 (-1152921504606846976) (4 * k)) ∧ v10 = .bool (hit op a0 a1 b0 b1 s1 1152921504606846976 (4 * k)) ∧ Hid (Below wl.heap.size wl wr))
    case atStart => exact ⟨0, rfl, by omega, by rw [Nat.mul_zero, hit_0], by rw [Nat.mul_zero, hit_0], Lib.hid (Below.refl _ _)⟩
    case round =>
      obtain ⟨k, rfl, hk, rfl, rfl, HW⟩ := hrel
      obtain ⟨gk0, hgk0⟩ : ∃ g, g = gk := ⟨_, rfl⟩
      subst hgk0
      by_cases hlt : k < 2
      · skip
        obtain ⟨x, hx, HK⟩ : ∃ x, wr.cell? ⟨gx, k, none⟩ = some (.int .i64 x) ∧ Hid (∀ (m : Nat) y, (m = 0 ∧ y = b0) ∨ (m = 1 ∧ y = b1) ∨ (m = 2 ∧ y = -1) ∨ (m = 3 ∧ y = 1) → (prs a0 a1 b0 b1)[4 * k + m]? = some (x, y)) := by
          have q := blk_below KX.out HW.out
          rcases (show k = 0 ∨ k = 1 by omega) with rfl | rfl
          · exact ⟨a0, (blk_cell q 0).trans rfl, Lib.hid (by rintro m y (⟨rfl, rfl⟩ | ⟨rfl, rfl⟩ | ⟨rfl, rfl⟩ | ⟨rfl, rfl⟩) <;> rfl)⟩
          · exact ⟨a1, (blk_cell q 1).trans rfl, Lib.hid (by rintro m y (⟨rfl, rfl⟩ | ⟨rfl, rfl⟩ | ⟨rfl, rfl⟩ | ⟨rfl, rfl⟩) <;> rfl)⟩
        have kb := blk_below KB3.out HW.out
        have ks := blk_below KS3.out HW.out
        obtain ⟨xb0, xb1, -, -⟩ := cells2 kb
        have KB4 := Lib.hid kb
        have KS4 := Lib.hid ks
        clear kb ks
        generalize hL0 : hit op a0 a1 b0 b1 s0 (-1152921504606846976) (4 * k) = L0 at *
        generalize hG0 : hit op a0 a1 b0 b1 s1 1152921504606846976 (4 * k) = G0 at *
        have HL0 := Lib.hid hL0
        have HG0 := Lib.hid hG0
        clear hL0 hG0
        go_wp2_with fail
        have HWm := Lib.hid (Below.push HW.out (Nat.le_refl _) (.cells #[.int .i64 b0, .int .i64 b1, .int .i64 (-1), .int .i64 1] 3))
        have KY : Hid ((wr.alloc (.cells #[.int .i64 b0, .int .i64 b1, .int .i64 (-1), .int .i64 1] 3)).heap[wr.heap.size]? = some (.cells #[.int .i64 b0, .int .i64 b1, .int .i64 (-1), .int .i64 1] 3 (0, 0))) := Lib.hid (blk_new wr (.cells #[.int .i64 b0, .int .i64 b1, .int .i64 (-1), .int .i64 1] 3))
        have KBm := Lib.hid (blk_alloc KB4.out (.cells #[.int .i64 b0, .int .i64 b1, .int .i64 (-1), .int .i64 1] 3))
        have KSm := Lib.hid (blk_alloc KS4.out (.cells #[.int .i64 b0, .int .i64 b1, .int .i64 (-1), .int .i64 1] 3))
        clear xb0 xb1 hx KB4 KS4 HW
        generalize wr.alloc (.cells #[.int .i64 b0, .int .i64 b1, .int .i64 (-1), .int .i64 1] 3) = wm at *
        generalize wr.heap.size = gy at KY ⊢
        clear wr
        rw [show decide ((k : Int) < 2) = true from decide_eq_true (by omega)]
        go_loopg [9, 10, 58] 4 (fun gj v9 v10 i wi => ∃ m : Nat, i = .int .i64 m ∧ m + gj = 4 ∧ v9 = .bool (hit op a0 a1 b0 b1 s0 (-1152921504606846976) (4 * k + m)) ∧ v10 = .bool (hit op a0 a1 b0 b1 s1 1152921504606846976 (4 * k + m)) ∧ Hid (Below wm.heap.size wm wi))
        case atStart => exact ⟨0, rfl, by omega, by rw [Nat.add_zero, HL0.out], by rw [Nat.add_zero, HG0.out], Lib.hid (Below.refl _ _)⟩
        case round =>
          obtain ⟨m, rfl, hm, rfl, rfl, HV⟩ := hrel
          by_cases hml : m < 4
          · skip
            obtain ⟨y, hy, hq⟩ : ∃ y, wr.cell? ⟨gy, m, none⟩ = some (.int .i64 y) ∧ (prs a0 a1 b0 b1)[4 * k + m]? = some (x, y) := by
              have q := blk_below KY.out HV.out
              rcases (show m = 0 ∨ m = 1 ∨ m = 2 ∨ m = 3 by omega) with rfl | rfl | rfl | rfl
              · exact ⟨b0, (blk_cell q 0).trans rfl, HK.out _ _ (.inl ⟨rfl, rfl⟩)⟩
              · exact ⟨b1, (blk_cell q 1).trans rfl, HK.out _ _ (.inr (.inl ⟨rfl, rfl⟩))⟩
              · exact ⟨-1, (blk_cell q 2).trans rfl, HK.out _ _ (.inr (.inr (.inl ⟨rfl, rfl⟩)))⟩
              · exact ⟨1, (blk_cell q 3).trans rfl, HK.out _ _ (.inr (.inr (.inr ⟨rfl, rfl⟩)))⟩
            have HQ := Lib.hid hq
            clear hq
            obtain ⟨⟨n, e⟩, hn⟩ : ∃ p, Bd.calc' op x y = p := ⟨_, rfl⟩
            have HN := Lib.hid hn
            clear hn
            generalize hL1 : hit op a0 a1 b0 b1 s0 (-1152921504606846976) (4 * k + m) = L1 at *
            generalize hG1 : hit op a0 a1 b0 b1 s1 1152921504606846976 (4 * k + m) = G1 at *
            have HL1 := Lib.hid hL1
            have HG1 := Lib.hid hG1
            clear hL1 hG1
            go_wp2_with fail
            refine (bcalc_to op x y n e HN.out _).mono ?_
            rintro z w5 ⟨rfl, hb5⟩
            have HV5 := Lib.hid (seq HV.out hb5)
            clear hy hb5 HV
            have kb := blk_below KBm.out HV5.out
            obtain ⟨xb0, xb1, -, -⟩ := cells2 kb
            clear kb
            cases d : (e == 0)
            · skip
              have E1 : Hid (L1 = hit op a0 a1 b0 b1 s0 (-1152921504606846976) (4 * k + (m + 1))) := Lib.hid (by rw [show 4 * k + (m + 1) = 4 * k + m + 1 from rfl, hit_n HQ.out, HL1.out, fE_off1 HN.out d, Bool.or_false])
              have E2 : Hid (G1 = hit op a0 a1 b0 b1 s1 1152921504606846976 (4 * k + (m + 1))) := Lib.hid (by rw [show 4 * k + (m + 1) = 4 * k + m + 1 from rfl, hit_n HQ.out, HG1.out, fE_off1 HN.out d, Bool.or_false])
              go_wp2_with fail
              go_roundg (gk - 1)
              case measure => omega
              case rel => exact ⟨m + 1, by go_num, by omega, congrArg Value.bool E1.out, congrArg Value.bool E2.out, HV5⟩
            · skip
              cases hH : Sp.has b0 b1 y
              · have HH2 := Lib.hid hH
                clear hH
                go_wp2_with fail
                refine (rhas_to b0 b1 y false HH2.out _).mono ?_
                rintro z w6 ⟨rfl, hb6⟩
                have HV6 := Lib.hid (seq HV5.out hb6)
                clear hb6 xb0 xb1
                have E1 : Hid (L1 = hit op a0 a1 b0 b1 s0 (-1152921504606846976) (4 * k + (m + 1))) := Lib.hid (by rw [show 4 * k + (m + 1) = 4 * k + m + 1 from rfl, hit_n HQ.out, HL1.out, fE_off2 HN.out HH2.out, Bool.or_false])
                have E2 : Hid (G1 = hit op a0 a1 b0 b1 s1 1152921504606846976 (4 * k + (m + 1))) := Lib.hid (by rw [show 4 * k + (m + 1) = 4 * k + m + 1 from rfl, hit_n HQ.out, HG1.out, fE_off2 HN.out HH2.out, Bool.or_false])
                go_wp2_with fail
                go_roundg (gk - 1)
                case measure => omega
                case rel => exact ⟨m + 1, by go_num, by omega, congrArg Value.bool E1.out, congrArg Value.bool E2.out, HV6⟩
              · have HH2 := Lib.hid hH
                clear hH
                go_wp2_with fail
                refine (rhas_to b0 b1 y true HH2.out _).mono ?_
                rintro z w6 ⟨rfl, hb6⟩
                have HV6 := Lib.hid (seq HV5.out hb6)
                clear hb6 xb0 xb1
                obtain ⟨zs0, zs1, -, -⟩ := cells2 (blk_below KSm.out HV6.out)
                have on0 := fE_on (s := s0) HN.out d HH2.out
                have on1 := fE_on (s := s1) HN.out d HH2.out
                have O0 := Lib.hid on0
                have O1 := Lib.hid on1
                clear on0 on1
                go_upto_region 13 with fail
                cases L1
                · cases G1
                  · skip
                    refine wp_region_held_drew (S := fun w' => w'.cell? ⟨gs, 0, none⟩ = some (.int .i64 s0) ∧ w'.cell? ⟨gs, 1, none⟩ = some (.int .i64 s1)) (by kernel_rfl) ?_ (fun hHeld => ?_)
                    focus ((try dsimp only); (first | done | (exact ⟨cell_below ((Below.refl w6.heap.size w6).drew) zs0, cell_below ((Below.refl w6.heap.size w6).drew) zs1⟩)); done)
                    (refine wpAnyH_take (i := 0) (oi := ⟨some 76, _, _, _, _, _⟩) (v := ?_) rfl (by kernel_rfl) (by kernel_rfl) (by kernel_rfl) (fun _ _ _ h => h) (Or.inl ⟨by kernel_rfl, ?_⟩) hHeld ?_; rotate_left; focus (intro w hSw; (try dsimp only at hSw); go_simp; (try with_reducible rfl); done))
                    (first | (simp only [Act.put, List.setIfInBounds_toArray, List.set_cons_zero, List.set_cons_succ]) | (simp only [Act.put, List.setIfInBounds_toArray, List.set]) | (simp only [Act.put]) | skip)
                    (refine wpAnyH_take (i := 1) (oi := ⟨some 77, _, _, _, _, _⟩) (v := ?_) rfl (by kernel_rfl) (by kernel_rfl) (by kernel_rfl) (fun _ _ _ h => h) (Or.inl ⟨by kernel_rfl, ?_⟩) hHeld ?_; rotate_left; focus (intro w hSw; (try dsimp only at hSw); go_simp; (try with_reducible rfl); done))
                    (first | (simp only [Act.put, List.setIfInBounds_toArray, List.set_cons_zero, List.set_cons_succ]) | (simp only [Act.put, List.setIfInBounds_toArray, List.set]) | (simp only [Act.put]) | skip)
                    (refine wpAnyH_take (i := 2) (oi := ⟨some 78, _, _, _, _, _⟩) (v := ?_) rfl (by kernel_rfl) (by kernel_rfl) (by kernel_rfl) (fun _ _ _ h => h) (Or.inl ⟨by kernel_rfl, ?_⟩) hHeld ?_; rotate_left; focus (intro w hSw; (try dsimp only at hSw); go_simp; (try with_reducible rfl); done))
                    (first | (simp only [Act.put, List.setIfInBounds_toArray, List.set_cons_zero, List.set_cons_succ]) | (simp only [Act.put, List.setIfInBounds_toArray, List.set]) | (simp only [Act.put]) | skip)
                    (refine wpAnyH_take (i := 3) (oi := ⟨some 79, _, _, _, _, _⟩) (v := ?_) rfl (by kernel_rfl) (by kernel_rfl) (by kernel_rfl) (fun _ _ _ h => h) (Or.inl ⟨by kernel_rfl, ?_⟩) hHeld ?_; rotate_left; focus (intro w hSw; (try dsimp only at hSw); go_simp; (try with_reducible rfl); done))
                    (first | (simp only [Act.put, List.setIfInBounds_toArray, List.set_cons_zero, List.set_cons_succ]) | (simp only [Act.put, List.setIfInBounds_toArray, List.set]) | (simp only [Act.put]) | skip)
                    (refine wpAnyH_take (i := 4) (oi := ⟨some 80, _, _, _, _, _⟩) (v := ?_) rfl (by kernel_rfl) (by kernel_rfl) (by kernel_rfl) (fun _ _ _ h => h) (Or.inl ⟨by kernel_rfl, ?_⟩) hHeld ?_; rotate_left; focus (intro w hSw; (try dsimp only at hSw); go_simp; (try with_reducible rfl); done))
                    (first | (simp only [Act.put, List.setIfInBounds_toArray, List.set_cons_zero, List.set_cons_succ]) | (simp only [Act.put, List.setIfInBounds_toArray, List.set]) | (simp only [Act.put]) | skip)
                    (refine wpAnyH_take (i := 5) (oi := ⟨some 81, _, _, _, _, _⟩) (v := ?_) rfl (by kernel_rfl) (by kernel_rfl) (by kernel_rfl) (fun _ _ _ h => h) (Or.inl ⟨by kernel_rfl, ?_⟩) hHeld ?_; rotate_left; focus (intro w hSw; (try dsimp only at hSw); go_simp; (try with_reducible rfl); done))
                    (first | (simp only [Act.put, List.setIfInBounds_toArray, List.set_cons_zero, List.set_cons_succ]) | (simp only [Act.put, List.setIfInBounds_toArray, List.set]) | (simp only [Act.put]) | skip)
                    (refine wpAnyH_take (i := 6) (oi := ⟨some 82, _, _, _, _, _⟩) (v := ?_) rfl (by kernel_rfl) (by kernel_rfl) (by kernel_rfl) (fun _ _ _ h => h) (Or.inl ⟨by kernel_rfl, ?_⟩) hHeld ?_; rotate_left; focus (intro w hSw; (try dsimp only at hSw); go_simp; (try with_reducible rfl); done))
                    (first | (simp only [Act.put, List.setIfInBounds_toArray, List.set_cons_zero, List.set_cons_succ]) | (simp only [Act.put, List.setIfInBounds_toArray, List.set]) | (simp only [Act.put]) | skip)
                    (refine wpAnyH_take (i := 7) (oi := ⟨some 83, _, _, _, _, _⟩) (v := ?_) rfl (by kernel_rfl) (by kernel_rfl) (by kernel_rfl) (fun _ _ _ h => h) (Or.inl ⟨by kernel_rfl, ?_⟩) hHeld ?_; rotate_left; focus (intro w hSw; (try dsimp only at hSw); go_simp; (try with_reducible rfl); done))
                    (first | (simp only [Act.put, List.setIfInBounds_toArray, List.set_cons_zero, List.set_cons_succ]) | (simp only [Act.put, List.setIfInBounds_toArray, List.set]) | (simp only [Act.put]) | skip)
                    (refine wpAnyH_take (i := 8) (oi := ⟨some 84, _, _, _, _, _⟩) (v := ?_) rfl (by kernel_rfl) (by kernel_rfl) (by kernel_rfl) (fun _ _ _ h => h) (Or.inl ⟨by kernel_rfl, ?_⟩) hHeld ?_; rotate_left; focus (intro w hSw; (try dsimp only at hSw); go_simp; (try with_reducible rfl); done))
                    (first | (simp only [Act.put, List.setIfInBounds_toArray, List.set_cons_zero, List.set_cons_succ]) | (simp only [Act.put, List.setIfInBounds_toArray, List.set]) | (simp only [Act.put]) | skip)
                    (refine wpAnyH_take (i := 9) (oi := ⟨some 85, _, _, _, _, _⟩) (v := ?_) rfl (by kernel_rfl) (by kernel_rfl) (by kernel_rfl) (fun _ _ _ h => h) (Or.inl ⟨by kernel_rfl, ?_⟩) hHeld ?_; rotate_left; focus (intro w hSw; (try dsimp only at hSw); go_simp; (try with_reducible rfl); done))
                    (first | (simp only [Act.put, List.setIfInBounds_toArray, List.set_cons_zero, List.set_cons_succ]) | (simp only [Act.put, List.setIfInBounds_toArray, List.set]) | (simp only [Act.put]) | skip)
                    (refine wpAnyH_take (i := 10) (oi := ⟨some 86, _, _, _, _, _⟩) (v := ?_) rfl (by kernel_rfl) (by kernel_rfl) (by kernel_rfl) (fun _ _ _ h => h) (Or.inl ⟨by kernel_rfl, ?_⟩) hHeld ?_; rotate_left; focus (intro w hSw; (try dsimp only at hSw); go_simp; (try with_reducible rfl); done))
                    (first | (simp only [Act.put, List.setIfInBounds_toArray, List.set_cons_zero, List.set_cons_succ]) | (simp only [Act.put, List.setIfInBounds_toArray, List.set]) | (simp only [Act.put]) | skip)
                    (refine wpAnyH_take (i := 11) (oi := ⟨some 87, _, _, _, _, _⟩) (v := ?_) rfl (by kernel_rfl) (by kernel_rfl) (by kernel_rfl) (fun _ _ _ h => h) (Or.inl ⟨by kernel_rfl, ?_⟩) hHeld ?_; rotate_left; focus (intro w hSw; (try dsimp only at hSw); go_simp; (try with_reducible rfl); done))
                    (first | (simp only [Act.put, List.setIfInBounds_toArray, List.set_cons_zero, List.set_cons_succ]) | (simp only [Act.put, List.setIfInBounds_toArray, List.set]) | (simp only [Act.put]) | skip)
                    (refine wpAnyH_take (i := 12) (oi := ⟨some 88, _, _, _, _, _⟩) (v := ?_) rfl (by kernel_rfl) (by kernel_rfl) (by kernel_rfl) (fun _ _ _ h => h) (Or.inl ⟨by kernel_rfl, ?_⟩) hHeld ?_; rotate_left; focus (intro w hSw; (try dsimp only at hSw); go_simp; (try with_reducible rfl); done))
                    (first | (simp only [Act.put, List.setIfInBounds_toArray, List.set_cons_zero, List.set_cons_succ]) | (simp only [Act.put, List.setIfInBounds_toArray, List.set]) | (simp only [Act.put]) | skip)
                    (refine wpAnyH_take (i := 13) (oi := ⟨some 89, _, _, _, _, _⟩) (v := ?_) rfl (by kernel_rfl) (by kernel_rfl) (by kernel_rfl) (fun _ _ _ h => h) (Or.inl ⟨by kernel_rfl, ?_⟩) hHeld ?_; rotate_left; focus (intro w hSw; (try dsimp only at hSw); go_simp; (try with_reducible rfl); done))
                    (first | (simp only [Act.put, List.setIfInBounds_toArray, List.set_cons_zero, List.set_cons_succ]) | (simp only [Act.put, List.setIfInBounds_toArray, List.set]) | (simp only [Act.put]) | skip)
                    (refine wpAnyH_take (i := 14) (oi := ⟨some 9, _, _, _, _, _⟩) (v := ?_) rfl (by kernel_rfl) (by kernel_rfl) (by kernel_rfl) (fun _ _ _ h => h) (Or.inl ⟨by kernel_rfl, ?_⟩) hHeld ?_; rotate_left; focus (intro w hSw; (try dsimp only at hSw); go_simp; (try with_reducible rfl); done))
                    (first | (simp only [Act.put, List.setIfInBounds_toArray, List.set_cons_zero, List.set_cons_succ]) | (simp only [Act.put, List.setIfInBounds_toArray, List.set]) | (simp only [Act.put]) | skip)
                    (refine wpAnyH_take (i := 15) (oi := ⟨some 10, _, _, _, _, _⟩) (v := ?_) rfl (by kernel_rfl) (by kernel_rfl) (by kernel_rfl) (fun _ _ _ h => h) (Or.inl ⟨by kernel_rfl, ?_⟩) hHeld ?_; rotate_left; focus (intro w hSw; (try dsimp only at hSw); go_simp; (try with_reducible rfl); done))
                    (first | (simp only [Act.put, List.setIfInBounds_toArray, List.set_cons_zero, List.set_cons_succ]) | (simp only [Act.put, List.setIfInBounds_toArray, List.set]) | (simp only [Act.put]) | skip)
                    refine wpAnyH_done (by kernel_rfl) ?_ _
                    have E1 : Hid ((n == s0) = hit op a0 a1 b0 b1 s0 (-1152921504606846976) (4 * k + (m + 1))) := Lib.hid (by rw [show 4 * k + (m + 1) = 4 * k + m + 1 from rfl, hit_n HQ.out, HL1.out, O0.out, Bool.false_or])
                    have E2 : Hid ((n == s1) = hit op a0 a1 b0 b1 s1 1152921504606846976 (4 * k + (m + 1))) := Lib.hid (by rw [show 4 * k + (m + 1) = 4 * k + m + 1 from rfl, hit_n HQ.out, HG1.out, O1.out, Bool.false_or])
                    go_wp2_with fail
                    go_roundg (gk - 1)
                    case measure => omega
                    case rel => exact ⟨m + 1, by go_num, by omega, congrArg Value.bool E1.out, congrArg Value.bool E2.out, Lib.hid HV6.out.drew⟩
                  · skip
                    refine wp_region_held_drew (S := fun w' => w'.cell? ⟨gs, 0, none⟩ = some (.int .i64 s0) ∧ w'.cell? ⟨gs, 1, none⟩ = some (.int .i64 s1)) (by kernel_rfl) ?_ (fun hHeld => ?_)
                    focus ((try dsimp only); (first | done | (exact ⟨cell_below ((Below.refl w6.heap.size w6).drew) zs0, cell_below ((Below.refl w6.heap.size w6).drew) zs1⟩)); done)
                    (refine wpAnyH_take (i := 0) (oi := ⟨some 76, _, _, _, _, _⟩) (v := ?_) rfl (by kernel_rfl) (by kernel_rfl) (by kernel_rfl) (fun _ _ _ h => h) (Or.inl ⟨by kernel_rfl, ?_⟩) hHeld ?_; rotate_left; focus (intro w hSw; (try dsimp only at hSw); go_simp; (try with_reducible rfl); done))
                    (first | (simp only [Act.put, List.setIfInBounds_toArray, List.set_cons_zero, List.set_cons_succ]) | (simp only [Act.put, List.setIfInBounds_toArray, List.set]) | (simp only [Act.put]) | skip)
                    (refine wpAnyH_take (i := 1) (oi := ⟨some 77, _, _, _, _, _⟩) (v := ?_) rfl (by kernel_rfl) (by kernel_rfl) (by kernel_rfl) (fun _ _ _ h => h) (Or.inl ⟨by kernel_rfl, ?_⟩) hHeld ?_; rotate_left; focus (intro w hSw; (try dsimp only at hSw); go_simp; (try with_reducible rfl); done))
                    (first | (simp only [Act.put, List.setIfInBounds_toArray, List.set_cons_zero, List.set_cons_succ]) | (simp only [Act.put, List.setIfInBounds_toArray, List.set]) | (simp only [Act.put]) | skip)
                    (refine wpAnyH_take (i := 2) (oi := ⟨some 78, _, _, _, _, _⟩) (v := ?_) rfl (by kernel_rfl) (by kernel_rfl) (by kernel_rfl) (fun _ _ _ h => h) (Or.inl ⟨by kernel_rfl, ?_⟩) hHeld ?_; rotate_left; focus (intro w hSw; (try dsimp only at hSw); go_simp; (try with_reducible rfl); done))
                    (first | (simp only [Act.put, List.setIfInBounds_toArray, List.set_cons_zero, List.set_cons_succ]) | (simp only [Act.put, List.setIfInBounds_toArray, List.set]) | (simp only [Act.put]) | skip)
                    (refine wpAnyH_take (i := 3) (oi := ⟨some 79, _, _, _, _, _⟩) (v := ?_) rfl (by kernel_rfl) (by kernel_rfl) (by kernel_rfl) (fun _ _ _ h => h) (Or.inl ⟨by kernel_rfl, ?_⟩) hHeld ?_; rotate_left; focus (intro w hSw; (try dsimp only at hSw); go_simp; (try with_reducible rfl); done))
                    (first | (simp only [Act.put, List.setIfInBounds_toArray, List.set_cons_zero, List.set_cons_succ]) | (simp only [Act.put, List.setIfInBounds_toArray, List.set]) | (simp only [Act.put]) | skip)
                    (refine wpAnyH_take (i := 4) (oi := ⟨some 80, _, _, _, _, _⟩) (v := ?_) rfl (by kernel_rfl) (by kernel_rfl) (by kernel_rfl) (fun _ _ _ h => h) (Or.inl ⟨by kernel_rfl, ?_⟩) hHeld ?_; rotate_left; focus (intro w hSw; (try dsimp only at hSw); go_simp; (try with_reducible rfl); done))
                    (first | (simp only [Act.put, List.setIfInBounds_toArray, List.set_cons_zero, List.set_cons_succ]) | (simp only [Act.put, List.setIfInBounds_toArray, List.set]) | (simp only [Act.put]) | skip)
                    (refine wpAnyH_take (i := 5) (oi := ⟨some 81, _, _, _, _, _⟩) (v := ?_) rfl (by kernel_rfl) (by kernel_rfl) (by kernel_rfl) (fun _ _ _ h => h) (Or.inl ⟨by kernel_rfl, ?_⟩) hHeld ?_; rotate_left; focus (intro w hSw; (try dsimp only at hSw); go_simp; (try with_reducible rfl); done))
                    (first | (simp only [Act.put, List.setIfInBounds_toArray, List.set_cons_zero, List.set_cons_succ]) | (simp only [Act.put, List.setIfInBounds_toArray, List.set]) | (simp only [Act.put]) | skip)
                    (refine wpAnyH_take (i := 6) (oi := ⟨some 82, _, _, _, _, _⟩) (v := ?_) rfl (by kernel_rfl) (by kernel_rfl) (by kernel_rfl) (fun _ _ _ h => h) (Or.inl ⟨by kernel_rfl, ?_⟩) hHeld ?_; rotate_left; focus (intro w hSw; (try dsimp only at hSw); go_simp; (try with_reducible rfl); done))
                    (first | (simp only [Act.put, List.setIfInBounds_toArray, List.set_cons_zero, List.set_cons_succ]) | (simp only [Act.put, List.setIfInBounds_toArray, List.set]) | (simp only [Act.put]) | skip)
                    (refine wpAnyH_take (i := 7) (oi := ⟨some 83, _, _, _, _, _⟩) (v := ?_) rfl (by kernel_rfl) (by kernel_rfl) (by kernel_rfl) (fun _ _ _ h => h) (Or.inl ⟨by kernel_rfl, ?_⟩) hHeld ?_; rotate_left; focus (intro w hSw; (try dsimp only at hSw); go_simp; (try with_reducible rfl); done))
                    (first | (simp only [Act.put, List.setIfInBounds_toArray, List.set_cons_zero, List.set_cons_succ]) | (simp only [Act.put, List.setIfInBounds_toArray, List.set]) | (simp only [Act.put]) | skip)
                    (refine wpAnyH_take (i := 8) (oi := ⟨some 84, _, _, _, _, _⟩) (v := ?_) rfl (by kernel_rfl) (by kernel_rfl) (by kernel_rfl) (fun _ _ _ h => h) (Or.inl ⟨by kernel_rfl, ?_⟩) hHeld ?_; rotate_left; focus (intro w hSw; (try dsimp only at hSw); go_simp; (try with_reducible rfl); done))
                    (first | (simp only [Act.put, List.setIfInBounds_toArray, List.set_cons_zero, List.set_cons_succ]) | (simp only [Act.put, List.setIfInBounds_toArray, List.set]) | (simp only [Act.put]) | skip)
                    (refine wpAnyH_take (i := 9) (oi := ⟨some 85, _, _, _, _, _⟩) (v := undef) rfl (by kernel_rfl) (by kernel_rfl) (by kernel_rfl) (fun _ _ _ h => h) (Or.inr ⟨by kernel_rfl, rfl⟩) hHeld ?_)
                    (first | (simp only [Act.put, List.setIfInBounds_toArray, List.set_cons_zero, List.set_cons_succ]) | (simp only [Act.put, List.setIfInBounds_toArray, List.set]) | (simp only [Act.put]) | skip)
                    (refine wpAnyH_take (i := 10) (oi := ⟨some 86, _, _, _, _, _⟩) (v := undef) rfl (by kernel_rfl) (by kernel_rfl) (by kernel_rfl) (fun _ _ _ h => h) (Or.inr ⟨by kernel_rfl, rfl⟩) hHeld ?_)
                    (first | (simp only [Act.put, List.setIfInBounds_toArray, List.set_cons_zero, List.set_cons_succ]) | (simp only [Act.put, List.setIfInBounds_toArray, List.set]) | (simp only [Act.put]) | skip)
                    (refine wpAnyH_take (i := 11) (oi := ⟨some 87, _, _, _, _, _⟩) (v := undef) rfl (by kernel_rfl) (by kernel_rfl) (by kernel_rfl) (fun _ _ _ h => h) (Or.inr ⟨by kernel_rfl, rfl⟩) hHeld ?_)
                    (first | (simp only [Act.put, List.setIfInBounds_toArray, List.set_cons_zero, List.set_cons_succ]) | (simp only [Act.put, List.setIfInBounds_toArray, List.set]) | (simp only [Act.put]) | skip)
                    (refine wpAnyH_take (i := 12) (oi := ⟨some 88, _, _, _, _, _⟩) (v := undef) rfl (by kernel_rfl) (by kernel_rfl) (by kernel_rfl) (fun _ _ _ h => h) (Or.inr ⟨by kernel_rfl, rfl⟩) hHeld ?_)
                    (first | (simp only [Act.put, List.setIfInBounds_toArray, List.set_cons_zero, List.set_cons_succ]) | (simp only [Act.put, List.setIfInBounds_toArray, List.set]) | (simp only [Act.put]) | skip)
                    (refine wpAnyH_take (i := 13) (oi := ⟨some 89, _, _, _, _, _⟩) (v := ?_) rfl (by kernel_rfl) (by kernel_rfl) (by kernel_rfl) (fun _ _ _ h => h) (Or.inl ⟨by kernel_rfl, ?_⟩) hHeld ?_; rotate_left; focus (intro w hSw; (try dsimp only at hSw); go_simp; (try with_reducible rfl); done))
                    (first | (simp only [Act.put, List.setIfInBounds_toArray, List.set_cons_zero, List.set_cons_succ]) | (simp only [Act.put, List.setIfInBounds_toArray, List.set]) | (simp only [Act.put]) | skip)
                    (refine wpAnyH_take (i := 14) (oi := ⟨some 9, _, _, _, _, _⟩) (v := ?_) rfl (by kernel_rfl) (by kernel_rfl) (by kernel_rfl) (fun _ _ _ h => h) (Or.inl ⟨by kernel_rfl, ?_⟩) hHeld ?_; rotate_left; focus (intro w hSw; (try dsimp only at hSw); go_simp; (try with_reducible rfl); done))
                    (first | (simp only [Act.put, List.setIfInBounds_toArray, List.set_cons_zero, List.set_cons_succ]) | (simp only [Act.put, List.setIfInBounds_toArray, List.set]) | (simp only [Act.put]) | skip)
                    (refine wpAnyH_take (i := 15) (oi := ⟨some 10, _, _, _, _, _⟩) (v := ?_) rfl (by kernel_rfl) (by kernel_rfl) (by kernel_rfl) (fun _ _ _ h => h) (Or.inl ⟨by kernel_rfl, ?_⟩) hHeld ?_; rotate_left; focus (intro w hSw; (try dsimp only at hSw); go_simp; (try with_reducible rfl); done))
                    (first | (simp only [Act.put, List.setIfInBounds_toArray, List.set_cons_zero, List.set_cons_succ]) | (simp only [Act.put, List.setIfInBounds_toArray, List.set]) | (simp only [Act.put]) | skip)
                    refine wpAnyH_done (by kernel_rfl) ?_ _
                    have E1 : Hid ((n == s0) = hit op a0 a1 b0 b1 s0 (-1152921504606846976) (4 * k + (m + 1))) := Lib.hid (by rw [show 4 * k + (m + 1) = 4 * k + m + 1 from rfl, hit_n HQ.out, HL1.out, O0.out, Bool.false_or])
                    have E2 : Hid (true = hit op a0 a1 b0 b1 s1 1152921504606846976 (4 * k + (m + 1))) := Lib.hid (by rw [show 4 * k + (m + 1) = 4 * k + m + 1 from rfl, hit_n HQ.out, HG1.out, Bool.true_or])
                    go_wp2_with fail
                    go_roundg (gk - 1)
                    case measure => omega
                    case rel => exact ⟨m + 1, by go_num, by omega, congrArg Value.bool E1.out, congrArg Value.bool E2.out, Lib.hid HV6.out.drew⟩
                · cases G1
                  · skip
                    refine wp_region_held_drew (S := fun w' => w'.cell? ⟨gs, 0, none⟩ = some (.int .i64 s0) ∧ w'.cell? ⟨gs, 1, none⟩ = some (.int .i64 s1)) (by kernel_rfl) ?_ (fun hHeld => ?_)
                    focus ((try dsimp only); (first | done | (exact ⟨cell_below ((Below.refl w6.heap.size w6).drew) zs0, cell_below ((Below.refl w6.heap.size w6).drew) zs1⟩)); done)
                    (refine wpAnyH_take (i := 0) (oi := ⟨some 76, _, _, _, _, _⟩) (v := ?_) rfl (by kernel_rfl) (by kernel_rfl) (by kernel_rfl) (fun _ _ _ h => h) (Or.inl ⟨by kernel_rfl, ?_⟩) hHeld ?_; rotate_left; focus (intro w hSw; (try dsimp only at hSw); go_simp; (try with_reducible rfl); done))
                    (first | (simp only [Act.put, List.setIfInBounds_toArray, List.set_cons_zero, List.set_cons_succ]) | (simp only [Act.put, List.setIfInBounds_toArray, List.set]) | (simp only [Act.put]) | skip)
                    (refine wpAnyH_take (i := 1) (oi := ⟨some 77, _, _, _, _, _⟩) (v := ?_) rfl (by kernel_rfl) (by kernel_rfl) (by kernel_rfl) (fun _ _ _ h => h) (Or.inl ⟨by kernel_rfl, ?_⟩) hHeld ?_; rotate_left; focus (intro w hSw; (try dsimp only at hSw); go_simp; (try with_reducible rfl); done))
                    (first | (simp only [Act.put, List.setIfInBounds_toArray, List.set_cons_zero, List.set_cons_succ]) | (simp only [Act.put, List.setIfInBounds_toArray, List.set]) | (simp only [Act.put]) | skip)
                    (refine wpAnyH_take (i := 2) (oi := ⟨some 78, _, _, _, _, _⟩) (v := undef) rfl (by kernel_rfl) (by kernel_rfl) (by kernel_rfl) (fun _ _ _ h => h) (Or.inr ⟨by kernel_rfl, rfl⟩) hHeld ?_)
                    (first | (simp only [Act.put, List.setIfInBounds_toArray, List.set_cons_zero, List.set_cons_succ]) | (simp only [Act.put, List.setIfInBounds_toArray, List.set]) | (simp only [Act.put]) | skip)
                    (refine wpAnyH_take (i := 3) (oi := ⟨some 79, _, _, _, _, _⟩) (v := undef) rfl (by kernel_rfl) (by kernel_rfl) (by kernel_rfl) (fun _ _ _ h => h) (Or.inr ⟨by kernel_rfl, rfl⟩) hHeld ?_)
                    (first | (simp only [Act.put, List.setIfInBounds_toArray, List.set_cons_zero, List.set_cons_succ]) | (simp only [Act.put, List.setIfInBounds_toArray, List.set]) | (simp only [Act.put]) | skip)
                    (refine wpAnyH_take (i := 4) (oi := ⟨some 80, _, _, _, _, _⟩) (v := undef) rfl (by kernel_rfl) (by kernel_rfl) (by kernel_rfl) (fun _ _ _ h => h) (Or.inr ⟨by kernel_rfl, rfl⟩) hHeld ?_)
                    (first | (simp only [Act.put, List.setIfInBounds_toArray, List.set_cons_zero, List.set_cons_succ]) | (simp only [Act.put, List.setIfInBounds_toArray, List.set]) | (simp only [Act.put]) | skip)
                    (refine wpAnyH_take (i := 5) (oi := ⟨some 81, _, _, _, _, _⟩) (v := undef) rfl (by kernel_rfl) (by kernel_rfl) (by kernel_rfl) (fun _ _ _ h => h) (Or.inr ⟨by kernel_rfl, rfl⟩) hHeld ?_)
                    (first | (simp only [Act.put, List.setIfInBounds_toArray, List.set_cons_zero, List.set_cons_succ]) | (simp only [Act.put, List.setIfInBounds_toArray, List.set]) | (simp only [Act.put]) | skip)
                    (refine wpAnyH_take (i := 6) (oi := ⟨some 82, _, _, _, _, _⟩) (v := ?_) rfl (by kernel_rfl) (by kernel_rfl) (by kernel_rfl) (fun _ _ _ h => h) (Or.inl ⟨by kernel_rfl, ?_⟩) hHeld ?_; rotate_left; focus (intro w hSw; (try dsimp only at hSw); go_simp; (try with_reducible rfl); done))
                    (first | (simp only [Act.put, List.setIfInBounds_toArray, List.set_cons_zero, List.set_cons_succ]) | (simp only [Act.put, List.setIfInBounds_toArray, List.set]) | (simp only [Act.put]) | skip)
                    (refine wpAnyH_take (i := 7) (oi := ⟨some 83, _, _, _, _, _⟩) (v := ?_) rfl (by kernel_rfl) (by kernel_rfl) (by kernel_rfl) (fun _ _ _ h => h) (Or.inl ⟨by kernel_rfl, ?_⟩) hHeld ?_; rotate_left; focus (intro w hSw; (try dsimp only at hSw); go_simp; (try with_reducible rfl); done))
                    (first | (simp only [Act.put, List.setIfInBounds_toArray, List.set_cons_zero, List.set_cons_succ]) | (simp only [Act.put, List.setIfInBounds_toArray, List.set]) | (simp only [Act.put]) | skip)
                    (refine wpAnyH_take (i := 8) (oi := ⟨some 84, _, _, _, _, _⟩) (v := ?_) rfl (by kernel_rfl) (by kernel_rfl) (by kernel_rfl) (fun _ _ _ h => h) (Or.inl ⟨by kernel_rfl, ?_⟩) hHeld ?_; rotate_left; focus (intro w hSw; (try dsimp only at hSw); go_simp; (try with_reducible rfl); done))
                    (first | (simp only [Act.put, List.setIfInBounds_toArray, List.set_cons_zero, List.set_cons_succ]) | (simp only [Act.put, List.setIfInBounds_toArray, List.set]) | (simp only [Act.put]) | skip)
                    (refine wpAnyH_take (i := 9) (oi := ⟨some 85, _, _, _, _, _⟩) (v := ?_) rfl (by kernel_rfl) (by kernel_rfl) (by kernel_rfl) (fun _ _ _ h => h) (Or.inl ⟨by kernel_rfl, ?_⟩) hHeld ?_; rotate_left; focus (intro w hSw; (try dsimp only at hSw); go_simp; (try with_reducible rfl); done))
                    (first | (simp only [Act.put, List.setIfInBounds_toArray, List.set_cons_zero, List.set_cons_succ]) | (simp only [Act.put, List.setIfInBounds_toArray, List.set]) | (simp only [Act.put]) | skip)
                    (refine wpAnyH_take (i := 10) (oi := ⟨some 86, _, _, _, _, _⟩) (v := ?_) rfl (by kernel_rfl) (by kernel_rfl) (by kernel_rfl) (fun _ _ _ h => h) (Or.inl ⟨by kernel_rfl, ?_⟩) hHeld ?_; rotate_left; focus (intro w hSw; (try dsimp only at hSw); go_simp; (try with_reducible rfl); done))
                    (first | (simp only [Act.put, List.setIfInBounds_toArray, List.set_cons_zero, List.set_cons_succ]) | (simp only [Act.put, List.setIfInBounds_toArray, List.set]) | (simp only [Act.put]) | skip)
                    (refine wpAnyH_take (i := 11) (oi := ⟨some 87, _, _, _, _, _⟩) (v := ?_) rfl (by kernel_rfl) (by kernel_rfl) (by kernel_rfl) (fun _ _ _ h => h) (Or.inl ⟨by kernel_rfl, ?_⟩) hHeld ?_; rotate_left; focus (intro w hSw; (try dsimp only at hSw); go_simp; (try with_reducible rfl); done))
                    (first | (simp only [Act.put, List.setIfInBounds_toArray, List.set_cons_zero, List.set_cons_succ]) | (simp only [Act.put, List.setIfInBounds_toArray, List.set]) | (simp only [Act.put]) | skip)
                    (refine wpAnyH_take (i := 12) (oi := ⟨some 88, _, _, _, _, _⟩) (v := ?_) rfl (by kernel_rfl) (by kernel_rfl) (by kernel_rfl) (fun _ _ _ h => h) (Or.inl ⟨by kernel_rfl, ?_⟩) hHeld ?_; rotate_left; focus (intro w hSw; (try dsimp only at hSw); go_simp; (try with_reducible rfl); done))
                    (first | (simp only [Act.put, List.setIfInBounds_toArray, List.set_cons_zero, List.set_cons_succ]) | (simp only [Act.put, List.setIfInBounds_toArray, List.set]) | (simp only [Act.put]) | skip)
                    (refine wpAnyH_take (i := 13) (oi := ⟨some 89, _, _, _, _, _⟩) (v := ?_) rfl (by kernel_rfl) (by kernel_rfl) (by kernel_rfl) (fun _ _ _ h => h) (Or.inl ⟨by kernel_rfl, ?_⟩) hHeld ?_; rotate_left; focus (intro w hSw; (try dsimp only at hSw); go_simp; (try with_reducible rfl); done))
                    (first | (simp only [Act.put, List.setIfInBounds_toArray, List.set_cons_zero, List.set_cons_succ]) | (simp only [Act.put, List.setIfInBounds_toArray, List.set]) | (simp only [Act.put]) | skip)
                    (refine wpAnyH_take (i := 14) (oi := ⟨some 9, _, _, _, _, _⟩) (v := ?_) rfl (by kernel_rfl) (by kernel_rfl) (by kernel_rfl) (fun _ _ _ h => h) (Or.inl ⟨by kernel_rfl, ?_⟩) hHeld ?_; rotate_left; focus (intro w hSw; (try dsimp only at hSw); go_simp; (try with_reducible rfl); done))
                    (first | (simp only [Act.put, List.setIfInBounds_toArray, List.set_cons_zero, List.set_cons_succ]) | (simp only [Act.put, List.setIfInBounds_toArray, List.set]) | (simp only [Act.put]) | skip)
                    (refine wpAnyH_take (i := 15) (oi := ⟨some 10, _, _, _, _, _⟩) (v := ?_) rfl (by kernel_rfl) (by kernel_rfl) (by kernel_rfl) (fun _ _ _ h => h) (Or.inl ⟨by kernel_rfl, ?_⟩) hHeld ?_; rotate_left; focus (intro w hSw; (try dsimp only at hSw); go_simp; (try with_reducible rfl); done))
                    (first | (simp only [Act.put, List.setIfInBounds_toArray, List.set_cons_zero, List.set_cons_succ]) | (simp only [Act.put, List.setIfInBounds_toArray, List.set]) | (simp only [Act.put]) | skip)
                    refine wpAnyH_done (by kernel_rfl) ?_ _
                    have E1 : Hid (true = hit op a0 a1 b0 b1 s0 (-1152921504606846976) (4 * k + (m + 1))) := Lib.hid (by rw [show 4 * k + (m + 1) = 4 * k + m + 1 from rfl, hit_n HQ.out, HL1.out, Bool.true_or])
                    have E2 : Hid ((n == s1) = hit op a0 a1 b0 b1 s1 1152921504606846976 (4 * k + (m + 1))) := Lib.hid (by rw [show 4 * k + (m + 1) = 4 * k + m + 1 from rfl, hit_n HQ.out, HG1.out, O1.out, Bool.false_or])
                    go_wp2_with fail
                    go_roundg (gk - 1)
                    case measure => omega
                    case rel => exact ⟨m + 1, by go_num, by omega, congrArg Value.bool E1.out, congrArg Value.bool E2.out, Lib.hid HV6.out.drew⟩
                  · skip
                    refine wp_region_held_drew (S := fun w' => w'.cell? ⟨gs, 0, none⟩ = some (.int .i64 s0) ∧ w'.cell? ⟨gs, 1, none⟩ = some (.int .i64 s1)) (by kernel_rfl) ?_ (fun hHeld => ?_)
                    focus ((try dsimp only); (first | done | (exact ⟨cell_below ((Below.refl w6.heap.size w6).drew) zs0, cell_below ((Below.refl w6.heap.size w6).drew) zs1⟩)); done)
                    (refine wpAnyH_take (i := 0) (oi := ⟨some 76, _, _, _, _, _⟩) (v := ?_) rfl (by kernel_rfl) (by kernel_rfl) (by kernel_rfl) (fun _ _ _ h => h) (Or.inl ⟨by kernel_rfl, ?_⟩) hHeld ?_; rotate_left; focus (intro w hSw; (try dsimp only at hSw); go_simp; (try with_reducible rfl); done))
                    (first | (simp only [Act.put, List.setIfInBounds_toArray, List.set_cons_zero, List.set_cons_succ]) | (simp only [Act.put, List.setIfInBounds_toArray, List.set]) | (simp only [Act.put]) | skip)
                    (refine wpAnyH_take (i := 1) (oi := ⟨some 77, _, _, _, _, _⟩) (v := ?_) rfl (by kernel_rfl) (by kernel_rfl) (by kernel_rfl) (fun _ _ _ h => h) (Or.inl ⟨by kernel_rfl, ?_⟩) hHeld ?_; rotate_left; focus (intro w hSw; (try dsimp only at hSw); go_simp; (try with_reducible rfl); done))
                    (first | (simp only [Act.put, List.setIfInBounds_toArray, List.set_cons_zero, List.set_cons_succ]) | (simp only [Act.put, List.setIfInBounds_toArray, List.set]) | (simp only [Act.put]) | skip)
                    (refine wpAnyH_take (i := 2) (oi := ⟨some 78, _, _, _, _, _⟩) (v := undef) rfl (by kernel_rfl) (by kernel_rfl) (by kernel_rfl) (fun _ _ _ h => h) (Or.inr ⟨by kernel_rfl, rfl⟩) hHeld ?_)
                    (first | (simp only [Act.put, List.setIfInBounds_toArray, List.set_cons_zero, List.set_cons_succ]) | (simp only [Act.put, List.setIfInBounds_toArray, List.set]) | (simp only [Act.put]) | skip)
                    (refine wpAnyH_take (i := 3) (oi := ⟨some 79, _, _, _, _, _⟩) (v := undef) rfl (by kernel_rfl) (by kernel_rfl) (by kernel_rfl) (fun _ _ _ h => h) (Or.inr ⟨by kernel_rfl, rfl⟩) hHeld ?_)
                    (first | (simp only [Act.put, List.setIfInBounds_toArray, List.set_cons_zero, List.set_cons_succ]) | (simp only [Act.put, List.setIfInBounds_toArray, List.set]) | (simp only [Act.put]) | skip)
                    (refine wpAnyH_take (i := 4) (oi := ⟨some 80, _, _, _, _, _⟩) (v := undef) rfl (by kernel_rfl) (by kernel_rfl) (by kernel_rfl) (fun _ _ _ h => h) (Or.inr ⟨by kernel_rfl, rfl⟩) hHeld ?_)
                    (first | (simp only [Act.put, List.setIfInBounds_toArray, List.set_cons_zero, List.set_cons_succ]) | (simp only [Act.put, List.setIfInBounds_toArray, List.set]) | (simp only [Act.put]) | skip)
                    (refine wpAnyH_take (i := 5) (oi := ⟨some 81, _, _, _, _, _⟩) (v := undef) rfl (by kernel_rfl) (by kernel_rfl) (by kernel_rfl) (fun _ _ _ h => h) (Or.inr ⟨by kernel_rfl, rfl⟩) hHeld ?_)
                    (first | (simp only [Act.put, List.setIfInBounds_toArray, List.set_cons_zero, List.set_cons_succ]) | (simp only [Act.put, List.setIfInBounds_toArray, List.set]) | (simp only [Act.put]) | skip)
                    (refine wpAnyH_take (i := 6) (oi := ⟨some 82, _, _, _, _, _⟩) (v := ?_) rfl (by kernel_rfl) (by kernel_rfl) (by kernel_rfl) (fun _ _ _ h => h) (Or.inl ⟨by kernel_rfl, ?_⟩) hHeld ?_; rotate_left; focus (intro w hSw; (try dsimp only at hSw); go_simp; (try with_reducible rfl); done))
                    (first | (simp only [Act.put, List.setIfInBounds_toArray, List.set_cons_zero, List.set_cons_succ]) | (simp only [Act.put, List.setIfInBounds_toArray, List.set]) | (simp only [Act.put]) | skip)
                    (refine wpAnyH_take (i := 7) (oi := ⟨some 83, _, _, _, _, _⟩) (v := ?_) rfl (by kernel_rfl) (by kernel_rfl) (by kernel_rfl) (fun _ _ _ h => h) (Or.inl ⟨by kernel_rfl, ?_⟩) hHeld ?_; rotate_left; focus (intro w hSw; (try dsimp only at hSw); go_simp; (try with_reducible rfl); done))
                    (first | (simp only [Act.put, List.setIfInBounds_toArray, List.set_cons_zero, List.set_cons_succ]) | (simp only [Act.put, List.setIfInBounds_toArray, List.set]) | (simp only [Act.put]) | skip)
                    (refine wpAnyH_take (i := 8) (oi := ⟨some 84, _, _, _, _, _⟩) (v := ?_) rfl (by kernel_rfl) (by kernel_rfl) (by kernel_rfl) (fun _ _ _ h => h) (Or.inl ⟨by kernel_rfl, ?_⟩) hHeld ?_; rotate_left; focus (intro w hSw; (try dsimp only at hSw); go_simp; (try with_reducible rfl); done))
                    (first | (simp only [Act.put, List.setIfInBounds_toArray, List.set_cons_zero, List.set_cons_succ]) | (simp only [Act.put, List.setIfInBounds_toArray, List.set]) | (simp only [Act.put]) | skip)
                    (refine wpAnyH_take (i := 9) (oi := ⟨some 85, _, _, _, _, _⟩) (v := undef) rfl (by kernel_rfl) (by kernel_rfl) (by kernel_rfl) (fun _ _ _ h => h) (Or.inr ⟨by kernel_rfl, rfl⟩) hHeld ?_)
                    (first | (simp only [Act.put, List.setIfInBounds_toArray, List.set_cons_zero, List.set_cons_succ]) | (simp only [Act.put, List.setIfInBounds_toArray, List.set]) | (simp only [Act.put]) | skip)
                    (refine wpAnyH_take (i := 10) (oi := ⟨some 86, _, _, _, _, _⟩) (v := undef) rfl (by kernel_rfl) (by kernel_rfl) (by kernel_rfl) (fun _ _ _ h => h) (Or.inr ⟨by kernel_rfl, rfl⟩) hHeld ?_)
                    (first | (simp only [Act.put, List.setIfInBounds_toArray, List.set_cons_zero, List.set_cons_succ]) | (simp only [Act.put, List.setIfInBounds_toArray, List.set]) | (simp only [Act.put]) | skip)
                    (refine wpAnyH_take (i := 11) (oi := ⟨some 87, _, _, _, _, _⟩) (v := undef) rfl (by kernel_rfl) (by kernel_rfl) (by kernel_rfl) (fun _ _ _ h => h) (Or.inr ⟨by kernel_rfl, rfl⟩) hHeld ?_)
                    (first | (simp only [Act.put, List.setIfInBounds_toArray, List.set_cons_zero, List.set_cons_succ]) | (simp only [Act.put, List.setIfInBounds_toArray, List.set]) | (simp only [Act.put]) | skip)
                    (refine wpAnyH_take (i := 12) (oi := ⟨some 88, _, _, _, _, _⟩) (v := undef) rfl (by kernel_rfl) (by kernel_rfl) (by kernel_rfl) (fun _ _ _ h => h) (Or.inr ⟨by kernel_rfl, rfl⟩) hHeld ?_)
                    (first | (simp only [Act.put, List.setIfInBounds_toArray, List.set_cons_zero, List.set_cons_succ]) | (simp only [Act.put, List.setIfInBounds_toArray, List.set]) | (simp only [Act.put]) | skip)
                    (refine wpAnyH_take (i := 13) (oi := ⟨some 89, _, _, _, _, _⟩) (v := ?_) rfl (by kernel_rfl) (by kernel_rfl) (by kernel_rfl) (fun _ _ _ h => h) (Or.inl ⟨by kernel_rfl, ?_⟩) hHeld ?_; rotate_left; focus (intro w hSw; (try dsimp only at hSw); go_simp; (try with_reducible rfl); done))
                    (first | (simp only [Act.put, List.setIfInBounds_toArray, List.set_cons_zero, List.set_cons_succ]) | (simp only [Act.put, List.setIfInBounds_toArray, List.set]) | (simp only [Act.put]) | skip)
                    (refine wpAnyH_take (i := 14) (oi := ⟨some 9, _, _, _, _, _⟩) (v := ?_) rfl (by kernel_rfl) (by kernel_rfl) (by kernel_rfl) (fun _ _ _ h => h) (Or.inl ⟨by kernel_rfl, ?_⟩) hHeld ?_; rotate_left; focus (intro w hSw; (try dsimp only at hSw); go_simp; (try with_reducible rfl); done))
                    (first | (simp only [Act.put, List.setIfInBounds_toArray, List.set_cons_zero, List.set_cons_succ]) | (simp only [Act.put, List.setIfInBounds_toArray, List.set]) | (simp only [Act.put]) | skip)
                    (refine wpAnyH_take (i := 15) (oi := ⟨some 10, _, _, _, _, _⟩) (v := ?_) rfl (by kernel_rfl) (by kernel_rfl) (by kernel_rfl) (fun _ _ _ h => h) (Or.inl ⟨by kernel_rfl, ?_⟩) hHeld ?_; rotate_left; focus (intro w hSw; (try dsimp only at hSw); go_simp; (try with_reducible rfl); done))
                    (first | (simp only [Act.put, List.setIfInBounds_toArray, List.set_cons_zero, List.set_cons_succ]) | (simp only [Act.put, List.setIfInBounds_toArray, List.set]) | (simp only [Act.put]) | skip)
                    refine wpAnyH_done (by kernel_rfl) ?_ _
                    have E1 : Hid (true = hit op a0 a1 b0 b1 s0 (-1152921504606846976) (4 * k + (m + 1))) := Lib.hid (by rw [show 4 * k + (m + 1) = 4 * k + m + 1 from rfl, hit_n HQ.out, HL1.out, Bool.true_or])
                    have E2 : Hid (true = hit op a0 a1 b0 b1 s1 1152921504606846976 (4 * k + (m + 1))) := Lib.hid (by rw [show 4 * k + (m + 1) = 4 * k + m + 1 from rfl, hit_n HQ.out, HG1.out, Bool.true_or])
                    go_wp2_with fail
                    go_roundg (gk - 1)
                    case measure => omega
                    case rel => exact ⟨m + 1, by go_num, by omega, congrArg Value.bool E1.out, congrArg Value.bool E2.out, Lib.hid HV6.out.drew⟩
          · obtain rfl : m = 4 := by omega
            have HW2 := Lib.hid (seq HWm.out HV.out)
            go_wp2_with fail
            go_roundg (gk0 - 1)
            case measure => omega
            case rel => exact ⟨k + 1, by go_num, by omega, by rw [Nat.mul_succ], by rw [Nat.mul_succ], HW2⟩
      · obtain rfl : k = 2 := by omega
        have HBz := Lib.hid (seq HB3.out HW.out)
        rw [show 4 * 2 = 8 from rfl, HL.out, HH.out]
        go_wp2_with fail
        refine (alive02 (HT.out.below HBz.out)).mono ?_
        rintro z w7 ⟨rfl, hb7⟩
        have HB7 := Lib.hid (seq HBz.out hb7)
        clear hb7
        go_wp2_with fail
        go_ret
        exact ⟨rfl, HB7.out⟩
end Go.Proofs.YtjddafaaplhnfaaDoor.PSpanReached

set_option linter.unusedVariables false
namespace Go.Proofs.YtjddafaaplhnfaaDoor.SpanReached
open Go Go.ChangeShapes Go.WideShapes Go.ChangeAt Go.RowKit PSpanReached
theorem own : ownKnob Tryd.prog.godebug = none := by kernel_rfl
theorem laidOut : laidOutB Tryd.prog = true := by kernel_rfl
theorem tabs_of_laid {W : World} (h : laidMetH Tryd.prog Rows.spanReachedRow.laid W) : Tabs W := by
  have h' : laidMet Tryd.prog [("math/bits.deBruijn32tab", Rows.laid_math_bits_deBruijn32tab), ("math/bits.deBruijn64tab", Rows.laid_math_bits_deBruijn64tab), ("internal/strconv.uint64pow10", Rows.laid_internal_strconv_uint64pow10)] W := h
  have hp := Lib.tabIs_of_head (zs := Lib.pow10Tab) tab_pow tab_powT Tryd.underlying87 Tryd.underlying75 tab_cellsU64 tab_cellsTab h'.tail.tail
  exact ⟨hp⟩
/-- A world that meets the condition. -/
noncomputable def laidWorld (os : Os) : World := World.laidAll Tryd.prog os Rows.spanReachedRow.laid
theorem laidWorld_met (os : Os) (args : Array Value) : laidMetH Tryd.prog Rows.spanReachedRow.laid ((laidWorld os).forCall (fun _ _ => 0) ⟨#[], args, []⟩).memory :=
  laidMetH_of_parts (laidMet_of_run' 8 (by kernel_rfl) (by kernel_rfl)) (by kernel_rfl)
set_option maxRecDepth 100000 in
theorem lifted (os : Os) (started : os.Started) (H : Type) (enc : TypeId × Value → H) :
    ReturnsInHanded {} Tryd.checked os 10 .any (fun w args => (Rows.spanReachedSpec.pre enc Tryd.prog Tryd.f10 [] false w args ∧ laidMetH Tryd.prog Rows.spanReachedRow.laid w) ∧ sizedMet enc Tryd.prog Tryd.f10 (OpenSpec.ofChange Rows.spanReachedSpec) false w args)
      (Rows.spanReachedSpec.post enc Tryd.prog Tryd.f10 false true false false) := by
  refine returnsInHanded_of_change_and (C := Tryd.checked) (X := fun w _ => laidMetH Tryd.prog Rows.spanReachedRow.laid w) (fun _ _ _ hh h => h.of_heap hh) own started (by kernel_rfl) Tryd.func10
    (ChangeSpec.witness_at (enc := enc) (C := Tryd.checked) (os := os) (X := fun w _ => laidMetH Tryd.prog Rows.spanReachedRow.laid w) false (laidWorld os) #[.int .i64 0, .agg #[.int .i64 0, .int .i64 0], .agg #[.int .i64 0, .int .i64 0]] 8 (World.laidAll_os _ _ _) (by kernel_rfl) (by kernel_rfl) (by kernel_rfl) (by kernel_rfl) (by kernel_rfl) (laidWorld_met os _)) ?_
  intro W base args ds gs before hval0 hW hcnd0 hsz0 hL hx0
  have hval : ∀ (j : Nat) t v, Tryd.f10.params[j]? = some t → args[j]? = some v → Value.okWide Tryd.prog W .any base t v := hval0
  have hW' := hW
  obtain ⟨p, q, hA0, hV, rfl, hfz, hnd⟩ := hW
  have hT := tabs_of_laid hL
  have hA : DataW.TrodAll enc Tryd.prog W 0 (fun _ => true) true Tryd.f10.params.toList args.toList ds p := hA0
  rw [Tryd.params10] at hA hval
  obtain ⟨v0, vs0, d0, ds0, p0, q0, hargs, rfl, rfl, h0, r0⟩ := trodAll_cons hA
  obtain ⟨v1, vs1, d1, ds1, p1, q1, rfl, rfl, rfl, h1, r1⟩ := trodAll_cons r0
  obtain ⟨v2, vs2, d2, ds2, p2, q2, rfl, rfl, rfl, h2, r2⟩ := trodAll_cons r1
  obtain ⟨rfl, rfl, rfl⟩ := trodAll_nil r2
  obtain rfl : args = #[v0, v1, v2] := by cases args; simp_all
  obtain ⟨rfl, rfl⟩ := trodVars_none hV
  obtain ⟨a0, rfl, rfl, rfl, w0⟩ := open_int Tryd.underlying3 (hval 0 3 v0 rfl rfl) h0
  obtain ⟨a1, b1, rfl, rfl, rfl, wa1, wb1⟩ := open_two' Tryd.underlying23 (by kernel_rfl) (by kernel_rfl) Tryd.underlying3 Tryd.underlying3 (hval 1 23 v1 rfl rfl) h1
  obtain ⟨a2, b2, rfl, rfl, rfl, wa2, wb2⟩ := open_two' Tryd.underlying23 (by kernel_rfl) (by kernel_rfl) Tryd.underlying3 Tryd.underlying3 (hval 2 23 v2 rfl rfl) h2
  clear hA0 hval0 hsz0 hcnd0 hx0
  refine (PSpanReached.SpanReached_walk a0 a1 b1 a2 b2 hT).mono fun e W' ⟨he, bel⟩ => ?_
  subst he
  exact ⟨_, rfl, _, _, _, [], _, [], hW', trodAll_mk1 (shut_bool Tryd.underlying4 _), (trodAll_cons_mk (shut_int Tryd.underlying3 w0) (trodAll_cons_mk (shut_two' Tryd.underlying23 (by kernel_rfl) (by kernel_rfl) Tryd.underlying3 Tryd.underlying3 wa1 wb1) (trodAll_cons_mk (shut_two' Tryd.underlying23 (by kernel_rfl) (by kernel_rfl) Tryd.underlying3 Tryd.underlying3 wa2 wb2) trodAll_mk0))), rfl, bel.frame _, fun h => by cases h⟩
theorem over : Rows.SpanReachedSaid :=
  OpenClaim.holds_of_wide 10 Tryd.f10 rfl rfl rfl rfl rfl rfl rfl ⟨rfl, rfl, rfl, rfl, rfl⟩ rfl rfl rfl rfl rfl (by kernel_rfl) Tryd.func10 (by kernel_rfl)
    (of_decide_eq_true (by kernel_rfl)) (by unfold Func.isWrapper; first | (rw [if_pos (by decide +kernel)]; kernel_rfl) | (rw [if_neg (by decide +kernel)]; exact ⟨rfl, rfl⟩))
    (fun os started H enc _ => lifted os started H enc)
theorem proved : Rows.SpanReachedCardSaid :=
  Claim7.holds_tied_plain_at .later [] [.data, .data, .data] true (true, "dd4255569846f32772da1bc8f9ad4daf2d0e0abb43648cb154e52fabfac71cc0") false
    over (fun _ h => by cases h) (by kernel_rfl) (fun _ h => by cases h) spanReached_row_tie rfl ⟨rfl, rfl⟩ (by kernel_rfl) rfl
    (fun f fn hf hfn => by
      obtain rfl : f = 10 := Option.some.inj ((show Tryd.prog.funcNamed "helmsman/helmsmanlaw02.SpanReached" = some 10 by kernel_rfl).symm.trans hf) |>.symm
      obtain rfl : fn = Tryd.f10 := (Option.some.inj (Tryd.func10.symm.trans hfn)).symm
      exact ⟨by kernel_rfl, fun j t ht => by
        rw [Tryd.params10] at ht
        have hts : t ∈ [3, 23, 23] := by
          rcases j with _ | _ | _ | j
          · simp at ht; simp [ht]
          · simp at ht; simp [ht]
          · simp at ht; simp [ht]
          · simp at ht
        simp only [List.mem_cons, List.not_mem_nil, or_false] at hts
        rcases hts with rfl | rfl | rfl <;> exact (show Tryd.prog.wantsStandIn _ = false by kernel_rfl)⟩)
    (by kernel_rfl)
#print axioms proved
end Go.Proofs.YtjddafaaplhnfaaDoor.SpanReached
namespace Go.Proofs.YtjddafaaplhnfaaDoor
/-- The card, under a short name, for the claim. -/
theorem spanReached_holds : Rows.SpanReachedCardSaid := SpanReached.proved
end Go.Proofs.YtjddafaaplhnfaaDoor
