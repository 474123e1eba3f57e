-- PRINTED BY print.sh 35421559b90ae4d0a3588c463048766b98c2df88dd9212a6774a882060cdf62d: not written by this session
import Derived.Test.YtjhccmjgfngkcaaDoorPZoneSamex0
namespace Go.Proofs.YtjhccmjgfngkcaaDoor.PZoneSame
open Go.RowKit Go.Proofs.YtjhccmjgfngkcaaDoorW.PrintWords Go.Proofs.YtjhccmjgfngkcaaDoorW.PrintLast Go.Proofs.YtjhccmjgfngkcaaDoorW.PrintMore
attribute [local go_sem] max2_int min2_int max_two min_two max_three min_three max_four min_four   -- for this text's walks alone
set_option linter.unusedVariables false
set_option linter.unusedSimpArgs false

/-! ### bound_Near: function 57 -/
def bound_Near.f (a0 : Int) : Option (Int) := if a0 > 2305843009213693952 then (some 4611686018427387904) else (some (mx a0 (-2305843009213693952)))
set_option maxHeartbeats 8000000 in
set_option maxRecDepth 100000 in
theorem bound_Near.calls (a0 : Int) (r : Int) (w : World) (h : bound_Near.f a0 = some r) :
    Calls Tryd.prog 57 #[.int .i64 a0] w fun e w' => e = .returned (.int .i64 r) ∧ Below w.heap.size w w' := by
  have HB := Aside0.mk (Below.refl w.heap.size w)
  have H : (if a0 > 2305843009213693952 then (some 4611686018427387904) else (some (mx a0 (-2305843009213693952)))) = some r := h
  clear h
  by_cases c2 : a0 > 2305843009213693952
  · rw [if_pos c2] at H
    have c2b0 : decide (2305843009213693952 < a0) = true := decide_eq_true c2
    clear c2
    obtain rfl := Option.some.inj H
    go_enter Tryd.func57, Tryd.ntmps57
    go_wp2
    go_ret
    exact ⟨by first | rfl | (simp [errW_none, errW_some] <;> rfl) | (simp [*, errW_none, errW_some] <;> rfl), by repeat (first | (with_reducible first | exact HB.out | apply below_alloc | apply pw_below_drewN | apply below_drew1) | exact HB.out)⟩
  · rw [if_neg c2] at H
    have c2b0 : decide (2305843009213693952 < a0) = false := decide_eq_false c2
    clear c2
    obtain ⟨ji3, hji3⟩ : ∃ j_ : Int, (mx a0 (-2305843009213693952)) = j_ := ⟨_, rfl⟩
    replace H : (some ji3) = some r := by first | (rw [hji3] at H; exact H) | (simp only [hji3] at H ⊢; exact H)
    have hji3_ : (if a0 < (-2305843009213693952) then (-2305843009213693952) else a0) = ji3 := hji3
    obtain rfl := Option.some.inj H
    go_enter Tryd.func57, Tryd.ntmps57
    go_wp2
    go_ret
    exact ⟨by first | rfl | (simp [errW_none, errW_some] <;> rfl) | (simp only [← hji3]; first | rfl | (simp [errW_none, errW_some] <;> rfl)) | (simp [*, errW_none, errW_some] <;> rfl), by repeat (first | (with_reducible first | exact HB.out | apply below_alloc | apply pw_below_drewN | apply below_drew1) | exact HB.out)⟩

end Go.Proofs.YtjhccmjgfngkcaaDoor.PZoneSame
