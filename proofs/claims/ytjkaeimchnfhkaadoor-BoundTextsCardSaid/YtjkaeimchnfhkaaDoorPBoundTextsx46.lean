-- PRINTED BY print.sh 35421559b90ae4d0a3588c463048766b98c2df88dd9212a6774a882060cdf62d: not written by this session
import Derived.Test.YtjkaeimchnfhkaaDoorPBoundTextsx0
import Derived.Test.YtjkaeimchnfhkaaDoorPBoundTextsx41
import Derived.Test.YtjkaeimchnfhkaaDoorPBoundTextsx43
import Derived.Test.YtjkaeimchnfhkaaDoorPBoundTextsx45
namespace Go.Proofs.YtjkaeimchnfhkaaDoor.PBoundTexts
open Go.RowKit Go.Proofs.YtjkaeimchnfhkaaDoorW.PrintWords Go.Proofs.YtjkaeimchnfhkaaDoorW.PrintLast Go.Proofs.YtjkaeimchnfhkaaDoorW.PrintMore
attribute [local go_sem] max2_int min2_int max_two min_two max_three min_three max_four min_four   -- for this text's walks alone
set_option linter.unusedVariables false
set_option linter.unusedSimpArgs false

/-! ### helmsmanref01_Text: function 24 -/
def helmsmanref01_Text.f (k : Nat) (a0 : Int) : Option (ByteArray) := (helmsmanref01_Near.f a0).bind fun t171 => ((helmsmanref01_None.f).bind fun t172 => (if t171 = t172 then (some (⟨#[110, 111, 110, 101]⟩ : ByteArray)) else ((helmsmanref01_Near.f a0).bind fun t173 => ((helmsmanref01_Digits.f k t173).bind fun t174 => (some t174)))))
theorem helmsmanref01_Text.mono : ∀ a0 k, LeO (helmsmanref01_Text.f k a0) (helmsmanref01_Text.f (k + 1) a0) := by
  intro a0 k
  unfold helmsmanref01_Text.f
  repeat' first
      | (with_reducible exact helmsmanref01_Digits.mono _ _)
      | (with_reducible exact LeO.refl _)
      | (with_reducible exact LeO.none _)
      | (with_reducible refine LeO.ite ?_ ?_)
      | (with_reducible refine LeO.bind ?_ (fun _ => ?_))
      | exact helmsmanref01_Digits.mono _ _
      | exact LeO.none _
      | refine LeO.ite ?_ ?_
      | refine LeO.bind ?_ (fun _ => ?_)
set_option maxHeartbeats 8000000 in
set_option maxRecDepth 100000 in
theorem helmsmanref01_Text.calls (k : Nat) (a0 : Int) (r : ByteArray) (w : World) (h : helmsmanref01_Text.f k a0 = some r) :
    Calls Tryd.prog 24 #[.int .i64 a0] w fun e w' => e = .returned (.string r) ∧ Drawn0 w w' := by
  have H : ((helmsmanref01_Near.f a0).bind fun t171 => ((helmsmanref01_None.f).bind fun t172 => (if t171 = t172 then (some (⟨#[110, 111, 110, 101]⟩ : ByteArray)) else ((helmsmanref01_Near.f a0).bind fun t173 => ((helmsmanref01_Digits.f k t173).bind fun t174 => (some t174)))))) = some r := h
  clear h
  replace H := Option.bind_eq_some_iff.mp H
  obtain ⟨t171, A20, H⟩ := H
  replace H : ((helmsmanref01_None.f).bind fun t172 => (if t171 = t172 then (some (⟨#[110, 111, 110, 101]⟩ : ByteArray)) else ((helmsmanref01_Near.f a0).bind fun t173 => ((helmsmanref01_Digits.f k t173).bind fun t174 => (some t174))))) = some r := H
  have A2 := Aside0.mk A20
  clear A20
  replace H := Option.bind_eq_some_iff.mp H
  obtain ⟨t172, A30, H⟩ := H
  replace H : (if t171 = t172 then (some (⟨#[110, 111, 110, 101]⟩ : ByteArray)) else ((helmsmanref01_Near.f a0).bind fun t173 => ((helmsmanref01_Digits.f k t173).bind fun t174 => (some t174)))) = some r := H
  have A3 := Aside0.mk A30
  clear A30
  by_cases c4 : t171 = t172
  · rw [if_pos c4] at H
    have c4b0 : (t171 == t172) = true := beq_iff_eq.mpr c4
    have c4b1 : (t171 != t172) = false := bne_eq_false_iff_eq.mpr c4
    clear c4
    obtain rfl := Option.some.inj H
    go_enter Tryd.func24, Tryd.ntmps24
    go_wp2_with (first | ((with_reducible refine gate_callee (f := 18) rfl ?_); refine goesL_ (some 4) rfl rfl Tryd.func18 (by kernel_rfl) rfl #[.int .i64 a0] rfl (by (try simp only [List.map_toArray, List.map_cons, List.map_nil]); first | done | rfl | (simp only [List.length_drop, List.length_take]; rfl)) ?_; (with_reducible refine (helmsmanref01_Near.calls a0 t171 _ A2.out).mono ?_); rintro e w' ⟨rfl, ⟨nd, rfl⟩⟩; refine ⟨_, rfl, ?_⟩) | ((with_reducible refine gate_callee (f := 33) rfl ?_); refine goesL_ (some 5) rfl rfl Tryd.func33 (by kernel_rfl) rfl #[] rfl (by (try simp only [List.map_toArray, List.map_cons, List.map_nil]); first | done | rfl | (simp only [List.length_drop, List.length_take]; rfl)) ?_; (with_reducible refine (helmsmanref01_None.calls  t172 _ A3.out).mono ?_); rintro e w' ⟨rfl, ⟨nd, rfl⟩⟩; refine ⟨_, rfl, ?_⟩))
    go_ret
    exact ⟨by first | rfl | (simp; done) | (simp [*]; done), by repeat (first | exact Drawn0.refl _ | apply Drawn0.step)⟩
  · rw [if_neg c4] at H
    have c4b0 : (t171 == t172) = false := beq_eq_false_iff_ne.mpr c4
    have c4b1 : (t171 != t172) = true := bne_iff_ne.mpr c4
    replace H := Option.bind_eq_some_iff.mp H
    obtain ⟨t173, A50, H⟩ := H
    replace H : ((helmsmanref01_Digits.f k t173).bind fun t174 => (some t174)) = some r := H
    have A5 := Aside0.mk A50
    clear A50
    replace H := Option.bind_eq_some_iff.mp H
    obtain ⟨t174, A60, H⟩ := H
    replace H : (some t174) = some r := H
    have A6 := Aside0.mk A60
    clear A60
    obtain rfl := Option.some.inj H
    go_enter Tryd.func24, Tryd.ntmps24
    go_wp2_with (first | ((with_reducible refine gate_callee (f := 18) rfl ?_); refine goesL_ (some 4) rfl rfl Tryd.func18 (by kernel_rfl) rfl #[.int .i64 a0] rfl (by (try simp only [List.map_toArray, List.map_cons, List.map_nil]); first | done | rfl | (simp only [List.length_drop, List.length_take]; rfl)) ?_; (with_reducible refine (helmsmanref01_Near.calls a0 t171 _ A2.out).mono ?_); rintro e w' ⟨rfl, ⟨nd, rfl⟩⟩; refine ⟨_, rfl, ?_⟩) | ((with_reducible refine gate_callee (f := 33) rfl ?_); refine goesL_ (some 5) rfl rfl Tryd.func33 (by kernel_rfl) rfl #[] rfl (by (try simp only [List.map_toArray, List.map_cons, List.map_nil]); first | done | rfl | (simp only [List.length_drop, List.length_take]; rfl)) ?_; (with_reducible refine (helmsmanref01_None.calls  t172 _ A3.out).mono ?_); rintro e w' ⟨rfl, ⟨nd, rfl⟩⟩; refine ⟨_, rfl, ?_⟩) | ((with_reducible refine gate_callee (f := 18) rfl ?_); refine goesL_ (some 8) rfl rfl Tryd.func18 (by kernel_rfl) rfl #[.int .i64 a0] rfl (by (try simp only [List.map_toArray, List.map_cons, List.map_nil]); first | done | rfl | (simp only [List.length_drop, List.length_take]; rfl)) ?_; (with_reducible refine (helmsmanref01_Near.calls a0 t173 _ A5.out).mono ?_); rintro e w' ⟨rfl, ⟨nd, rfl⟩⟩; refine ⟨_, rfl, ?_⟩) | ((with_reducible refine gate_callee (f := 36) rfl ?_); refine goesL_ (some 9) rfl rfl Tryd.func36 (by kernel_rfl) rfl #[.int .i64 t173] rfl (by (try simp only [List.map_toArray, List.map_cons, List.map_nil]); first | done | rfl | (simp only [List.length_drop, List.length_take]; rfl)) ?_; (with_reducible refine (helmsmanref01_Digits.calls k t173 t174 _ A6.out).mono ?_); rintro e w' ⟨rfl, ⟨nd, rfl⟩⟩; refine ⟨_, rfl, ?_⟩))
    go_ret
    exact ⟨by first | rfl | (simp; done) | (simp [*]; done), by repeat (first | exact Drawn0.refl _ | apply Drawn0.step)⟩

end Go.Proofs.YtjkaeimchnfhkaaDoor.PBoundTexts
