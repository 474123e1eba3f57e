/- Proved here: the statement SpanEnds, for every input: the law answers true, never panics, and its arguments read as they did; what its row lists is tied to the program's text. -/
import Derived.Test.YtjddafaaplhnfaaDoorRows
import Derived.Test.YtjddafaaplhnfaaDoorTie
import Derived.Test.YtjddafaaplhnfaaDoorCards
import Derived.Test.YtjddafaaplhnfaaDoorSpanEndsWSpanEnds
import Derived.Test.YtjddafaaplhnfaaDoorTb
import Derived.WalkKit
import Derived.ShutString
import Derived.ChangeSame
import Derived.ChangeVars
import Derived.JoinedOf
import Derived.LaidLaws
import Derived.LaidHandle
import Derived.Stop.Joined
import Derived.Stop.LaidErr
import Derived.SevenTiedAt
import Derived.Lay
import Derived.WideKeyPair
import Derived.Lib.SmallJoins
import Derived.ChangeMaps5
import Derived.Test.YtjddafaaplhnfaaDoorSpanEndsSm
set_option linter.unusedVariables false
namespace Go.Proofs.YtjddafaaplhnfaaDoor.SpanEnds
open Go Go.ChangeShapes Go.WideShapes Go.ChangeAt Go.RowKit PSpanEnds
theorem own : ownKnob Tryd.prog.godebug = none := by kernel_rfl
theorem laidOut : laidOutB Tryd.prog = true := by kernel_rfl
theorem tabs_of_laid {W : World} (h : laidMetH Tryd.prog Rows.spanEndsRow.laid W) : Tabs W := by
  have h' : laidMet Tryd.prog [("math/bits.deBruijn32tab", Rows.laid_math_bits_deBruijn32tab), ("math/bits.deBruijn64tab", Rows.laid_math_bits_deBruijn64tab), ("internal/strconv.uint64pow10", Rows.laid_internal_strconv_uint64pow10)] W := h
  have hp := Lib.tabIs_of_head (zs := Lib.pow10Tab) tab_pow tab_powT Tryd.underlying87 Tryd.underlying75 tab_cellsU64 tab_cellsTab h'.tail.tail
  exact ⟨hp⟩
/-- A world that meets the condition. -/
noncomputable def laidWorld (os : Os) : World := World.laidAll Tryd.prog os Rows.spanEndsRow.laid
theorem laidWorld_met (os : Os) (args : Array Value) : laidMetH Tryd.prog Rows.spanEndsRow.laid ((laidWorld os).forCall (fun _ _ => 0) ⟨#[], args, []⟩).memory :=
  laidMetH_of_parts (laidMet_of_run' 8 (by kernel_rfl) (by kernel_rfl)) (by kernel_rfl)
set_option maxRecDepth 100000 in
theorem lifted (os : Os) (started : os.Started) (H : Type) (enc : TypeId × Value → H) :
    ReturnsInHanded {} Tryd.checked os 5 .any (fun w args => (Rows.spanEndsSpec.pre enc Tryd.prog Tryd.f5 [] false w args ∧ laidMetH Tryd.prog Rows.spanEndsRow.laid w) ∧ sizedMet enc Tryd.prog Tryd.f5 (OpenSpec.ofChange Rows.spanEndsSpec) false w args)
      (Rows.spanEndsSpec.post enc Tryd.prog Tryd.f5 false true false false) := by
  refine returnsInHanded_of_change_and (C := Tryd.checked) (X := fun w _ => laidMetH Tryd.prog Rows.spanEndsRow.laid w) (fun _ _ _ hh h => h.of_heap hh) own started (by kernel_rfl) Tryd.func5
    (ChangeSpec.witness_at (enc := enc) (C := Tryd.checked) (os := os) (X := fun w _ => laidMetH Tryd.prog Rows.spanEndsRow.laid w) false (laidWorld os) #[.slice none 0 0, .slice none 0 0] 8 (World.laidAll_os _ _ _) (by kernel_rfl) (by kernel_rfl) (by kernel_rfl) (by kernel_rfl) (by kernel_rfl) (laidWorld_met os _)) ?_
  intro W base args ds gs before hval0 hW hcnd0 hsz0 hL hx0
  have hval : ∀ (j : Nat) t v, Tryd.f5.params[j]? = some t → args[j]? = some v → Value.okWide Tryd.prog W .any base t v := hval0
  have hW' := hW
  obtain ⟨p, q, hA0, hV, rfl, hfz, hnd⟩ := hW
  have hT := tabs_of_laid hL
  have hA : DataW.TrodAll enc Tryd.prog W 0 (fun _ => true) true Tryd.f5.params.toList args.toList ds p := hA0
  rw [Tryd.params5] at hA hval
  obtain ⟨v0, vs0, d0, ds0, p0, q0, hargs, rfl, rfl, h0, r0⟩ := trodAll_cons hA
  obtain ⟨v1, vs1, d1, ds1, p1, q1, rfl, rfl, rfl, h1, r1⟩ := trodAll_cons r0
  obtain ⟨rfl, rfl, rfl⟩ := trodAll_nil r1
  obtain rfl : args = #[v0, v1] := by cases args; simp_all
  obtain ⟨rfl, rfl⟩ := trodVars_none hV
  obtain ⟨a0, len0, cap0, rfl⟩ := okWide_slice Tryd.underlying39 (hval 0 39 v0 rfl rfl)
  have k0 := h0
  have lt0 : ∀ x ∈ p0, x.block < W.heap.size := by obtain ⟨m, hm⟩ := k0; exact DataW.trod_lt m _ _ _ hm
  obtain ⟨z0, y0⟩ := open_twos' Tryd.underlying39 Tryd.underlying23 (by kernel_rfl) rfl rfl (by kernel_rfl) (by kernel_rfl) Tryd.underlying3 Tryd.underlying3 h0
  obtain ⟨a1, len1, cap1, rfl⟩ := okWide_slice Tryd.underlying32 (hval 1 32 v1 rfl rfl)
  have k1 := h1
  have lt1 : ∀ x ∈ p1, x.block < W.heap.size := by obtain ⟨m, hm⟩ := k1; exact DataW.trod_lt m _ _ _ hm
  obtain ⟨z1, y1⟩ := open_ints' h1
  clear hA0 hval0 hsz0 hcnd0 hx0
  refine (PSpanEnds.SpanEnds_walk _ z0 _ z1 hT y0 y1).mono fun e W' ⟨he, bel⟩ => ?_
  subst he
  exact ⟨_, rfl, _, _, _, [], _, [], hW', trodAll_mk1 (shut_bool Tryd.underlying4 _), (trodAll_cons_mk (Below.trod laidOut (by kernel_rfl) (of_decide_eq_true (by kernel_rfl)) k0 bel lt0) (trodAll_cons_mk (Below.trod laidOut (by kernel_rfl) (of_decide_eq_true (by kernel_rfl)) k1 bel lt1) trodAll_mk0)), rfl, bel.frame _, fun h => by cases h⟩
theorem over : Rows.SpanEndsSaid :=
  OpenClaim.holds_of_wide 5 Tryd.f5 rfl rfl rfl rfl rfl rfl rfl ⟨rfl, rfl, rfl, rfl, rfl⟩ rfl rfl rfl rfl rfl (by kernel_rfl) Tryd.func5 (by kernel_rfl)
    (of_decide_eq_true (by kernel_rfl)) (by unfold Func.isWrapper; first | (rw [if_pos (by decide +kernel)]; kernel_rfl) | (rw [if_neg (by decide +kernel)]; exact ⟨rfl, rfl⟩))
    (fun os started H enc _ => lifted os started H enc)
theorem proved : Rows.SpanEndsCardSaid :=
  Claim7.holds_tied_plain_at .later [] [.data, .data, .data] true (true, "dd4255569846f32772da1bc8f9ad4daf2d0e0abb43648cb154e52fabfac71cc0") false
    over (fun _ h => by cases h) (by kernel_rfl) (fun _ h => by cases h) spanEnds_row_tie rfl ⟨rfl, rfl⟩ (by kernel_rfl) rfl
    (fun f fn hf hfn => by
      obtain rfl : f = 5 := Option.some.inj ((show Tryd.prog.funcNamed "helmsman/helmsmanlaw02.SpanEnds" = some 5 by kernel_rfl).symm.trans hf) |>.symm
      obtain rfl : fn = Tryd.f5 := (Option.some.inj (Tryd.func5.symm.trans hfn)).symm
      exact ⟨by kernel_rfl, fun j t ht => by
        rw [Tryd.params5] at ht
        have hts : t ∈ [39, 32] := by
          rcases j with _ | _ | j
          · simp at ht; simp [ht]
          · simp at ht; simp [ht]
          · simp at ht
        simp only [List.mem_cons, List.not_mem_nil, or_false] at hts
        rcases hts with rfl | rfl <;> exact (show Tryd.prog.wantsStandIn _ = false by kernel_rfl)⟩)
    (by kernel_rfl)
#print axioms proved
end Go.Proofs.YtjddafaaplhnfaaDoor.SpanEnds
namespace Go.Proofs.YtjddafaaplhnfaaDoor
/-- The card, under a short name, for the claim. -/
theorem spanEnds_holds : Rows.SpanEndsCardSaid := SpanEnds.proved
end Go.Proofs.YtjddafaaplhnfaaDoor
