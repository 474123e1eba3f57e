/- Texts of this claim, one behind the other: WSpanLaws, RowSpanLaws. -/
import Derived.Test.YtjddafaaplhnfaaDoorSpanLawsWSlA
import Derived.Test.YtjddafaaplhnfaaDoorSpanLawsWSlB
import Derived.Test.YtjddafaaplhnfaaDoorSpanLawsWSlC
import Derived.Test.YtjddafaaplhnfaaDoorRows
import Derived.Test.YtjddafaaplhnfaaDoorTie
import Derived.Test.YtjddafaaplhnfaaDoorCards
import Derived.Test.YtjddafaaplhnfaaDoorPm
import Derived.WalkKit
import Derived.ShutString
import Derived.ChangeSame
import Derived.ChangeVars
import Derived.JoinedOf
import Derived.LaidLaws
import Derived.LaidHandle
import Derived.Stop.Joined
import Derived.Stop.LaidErr
import Derived.SevenTiedAt
import Derived.Lay
import Derived.WideKeyPair
import Derived.Lib.SmallJoins
import Derived.ChangeMaps5
import Derived.Test.YtjddafaaplhnfaaDoorSpanLawsSm
namespace Go.Proofs.YtjddafaaplhnfaaDoor.PSpanLaws
open Go Go.RowKit
variable {w : World}
theorem SpanLaws_walk (a0 a1 b0 b1 n : Int) (hT : Tabs w) :
    Calls Tryd.prog 8 #[.agg #[.int .i64 a0, .int .i64 a1], .agg #[.int .i64 b0, .int .i64 b1], .int .i64 n] w fun e w' => e = .returned (.bool true) ∧ Below w.heap.size w w' := by
  cases hx : Sp.has a0 a1 n
  · cases hy : Sp.has b0 b1 n
    · exact SpanLaws_walkC a0 a1 b0 b1 n hT hx hy
    · exact SpanLaws_walkB a0 a1 b0 b1 n hT hx hy
  · exact SpanLaws_walkA a0 a1 b0 b1 n hT hx _ rfl
end Go.Proofs.YtjddafaaplhnfaaDoor.PSpanLaws

set_option linter.unusedVariables false
namespace Go.Proofs.YtjddafaaplhnfaaDoor.SpanLaws
open Go Go.ChangeShapes Go.WideShapes Go.ChangeAt Go.RowKit PSpanLaws
theorem own : ownKnob Tryd.prog.godebug = none := by kernel_rfl
theorem laidOut : laidOutB Tryd.prog = true := by kernel_rfl
theorem tabs_of_laid {W : World} (h : laidMetH Tryd.prog Rows.spanLawsRow.laid W) : Tabs W := by
  have h' : laidMet Tryd.prog [("math/bits.deBruijn32tab", Rows.laid_math_bits_deBruijn32tab), ("math/bits.deBruijn64tab", Rows.laid_math_bits_deBruijn64tab), ("internal/strconv.uint64pow10", Rows.laid_internal_strconv_uint64pow10)] W := h
  have hp := Lib.tabIs_of_head (zs := Lib.pow10Tab) tab_pow tab_powT Tryd.underlying87 Tryd.underlying75 tab_cellsU64 tab_cellsTab h'.tail.tail
  exact ⟨hp⟩
/-- A world that meets the condition. -/
noncomputable def laidWorld (os : Os) : World := World.laidAll Tryd.prog os Rows.spanLawsRow.laid
theorem laidWorld_met (os : Os) (args : Array Value) : laidMetH Tryd.prog Rows.spanLawsRow.laid ((laidWorld os).forCall (fun _ _ => 0) ⟨#[], args, []⟩).memory :=
  laidMetH_of_parts (laidMet_of_run' 8 (by kernel_rfl) (by kernel_rfl)) (by kernel_rfl)
set_option maxRecDepth 100000 in
theorem lifted (os : Os) (started : os.Started) (H : Type) (enc : TypeId × Value → H) :
    ReturnsInHanded {} Tryd.checked os 8 .any (fun w args => (Rows.spanLawsSpec.pre enc Tryd.prog Tryd.f8 [] false w args ∧ laidMetH Tryd.prog Rows.spanLawsRow.laid w) ∧ sizedMet enc Tryd.prog Tryd.f8 (OpenSpec.ofChange Rows.spanLawsSpec) false w args)
      (Rows.spanLawsSpec.post enc Tryd.prog Tryd.f8 false true false false) := by
  refine returnsInHanded_of_change_and (C := Tryd.checked) (X := fun w _ => laidMetH Tryd.prog Rows.spanLawsRow.laid w) (fun _ _ _ hh h => h.of_heap hh) own started (by kernel_rfl) Tryd.func8
    (ChangeSpec.witness_at (enc := enc) (C := Tryd.checked) (os := os) (X := fun w _ => laidMetH Tryd.prog Rows.spanLawsRow.laid w) false (laidWorld os) #[.agg #[.int .i64 0, .int .i64 0], .agg #[.int .i64 0, .int .i64 0], .int .i64 0] 8 (World.laidAll_os _ _ _) (by kernel_rfl) (by kernel_rfl) (by kernel_rfl) (by kernel_rfl) (by kernel_rfl) (laidWorld_met os _)) ?_
  intro W base args ds gs before hval0 hW hcnd0 hsz0 hL hx0
  have hval : ∀ (j : Nat) t v, Tryd.f8.params[j]? = some t → args[j]? = some v → Value.okWide Tryd.prog W .any base t v := hval0
  have hW' := hW
  obtain ⟨p, q, hA0, hV, rfl, hfz, hnd⟩ := hW
  have hT := tabs_of_laid hL
  have hA : DataW.TrodAll enc Tryd.prog W 0 (fun _ => true) true Tryd.f8.params.toList args.toList ds p := hA0
  rw [Tryd.params8] at hA hval
  obtain ⟨v0, vs0, d0, ds0, p0, q0, hargs, rfl, rfl, h0, r0⟩ := trodAll_cons hA
  obtain ⟨v1, vs1, d1, ds1, p1, q1, rfl, rfl, rfl, h1, r1⟩ := trodAll_cons r0
  obtain ⟨v2, vs2, d2, ds2, p2, q2, rfl, rfl, rfl, h2, r2⟩ := trodAll_cons r1
  obtain ⟨rfl, rfl, rfl⟩ := trodAll_nil r2
  obtain rfl : args = #[v0, v1, v2] := by cases args; simp_all
  obtain ⟨rfl, rfl⟩ := trodVars_none hV
  obtain ⟨a0, b0, rfl, rfl, rfl, wa0, wb0⟩ := open_two' Tryd.underlying23 (by kernel_rfl) (by kernel_rfl) Tryd.underlying3 Tryd.underlying3 (hval 0 23 v0 rfl rfl) h0
  obtain ⟨a1, b1, rfl, rfl, rfl, wa1, wb1⟩ := open_two' Tryd.underlying23 (by kernel_rfl) (by kernel_rfl) Tryd.underlying3 Tryd.underlying3 (hval 1 23 v1 rfl rfl) h1
  obtain ⟨a2, rfl, rfl, rfl, w2⟩ := open_int Tryd.underlying3 (hval 2 3 v2 rfl rfl) h2
  clear hA0 hval0 hsz0 hcnd0 hx0
  refine (PSpanLaws.SpanLaws_walk a0 b0 a1 b1 a2 hT).mono fun e W' ⟨he, bel⟩ => ?_
  subst he
  exact ⟨_, rfl, _, _, _, [], _, [], hW', trodAll_mk1 (shut_bool Tryd.underlying4 _), (trodAll_cons_mk (shut_two' Tryd.underlying23 (by kernel_rfl) (by kernel_rfl) Tryd.underlying3 Tryd.underlying3 wa0 wb0) (trodAll_cons_mk (shut_two' Tryd.underlying23 (by kernel_rfl) (by kernel_rfl) Tryd.underlying3 Tryd.underlying3 wa1 wb1) (trodAll_cons_mk (shut_int Tryd.underlying3 w2) trodAll_mk0))), rfl, bel.frame _, fun h => by cases h⟩
theorem over : Rows.SpanLawsSaid :=
  OpenClaim.holds_of_wide 8 Tryd.f8 rfl rfl rfl rfl rfl rfl rfl ⟨rfl, rfl, rfl, rfl, rfl⟩ rfl rfl rfl rfl rfl (by kernel_rfl) Tryd.func8 (by kernel_rfl)
    (of_decide_eq_true (by kernel_rfl)) (by unfold Func.isWrapper; first | (rw [if_pos (by decide +kernel)]; kernel_rfl) | (rw [if_neg (by decide +kernel)]; exact ⟨rfl, rfl⟩))
    (fun os started H enc _ => lifted os started H enc)
theorem proved : Rows.SpanLawsCardSaid :=
  Claim7.holds_tied_plain_at .later [] [.data, .data, .data] true (true, "dd4255569846f32772da1bc8f9ad4daf2d0e0abb43648cb154e52fabfac71cc0") false
    over (fun _ h => by cases h) (by kernel_rfl) (fun _ h => by cases h) spanLaws_row_tie rfl ⟨rfl, rfl⟩ (by kernel_rfl) rfl
    (fun f fn hf hfn => by
      obtain rfl : f = 8 := Option.some.inj ((show Tryd.prog.funcNamed "helmsman/helmsmanlaw02.SpanLaws" = some 8 by kernel_rfl).symm.trans hf) |>.symm
      obtain rfl : fn = Tryd.f8 := (Option.some.inj (Tryd.func8.symm.trans hfn)).symm
      exact ⟨by kernel_rfl, fun j t ht => by
        rw [Tryd.params8] at ht
        have hts : t ∈ [23, 23, 3] := by
          rcases j with _ | _ | _ | j
          · simp at ht; simp [ht]
          · simp at ht; simp [ht]
          · simp at ht; simp [ht]
          · simp at ht
        simp only [List.mem_cons, List.not_mem_nil, or_false] at hts
        rcases hts with rfl | rfl | rfl <;> exact (show Tryd.prog.wantsStandIn _ = false by kernel_rfl)⟩)
    (by kernel_rfl)
#print axioms proved
end Go.Proofs.YtjddafaaplhnfaaDoor.SpanLaws
namespace Go.Proofs.YtjddafaaplhnfaaDoor
/-- The card, under a short name, for the claim. -/
theorem spanLaws_holds : Rows.SpanLawsCardSaid := SpanLaws.proved
end Go.Proofs.YtjddafaaplhnfaaDoor
