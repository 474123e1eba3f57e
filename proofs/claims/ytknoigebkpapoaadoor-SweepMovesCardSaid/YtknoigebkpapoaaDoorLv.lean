/- Walk of the law SweepMoves: it answers true. -/
import Derived.Test.YtknoigebkpapoaaDoorAl
import Derived.Test.YtknoigebkpapoaaDoorRc
set_option linter.unusedVariables false
set_option linter.unusedSimpArgs false
namespace Go.Proofs.YtknoigebkpapoaaDoor
open Go.RowKit Go.Deep
variable {w : World}

/-- An arena's own blocks hold no row of the document's. -/
theorem Arena.tight {b : Nat} {lim : Int} {L : List Nd} {S : Nat → Prop} (A : Arena w b lim L S) :
    ∃ S' : Nat → Prop, (∀ k, S' k → S k ∧ k < w.heap.size) ∧ Arena w b lim L S' ∧ ∀ (vl : Value) (L' : List Nd), Row w vl L' → ∀ k, vl.ownBlock = some k → ¬ S' k := by
  obtain ⟨va, bp, PL, A0, hf⟩ := A
  refine ⟨foot b va bp, fun k h => ⟨hf k h, ?_⟩, ⟨va, bp, PL, A0, fun k h => h⟩, fun vl L' R k hk h => ?_⟩
  · rcases h with rfl | h | rfl
    · exact lt_of_heap A0.box
    · exact (A0.row.lt k h).2
    · exact lt_of_heap A0.plc
  · rcases R.2 with ⟨rfl, _⟩ | ⟨g, cap, cur, rfl, _, hh, _⟩
    · simp [Value.ownBlock] at hk
    · have e1 : g = k := by simpa [Value.ownBlock] using hk
      subst e1
      rcases h with rfl | h | rfl
      · rw [A0.box] at hh; injection hh with hh; injection hh with _ ht; exact absurd ht (by decide)
      · rcases A0.row.2 with ⟨rfl, _⟩ | ⟨g2, cap2, cur2, rfl, _, hh2, _⟩
        · simp [Value.ownBlock] at h
        · have e2 : g2 = g := by simpa [Value.ownBlock] using h
          subst e2
          rw [hh] at hh2; injection hh2 with hh2; injection hh2 with _ ht; exact absurd ht (by decide)
      · rw [A0.plc] at hh; injection hh with hh; injection hh with _ ht; exact absurd ht (by decide)

set_option maxRecDepth 100000 in
set_option maxHeartbeats 4000000 in
theorem sweepMoves_walk (v vr : Value) (f : Int) (xs ys : List Nd) (hg : ErrT w) (h : Ops w v xs) (hr : Ops w vr ys) :
    Calls Tryd.prog 4 #[v, vr, .int .i64 f] w fun e w' => e = .returned (.bool true) ∧ Below w.heap.size w w' := by
  have HO := Lib.hid h
  have HR := Lib.hid hr
  have HG := Lib.hid hg
  obtain ⟨ao, c, rfl, hc, hc2, _⟩ := h
  obtain ⟨ar, cr, rfl, hcr, hcr2, _⟩ := hr
  unfold maxLen at hc2 hcr2
  clear hg
  go_enter Tryd.func4, Tryd.ntmps4
  go_wp2_with fail
  refine (build_any _ xs HO.out).mono ?_
  rintro e w1 ⟨hb1, ⟨hl, rfl⟩ | ⟨hl, b, vl, S, rfl, A, hS, R⟩⟩
  · have hl' : (40 : Int) < xs.length := by omega
    have HB1 := Lib.hid (Below.push hb1 (Nat.le_refl _) (.cells #[.int .i64 60, .slice none 0 0] 27))
    clear hb1
    go_wp2_with fail
    refine (build_any _ ys (HR.out.below HB1.out)).mono ?_
    rintro e w2 ⟨hb2, ⟨hly, rfl⟩ | ⟨hly, b2, vl2, S2, rfl, A2, hS2, R2⟩⟩
    · have HB2 := Lib.hid (Below.push (Below.seq HB1.out (Nat.le_refl _) hb2) (Nat.le_refl _) (.cells #[.int .i64 60, .slice none 0 0] 27))
      clear hb2
      go_wp2_with fail
      refine alive_any.mono ?_
      rintro e w3 ⟨rfl, hb3⟩
      go_wp2_with fail
      go_ret
      exact ⟨rfl, Below.seq HB2.out (Nat.le_refl _) hb3⟩
    · obtain ⟨⟨a2, c2, rfl⟩, hn2⟩ := R2.shape
      have HB2 := Lib.hid (Below.push (Below.seq HB1.out (Nat.le_refl _) hb2) (Nat.le_refl _) (.cells #[.int .i64 60, .slice a2 (Ar.bld 60 [] ys).length c2] 27))
      clear hb2 A2 R2 hS2
      go_wp2_with fail
      refine alive_any.mono ?_
      rintro e w3 ⟨rfl, hb3⟩
      go_wp2_with fail
      go_ret
      exact ⟨rfl, Below.seq HB2.out (Nat.le_refl _) hb3⟩
  · have hl' : (xs.length : Int) ≤ 40 := by omega
    obtain ⟨⟨ao1, cap1, rfl⟩, hn⟩ := R.shape
    have hlen : (Ar.bld 60 [] xs).length ≤ 40 := by have := Ar.bld_len 60 xs []; simp at this; omega
    have hp1 := Below.push (Below.refl _ w1) (Nat.le_refl _) (.cells #[.int .i64 60, .slice ao1 (Ar.bld 60 [] xs).length cap1] 27)
    have HB1 := Lib.hid (Below.push hb1 (Nat.le_refl _) (.cells #[.int .i64 60, .slice ao1 (Ar.bld 60 [] xs).length cap1] 27))
    have HA := Lib.hid (A.below hp1)
    have HRo := Lib.hid (R.below hp1)
    have HQ := Lib.hid (heap_alloc_new w1 (.cells #[.int .i64 60, .slice ao1 (Ar.bld 60 [] xs).length cap1] 27))
    have hSl : ∀ k, S k → k < w1.heap.size := fun k h => (hS k h).2
    have hw1 := hb1.size
    have hRl : ∀ k, (Value.slice ao1 (Ar.bld 60 [] xs).length cap1).ownBlock = some k → k < w1.heap.size := fun k h => (R.lt k h).2
    generalize Ar.bld 60 [] xs = L at *
    clear hb1 A R hS hp1
    go_wp2_with fail
    refine (build_any _ ys (HR.out.below HB1.out)).mono ?_
    rintro e w2 ⟨hb2, ⟨hly, rfl⟩ | ⟨hly, b2, vl2, S2, rfl, A2, hS2, R2⟩⟩
    · have hly' : (40 : Int) < ys.length := by omega
      have HB2 := Lib.hid (Below.push (Below.seq HB1.out (Nat.le_refl _) hb2) (Nat.le_refl _) (.cells #[.int .i64 60, .slice none 0 0] 27))
      clear hb2
      go_wp2_with fail
      refine alive_any.mono ?_
      rintro e w3 ⟨rfl, hb3⟩
      go_wp2_with fail
      go_ret
      exact ⟨rfl, Below.seq HB2.out (Nat.le_refl _) hb3⟩
    · obtain ⟨⟨a2, c2, rfl⟩, hn2⟩ := R2.shape
      have hlen2 : (Ar.bld 60 [] ys).length ≤ 40 := by have := Ar.bld_len 60 ys []; simp at this; omega
      have hp2 := Below.push (Below.refl _ w2) (Nat.le_refl _) (.cells #[.int .i64 60, .slice a2 (Ar.bld 60 [] ys).length c2] 27)
      have HB2 := Lib.hid (Below.push (Below.seq HB1.out (Nat.le_refl _) hb2) (Nat.le_refl _) (.cells #[.int .i64 60, .slice a2 (Ar.bld 60 [] ys).length c2] 27))
      have HA2 := Lib.hid ((HA.out.below hb2).below hp2)
      have HRo2 := Lib.hid ((HRo.out.below hb2).below hp2)
      obtain ⟨St, hSt, T2, hTr⟩ := A2.tight
      have HT2 := Lib.hid (T2.below hp2)
      have HX2 := Lib.hid (R2.below hp2)
      have HTR := Lib.hid (hTr _ _ R2)
      have HQ2 := Lib.hid (heap_alloc_lt (.cells #[.int .i64 60, .slice a2 (Ar.bld 60 [] ys).length c2] 27) ((hb2.block _ (lt_of_heap HQ.out)).trans HQ.out))
      have HP2 := Lib.hid (heap_alloc_new w2 (.cells #[.int .i64 60, .slice a2 (Ar.bld 60 [] ys).length c2] 27))
      have hs2 := hb2.size
      simp only [World.size_alloc] at hs2
      have hSt1 : ∀ k, St k → w1.heap.size < k ∧ k < w2.heap.size := fun k h => by have h1 := (hSt k h).1; have h2 := (hS2 k h1).1; simp at h2; exact ⟨by omega, (hSt k h).2⟩
      generalize Ar.bld 60 [] ys = Lt at *
      clear hb2 A2 R2 hS2 hSt T2 hTr hp2 HA HRo HB1 HQ
      go_wp2_with fail
      have hz3 : (w2.alloc (.cells #[.int .i64 60, .slice a2 Lt.length c2] 27)).heap.size = w2.heap.size + 1 := by simp
      generalize w2.alloc (.cells #[.int .i64 60, .slice a2 Lt.length c2] 27) = w3 at *
      have HOK := Lib.hid HA2.out.ok
      by_cases hh : Ar.has L f
      · have hmd : Ar.mv 60 L (f.toNat + 1) Lt f = ((Ar.mv 60 L (f.toNat + 1) Lt f).1, (Ar.mv 60 L (f.toNat + 1) Lt f).2.1, (Ar.mv 60 L (f.toNat + 1) Lt f).2.2) := rfl
        have Mc := sweep_Move_any HA2.out HT2.out (fun k h c => by have := hSl k h; have := hSt1 k c; omega) (fun k h => by have := hSl k h; omega) (fun k h => by have := hSt1 k h; omega) f hh (by omega)
        rcases hm : Ar.mv 60 L (f.toNat + 1) Lt f with ⟨L', x, en⟩
        rw [hm] at Mc
        dsimp only at Mc
        have HMc := Lib.hid Mc
        have HM := Lib.hid hm
        have HHH := Lib.hid hh
        clear hm Mc hh
        refine HMc.out.mono ?_
        rintro e w4 ⟨ev, rfl, hev, T4, t4⟩
        have hb4 : Below w.heap.size w w4 := HB2.out.trans (t4.out.below (by have := HB2.out.size; omega) (fun k h c => by have := hSt1 k c; omega))
        have HB4 := Lib.hid hb4
        have HA4 := Lib.hid (HA2.out.touch t4.out (fun k _ h c => by have := hSl k h; have := hSt1 k c; omega))
        have HR4 := Lib.hid (show Row w4 _ _ from ownsRow_touch HRo2.out t4.out (fun k h c => by have := hRl k h; have := hSt1 k c; omega))
        have HX4 := Lib.hid (show Row w4 _ _ from ownsRow_touch HX2.out t4.out HTR.out)
        have HQ4 := Lib.hid (t4.out.heap HQ2.out (fun c => by have := hSt1 _ c; omega))
        have HP4 := Lib.hid (t4.out.heap HP2.out (fun c => by have := hSt1 _ c; omega))
        have c0 := cell_at HQ4.out 0 (v := .int .i64 60) rfl
        have c1 := cell_at HQ4.out 1 (v := .slice ao1 L.length cap1) rfl
        have HT4 := Lib.hid T4.out
        have HE4 := Lib.hid hev.out
        have HG4 := Lib.hid (HG.out.below hb4 HG.out.lt)
        clear hb4 t4 T4 hev HA2 HRo2 HX2 HQ2 HP2 HT2 HTR HMc
        go_wp2_with fail
        refine (ref_has HR4.out f true (decide_eq_true HHH.out)).mono ?_
        rintro e w5 ⟨rfl, hb5⟩
        have HB5 := Lib.hid (Below.seq HB4.out (Nat.le_refl _) hb5)
        have HA5 := Lib.hid (HA4.out.below hb5)
        have HR5 := Lib.hid (HR4.out.below hb5)
        have HX5 := Lib.hid (HX4.out.below hb5)
        have HT5 := Lib.hid (HT4.out.below hb5)
        have HE5 := Lib.hid (HE4.out.below hb5)
        have q5 := (hb5.block _ (lt_of_heap HQ4.out)).trans HQ4.out
        have p5 := (hb5.block _ (lt_of_heap HP4.out)).trans HP4.out
        have HQ5 := Lib.hid q5
        clear c0 c1
        have c0 := cell_at q5 0 (v := .int .i64 60) rfl
        have c1 := cell_at q5 1 (v := .slice ao1 L.length cap1) rfl
        have d0 := cell_at p5 0 (v := .int .i64 60) rfl
        have d1 := cell_at p5 1 (v := .slice a2 Lt.length c2) rfl
        have hcost := Ar.cost_le L f
        have Rc := ref_move (f.toNat + 1) w5 (lima := 60) (lim := 60) (.slice a2 Lt.length c2) Lt HR5.out HOK.out HX5.out f (by omega) (by omega)
        rw [HM.out] at Rc
        dsimp only at Rc
        have HRc := Lib.hid Rc
        clear q5 p5 hb5 Rc HB4 HA4 HR4 HX4 HT4 HE4 HQ4 HP4 HG4
        go_wp2_with fail
        refine HRc.out.mono ?_
        rintro e w6 ⟨vl6, rfl, R6, hb6, _⟩
        obtain ⟨⟨a6, c6, rfl⟩, hn6⟩ := R6.shape
        have hp6 := Below.push (Below.refl _ w6) (Nat.le_refl _) (.cells #[.int .i64 60, .slice a6 L'.length c6] 27)
        have HB6 := Lib.hid (Below.seq (Below.seq HB5.out (Nat.le_refl _) hb6) (Nat.le_refl _) hp6)
        have HA6 := Lib.hid ((HA5.out.below hb6).below hp6)
        have HR6 := Lib.hid ((HR5.out.below hb6).below hp6)
        have HX6 := Lib.hid (R6.below hp6)
        have HT6 := Lib.hid ((HT5.out.below hb6).below hp6)
        have HE6 := Lib.hid ((HE5.out.below hb6).below hp6)
        have HQ6 := Lib.hid (heap_alloc_lt (.cells #[.int .i64 60, .slice a6 L'.length c6] 27) ((hb6.block _ (lt_of_heap HQ5.out)).trans HQ5.out))
        have HP6 := Lib.hid (heap_alloc_new w6 (.cells #[.int .i64 60, .slice a6 L'.length c6] 27))
        clear R6 hb6 hp6 c0 c1 d0 d1 HRc HB5 HA5 HR5 HX5 HT5 HE5 HQ5
        go_wp2_with fail
        generalize w6.alloc (.cells #[.int .i64 60, .slice a6 L'.length c6] 27) = w7 at *
        refine alive_any.mono ?_
        rintro e w8 ⟨rfl, hb8⟩
        have HB8 := Lib.hid (Below.seq HB6.out (Nat.le_refl _) hb8)
        have HA8 := Lib.hid (HA6.out.below hb8)
        have HR8 := Lib.hid (HR6.out.below hb8)
        have HX8 := Lib.hid (HX6.out.below hb8)
        have HT8 := Lib.hid (HT6.out.below hb8)
        have HE8 := Lib.hid (HE6.out.below hb8)
        have HQ8 := Lib.hid ((hb8.block _ (lt_of_heap HQ6.out)).trans HQ6.out)
        have HP8 := Lib.hid ((hb8.block _ (lt_of_heap HP6.out)).trans HP6.out)
        have HG8 := Lib.hid (HG.out.below HB8.out HG.out.lt)
        clear hb8 HB6 HA6 HR6 HX6 HT6 HE6 HQ6 HP6
        go_wp2_with fail
        refine (number09_any HG8.out (.inl HE8.out)).mono ?_
        rintro e w9 ⟨rfl, hb9⟩
        have HB9 := Lib.hid (Below.seq HB8.out (Nat.le_refl _) hb9)
        have HA9 := Lib.hid (HA8.out.below hb9)
        have HR9 := Lib.hid (HR8.out.below hb9)
        have HX9 := Lib.hid (HX8.out.below hb9)
        have HT9 := Lib.hid (HT8.out.below hb9)
        have q9 := (hb9.block _ (lt_of_heap HQ8.out)).trans HQ8.out
        have p9 := (hb9.block _ (lt_of_heap HP8.out)).trans HP8.out
        have c0 := cell_at q9 0 (v := .int .i64 60) rfl
        have c1 := cell_at q9 1 (v := .slice ao1 L.length cap1) rfl
        have d0 := cell_at p9 0 (v := .int .i64 60) rfl
        have d1 := cell_at p9 1 (v := .slice a6 L'.length c6) rfl
        have HQ9 := Lib.hid q9
        clear hb9 q9 p9 HB8 HA8 HR8 HX8 HT8 HQ8 HP8 HG8
        rcases HE8.out with ⟨he, rfl⟩ | ⟨he, fb, fv, rfl, _⟩
        · go_wp2_with fail
          refine (nodes_same HT9.out HX9.out).mono ?_
          rintro e w10 ⟨rfl, hb10⟩
          have HB10 := Lib.hid (Below.seq HB9.out (Nat.le_refl _) hb10)
          have q10 := (hb10.block _ (lt_of_heap HQ9.out)).trans HQ9.out
          have HA10 := Lib.hid (HA9.out.below hb10)
          have HR10 := Lib.hid (HR9.out.below hb10)
          clear c0 c1 d0 d1
          have c0 := cell_at q10 0 (v := .int .i64 60) rfl
          have c1 := cell_at q10 1 (v := .slice ao1 L.length cap1) rfl
          clear hb10 q10
          go_wp2_with fail
          refine (nodes_same HA10.out HR10.out).mono ?_
          rintro e w11 ⟨rfl, hb11⟩
          go_wp2_with fail
          go_ret
          exact ⟨rfl, Below.seq HB10.out (Nat.le_refl _) hb11⟩
        · clear he
          go_wp2_with fail
          refine (nodes_same HA9.out HR9.out).mono ?_
          rintro e w11 ⟨rfl, hb11⟩
          go_wp2_with fail
          go_ret
          exact ⟨rfl, Below.seq HB9.out (Nat.le_refl _) hb11⟩
      · refine (sweep_Move_odd HA2.out _ f hh).mono ?_
        rintro e w4 ⟨rfl, rfl⟩
        have HHH := Lib.hid hh
        have c0 := cell_at HQ2.out 0 (v := .int .i64 60) rfl
        have c1 := cell_at HQ2.out 1 (v := .slice ao1 L.length cap1) rfl
        clear hh
        go_wp2_with fail
        refine (ref_has HRo2.out f false (decide_eq_false HHH.out)).mono ?_
        rintro e w5 ⟨rfl, hb5⟩
        have HB5 := Lib.hid (Below.seq HB2.out (Nat.le_refl _) hb5)
        clear hb5 c0 c1
        go_wp2_with fail
        refine alive_any.mono ?_
        rintro e w6 ⟨rfl, hb6⟩
        have HB6 := Lib.hid (Below.seq HB5.out (Nat.le_refl _) hb6)
        clear hb6
        go_wp2_with fail
        refine (is_errno 1 1 true rfl w6).mono ?_
        rintro e w' ⟨rfl, rfl⟩
        go_wp2_with fail
        go_ret
        exact ⟨rfl, HB6.out⟩
end Go.Proofs.YtknoigebkpapoaaDoor
