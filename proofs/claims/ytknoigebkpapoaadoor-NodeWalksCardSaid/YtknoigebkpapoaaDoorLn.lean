/- Walk of the law NodeWalks: it answers true. -/
import Derived.Test.YtknoigebkpapoaaDoorNb
import Derived.Test.YtknoigebkpapoaaDoorRo
import Derived.Test.YtknoigebkpapoaaDoorRg
import Derived.Test.YtknoigebkpapoaaDoorPw
set_option linter.unusedVariables false
set_option linter.unusedSimpArgs false
namespace Go.Proofs.YtknoigebkpapoaaDoor
open Go.RowKit Go.Deep
variable {w : World}

theorem Ar.bldR_fst (lim : Int) (xs : List Nd) : (Ar.bldR lim xs).1 = Ar.bld lim [] xs := by
  have h : ∀ (xs : List Nd) (p : List Nd × List Int), (xs.foldl (Ar.stepR lim) p).1 = Ar.bld lim p.1 xs := by
    intro xs
    induction xs with
    | nil => intro p; rfl
    | cons o l ih => intro p; exact ih _
  exact h xs ([], [])
theorem Ar.wk_end {t : Int → Bool} {L : List Nd} (ok : Ar.Ok L) : ∀ (n : Nat) (r : Int), r < n → ¬ Ar.isN L (Ar.wk t L n r)
  | 0, r, h => by unfold Ar.wk; exact fun c => by have := c.1; omega
  | n + 1, r, h => by
    unfold Ar.wk
    by_cases hn : Ar.isN L r
    · rw [if_pos hn]
      have := Ar.ok_child ok hn
      refine Ar.wk_end ok n _ ?_
      split <;> omega
    · rw [if_neg hn]; exact hn

/-- The document's arena in its box, in a loop over a script. -/
def RB (w3 wr : World) (q : Nat) (lim : Int) (L : List Nd) : Prop :=
  ∃ vl, wr.heap[q]? = some (.cells #[.int .i64 lim, vl] 27 (0, 0)) ∧ Row wr vl L ∧ Below w3.heap.size w3 wr
theorem RB.put {w3 wr w4 : World} {q : Nat} {lim : Int} {vo vl' : Value} {L' : List Nd} (hq : w4.heap[q]? = some (.cells #[.int .i64 lim, vo] 27 (0, 0))) (h3 : w3.heap.size ≤ q)
    (R : Row w4 vl' L') (b : Below w3.heap.size w3 w4) : RB w3 ((w4.setCell ⟨q, 0, none⟩ (.int .i64 lim)).setCell ⟨q, 1, none⟩ vl') q lim L' :=
  ⟨vl', put2 hq _ _, ownsRow_touch R (Touch.setCell (S := fun i => i = q) (p := ⟨q, 1, none⟩) (Touch.setCell (S := fun i => i = q) (p := ⟨q, 0, none⟩) (Touch.refl _ _) (.inl rfl) _) (.inl rfl) _) (fun g hg e => row_ne R hg (e ▸ hq)),
    (b.setCell (p := ⟨q, 0, none⟩) h3 _).setCell (p := ⟨q, 1, none⟩) h3 _⟩

set_option maxRecDepth 100000 in
set_option maxHeartbeats 4000000 in
theorem nodeWalks_walk (v : Value) (at_ bits : Int) (xs : List Nd) (hg : ErrT w) (h : Ops w v xs) (hw : (Lit.int .u64 bits).wf = true) :
    Calls Tryd.prog 6 #[v, .int .i64 at_, .int .u64 bits] w fun e w' => e = .returned (.bool true) ∧ Below w.heap.size w w' := by
  have HO := Lib.hid h
  have HG := Lib.hid hg
  have hbits : 0 ≤ bits ∧ bits < 18446744073709551616 := by
    have h1 : IntKind.u64.min = 0 := by decide
    have h2 : IntKind.u64.max = 18446744073709551615 := by decide
    simp [Lit.wf] at hw
    rw [h1, h2] at hw
    omega
  have HBI := Lib.hid hbits
  obtain ⟨ao, c, rfl, hc, hc2, hcell⟩ := h
  unfold maxLen at hc2
  have HC := Lib.hid hcell
  clear hg hw hbits hcell
  go_enter Tryd.func6, Tryd.ntmps6
  go_wp2_with fail
  refine (build5_any _ xs 100 HO.out).mono ?_
  rw [show max (100 : Int) 0 = 100 from rfl]
  rintro e w1 ⟨hb1, ⟨hl, rfl⟩ | ⟨hl, b, v8, S, rfl, A, hS, O, hv, hL, hR⟩⟩
  · have hl' : (60 : Int) < xs.length := by omega
    have HB1 := Lib.hid hb1
    have HG1 := Lib.hid (HG.out.below hb1 HG.out.lt)
    clear hb1
    go_wp2_with fail
    refine (alive05 HG1.out).mono ?_
    rintro e w2 ⟨rfl, hb2⟩
    go_wp2_with fail
    go_ret
    exact ⟨rfl, Below.seq HB1.out (Nat.le_refl _) hb2⟩
  · have hl' : (xs.length : Int) ≤ 60 := by omega
    rw [Ar.bldR_fst] at A hL
    have HB1 := Lib.hid hb1
    have HA := Lib.hid A
    have HFN : Hid (∀ k, (Ar.bld 100 [] (xs.take k)).length ≤ 60) := fun k => by have := Ar.bld_len 100 (xs.take k) []; simp only [List.length_take, List.length_nil] at this; omega
    clear hb1 A O hv hR
    go_wp2_with fail
    refine (ref_new 100 _).mono ?_
    rw [show max (100 : Int) 0 = 100 from rfl]
    rintro e w2 ⟨rfl, hb2⟩
    have hp2 := Below.push (Below.refl _ w2) (Nat.le_refl _) (.cells #[.int .i64 100, .slice none 0 0] 27)
    have HA2 := Lib.hid ((HA.out.below hb2).below hp2)
    have HB2 := Lib.hid (Below.seq (Below.seq HB1.out (Nat.le_refl _) hb2) (Nat.le_refl _) hp2)
    have HQ := Lib.hid (heap_alloc_new w2 (.cells #[.int .i64 100, .slice none 0 0] 27))
    have hz3 : (w2.alloc (.cells #[.int .i64 100, .slice none 0 0] 27)).heap.size = w2.heap.size + 1 := by simp
    have hs1 := HB1.out.size
    have hs2 := hb2.size
    clear hb2 hp2 HA HB1
    go_wp2_with fail
    generalize w2.alloc (.cells #[.int .i64 100, .slice none 0 0] 27) = w3 at *
    have HR0 : Hid (w3.heap[w2.heap.size]? = some (.cells #[.int .i64 100, .slice none 0 0] 27 (0, 0))) := HQ
    go_loopg [32] xs.length (fun gk i wr => ∃ k : Nat, i = .int .i64 k ∧ k + gk = xs.length ∧ Hid (∃ vl, wr.heap[w2.heap.size]? = some (.cells #[.int .i64 100, vl] 27 (0, 0)) ∧ Row wr vl (Ar.bld 100 [] (xs.take k)) ∧ Below w2.heap.size w3 wr))
    case atStart => exact ⟨0, rfl, by omega, Lib.hid ⟨_, HR0.out, Row.nil _, ⟨rfl, rfl, rfl, Nat.le_refl _, fun _ _ => rfl⟩⟩⟩
    case round =>
      obtain ⟨k, rfl, hk, HR⟩ := hrel
      obtain ⟨vl, Q, R, Bw⟩ := HR.out
      obtain ⟨⟨ao', cap', rfl⟩, hn⟩ := R.shape
      have q0 := cell_at Q 0 (v := .int .i64 100) rfl
      have q1 := cell_at Q 1 (v := .slice ao' (Ar.bld 100 [] (xs.take k)).length cap') rfl
      have hlk := HFN.out k
      by_cases hlt : k < xs.length
      · have hnext := Ar.bld_take (lim := 100) hlt
        obtain ⟨bx, o, rfl, hbx, c0, c1, c2⟩ := HC.out k hlt
        have hb3 := (HB2.out.mono (Nat.le_refl _)).trans (Bw.mono (show w.heap.size ≤ w2.heap.size by omega))
        replace c0 := (hb3.cell (p := ⟨bx, o + k * 3, none⟩) hbx).trans c0
        replace c1 := (hb3.cell (p := ⟨bx, o + k * 3 + 1, none⟩) hbx).trans c1
        replace c2 := (hb3.cell (p := ⟨bx, o + k * 3 + 2, none⟩) hbx).trans c2
        generalize Ar.bld 100 [] (xs.take k) = L at *
        generalize hL2 : Ar.bld 100 [] (xs.take (k + 1)) = L2 at *
        obtain ⟨L', x, en, hmk⟩ : ∃ L' x en, Ar.mk 100 L xs[k].v xs[k].l xs[k].h = (L', x, en) := ⟨_, _, _, rfl⟩
        rw [hmk] at hnext
        obtain rfl : L2 = L' := hnext
        have HL2 := Lib.hid hL2
        have hp := Below.push (Below.refl _ wr) (Nat.le_refl _) (.cells #[.int .i64 xs[k].v, .int .i64 xs[k].l, .int .i64 xs[k].h] 52)
        have Rc := ref_mk (lim := 100) (R.below hp) xs[k].v xs[k].l xs[k].h (by omega)
        rw [hmk] at Rc
        have HRc := Lib.hid Rc
        have HBw := Lib.hid Bw
        have HQ1 := Lib.hid (heap_alloc_lt (.cells #[.int .i64 xs[k].v, .int .i64 xs[k].l, .int .i64 xs[k].h] 52) Q)
        have hqw := lt_of_heap Q
        have q0' := cell_push q0 (.cells #[.int .i64 xs[k].v, .int .i64 xs[k].l, .int .i64 xs[k].h] 52)
        have q1' := cell_push q1 (.cells #[.int .i64 xs[k].v, .int .i64 xs[k].l, .int .i64 xs[k].h] 52)
        have hbw := World.block_lt_of_cell? wr _ c0
        clear Rc hmk hL2 R Bw Q HR hb3 hp
        go_wp2_with fail
        refine HRc.out.mono ?_
        rintro e w4 ⟨vl4, rfl, R4, hb4, _⟩
        obtain ⟨⟨ao4, cap4, rfl⟩, hn4⟩ := R4.shape
        have Q4 := (hb4.block _ (lt_of_heap HQ1.out)).trans HQ1.out
        have hp4 := Below.push (Below.refl _ w4) (Nat.le_refl _) (.cells #[.int .i64 100, .slice ao4 L2.length cap4] 27)
        have Q5 := heap_alloc_lt (.cells #[.int .i64 100, .slice ao4 L2.length cap4] 27) Q4
        have R5 := R4.below hp4
        have hs4 := hb4.size
        simp only [World.size_alloc] at hs4
        have y0 := cell_at Q5 0 (v := .int .i64 100) rfl
        have y1 := cell_at Q5 1 (v := .slice ao' L.length cap') rfl
        have f0 := free_at Q5 0
        have f1 := free_at Q5 1
        have hne : w2.heap.size ≠ w4.heap.size := by omega
        have B5 : Below w2.heap.size w3 (w4.alloc (.cells #[.int .i64 100, .slice ao4 L2.length cap4] 27)) :=
          Below.push ((HBw.out.trans ((Below.push (Below.refl _ wr) (Nat.le_refl _) (.cells #[.int .i64 xs[k].v, .int .i64 xs[k].l, .int .i64 xs[k].h] 52)).mono (by omega))).trans (hb4.mono (by simp; omega))) (by omega) _
        have HRB : Hid (∃ vl, (((w4.alloc (.cells #[.int .i64 100, .slice ao4 L2.length cap4] 27)).setCell ⟨w2.heap.size, 0, none⟩ (.int .i64 100)).setCell ⟨w2.heap.size, 1, none⟩ (.slice ao4 L2.length cap4)).heap[w2.heap.size]? = some (.cells #[.int .i64 100, vl] 27 (0, 0)) ∧
            Row (((w4.alloc (.cells #[.int .i64 100, .slice ao4 L2.length cap4] 27)).setCell ⟨w2.heap.size, 0, none⟩ (.int .i64 100)).setCell ⟨w2.heap.size, 1, none⟩ (.slice ao4 L2.length cap4)) vl L2 ∧
            Below w2.heap.size w3 (((w4.alloc (.cells #[.int .i64 100, .slice ao4 L2.length cap4] 27)).setCell ⟨w2.heap.size, 0, none⟩ (.int .i64 100)).setCell ⟨w2.heap.size, 1, none⟩ (.slice ao4 L2.length cap4))) :=
          ⟨_, put2 Q5 _ _, ownsRow_touch R5 (Touch.setCell (S := fun i => i = w2.heap.size) (p := ⟨w2.heap.size, 1, none⟩) (Touch.setCell (S := fun i => i = w2.heap.size) (p := ⟨w2.heap.size, 0, none⟩) (Touch.refl _ _) (.inl rfl) _) (.inl rfl) _) (fun g hg e => row_ne R5 hg (e ▸ Q5)),
            (B5.setCell (p := ⟨w2.heap.size, 0, none⟩) (Nat.le_refl _) _).setCell (p := ⟨w2.heap.size, 1, none⟩) (Nat.le_refl _) _⟩
        clear R4 hb4 Q4 hp4 Q5 R5 B5 q0 q1 q0' q1' c0 c1 c2 HRc
        go_wp2_with fail
        go_roundg (gk - 1)
        case measure => omega
        case rel => exact ⟨k + 1, by go_num, by omega, by rw [HL2.out]; exact HRB⟩
      · obtain rfl : k = xs.length := by omega
        rw [List.take_length] at *
        generalize Ar.bld 100 [] xs = L at *
        have HQw := Lib.hid Q
        have HRw := Lib.hid R
        have hSw : ∀ i, S i → i < w2.heap.size := fun i hi => by have := (hS i hi).2; omega
        have HAw : Hid (Arena wr b 100 L S) := HA2.out.touch (S' := fun i => w2.heap.size ≤ i) ⟨Bw.os, Bw.tape, Bw.output, Bw.size, fun i hi hn => Bw.block i (Nat.lt_of_not_le hn)⟩ (fun i _ hi c => by have := hSw i hi; have c' : w2.heap.size ≤ i := c; omega)
        have HBw : Hid (Below w.heap.size w wr) := HB2.out.trans (Bw.mono (by omega))
        have HOK := Lib.hid HAw.out.ok
        obtain ⟨x, hx⟩ : ∃ x, Ar.wk (bt bits) L (at_.toNat + 1) at_ = x := ⟨_, rfl⟩
        have hxn : ¬ Ar.isN L x := hx ▸ Ar.wk_end HOK.out _ _ (by omega)
        have HXN := Lib.hid hxn
        have Wc := walk_at HAw.out at_ bits x hx
        have HWc := Lib.hid Wc
        have HX := Lib.hid hx
        have HG2 := Lib.hid (HG.out.below HBw.out HG.out.lt)
        clear hx hxn Wc R Q Bw HR hSw q0 q1 HR0
        go_wp2_with fail
        refine HWc.out.mono ?_
        rintro e w5 ⟨rfl, hb5⟩
        have HB5 := Lib.hid (Below.seq HBw.out (Nat.le_refl _) hb5)
        have HG5 := Lib.hid (HG.out.below HB5.out HG.out.lt)
        clear HWc
        go_wp2_with fail
        refine (alive05 HG5.out).mono ?_
        rintro e w6 ⟨rfl, hb6⟩
        have hb56 := Below.seq hb5 (Nat.le_refl _) hb6
        have HB6 := Lib.hid (Below.seq HB5.out (Nat.le_refl _) hb6)
        have HA6 := Lib.hid (HAw.out.below hb56)
        have HR6 := Lib.hid (HRw.out.below hb56)
        have Q6 := (hb56.block _ (lt_of_heap HQw.out)).trans HQw.out
        have q0 := cell_at Q6 0 (v := .int .i64 100) rfl
        have q1 := cell_at Q6 1 (v := .slice ao' L.length cap') rfl
        have Wr := ref_walk (lim := 100) HR6.out HOK.out at_ bits HBI.out.1 HBI.out.2
        rw [HX.out] at Wr
        have HWr := Lib.hid Wr
        clear hb5 hb6 hb56 Q6 Wr HB5 HG5
        go_wp2_with fail
        refine HWr.out.mono ?_
        rintro e w7 ⟨rfl, hb7⟩
        have HB7 := Lib.hid (Below.seq HB6.out (Nat.le_refl _) hb7)
        have HA7 := Lib.hid (HA6.out.below hb7)
        clear hb7 q0 q1
        by_cases hx0 : x < 0
        · go_wp2_with fail
          go_ret
          exact ⟨rfl, HB7.out⟩
        · have hx1 : (L.length : Int) ≤ x := by
            by_cases c : (L.length : Int) ≤ x
            · exact c
            · exact absurd ⟨by omega, by omega⟩ HXN.out
          go_wp2_with fail
          refine (len_any HA7.out).mono ?_
          rintro e w' ⟨rfl, rfl⟩
          go_wp2_with fail
          go_ret
          exact ⟨rfl, HB7.out⟩
end Go.Proofs.YtknoigebkpapoaaDoor
