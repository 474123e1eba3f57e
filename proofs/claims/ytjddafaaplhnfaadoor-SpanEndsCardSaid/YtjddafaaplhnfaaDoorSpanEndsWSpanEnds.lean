/- Walk of the law SpanEnds: it answers true. -/
import Derived.Test.YtjddafaaplhnfaaDoorSpanEndsSm
import Derived.Test.YtjddafaaplhnfaaDoorPm
set_option linter.unusedVariables false
set_option linter.unusedSimpArgs false
namespace Go.Proofs.YtjddafaaplhnfaaDoor.PSpanEnds
open Go Go.RowKit Go.Deep Go.Proofs.YtjddafaaplhnfaaDoorW.PrintWords Go.Proofs.YtjddafaaplhnfaaDoorW.PrintLast Go.Proofs.YtjddafaaplhnfaaDoorW.PrintMore
variable {w : World}
attribute [local go_sem high] eq_sp

set_option maxRecDepth 100000 in
set_option maxHeartbeats 8000000 in
theorem SpanEnds_walk (v : Value) (l : List (Int × Int)) (u : Value) (st : List Int) (hT : Tabs w) (hl : PairsAt w v l) (hs : IntsAt w u st) :
    Calls Tryd.prog 5 #[v, u] w fun e w' => e = .returned (.bool true) ∧ Below w.heap.size w w' := by
  have HT := Lib.hid hT
  have HS := Lib.hid hs
  obtain ⟨ao, c, rfl, hcap, hlen, hc⟩ := hl
  have hs2 := hs
  obtain ⟨ao2, c2, rfl, hcap2, hlen2, -⟩ := hs2
  have HC := Lib.hid hc
  clear hT hc hcap hs hcap2
  by_cases h0 : 100 < l.length ∨ 20 < st.length
  · by_cases h1 : 100 < l.length
    · have h1' : (100 : Int) < l.length := by omega
      clear h0 h1
      go_enter Tryd.func5, Tryd.ntmps5
      go_wp2_with fail
      refine (alive02 HT.out).mono ?_
      rintro e w1 ⟨rfl, hb1⟩
      have HB := Lib.hid hb1
      clear hb1
      go_wp2_with fail
      go_ret
      exact ⟨rfl, HB.out⟩
    · have h1' : ¬ (100 : Int) < l.length := by omega
      have h2' : (20 : Int) < st.length := by omega
      clear h0 h1
      go_enter Tryd.func5, Tryd.ntmps5
      go_wp2_with fail
      refine (alive02 HT.out).mono ?_
      rintro e w1 ⟨rfl, hb1⟩
      have HB := Lib.hid hb1
      clear hb1
      go_wp2_with fail
      go_ret
      exact ⟨rfl, HB.out⟩
  · have h1' : ¬ (100 : Int) < l.length := by omega
    have h2' : ¬ (20 : Int) < st.length := by omega
    have h3 : l.length ≤ 100 := by omega
    have h4 : st.length ≤ 20 := by omega
    have h5 : st.length ≤ 1000000 := by omega
    clear h0
    go_enter Tryd.func5, Tryd.ntmps5
    go_wp2_with fail
    refine (empty_to _).mono ?_
    rintro e w1 ⟨rfl, hb1⟩
    have HB1 := Lib.hid hb1
    clear hb1
    go_wp2_with fail
    have hk := blk_new w1 (.cells #[.int .i64 1, .int .i64 0] 24)
    have HB2 : Hid (Below w.heap.size w (w1.alloc (.cells #[.int .i64 1, .int .i64 0] 24))) := Below.push HB1.out (Nat.le_refl _) _
    have hge : w.heap.size ≤ w1.heap.size := HB1.out.size
    generalize w1.alloc (.cells #[.int .i64 1, .int .i64 0] 24) = W at *
    generalize w1.heap.size = B at *
    have HK := Lib.hid hk
    clear hk HB1
    go_loopg [22, 6] l.length (fun gk i cn wr => ∃ (k : Nat) (c : Nat) (a0 a1 : Int), i = .int .i64 k ∧ cn = .int .i64 c ∧ k + gk = l.length ∧ Sp.Inv st a0 a1 c ∧ Hid (Below w.heap.size w wr) ∧ Hid (wr.heap[B]? = some (.cells #[.int .i64 a0, .int .i64 a1] 24 (0, 0))))
    case atStart => exact ⟨0, 0, 1, 0, rfl, rfl, by omega, .inl ⟨rfl, rfl⟩, HB2, HK⟩
    case round =>
      obtain ⟨k, c, a0, a1, rfl, rfl, hk, hinv, HB, HKr⟩ := hrel
      by_cases hlt : k < l.length
      · obtain ⟨b, off, rfl, hb, hcell⟩ := HC.out (by intro e; rw [e] at hlt; simp at hlt)
        obtain ⟨q0, q1⟩ := hcell k hlt
        replace q0 := cell_below HB.out q0
        replace q1 := cell_below HB.out q1
        generalize (l.getD k (0, 0)).1 = x at *
        generalize (l.getD k (0, 0)).2 = y at *
        have hend := hinv.end
        obtain ⟨⟨n0, n1⟩, hw⟩ : ∃ p, Sp.widen a0 a1 x y st = p := ⟨_, rfl⟩
        have hst := hinv.step hw
        have HW := Lib.hid hw
        clear hcell HC hw hinv
        by_cases he : (n0, n1) = (a0, a1)
        · rw [if_pos he] at hst
          have hsp : spEq n0 n1 a0 a1 = true := by injection he with e1 e2; subst e1 e2; simp [spEq]
          clear he
          have cB := blk_alloc HKr.out (.cells #[.int .i64 x, .int .i64 y] 23)
          have c8 := blk_new wr (.cells #[.int .i64 x, .int .i64 y] 23)
          have HB3 : Hid (Below w.heap.size w (wr.alloc (.cells #[.int .i64 x, .int .i64 y] 23))) := Below.push HB.out (Nat.le_refl _) _
          have HSr := Lib.hid (HS.out.below HB3.out)
          obtain ⟨x0, x1, -, -⟩ := cells2 cB
          obtain ⟨y0, y1, -, -⟩ := cells2 c8
          have HCB := Lib.hid cB
          clear cB c8
          go_wp2_with fail
          refine (widen_to a0 a1 x y st _ n0 n1 HSr.out h5 HW.out).mono ?_
          rintro e w2 ⟨rfl, hb2⟩
          have cB2 := blk_alloc (blk_below HCB.out hb2) (.cells #[.int .i64 n0, .int .i64 n1] 24)
          have c9 := blk_new w2 (.cells #[.int .i64 n0, .int .i64 n1] 24)
          have HB4 : Hid (Below w.heap.size w (w2.alloc (.cells #[.int .i64 n0, .int .i64 n1] 24))) := Below.push (seq HB3.out hb2) (Nat.le_refl _) _
          clear q0 q1 x0 x1 y0 y1 HSr hb2
          obtain ⟨x0, x1, f0, f1⟩ := cells2 cB2
          obtain ⟨y0, y1, -, -⟩ := cells2 c9
          have HCB2 := Lib.hid cB2
          clear cB2 c9
          go_wp2_with fail
          go_roundg (gk - 1)
          case measure => omega
          case rel => exact ⟨k + 1, c, n0, n1, by go_num, by go_num, by omega, hst, below2 HB4.out hge _ _, put2 HCB2.out _ _⟩
        · rw [if_neg he] at hst
          have hsp : spEq n0 n1 a0 a1 = false := by
            cases h : spEq n0 n1 a0 a1
            · rfl
            · simp [spEq] at h
              exact absurd (by rw [h.1, h.2]) he
          clear he
          have cB := blk_alloc HKr.out (.cells #[.int .i64 x, .int .i64 y] 23)
          have c8 := blk_new wr (.cells #[.int .i64 x, .int .i64 y] 23)
          have HB3 : Hid (Below w.heap.size w (wr.alloc (.cells #[.int .i64 x, .int .i64 y] 23))) := Below.push HB.out (Nat.le_refl _) _
          have HSr := Lib.hid (HS.out.below HB3.out)
          obtain ⟨x0, x1, -, -⟩ := cells2 cB
          obtain ⟨y0, y1, -, -⟩ := cells2 c8
          have HCB := Lib.hid cB
          clear cB c8
          go_wp2_with fail
          refine (widen_to a0 a1 x y st _ n0 n1 HSr.out h5 HW.out).mono ?_
          rintro e w2 ⟨rfl, hb2⟩
          have cB2 := blk_alloc (blk_below HCB.out hb2) (.cells #[.int .i64 n0, .int .i64 n1] 24)
          have c9 := blk_new w2 (.cells #[.int .i64 n0, .int .i64 n1] 24)
          have HB4 : Hid (Below w.heap.size w (w2.alloc (.cells #[.int .i64 n0, .int .i64 n1] 24))) := Below.push (seq HB3.out hb2) (Nat.le_refl _) _
          clear q0 q1 x0 x1 y0 y1 HSr hb2
          obtain ⟨x0, x1, f0, f1⟩ := cells2 cB2
          obtain ⟨y0, y1, -, -⟩ := cells2 c9
          have HCB2 := Lib.hid cB2
          clear cB2 c9
          go_wp2_with fail
          go_roundg (gk - 1)
          case measure => omega
          case rel => exact ⟨k + 1, c + 1, n0, n1, by go_num, by go_num, by omega, hst, below2 HB4.out hge _ _, put2 HCB2.out _ _⟩
      · obtain rfl : k = l.length := by omega
        have hend := hinv.end
        clear hinv HC HKr HK HB2
        go_wp2_with fail
        refine (alive02 (HT.out.below HB.out)).mono ?_
        rintro e w2 ⟨rfl, hb2⟩
        have HB3 := Lib.hid (seq HB.out hb2)
        have hend' : (c : Int) ≤ 2 * (st.length : Int) + 4 := by omega
        clear hb2
        go_wp2_with fail
        go_ret
        exact ⟨rfl, HB3.out⟩
end Go.Proofs.YtjddafaaplhnfaaDoor.PSpanEnds
