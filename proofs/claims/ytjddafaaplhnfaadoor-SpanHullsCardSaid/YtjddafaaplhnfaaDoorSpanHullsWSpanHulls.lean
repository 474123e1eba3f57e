/- Walk of the law SpanHulls: it answers true. -/
import Derived.Test.YtjddafaaplhnfaaDoorSpanHullsSm
import Derived.Test.YtjddafaaplhnfaaDoorSpanHullsRh
import Derived.Test.YtjddafaaplhnfaaDoorPSpanHullsx42
set_option linter.unusedVariables false
set_option linter.unusedSimpArgs false
namespace Go.Proofs.YtjddafaaplhnfaaDoor.PSpanHulls
open Go Go.RowKit Go.Deep Go.Proofs.YtjddafaaplhnfaaDoorW.PrintWords Go.Proofs.YtjddafaaplhnfaaDoorW.PrintLast Go.Proofs.YtjddafaaplhnfaaDoorW.PrintMore
variable {w : World}

theorem min_le_mem (r : List Int) : ∀ x y : Int, (y = x ∨ y ∈ r) → r.foldl min x ≤ y := by
  induction r with
  | nil => intro x y h; rcases h with rfl | h; exact Int.le_refl _; simp at h
  | cons z r ih =>
    intro x y h
    simp only [List.foldl_cons]
    have h0 := ih (min x z) (min x z) (.inl rfl)
    rcases h with rfl | h
    · omega
    · rcases List.mem_cons.1 h with rfl | h
      · omega
      · exact ih _ y (.inr h)
theorem max_ge_mem (r : List Int) : ∀ x y : Int, (y = x ∨ y ∈ r) → y ≤ r.foldl max x := by
  induction r with
  | nil => intro x y h; rcases h with rfl | h; exact Int.le_refl _; simp at h
  | cons z r ih =>
    intro x y h
    simp only [List.foldl_cons]
    have h0 := ih (max x z) (max x z) (.inl rfl)
    rcases h with rfl | h
    · omega
    · rcases List.mem_cons.1 h with rfl | h
      · omega
      · exact ih _ y (.inr h)
theorem hull_has (l : List Int) (n : Int) (hn : n ∈ l) (hi : Bd.inn n = true) : Sp.has (Sp.hull l).1 (Sp.hull l).2 n = true := by
  rw [Bd.inn_iff] at hi
  cases l with
  | nil => simp at hn
  | cons x r =>
    have h1 := min_le_mem r x n (List.mem_cons.1 hn)
    have h2 := max_ge_mem r x n (List.mem_cons.1 hn)
    show Sp.has (Sp.of (r.foldl min x) (r.foldl max x)).1 (Sp.of (r.foldl min x) (r.foldl max x)).2 n = true
    generalize r.foldl min x = A at *
    generalize r.foldl max x = B at *
    rw [Sp.has_iff, Sp.ok_iff]
    unfold Sp.of
    rw [if_pos (by omega)]
    dsimp only
    omega

def spEq2 (x0 x1 y0 y1 : Int) : Bool := x0 == y0 && x1 == y1
theorem eq_sp2 (w : World) (x0 x1 y0 y1 : Int) :
    (Op.equalIn 10000 23 (.agg #[.int .i64 x0, .int .i64 x1]) (.agg #[.int .i64 y0, .int .i64 y1])).run Tryd.prog w = .ok (spEq2 x0 x1 y0 y1) w := by
  rw [run_equalIn_struct w 9999 23 _ _ (by kernel_rfl) (by kernel_rfl)]
  simp only [Program.fieldsOf, Tryd.underlying23, spEq2]
  go_simp
  by_cases h0 : x0 = y0 <;> by_cases h1 : x1 = y1 <;> simp [h0, h1]
attribute [local go_sem high] eq_sp2

theorem rhull_to (l : List Int) (v : Value) (v1 v2 : Int) (hl : IntsAt w v l) (hlen : l.length ≤ 1000000) (h : Sp.hull l = (v1, v2)) :
    Calls Tryd.prog 25 #[v] w fun e w' => e = .returned (.agg #[.int .i64 v1, .int .i64 v2]) ∧ Below w.heap.size w w' := by
  obtain ⟨A, c, rfl, h0, hC⟩ := hl.row
  exact (helmsmanref02_Hull.calls (l.length + 2) A c l v1 v2 w hC h0 (by rw [rHull_f l hlen _ (by omega), h])).mono fun e w' h => ⟨h.1, by first | exact h.2 | exact h.2.below⟩
theorem rin_to (a : Int) (v : Bool) (h : Bd.inn a = v) (w : World) :
    Calls Tryd.prog 23 #[.int .i64 a] w fun e w' => e = .returned (.bool v) ∧ Below w.heap.size w w' :=
  (helmsmanref01_In.calls a v w (by
    unfold helmsmanref01_In.f
    rw [rTop]
    simp only [Option.bind_some]
    rw [w64 (by omega), ← h]
    unfold Bd.inn
    by_cases h : a ≥ -1152921504606846976
    · rw [if_pos h, decide_eq_true (show -1152921504606846976 ≤ a from h), Bool.true_and]
    · rw [if_neg h, decide_eq_false (show ¬ -1152921504606846976 ≤ a from h), Bool.false_and])).mono fun e w' h => ⟨h.1, by first | exact h.2 | exact h.2.below⟩

set_option maxRecDepth 100000 in
set_option maxHeartbeats 8000000 in
theorem SpanHulls_walk (v : Value) (l : List Int) (hT : Tabs w) (hl : IntsAt w v l) :
    Calls Tryd.prog 6 #[v] w fun e w' => e = .returned (.bool true) ∧ Below w.heap.size w w' := by
  have HT := Lib.hid hT
  have HL := Lib.hid hl
  obtain ⟨ao, c, rfl, hcap, hlen, hc⟩ := hl
  have HC := Lib.hid hc
  clear hT hc hcap
  by_cases h0 : 100 < l.length
  · have h0' : (100 : Int) < l.length := by omega
    clear h0
    go_enter Tryd.func6, Tryd.ntmps6
    go_wp2_with fail
    refine (alive02 HT.out).mono ?_
    rintro e w1 ⟨rfl, hb1⟩
    have HB := Lib.hid hb1
    clear hb1
    go_wp2_with fail
    go_ret
    exact ⟨rfl, HB.out⟩
  · have h0' : (l.length : Int) ≤ 100 := by omega
    have hl2 : l.length ≤ 1000000 := by omega
    obtain ⟨⟨v1, v2⟩, hh⟩ : ∃ p, Sp.hull l = p := ⟨_, rfl⟩
    have hhas := hull_has l
    rw [hh] at hhas
    have HH := Lib.hid hh
    have HHAS := Lib.hid hhas
    have seqv : spEq2 v1 v2 v1 v2 = true := by simp [spEq2]
    clear h0 hh hhas
    go_enter Tryd.func6, Tryd.ntmps6
    go_wp2_with fail
    refine (hull_to l _ v1 v2 HL.out HH.out).mono ?_
    rintro e w1 ⟨rfl, hb1⟩
    have HB1 := Lib.hid hb1
    clear hb1
    go_wp2_with fail
    have hk := blk_new w1 (.cells #[.int .i64 v1, .int .i64 v2] 24)
    have HB2 : Hid (Below w.heap.size w (w1.alloc (.cells #[.int .i64 v1, .int .i64 v2] 24))) := Below.push HB1.out (Nat.le_refl _) _
    generalize w1.alloc (.cells #[.int .i64 v1, .int .i64 v2] 24) = W at *
    have HK := Lib.hid hk
    clear hk HB1
    go_loopg [14] l.length (fun gk i wr => ∃ k : Nat, i = .int .i64 k ∧ k + gk = l.length ∧ Hid (Below W.heap.size W wr))
    case atStart => exact ⟨0, rfl, by omega, Below.refl _ _⟩
    case round =>
      obtain ⟨k, rfl, hk, HB⟩ := hrel
      by_cases hlt : k < l.length
      · obtain ⟨b, off, rfl, hb, hcell⟩ := HC.out (by intro e; rw [e] at hlt; simp at hlt)
        have q0 := cell_below (seq HB2.out HB.out) (hcell k hlt)
        have hmem : l.getD k 0 ∈ l := by simp [List.getD, hlt]
        generalize l.getD k 0 = x at *
        have HM := Lib.hid hmem
        obtain ⟨x0, x1, -, -⟩ := cells2 (blk_below HK.out HB.out)
        clear hcell hmem HC
        cases hi : Bd.inn x
        · have HI := Lib.hid hi
          clear hi
          go_wp2_with fail
          refine (rin_to x false HI.out _).mono ?_
          rintro e w2 ⟨rfl, hb2⟩
          have HB3 := Lib.hid (seq HB.out hb2)
          clear hb2 q0 x0 x1
          go_wp2_with fail
          go_roundg (gk - 1)
          case measure => omega
          case rel => exact ⟨k + 1, by go_num, by omega, HB3⟩
        · have HI := Lib.hid hi
          have HX := Lib.hid (HHAS.out x HM.out hi)
          clear hi
          go_wp2_with fail
          refine (rin_to x true HI.out _).mono ?_
          rintro e w2 ⟨rfl, hb2⟩
          replace x0 := cell_below hb2 x0
          replace x1 := cell_below hb2 x1
          have HB3 := Lib.hid (seq HB.out hb2)
          clear hb2 q0
          go_wp2_with fail
          refine (has_to v1 v2 x true HX.out _).mono ?_
          rintro e w3 ⟨rfl, hb3⟩
          have HB4 := Lib.hid (seq HB3.out hb3)
          clear hb3 x0 x1 HB3
          go_wp2_with fail
          go_roundg (gk - 1)
          case measure => omega
          case rel => exact ⟨k + 1, by go_num, by omega, HB4⟩
      · obtain rfl : k = l.length := by omega
        obtain ⟨x0, x1, -, -⟩ := cells2 (blk_below HK.out HB.out)
        have cur : Below w.heap.size w wr.drew := (seq HB2.out HB.out).drew
        have HLr := Lib.hid (HL.out.below cur)
        clear HB HC
        go_wp2_with fail
        replace x0 := cell_drew x0
        replace x1 := cell_drew x1
        go_region_held3 (fun wx => wx.cell? ⟨w1.heap.size, 0, none⟩ = some (.int .i64 v1) ∧ wx.cell? ⟨w1.heap.size, 1, none⟩ = some (.int .i64 v2))
          (first | exact ⟨x0, x1⟩)
          (first | (go_at_call 13; refine (alive02 (HT.out.below cur)).mono ?_; rintro e wq ⟨rfl, hbq⟩; replace cur := seq cur hbq; replace x0 := cell_below hbq x0; replace x1 := cell_below hbq x1) | (go_at_call 25; refine (rhull_to l _ v1 v2 (HL.out.below cur) hl2 HH.out).mono ?_; rintro e wq ⟨rfl, hbq⟩; replace cur := seq cur hbq; replace x0 := cell_below hbq x0; replace x1 := cell_below hbq x1))
        all_goals (have HCUR := Lib.hid cur; clear cur x0 x1; go_wp2_with fail; go_ret; exact ⟨rfl, HCUR.out⟩)
end Go.Proofs.YtjddafaaplhnfaaDoor.PSpanHulls
