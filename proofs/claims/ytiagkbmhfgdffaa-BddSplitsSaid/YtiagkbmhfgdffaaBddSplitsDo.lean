/- Walk of the document's Do of chapter 07: an op over a row of functions. -/
import Derived.Test.YtiagkbmhfgdffaaBddSplitsDf
import Derived.Test.YtiagkbmhfgdffaaGf
set_option linter.unusedVariables false
set_option linter.unusedSimpArgs false
namespace Go.Proofs.Ytiagkbmhfgdffaa.PBddSplits
open Go Go.RowKit Go.Deep Go.Maps Go.Proofs.YtiagkbmhfgdffaaW.PrintWords Go.Proofs.YtiagkbmhfgdffaaW.PrintLast Go.Proofs.YtiagkbmhfgdffaaW.PrintMore
variable {w w' W : World}
def DoPost (w : World) (T : List (List Bool)) (o : Op7) (e : Ending) (w' : World) : Prop :=
  Below w.heap.size w w' ∧ ((mayOp T.length o = false ∧ e = .returned (.tuple #[.slice none 0 0, .bool false])) ∨
    (mayOp T.length o = true ∧ ∃ v, e = .returned (.tuple #[v, .bool true]) ∧ Kd.bool.R 4 w' w.heap.size (fun _ => True) v (doT T o)))
theorem may_kind {n : Nat} {o : Op7} (h : ¬ (0 ≤ o.kind ∧ o.kind ≤ 8)) : mayOp n o = false := by
  rw [Bool.eq_false_iff]; intro c; have := mayOp_parts c; omega
/-- What lies in Do's boxes as its first loop goes. -/
structure DoI (w0 w wr : World) (T : List (List Bool)) (o : Op7) (n8 i : Nat) : Prop where
  below : Below n8 w wr
  a : 0 < i → inR T.length o.a = true
  b : 1 < i → inR T.length o.b = true
  c : 2 < i → inR T.length o.c = true
  x : ∃ v0 v1 v2, wr.heap[n8]? = some (.cells #[v0, v1, v2] 91 (0, 0)) ∧ HeldB w0 v0 (pickT T (decide (0 < i)) o.a) ∧ HeldB w0 v1 (pickT T (decide (1 < i)) o.b) ∧ HeldB w0 v2 (pickT T (decide (2 < i)) o.c)
theorem may_arg {n : Nat} {o : Op7} (h : (0 < needs o.kind ∧ inR n o.a = false) ∨ (1 < needs o.kind ∧ inR n o.b = false) ∨ (2 < needs o.kind ∧ inR n o.c = false)) : mayOp n o = false := by
  rw [Bool.eq_false_iff]
  intro c
  obtain ⟨_, _, h3, h4, h5, _⟩ := mayOp_parts c
  rcases h with ⟨h, e⟩ | ⟨h, e⟩ | ⟨h, e⟩
  · rw [e] at h3; rcases h3 with h3 | h3
    · omega
    · cases h3
  · rw [e] at h4; rcases h4 with h4 | h4
    · omega
    · cases h4
  · rw [e] at h5; rcases h5 with h5 | h5
    · omega
    · cases h5
theorem inR_no {n : Nat} {k : Int} (h : k < 0 ∨ (n : Int) ≤ k) : inR n k = false := by
  unfold inR
  rcases h with h | h
  · rw [decide_eq_false (show ¬ 0 ≤ k by omega)]; rfl
  · rw [decide_eq_false (show ¬ k < (n : Int) by omega), Bool.and_false]
theorem inR_yes {n j : Nat} (h : j < n) : inR n (j : Int) = true := by
  unfold inR
  rw [decide_eq_true (show 0 ≤ (j : Int) by omega), decide_eq_true (show (j : Int) < (n : Int) by omega)]; rfl
theorem pick_in {T : List (List Bool)} {j : Nat} (h : j < T.length) : pickT T true (j : Int) = T[j] := by
  unfold pickT
  rw [if_pos rfl, Int.toNat_natCast]
  simp [List.getD, h]
def badV (k : Nat) (ov : Int) : Bool := (decide (k = 0) || decide (5 < k)) && (decide (ov < 0) || decide (11 < ov))
theorem may_v {n k : Nat} {ov oa ob oc : Int} {oy : Bool} (h : badV k ov = true) : mayOp n ⟨k, ov, oa, ob, oc, oy⟩ = false := by
  rw [Bool.eq_false_iff]
  intro c
  obtain ⟨_, _, _, _, _, h6⟩ := mayOp_parts c
  unfold badV at h
  simp only [Bool.and_eq_true, Bool.or_eq_true, decide_eq_true_eq] at h
  have := h6 (by dsimp only; omega)
  dsimp only at this
  omega
theorem may_all {n k : Nat} {ov oa ob oc : Int} {oy : Bool} (hk : k ≤ 8) (ha : 0 < needs (k : Int) → inR n oa = true) (hb : 1 < needs (k : Int) → inR n ob = true) (hc : 2 < needs (k : Int) → inR n oc = true) (h : badV k ov = false) : mayOp n ⟨k, ov, oa, ob, oc, oy⟩ = true := by
  unfold mayOp
  unfold badV at h
  dsimp only
  have f : ∀ (m : Nat) (b : Bool), (m < needs (k : Int) → b = true) → (decide (needs (k : Int) < m + 1) || b) = true := fun m b hb => by
    by_cases c : m < needs (k : Int)
    · rw [hb c, Bool.or_true]
    · rw [decide_eq_true (by omega)]; rfl
  have f0 := f 0 _ ha
  have f1 := f 1 _ hb
  have f2 := f 2 _ hc
  rw [f0, f1, f2, decide_eq_true (show 0 ≤ (k : Int) by omega), decide_eq_true (show (k : Int) ≤ 8 by omega)]
  simp only [Bool.and_true, Bool.true_and]
  by_cases c : k = 0 ∨ 5 < k
  · have e1 : (decide (k = 0) || decide (5 < k)) = true := by simpa using c
    rw [e1, Bool.true_and, Bool.or_eq_false_iff, decide_eq_false_iff_not, decide_eq_false_iff_not] at h
    rw [decide_eq_true (show 0 ≤ ov by omega), decide_eq_true (show ov ≤ 11 by omega), Bool.and_true, Bool.or_true]
  · rw [decide_eq_false (show ¬ (k : Int) = 0 by omega), decide_eq_false (show ¬ 5 < (k : Int) by omega)]; rfl
theorem DoI.put {w0 w wr : World} {T : List (List Bool)} {o : Op7} {n8 i : Nat} (h : DoI w0 w wr T o n8 i) (hi : i < 3) {k : Int} (hk : k = if i = 0 then o.a else if i = 1 then o.b else o.c) (hin : inR T.length k = true) {u : Value} (hu : HeldB w0 u (pickT T true k)) :
    DoI w0 w (wr.setCell ⟨n8, i, none⟩ u) T o n8 (i + 1) := by
  obtain ⟨hb, ha, hb', hc, v0, v1, v2, hx, h0, h1, h2⟩ := h
  have hs := heap_setCell_same (j := i) hx u
  have hbl : Below n8 w (wr.setCell ⟨n8, i, none⟩ u) := Below.setCell hb (by simp) _
  rcases (show i = 0 ∨ i = 1 ∨ i = 2 by omega) with rfl | rfl | rfl
  · subst hk
    exact ⟨hbl, fun _ => hin, fun h => by omega, fun h => by omega, u, v1, v2, hs, hu, h1, h2⟩
  · subst hk
    exact ⟨hbl, fun _ => ha (by omega), fun _ => hin, fun h => by omega, v0, u, v2, hs, h0, hu, h2⟩
  · subst hk
    exact ⟨hbl, fun _ => ha (by omega), fun _ => hb' (by omega), fun _ => hin, v0, v1, u, hs, h0, h1, hu⟩
set_option maxRecDepth 100000 in
set_option maxHeartbeats 16000000 in
theorem Do_any {vT : Value} {T : List (List Bool)} (hT : Tbs w vT T) (hlen : ∀ t ∈ T, t.length = 4096) (o : Op7) :
    Calls Try.prog 34 #[vT, .agg #[.int .i64 o.kind, .int .i64 o.v, .int .i64 o.a, .int .i64 o.b, .int .i64 o.c, .bool o.yes]] w (DoPost w T o) := by
  obtain ⟨kd, ov, oa, ob, oc, oy⟩ := o
  have HT := Lib.hid hT
  have HLen := Lib.hid hlen
  obtain ⟨ao, cc, rfl, -⟩ := hT
  have k1 := heap_alloc_new w (.cells #[.int .i64 kd, .int .i64 ov, .int .i64 oa, .int .i64 ob, .int .i64 oc, .bool oy] 31)
  have kb : Below w.heap.size w (w.alloc (.cells #[.int .i64 kd, .int .i64 ov, .int .i64 oa, .int .i64 ob, .int .i64 oc, .bool oy] 31)) := Below.push (Below.refl _ _) (Nat.le_refl _) _
  have ks : (w.alloc (.cells #[.int .i64 kd, .int .i64 ov, .int .i64 oa, .int .i64 ob, .int .i64 oc, .bool oy] 31)).heap.size = w.heap.size + 1 := by simp
  clear hlen
  go_enter Try.func34, Try.ntmps34
  go_upto_region 1 with fail
  generalize w.alloc (.cells #[.int .i64 kd, .int .i64 ov, .int .i64 oa, .int .i64 ob, .int .i64 oc, .bool oy] 31) = w1 at *
  have k2 := heap_alloc_new w1 (.cells #[.int .i64 0, .int .i64 1, .int .i64 2, .int .i64 2, .int .i64 2, .int .i64 3, .int .i64 1, .int .i64 1, .int .i64 2] 3)
  have k12 := heap_alloc_lt (.cells #[.int .i64 0, .int .i64 1, .int .i64 2, .int .i64 2, .int .i64 2, .int .i64 3, .int .i64 1, .int .i64 1, .int .i64 2] 3) k1
  have kb2 := Below.push kb (Nat.le_refl _) (.cells #[.int .i64 0, .int .i64 1, .int .i64 2, .int .i64 2, .int .i64 2, .int .i64 3, .int .i64 1, .int .i64 1, .int .i64 2] 3)
  clear k1 kb
  go_upto_region 2 with fail
  generalize w1.alloc (.cells #[.int .i64 0, .int .i64 1, .int .i64 2, .int .i64 2, .int .i64 2, .int .i64 3, .int .i64 1, .int .i64 1, .int .i64 2] 3) = w2 at *
  have x0 : w2.cell? ⟨w.heap.size, 0, none⟩ = some (.int .i64 kd) := cell_at k12 0 rfl
  have HB2 := Lib.hid kb2
  clear kb2
  by_cases hr : 0 ≤ kd ∧ kd ≤ 8
  · obtain ⟨k, rfl⟩ := Int.eq_ofNat_of_zero_le hr.1
    have hk8 : k ≤ 8 := by omega
    have d1 : decide ((k : Int) < 0) = false := decide_eq_false (by omega)
    have d2 : decide ((8 : Int) < (k : Int)) = false := decide_eq_false (by omega)
    have x1 : w2.cell? ⟨w.heap.size, 1, none⟩ = some (.int .i64 ov) := cell_at k12 1 rfl
    have x2 : w2.cell? ⟨w.heap.size, 2, none⟩ = some (.int .i64 oa) := cell_at k12 2 rfl
    have x3 : w2.cell? ⟨w.heap.size, 3, none⟩ = some (.int .i64 ob) := cell_at k12 3 rfl
    have x4 : w2.cell? ⟨w.heap.size, 4, none⟩ = some (.int .i64 oc) := cell_at k12 4 rfl
    have x5 : w2.cell? ⟨w.heap.size, 5, none⟩ = some (.bool oy) := cell_at k12 5 rfl
    have hnk : needs (k : Int) ≤ 3 := by unfold needs; split <;> (try split) <;> (try split) <;> omega
    have xn : w2.cell? ⟨w.heap.size + 1, k, none⟩ = some (.int .i64 (needs (k : Int) : Nat)) := by
      rw [ks] at k2
      rcases (show k = 0 ∨ k = 1 ∨ k = 2 ∨ k = 3 ∨ k = 4 ∨ k = 5 ∨ k = 6 ∨ k = 7 ∨ k = 8 by omega) with rfl | rfl | rfl | rfl | rfl | rfl | rfl | rfl | rfl
      · exact cell_at k2 0 rfl
      · exact cell_at k2 1 rfl
      · exact cell_at k2 2 rfl
      · exact cell_at k2 3 rfl
      · exact cell_at k2 4 rfl
      · exact cell_at k2 5 rfl
      · exact cell_at k2 6 rfl
      · exact cell_at k2 7 rfl
      · exact cell_at k2 8 rfl
    have hsz : w.heap.size + 1 < w2.heap.size := by
      have := World.block_lt_of_cell? w2 _ xn
      exact this
    clear hr
    go_upto_region 6 with fail
    obtain ⟨m1, m2, mb⟩ := two_in w2 (.cells #[.int .i64 oa, .int .i64 ob, .int .i64 oc] 90) (.cells #[.slice none 0 0, .slice none 0 0, .slice none 0 0] 91)
    have HX : Hid (w2.cell? ⟨w.heap.size, 0, none⟩ = some (.int .i64 k) ∧ w2.cell? ⟨w.heap.size + 1, k, none⟩ = some (.int .i64 (needs (k : Int) : Nat)) ∧ w2.cell? ⟨w.heap.size, 1, none⟩ = some (.int .i64 ov) ∧ w2.cell? ⟨w.heap.size, 2, none⟩ = some (.int .i64 oa) ∧ w2.cell? ⟨w.heap.size, 3, none⟩ = some (.int .i64 ob) ∧ w2.cell? ⟨w.heap.size, 4, none⟩ = some (.int .i64 oc) ∧ w2.cell? ⟨w.heap.size, 5, none⟩ = some (.bool oy)) := Lib.hid ⟨x0, xn, x1, x2, x3, x4, x5⟩
    clear x0 xn x1 x2 x3 x4 x5 k12 k2
    generalize (w2.alloc (.cells #[.int .i64 oa, .int .i64 ob, .int .i64 oc] 90)).alloc (.cells #[.slice none 0 0, .slice none 0 0, .slice none 0 0] 91) = w3 at *
    have HM1 := Lib.hid m1
    have HM2 := Lib.hid m2
    have HMb := Lib.hid mb
    have HSz := Lib.hid hsz
    have HI0 : Hid (DoI w w3 w3 T ⟨k, ov, oa, ob, oc, oy⟩ (w2.heap.size + 1) 0) := Lib.hid ⟨Below.refl _ _, fun h => absurd h (Nat.lt_irrefl _), fun h => by omega, fun h => by omega, _, _, _, m2, HeldB.nil w, HeldB.nil w, HeldB.nil w⟩
    clear m1 m2 mb hsz
    go_wp2_with fail
    go_loopg [9] (needs (k : Int)) (fun gk v9 wr => ∃ i : Nat, v9 = .int .i64 i ∧ i + gk = needs (k : Int) ∧ Hid (DoI w w3 wr T ⟨k, ov, oa, ob, oc, oy⟩ (w2.heap.size + 1) i))
    case atStart => exact ⟨0, rfl, by omega, HI0⟩
    case round =>
      clear HI0
      obtain ⟨i, rfl, hi, HI⟩ := hrel
      have hbl : Below w2.heap.size w2 wr := HMb.out.trans (HI.out.below.mono (Nat.le_succ _))
      have hbw : Below w.heap.size w wr := HB2.out.trans (hbl.mono (by have := HSz.out; omega))
      have x0 := (hbl.cell (p := ⟨w.heap.size, 0, none⟩) (by have := HSz.out; show w.heap.size < w2.heap.size; omega)).trans HX.out.1
      have xn := (hbl.cell (p := ⟨w.heap.size + 1, k, none⟩) HSz.out).trans HX.out.2.1
      obtain ⟨g0, g1, g2⟩ := three_at HM1.out
      by_cases hlt : i < needs (k : Int)
      · have hi3 : i < 3 := by omega
        obtain ⟨va, hva⟩ : ∃ va, va = if i = 0 then oa else if i = 1 then ob else oc := ⟨_, rfl⟩
        have ga : wr.cell? ⟨w2.heap.size, i, none⟩ = some (.int .i64 va) := by
          have hq := (HI.out.below.cell (p := ⟨w2.heap.size, i, none⟩) (Nat.lt_succ_self _))
          rw [hq, hva]
          rcases (show i = 0 ∨ i = 1 ∨ i = 2 by omega) with rfl | rfl | rfl
          · exact g0
          · exact g1
          · exact g2
        have hno : inR T.length va = false → mayOp T.length ⟨k, ov, oa, ob, oc, oy⟩ = false := fun h => by
          apply may_arg
          rw [hva] at h
          rcases (show i = 0 ∨ i = 1 ∨ i = 2 by omega) with rfl | rfl | rfl
          · exact .inl ⟨hlt, h⟩
          · exact .inr (.inl ⟨hlt, h⟩)
          · exact .inr (.inr ⟨hlt, h⟩)
        have HNO := Lib.hid hno
        have HBW := Lib.hid hbw
        have HVA := Lib.hid hva
        clear hno hbw hbl g0 g1 g2 hva
        by_cases hv0 : va < 0
        · go_wp2_with fail
          go_ret2
          exact ⟨HBW.out, .inl ⟨HNO.out (inR_no (.inl hv0)), rfl⟩⟩
        · by_cases hv1 : (T.length : Int) ≤ va
          · go_wp2_with fail
            go_ret2
            exact ⟨HBW.out, .inl ⟨HNO.out (inR_no (.inr hv1)), rfl⟩⟩
          · obtain ⟨j, rfl⟩ := Int.eq_ofNat_of_zero_le (show 0 ≤ va by omega)
            have hj : j < T.length := by omega
            obtain ⟨_, _, e0, hc0, hml, hrow⟩ := HT.out
            simp only [Value.slice.injEq, true_and] at e0
            obtain ⟨rfl, -, rfl⟩ := e0
            unfold maxLen at hml
            obtain ⟨b, o, u, rfl, hcu, hu⟩ := hrow j hj
            have hcw := (HBW.out.cell (p := ⟨b, o + j, none⟩) (World.block_lt_of_cell? w _ hcu)).trans hcu
            have hx8 : ∃ c, wr.heap[w2.heap.size + 1]? = some (.cells c 91 (0, 0)) ∧ c.size = 3 := by
              obtain ⟨v0, v1, v2, h, _⟩ := HI.out.x
              exact ⟨_, h, rfl⟩
            obtain ⟨c8, hc8, hc3⟩ := hx8
            have hfr := free_at hc8 i
            have hex : ∃ z, wr.cell? ⟨w2.heap.size + 1, i, none⟩ = some z := ⟨c8[i], cell_at hc8 i (by rw [Array.getElem?_eq_getElem])⟩
            obtain ⟨z8, hz8⟩ := hex
            have HPut := Lib.hid (HI.out.put hi3 HVA.out (inR_yes hj) (u := u) (by rw [pick_in hj]; exact hu))
            obtain ⟨Au, cu, rfl, -, -⟩ := hu
            clear hc8 hrow hcu
            go_wp2_with fail
            go_roundg (gk - 1)
            case measure => omega
            case rel => exact ⟨i + 1, by go_num, by omega, HPut⟩
      · have hi' : i = needs (k : Int) := by omega
        subst hi'
        have hge : (needs (k : Int) : Int) ≤ (needs (k : Int) : Int) := Int.le_refl _
        have x1 := (hbl.cell (p := ⟨w.heap.size, 1, none⟩) (by have := HSz.out; show w.heap.size < w2.heap.size; omega)).trans HX.out.2.2.1
        clear g0 g1 g2
        have HBW := Lib.hid hbw
        have HBL := Lib.hid hbl
        clear hbw hbl hge hlt
        go_upto_region 12 with fail
        go_cut [74] (fun v74 wx => v74 = .bool (badV k ov) ∧ wr = wx)
        case first =>
          rcases (show (k = 0 ∧ ov < 0) ∨ (k = 0 ∧ 0 ≤ ov ∧ 11 < ov) ∨ (k = 0 ∧ 0 ≤ ov ∧ ov ≤ 11) ∨ (5 < k ∧ ov < 0) ∨ (5 < k ∧ 0 ≤ ov ∧ 11 < ov) ∨ (5 < k ∧ 0 ≤ ov ∧ ov ≤ 11) ∨ (k ≠ 0 ∧ k ≤ 5) by omega) with ⟨h, h1⟩ | ⟨h, h1, h2⟩ | ⟨h, h1, h2⟩ | ⟨h, h1⟩ | ⟨h, h1, h2⟩ | ⟨h, h1, h2⟩ | ⟨h, h1⟩
          · have e1 : ((k : Int) == 0) = true := beq_iff_eq.2 (by omega)
            have e3 : decide (ov < 0) = true := decide_eq_true h1
            have HV : Hid (badV k ov = true) := Lib.hid (by simp [badV, h, h1])
            clear h h1
            go_wp2_with fail
            go_meet
            exact ⟨by rw [HV.out], rfl⟩
          · have e1 : ((k : Int) == 0) = true := beq_iff_eq.2 (by omega)
            have e3 : decide (ov < 0) = false := decide_eq_false (by omega)
            have e4 : decide (11 < ov) = true := decide_eq_true h2
            have HV : Hid (badV k ov = true) := Lib.hid (by simp [badV, h, h2])
            clear h h1 h2
            go_wp2_with fail
            go_meet
            exact ⟨by rw [HV.out], rfl⟩
          · have e1 : ((k : Int) == 0) = true := beq_iff_eq.2 (by omega)
            have e3 : decide (ov < 0) = false := decide_eq_false (by omega)
            have e4 : decide (11 < ov) = false := decide_eq_false (by omega)
            have HV : Hid (badV k ov = false) := Lib.hid (by unfold badV; rw [decide_eq_false (show ¬ ov < 0 by omega), decide_eq_false (show ¬ 11 < ov by omega)]; simp)
            clear h h1 h2
            go_wp2_with fail
            go_meet
            exact ⟨by rw [HV.out], rfl⟩
          · have e1 : ((k : Int) == 0) = false := beq_eq_false_iff_ne.2 (by omega)
            have e2 : decide (5 < (k : Int)) = true := decide_eq_true (by omega)
            have e3 : decide (ov < 0) = true := decide_eq_true h1
            have HV : Hid (badV k ov = true) := Lib.hid (by simp [badV, h, h1])
            clear h h1
            go_wp2_with fail
            go_meet
            exact ⟨by rw [HV.out], rfl⟩
          · have e1 : ((k : Int) == 0) = false := beq_eq_false_iff_ne.2 (by omega)
            have e2 : decide (5 < (k : Int)) = true := decide_eq_true (by omega)
            have e3 : decide (ov < 0) = false := decide_eq_false (by omega)
            have e4 : decide (11 < ov) = true := decide_eq_true h2
            have HV : Hid (badV k ov = true) := Lib.hid (by simp [badV, h, h2])
            clear h h1 h2
            go_wp2_with fail
            go_meet
            exact ⟨by rw [HV.out], rfl⟩
          · have e1 : ((k : Int) == 0) = false := beq_eq_false_iff_ne.2 (by omega)
            have e2 : decide (5 < (k : Int)) = true := decide_eq_true (by omega)
            have e3 : decide (ov < 0) = false := decide_eq_false (by omega)
            have e4 : decide (11 < ov) = false := decide_eq_false (by omega)
            have HV : Hid (badV k ov = false) := Lib.hid (by unfold badV; rw [decide_eq_false (show ¬ ov < 0 by omega), decide_eq_false (show ¬ 11 < ov by omega)]; simp)
            clear h h1 h2
            go_wp2_with fail
            go_meet
            exact ⟨by rw [HV.out], rfl⟩
          · have e1 : ((k : Int) == 0) = false := beq_eq_false_iff_ne.2 (by omega)
            have e2 : decide (5 < (k : Int)) = false := decide_eq_false (by omega)
            have HV : Hid (badV k ov = false) := Lib.hid (by unfold badV; rw [decide_eq_false h, decide_eq_false (show ¬ 5 < k by omega)]; rfl)
            clear h h1
            go_wp2_with fail
            go_meet
            exact ⟨by rw [HV.out], rfl⟩
        case rest =>
          obtain ⟨rfl, rfl⟩ := hcut
          cases hbv : badV k ov
          case true =>
            have HE : Hid (mayOp T.length ⟨k, ov, oa, ob, oc, oy⟩ = false) := Lib.hid (may_v hbv)
            clear hbv
            go_wp2_with fail
            go_ret2
            exact ⟨HBW.out, .inl ⟨HE.out, rfl⟩⟩
          case false =>
            have hmay : mayOp T.length ⟨k, ov, oa, ob, oc, oy⟩ = true := may_all hk8 HI.out.a HI.out.b HI.out.c hbv
            have HMay := Lib.hid hmay
            clear hbv
            obtain ⟨v0, v1, v2, hx8, ⟨A0, c0, rfl, hc0, hC0⟩, ⟨A1, c1, rfl, hc1, hC1⟩, ⟨A2, c2, rfl, hc2, hC2⟩⟩ := HI.out.x
            have HLX : Hid (∀ (m : Nat) (a : Int), (m < needs (k : Int) → inR T.length a = true) → (m < needs (k : Int) → (pickT T (decide (m < needs (k : Int))) a).length = 4096)) := Lib.hid (fun m a h1 h2 => by
              have h3 := h1 h2
              unfold inR at h3
              rw [Bool.and_eq_true, decide_eq_true_eq, decide_eq_true_eq] at h3
              obtain ⟨j, rfl⟩ := Int.eq_ofNat_of_zero_le h3.1
              have hj : j < T.length := by omega
              rw [decide_eq_true h2, pick_in hj]
              exact HLen.out _ (List.getElem_mem hj))
            have l0 := HLX.out 0 oa HI.out.a
            have l1 := HLX.out 1 ob HI.out.b
            have l2 := HLX.out 2 oc HI.out.c
            have HD : Hid (doT T ⟨k, ov, oa, ob, oc, oy⟩ = (List.range 4096).map (oneT ⟨k, ov, oa, ob, oc, oy⟩ (pickT T (decide (0 < needs (k : Int))) oa) (pickT T (decide (1 < needs (k : Int))) ob) (pickT T (decide (2 < needs (k : Int))) oc))) := Lib.hid rfl
            obtain ⟨q0, q1, q2⟩ := three_at hx8
            have hq8 := lt_of_heap hx8
            generalize pickT T (decide (0 < needs (k : Int))) oa = X0 at *
            generalize pickT T (decide (1 < needs (k : Int))) ob = X1 at *
            generalize pickT T (decide (2 < needs (k : Int))) oc = X2 at *
            have HF : Hid (∀ n : Nat, n < 4096 → helmsmanref07_one.f 30 k ov oa ob oc oy X0 X1 X2 (n : Int) = some (oneT ⟨k, ov, oa, ob, oc, oy⟩ X0 X1 X2 n)) := Lib.hid (fun n hn => one_f (o := ⟨k, ov, oa, ob, oc, oy⟩) hmay l0 l1 l2 hn)
            have HC := Lib.hid (And.intro hC0 (And.intro hC1 hC2))
            have HQ := Lib.hid (And.intro q0 (And.intro q1 q2))
            have hz0 := (HBL.out.cell (p := ⟨w.heap.size, 0, none⟩) (by have := HSz.out; show w.heap.size < w2.heap.size; omega)).trans HX.out.1
            have hz2 := (HBL.out.cell (p := ⟨w.heap.size, 2, none⟩) (by have := HSz.out; show w.heap.size < w2.heap.size; omega)).trans HX.out.2.2.2.1
            have hz3 := (HBL.out.cell (p := ⟨w.heap.size, 3, none⟩) (by have := HSz.out; show w.heap.size < w2.heap.size; omega)).trans HX.out.2.2.2.2.1
            have hz4 := (HBL.out.cell (p := ⟨w.heap.size, 4, none⟩) (by have := HSz.out; show w.heap.size < w2.heap.size; omega)).trans HX.out.2.2.2.2.2.1
            have hz5 := (HBL.out.cell (p := ⟨w.heap.size, 5, none⟩) (by have := HSz.out; show w.heap.size < w2.heap.size; omega)).trans HX.out.2.2.2.2.2.2
            have HZ := Lib.hid (And.intro hz0 (And.intro x1 (And.intro hz2 (And.intro hz3 (And.intro hz4 hz5)))))
            have HS8 : Hid (w.heap.size < wr.heap.size ∧ w2.heap.size + 1 < wr.heap.size) := Lib.hid ⟨by have := HSz.out; omega, hq8⟩
            clear hx8 hC0 hC1 hC2 l0 l1 l2 HLX q0 q1 q2 x0 x1 xn HX hz0 hz2 hz3 hz4 hz5 HM1 HM2 HMb HI hmay hq8
            go_wp2_with fail
            obtain ⟨W0, hW0⟩ : ∃ x, x = wr := ⟨_, rfl⟩
            subst hW0
            go_loopg [10, 11] 4096 (fun gk v10 v11 wx => ∃ n : Nat, v11 = .int .i64 n ∧ n + gk = 4096 ∧ Hid (Kd.bool.R 4 wx W0.heap.size (fun _ => True) v10 ((List.range n).map (oneT ⟨k, ov, oa, ob, oc, oy⟩ X0 X1 X2)) ∧ Below W0.heap.size W0 wx))
            case atStart => exact ⟨0, rfl, by omega, Lib.hid ⟨Kd.R_nil _ _ _ _ _, Below.refl _ _⟩⟩
            case round =>
              obtain ⟨n, rfl, hn, HR⟩ := hrel
              have hbx := HR.out.2
              by_cases hlt : n < 4096
              · have z0 := (hbx.cell (p := ⟨w.heap.size, 0, none⟩) HS8.out.1).trans HZ.out.1
                have z1 := (hbx.cell (p := ⟨w.heap.size, 1, none⟩) HS8.out.1).trans HZ.out.2.1
                have z2 := (hbx.cell (p := ⟨w.heap.size, 2, none⟩) HS8.out.1).trans HZ.out.2.2.1
                have z3 := (hbx.cell (p := ⟨w.heap.size, 3, none⟩) HS8.out.1).trans HZ.out.2.2.2.1
                have z4 := (hbx.cell (p := ⟨w.heap.size, 4, none⟩) HS8.out.1).trans HZ.out.2.2.2.2.1
                have z5 := (hbx.cell (p := ⟨w.heap.size, 5, none⟩) HS8.out.1).trans HZ.out.2.2.2.2.2
                have y0 := (hbx.cell (p := ⟨w2.heap.size + 1, 0, none⟩) HS8.out.2).trans HQ.out.1
                have y1 := (hbx.cell (p := ⟨w2.heap.size + 1, 1, none⟩) HS8.out.2).trans HQ.out.2.1
                have y2 := (hbx.cell (p := ⟨w2.heap.size + 1, 2, none⟩) HS8.out.2).trans HQ.out.2.2
                have hF := HF.out n hlt
                have hbw := HBW.out.trans (hbx.mono (HBW.out.size))
                have HCall := Lib.hid (helmsmanref07_one.calls 30 k ov oa ob oc oy A0 c0 X0 A1 c1 X1 A2 c2 X2 n _ wr (Kd.C_below HC.out.1 hbw) hc0 (Kd.C_below HC.out.2.1 hbw) hc1 (Kd.C_below HC.out.2.2 hbw) hc2 hF)
                have HSucc : Hid ((List.range (n + 1)).map (oneT ⟨k, ov, oa, ob, oc, oy⟩ X0 X1 X2) = (List.range n).map (oneT ⟨k, ov, oa, ob, oc, oy⟩ X0 X1 X2) ++ [oneT ⟨k, ov, oa, ob, oc, oy⟩ X0 X1 X2 n]) := Lib.hid (by rw [List.range_succ, List.map_append]; rfl)
                have HLn : Hid (((List.range n).map (oneT ⟨k, ov, oa, ob, oc, oy⟩ X0 X1 X2)).length = n) := Lib.hid (by simp)
                generalize (List.range n).map (oneT ⟨k, ov, oa, ob, oc, oy⟩ X0 X1 X2) = xs at *
                generalize oneT ⟨k, ov, oa, ob, oc, oy⟩ X0 X1 X2 n = bn at *
                clear hbx hbw hF
                go_wp2_with fail
                refine HCall.out.mono ?_
                rintro e w5 ⟨rfl, hb5⟩
                have HR5 := Lib.hid (Kd.R_below HR.out.1 hb5)
                have HB5 := Lib.hid (HR.out.2.trans (hb5.mono HR.out.2.size))
                have HS5 : Hid (W0.heap.size ≤ w5.heap.size) := Lib.hid HB5.out.size
                clear hb5
                go_wp2_with (first | ((with_reducible refine gate_builtin (b := .append) (xs := #[.tmp 79, .tmp 89]) rfl ?_); at_builtin; refine Kd.R_append Kd.bool (w0 := W0) W0.heap.size rfl (.tmp 79) (.tmp 89) 34 4 (.bool false) 1 rfl Try.underlying34 inf_bool rfl (by decide) (by omega) u10 xs bn [.bool bn] (fun _ => True) (fun _ => False) rfl rfl ?aP (fun _ hk => hk.elim) ?aF ?aO ?aB ?aS ?aL ?_; (case aP => exact rfl); (case aB => exact HB5.out); (case aF => exact (fun _ _ => trivial)); (case aO => exact HR5.out); (case aS => exact HS5.out); (case aL => have := HLn.out; omega); intro v128 w6 ho hb hg hat; rw [← HSucc.out] at ho; have HX6 := Lib.hid (And.intro ho hb); clear ho hb hg hat))
                go_roundg (gk - 1)
                case measure => omega
                case rel => exact ⟨n + 1, by go_num, by omega, HX6⟩
              · have hn4 : n = 4096 := by omega
                subst hn4
                rw [← HD.out] at HR
                have HB9 := Lib.hid (HBW.out.trans (HR.out.2.mono HBW.out.size))
                clear hbx HF
                go_wp2_with fail
                go_ret2
                exact ⟨HB9.out, .inr ⟨HMay.out, _, rfl, Kd.R_lower HR.out.1 HBW.out.size⟩⟩
  · have HE : Hid (mayOp T.length ⟨kd, ov, oa, ob, oc, oy⟩ = false) := Lib.hid (may_kind hr)
    rcases (show kd < 0 ∨ (0 ≤ kd ∧ 8 < kd) by omega) with h | ⟨h, h'⟩
    all_goals (clear hr; go_wp2_with fail; go_ret2; exact ⟨HB2.out, .inl ⟨HE.out, rfl⟩⟩)
end Go.Proofs.Ytiagkbmhfgdffaa.PBddSplits
