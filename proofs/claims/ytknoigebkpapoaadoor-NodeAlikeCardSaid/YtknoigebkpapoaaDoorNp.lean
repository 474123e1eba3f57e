/- Walks of package node: where a node's number stands, or belongs; the table of twice the places; a new arena; Mk. -/
import Derived.Test.YtknoigebkpapoaaDoorNw
import Derived.Deep.LoopGhost
set_option linter.unusedVariables false
set_option linter.unusedSimpArgs false
namespace Go.Proofs.YtknoigebkpapoaaDoor
open Go.RowKit
variable {w : World} {b : Nat} {lim : Int} {L : List Nd} {S : Nat → Prop}

def ndEq (x0 x1 x2 y0 y1 y2 : Int) : Bool := x0 == y0 && (x1 == y1 && x2 == y2)
theorem ndEq_iff (a b : Nd) : ndEq a.v a.l a.h b.v b.l b.h = true ↔ a = b := by
  cases a; cases b
  simp [ndEq]
theorem eq_nd (w : World) (x0 x1 x2 y0 y1 y2 : Int) :
    (Op.equalIn 10000 57 (.agg #[.int .i64 x0, .int .i64 x1, .int .i64 x2]) (.agg #[.int .i64 y0, .int .i64 y1, .int .i64 y2])).run Tryd.prog w = .ok (ndEq x0 x1 x2 y0 y1 y2) w := by
  rw [run_equalIn_struct w 9999 57 _ _ (by kernel_rfl) (by kernel_rfl)]
  simp only [Program.fieldsOf, Tryd.underlying57, ndEq]
  go_simp
  by_cases h0 : x0 = y0 <;> by_cases h1 : x1 = y1 <;> by_cases h2 : x2 = y2 <;> simp [h0, h1, h2]
attribute [local go_sem high] eq_nd

set_option maxHeartbeats 1000000 in
theorem place_to {vl : Value} {bp m : Nat} {PL : List Nat} {cp : Nat} {tl : List Value} (hbox : w.heap[b]? = some (.cells #[.int .i64 lim, vl, .slice (some ⟨bp, 0, none⟩) PL.length cp] 91 (0, 0)))
    (hrow : w.ownsRow 0 57 3 vl L.length (cellsOf L)) (hplc : w.heap[bp]? = some (.cells (PL.map (fun (n : Nat) => Value.int .i64 (n : Int)) ++ tl).toArray 3 (0, 0)))
    (htab : Ar.Tab hsh PL L m) (hmax : PL.length ≤ 1000000000000) (n : Nd) (hv : 0 ≤ n.v) (hv2 : n.v < 12) (r : Nat) (hr : Ar.probe PL L n PL.length (hsh n PL.length) = some r) :
    Calls Tryd.prog 50 #[.pointer (some ⟨b, 0, none⟩), .agg #[.int .i64 n.v, .int .i64 n.l, .int .i64 n.h]] w fun e w' => e = .returned (.int .i64 r) ∧ Below w.heap.size w w' := by
  have hb := lt_of_heap hbox
  have h2 : w.cell? ⟨b, 2, none⟩ = some (.slice (some ⟨bp, 0, none⟩) PL.length cp) := cell_at hbox 2 rfl
  have hbp := lt_of_heap hplc
  have hpos : 0 < PL.length := htab.pos
  have hw := u64_nat PL.length hmax
  have hne : ((PL.length : Int) == 0) = false := by rw [beq_eq_false_iff_ne]; omega
  have HR := Lib.hid hr
  have HX := Lib.hid hbox
  have HO := Lib.hid hrow
  have HC := Lib.hid hplc
  clear hr hbox hrow hplc
  have hsl : hsh n PL.length < PL.length := hsh_lt n _ hpos
  have HS := Lib.hid (hmix_place n PL.length hpos hmax)
  go_enter Tryd.func50, Tryd.ntmps50
  go_wp2
  go_step3
  go_wp2
  go_step3
  go_wp2
  go_loopg [6, 7] PL.length (fun g p q wr => ∃ s : Nat, p = .int .i64 s ∧ s < PL.length ∧ Hid (Ar.probe PL L n g s = some r) ∧ Below w.heap.size w wr ∧ Hid (wr.heap[w.heap.size]? = some (.cells #[.int .i64 n.v, .int .i64 n.l, .int .i64 n.h] 57 (0, 0))))
  case atStart => exact ⟨_, congrArg _ HS.out, hsl, HR, (Below.refl _ _).alloc (Nat.le_refl _) _, heap_alloc_new _ _⟩
  case round =>
    obtain ⟨s, rfl, hs, HP, hT, hx⟩ := hrel
    have k2 := (hT.cell (p := ⟨b, 2, none⟩) hb).trans h2
    have k3 := place_cell ((hT.block bp hbp).trans HC.out) s hs
    have x0 := cell_at hx.out 0 (v := .int .i64 n.v) rfl
    have x1 := cell_at hx.out 1 (v := .int .i64 n.l) rfl
    have x2 := cell_at hx.out 2 (v := .int .i64 n.h) rfl
    clear h2
    obtain ⟨gk, rfl⟩ : ∃ m, gk = m + 1 := by
      cases gk with
      | zero => exact absurd HP.out (by simp [Ar.probe])
      | succ m => exact ⟨m, rfl⟩
    by_cases h0 : PL[s] = 0
    · rw [h0] at k3
      have hsr : s = r := by have := HP.out; unfold Ar.probe at this; rw [Ar.getD_at hs, if_pos h0] at this; exact Option.some.inj this
      subst hsr
      clear h0 x0 x1 x2 hx
      go_wp2
      go_quiet (fail)
      go_wp2
      rw [Exit.noGoto_ret]
      go_ret
      exact ⟨rfl, hT.trans ⟨rfl, rfl, rfl, Nat.le_refl _, fun _ _ => rfl⟩⟩
    · obtain ⟨q, hq⟩ : ∃ q, PL[s] = q + 1 := ⟨PL[s] - 1, by omega⟩
      rw [hq, show ((q + 1 : Nat) : Int) = (q : Int) + 1 from by omega] at k3
      have hql : q < L.length := by have := htab.ent s hs; have := htab.le; omega
      obtain ⟨bl, cap, rfl, hbl, hn, e0, e1, e2⟩ := row_node HO.out q hql
      have k1 := (hT.cell (p := ⟨b, 1, none⟩) hb).trans (cell_at HX.out 1 (v := .slice (some ⟨bl, 0, none⟩) L.length cap) rfl)
      replace e0 := (hT.cell (p := ⟨bl, q * 3, none⟩) hbl).trans e0
      replace e1 := (hT.cell (p := ⟨bl, q * 3 + 1, none⟩) hbl).trans e1
      replace e2 := (hT.cell (p := ⟨bl, q * 3 + 2, none⟩) hbl).trans e2
      have hz : ((q : Int) + 1 == 0) = false := by rw [beq_eq_false_iff_ne]; omega
      have hz1 : IntKind.i64.wrap ((q : Int) + 1 - 1) = q := by rw [IntWalk.i64_in _ (by omega)]; omega
      have HQ := Lib.hid hq
      clear h0 hq HO HC HX htab
      go_wp2
      have hP : (if L[q] = n then some s else Ar.probe PL L n gk ((s + 1) % PL.length)) = some r := by
        have := HP.out
        unfold Ar.probe at this
        rw [Ar.getD_at hs, HQ.out, if_neg (by omega), Nat.add_sub_cancel, Ar.getD_idx hql] at this
        exact this
      by_cases hE : ndEq L[q].v L[q].l L[q].h n.v n.l n.h = true
      · rw [if_pos ((ndEq_iff _ _).1 hE)] at hP
        obtain rfl : s = r := Option.some.inj hP
        clear hP
        go_quiet (fail)
        go_wp2
        rw [Exit.noGoto_ret]
        go_ret
        exact ⟨rfl, hT.trans ⟨rfl, rfl, rfl, Nat.le_refl _, fun _ _ => rfl⟩⟩
      · rw [if_neg (fun e => hE ((ndEq_iff _ _).2 e))] at hP
        replace hE : ndEq L[q].v L[q].l L[q].h n.v n.l n.h = false := by simpa using hE
        have HP' := Lib.hid hP
        clear hP
        go_quiet (fail)
        go_wp2
        go_roundg gk
        case measure => omega
        case rel => exact ⟨(s + 1) % PL.length, by first | rfl | go_num, Nat.mod_lt _ hpos, HP', hT.trans ⟨rfl, rfl, rfl, Nat.le_refl _, fun _ _ => rfl⟩, hx⟩

theorem place_at {vl : Value} {bp m : Nat} {PL : List Nat} (hbox : w.heap[b]? = some (.cells #[.int .i64 lim, vl, .slice (some ⟨bp, 0, none⟩) PL.length PL.length] 91 (0, 0)))
    (hrow : w.ownsRow 0 57 3 vl L.length (cellsOf L)) (hplc : w.heap[bp]? = some (.cells (PL.map (fun (n : Nat) => Value.int .i64 (n : Int))).toArray 3 (0, 0)))
    (htab : Ar.Tab hsh PL L m) (hmax : PL.length ≤ 1000000000000) (n : Nd) (hv : 0 ≤ n.v) (hv2 : n.v < 12) (r : Nat) (hr : Ar.probe PL L n PL.length (hsh n PL.length) = some r) :
    Calls Tryd.prog 50 #[.pointer (some ⟨b, 0, none⟩), .agg #[.int .i64 n.v, .int .i64 n.l, .int .i64 n.h]] w fun e w' => e = .returned (.int .i64 r) ∧ Below w.heap.size w w' :=
  place_to (tl := []) hbox hrow (by rw [List.append_nil]; exact hplc) htab hmax n hv hv2 r hr

theorem Arena.below {w' : World} (A : Arena w b lim L S) (h : Below w.heap.size w w') : Arena w' b lim L S :=
  A.touch (Touch.of_below h (fun _ => False)) (fun _ _ _ c => c)

/-- A fault in memory. -/
def FaultAt (w : World) (fb : Nat) (v n : Int) : Prop := w.heap[fb]? = some (.cells #[.string ⟨#[109, 107]⟩, .int .i64 v, .iface 35 (.int .i64 n)] 96 (0, 0))
def Faulty (w : World) (v n : Int) (e : Ending) (w' : World) : Prop :=
  ∃ fb, e = .returned (.iface 94 (.pointer (some ⟨fb, 0, none⟩))) ∧ w.heap.size ≤ fb ∧ FaultAt w' fb v n ∧ Below w.heap.size w w'

theorem has_b (A : Arena w b lim L S) (r : Int) (d : Bool) (hd : decide (Ar.has L r) = d) :
    Calls Tryd.prog 31 #[.pointer (some ⟨b, 0, none⟩), .int .i64 r] w fun e w' => e = .returned (.bool d) ∧ w = w' := by
  rw [← hd]; exact has_any A r

theorem Faulty.mk {w w0 w' : World} {v n : Int} (h : Below w.heap.size w w0) (hw : w' = w0.alloc (.cells #[.string ⟨#[109, 107]⟩, .int .i64 v, .iface 35 (.int .i64 n)] 96)) :
    Faulty w v n (.returned (.iface 94 (.pointer (some ⟨w0.heap.size, 0, none⟩)))) w' := by
  subst hw
  exact ⟨_, rfl, h.size, heap_alloc_new _ _, h.alloc h.size _⟩

set_option maxHeartbeats 1000000 in
theorem wrong_var (v lo hi : Int) (hv : v < 0 ∨ 12 ≤ v) :
    Calls Tryd.prog 49 #[.pointer (some ⟨b, 0, none⟩), .int .i64 v, .int .i64 lo, .int .i64 hi] w (Faulty w v 52) := by
  by_cases h0 : v < 0
  · clear hv
    go_enter Tryd.func49, Tryd.ntmps49
    go_wp2_with fail
    go_ret
    exact Faulty.mk (Below.refl _ _) rfl
  · have h1 : 12 ≤ v := by omega
    clear hv
    go_enter Tryd.func49, Tryd.ntmps49
    go_wp2_with fail
    go_ret
    exact Faulty.mk (Below.refl _ _) rfl

set_option maxHeartbeats 2000000 in
theorem wrong_order (A : Arena w b lim L S) (v lo hi : Int) (hv0 : 0 ≤ v) (hv1 : v < 12) (ho : ¬ Ar.ordered L v lo hi) :
    Calls Tryd.prog 49 #[.pointer (some ⟨b, 0, none⟩), .int .i64 v, .int .i64 lo, .int .i64 hi] w (Faulty w v 51) := by
  unfold Ar.ordered at ho
  by_cases h1 : Ar.has L lo
  · by_cases h2 : Ar.has L hi
    · by_cases h3 : v < Ar.var L lo
      · have h4 : Ar.var L hi ≤ v := by
          apply Classical.byContradiction
          intro h
          exact ho ⟨h1, h2, h3, by omega⟩
        clear ho
        go_enter Tryd.func49, Tryd.ntmps49
        go_wp2_with fail
        refine (has_b A _ true (decide_eq_true h1)).mono ?_
        rintro e w' ⟨rfl, rfl⟩
        go_wp2_with fail
        refine (has_b A _ true (decide_eq_true h2)).mono ?_
        rintro e w' ⟨rfl, rfl⟩
        go_wp2_with fail
        refine (var_any A _).mono ?_
        rintro e w1 ⟨rfl, hb1⟩
        have A1 := A.below hb1
        go_wp2_with fail
        refine (var_any A1 _).mono ?_
        rintro e w2 ⟨rfl, hb2⟩
        have hb3 := hb1.trans (hb2.mono hb1.size)
        go_wp2_with fail
        go_ret
        exact Faulty.mk hb3 rfl
      · have h4 : Ar.var L lo ≤ v := by omega
        clear ho h3
        go_enter Tryd.func49, Tryd.ntmps49
        go_wp2_with fail
        refine (has_b A _ true (decide_eq_true h1)).mono ?_
        rintro e w' ⟨rfl, rfl⟩
        go_wp2_with fail
        refine (has_b A _ true (decide_eq_true h2)).mono ?_
        rintro e w' ⟨rfl, rfl⟩
        go_wp2_with fail
        refine (var_any A _).mono ?_
        rintro e w1 ⟨rfl, hb1⟩
        go_wp2_with fail
        go_ret
        exact Faulty.mk hb1 rfl
    · clear ho
      go_enter Tryd.func49, Tryd.ntmps49
      go_wp2_with fail
      refine (has_b A _ true (decide_eq_true h1)).mono ?_
      rintro e w' ⟨rfl, rfl⟩
      go_wp2_with fail
      refine (has_b A _ false (decide_eq_false h2)).mono ?_
      rintro e w' ⟨rfl, rfl⟩
      go_wp2_with fail
      go_ret
      exact Faulty.mk (Below.refl _ _) rfl
  · clear ho
    go_enter Tryd.func49, Tryd.ntmps49
    go_wp2_with fail
    refine (has_b A _ false (decide_eq_false h1)).mono ?_
    rintro e w' ⟨rfl, rfl⟩
    go_wp2_with fail
    go_ret
    exact Faulty.mk (Below.refl _ _) rfl

set_option maxHeartbeats 1000000 in
theorem wrong_none (A : Arena w b lim L S) (v lo hi : Int) (hv0 : 0 ≤ v) (hv1 : v < 12) (ho : Ar.ordered L v lo hi) :
    Calls Tryd.prog 49 #[.pointer (some ⟨b, 0, none⟩), .int .i64 v, .int .i64 lo, .int .i64 hi] w fun e w' => e = .returned .nilIface ∧ Below w.heap.size w w' := by
  obtain ⟨h1, h2, h3, h4⟩ := ho
  go_enter Tryd.func49, Tryd.ntmps49
  go_wp2_with fail
  refine (has_b A _ true (decide_eq_true h1)).mono ?_
  rintro e w' ⟨rfl, rfl⟩
  go_wp2_with fail
  refine (has_b A _ true (decide_eq_true h2)).mono ?_
  rintro e w' ⟨rfl, rfl⟩
  go_wp2_with fail
  refine (var_any A _).mono ?_
  rintro e w1 ⟨rfl, hb1⟩
  have A1 := A.below hb1
  go_wp2_with fail
  refine (var_any A1 _).mono ?_
  rintro e w2 ⟨rfl, hb2⟩
  have hb3 := hb1.trans (hb2.mono hb1.size)
  go_wp2_with fail
  go_ret
  exact ⟨rfl, hb3⟩

end Go.Proofs.YtknoigebkpapoaaDoor
