/- bound.In, slices.ContainsFunc at it, a loop over all places that only reads, zone.Has. -/
import Derived.Test.YtjhccmjgfngkcaaDoorZoneSameZe
import Derived.Deep.LoopGhost
set_option linter.unusedVariables false
set_option linter.unusedSimpArgs false
namespace Go.Proofs.YtjhccmjgfngkcaaDoor.PZoneSame
open Go Go.RowKit Go.Shelf Go.Deep Go.Proofs.YtjhccmjgfngkcaaDoorW.PrintWords Go.Proofs.YtjhccmjgfngkcaaDoorW.PrintLast Go.Proofs.YtjhccmjgfngkcaaDoorW.PrintMore
open Zn (botN wholeB wholeB_iff nearZ upd)
variable {w : World}
attribute [local go_sem] Oper.semAt_some
theorem In_any (n : Int) (w : World) : Calls Tryd.prog 41 #[.int .i64 n] w fun e w' => e = .returned (.bool (Zn.inB n)) ∧ Below w.heap.size w w' := by
  obtain ⟨r, hr⟩ : ∃ r, Zn.inB n = r := ⟨_, rfl⟩
  rw [hr]
  unfold Zn.inB at hr
  by_cases h1 : -1152921504606846976 ≤ n
  · by_cases h2 : n ≤ 1152921504606846976
    · obtain rfl : r = true := by rw [← hr]; simp [h1, h2]
      clear hr
      go_enter Tryd.func41, Tryd.ntmps41
      go_wp2_with fail
      go_ret
      exact ⟨rfl, Below.refl _ _⟩
    · obtain rfl : r = false := by rw [← hr]; simp [h2]
      clear hr
      go_enter Tryd.func41, Tryd.ntmps41
      go_wp2_with fail
      go_ret
      exact ⟨rfl, Below.refl _ _⟩
  · obtain rfl : r = false := by rw [← hr]; simp [h1]
    clear hr
    go_enter Tryd.func41, Tryd.ntmps41
    go_wp2_with fail
    go_ret
    exact ⟨rfl, Below.refl _ _⟩
theorem hclo_any (n : Int) (v : Bool) (h : (!Zn.inB n) = v) (w : World) :
    Calls Tryd.prog 75 #[.int .i64 n] w fun e w' => e = .returned (.bool v) ∧ Below w.heap.size w w' := by
  obtain ⟨b, hb⟩ : ∃ b, Zn.inB n = b := ⟨_, rfl⟩
  rw [hb] at h
  subst h
  have HB := Lib.hid hb
  clear hb
  go_enter Tryd.func75, Tryd.ntmps75
  go_wp2_with fail
  have hin := In_any n w
  rw [HB.out] at hin
  refine hin.mono ?_
  rintro e w1 ⟨rfl, hb1⟩
  have HB1 := Lib.hid hb1
  clear hb1
  go_wp2_with fail
  go_ret
  exact ⟨rfl, HB1.out⟩
def IdxPost (w : World) (l : List Int) (e : Ending) (w' : World) : Prop :=
  ∃ r : Int, e = .returned (.int .i64 r) ∧ decide (0 ≤ r) = l.any (fun n => !Zn.inB n) ∧ Below w.heap.size w w'
theorem any_take (l : List Int) (k : Nat) (h : k < l.length) : (l.take (k + 1)).any (fun n => !Zn.inB n) = ((l.take k).any (fun n => !Zn.inB n) || !Zn.inB (l.getD k 0)) := by
  rw [List.take_succ_eq_append_getElem h, List.any_append]
  simp [List.getD, h]
theorem any_of_take (l : List Int) (k : Nat) (h : (l.take k).any (fun n => !Zn.inB n) = true) : l.any (fun n => !Zn.inB n) = true := by
  rw [List.any_eq_true] at h ⊢
  obtain ⟨x, hx, h2⟩ := h
  exact ⟨x, List.mem_of_mem_take hx, h2⟩
set_option maxRecDepth 100000 in
set_option maxHeartbeats 1000000 in
theorem index_any (l : List Int) (v : Value) (hl : IntsAt w v l) :
    Calls Tryd.prog 105 #[v, .func (.func 75) #[] #[]] w (IdxPost w l) := by
  obtain ⟨ao, c, rfl, hcap, hlen, hc⟩ := hl
  have HC := Lib.hid hc
  clear hc hcap
  go_enter Tryd.func105, Tryd.ntmps105
  go_wp2_with fail
  go_loopg [8] l.length (fun gk i wr => ∃ k : Nat, i = .int .i64 k ∧ k + gk = l.length ∧ Hid ((l.take k).any (fun n => !Zn.inB n) = false) ∧ Hid (Below w.heap.size w wr))
  case atStart => exact ⟨0, rfl, by omega, Lib.hid (by simp), Lib.hid (Below.refl _ _)⟩
  case round =>
    obtain ⟨k, rfl, hk, HA, HB⟩ := hrel
    by_cases hlt : k < l.length
    · obtain ⟨b, off, rfl, hb, hcell⟩ := HC.out (by intro e; rw [e] at hlt; simp at hlt)
      have q0 := (HB.out.cell (p := ⟨b, off + k, none⟩) hb).trans (hcell k hlt)
      have hnext := any_take l k hlt
      rw [HA.out, Bool.false_or] at hnext
      generalize hx : l.getD k 0 = x at *
      have HN := Lib.hid hnext
      clear hnext hx hcell HC
      cases hi : Zn.inB x
      · have HI := Lib.hid hi
        clear hi
        go_wp2_with fail
        refine (hclo_any x true (by rw [HI.out]; rfl) _).mono ?_
        rintro e w1 ⟨rfl, hb1⟩
        have HB1 := Lib.hid (seq HB.out hb1)
        clear hb1
        go_wp2_with fail
        go_ret
        exact ⟨k, rfl, by rw [decide_eq_true (by omega)]; exact (any_of_take l (k + 1) (by rw [HN.out, HI.out]; rfl)).symm, HB1.out⟩
      · have HI := Lib.hid hi
        clear hi
        go_wp2_with fail
        refine (hclo_any x false (by rw [HI.out]; rfl) _).mono ?_
        rintro e w1 ⟨rfl, hb1⟩
        have HB1 := Lib.hid (seq HB.out hb1)
        clear hb1 q0
        go_wp2_with fail
        go_roundg (gk - 1)
        case measure => omega
        case rel => exact ⟨k + 1, by go_num, by omega, Lib.hid (by rw [HN.out, HI.out]; rfl), HB1⟩
    · obtain rfl : k = l.length := by omega
      have HA2 : Hid (l.any (fun n => !Zn.inB n) = false) := by have := HA.out; rw [List.take_length] at this; exact this
      clear HA
      go_wp2_with fail
      go_ret
      exact ⟨-1, rfl, by rw [HA2.out]; rfl, HB.out⟩
set_option maxRecDepth 100000 in
set_option maxHeartbeats 1000000 in
theorem contains_any (l : List Int) (v : Value) (hl : IntsAt w v l) (b : Bool) (hb : l.any (fun n => !Zn.inB n) = b) :
    Calls Tryd.prog 74 #[v, .func (.func 75) #[] #[]] w fun e w' => e = .returned (.bool b) ∧ Below w.heap.size w w' := by
  have HL := Lib.hid hl
  have HB := Lib.hid hb
  clear hl hb
  go_enter Tryd.func74, Tryd.ntmps74
  go_wp2_with fail
  refine (index_any l v HL.out).mono ?_
  rintro e w1 ⟨r, rfl, hr, hb1⟩
  rw [HB.out] at hr
  have HB1 := Lib.hid hb1
  clear hb1
  go_wp2_with fail
  go_ret
  exact ⟨rfl, HB1.out⟩

/-- A round ends at its end, or goes out of the function. -/
def EndsR (G H : World → Prop) : Exit → Act → World → Prop
  | .normal, _, W => G W
  | .ret, _, W => H W
  | _, _, _ => False
set_option maxHeartbeats 2000000 in
theorem range_scan {gop : Operand} {ps : Array Tmp} {assign body : Code} {Q : Exit → Act → World → Prop} {a : Act} {W0 : World} {n : Nat} (hn : 6 ≤ n) {m : Nat} (hm : 0 < m) (hm7 : m ≤ 7) {Bz rb : Nat} (Pr : Nat → Bool)
    (hg : a.eval gop = .func (.func 97) #[] #[.pointer (some ⟨Bz, 0, none⟩)]) (hps : ps.size = 2) (hB : W0.cell? ⟨Bz, 0, none⟩ = some (.int .i64 ((m : Int) - 1))) (hBz : Bz < W0.heap.size)
    (hrb : W0.heap[rb]? = some (.cells #[.bool false] 4 (0, 0)))
    (fr : Nat → Nat → Act)
    (hassign : ∀ (l : Nat) (x : Fin (m * m)) (W : World) (K : Act → World → Prop), K (fr x.val W.heap.size) (W.alloc (.cells #[.int .i64 (Zn.row m x.val), .int .i64 (Zn.col m x.val)] 74)) →
      assign.wpIn (Fence.wide.inRound l) (n - 1 - 1) Tryd.prog (Exit.then K (fun _ _ _ => False)) { tmps := (ps.zip (Zn.enc m x)).foldl (fun t (p, v) => t.setIfInBounds p v) a.tmps, defers := [] } W)
    (hbody : ∀ (l : Nat) (x Bx : Nat) (W : World), x < m * m → W0.heap.size ≤ Bx → W.heap[Bx]? = some (.cells #[.int .i64 (Zn.row m x), .int .i64 (Zn.col m x)] 74 (0, 0)) → Below W0.heap.size W0 W →
      body.wpIn (Fence.wide.inRound l) (n - 1 - 1) Tryd.prog (EndsR (fun W' => Pr x = false ∧ Below W.heap.size W W') (fun W' => Pr x = true ∧ W.grownBy W' (some rb) ∧ W'.heap[rb]? = some (.cells #[.bool false] 4 (0, 0)))) (fr x Bx) W)
    (hdone : ∀ (Dm : Nat) (W : World), W0.heap.size ≤ Dm → Below W0.heap.size W0 W → (∀ x, x < m * m → Pr x = false) → W.heap[Dm]? = some (.deferred (some [])) → Q .normal { a with defers := { target := .collected Dm, args := #[] } :: a.defers } W)
    (hstop : ∀ (Dm : Nat) (W : World), W0.heap.size ≤ Dm → W0.grownBy W (some rb) → W.heap[rb]? = some (.cells #[.bool false] 4 (0, 0)) → (∃ x, x < m * m ∧ Pr x = true) → W.heap[Dm]? = some (.deferred (some [])) → Code.ret.wpIn Fence.wide n Tryd.prog Q { a with defers := { target := .collected Dm, args := #[] } :: a.defers } W) :
    (Code.rangeFunc gop ps assign body).wpIn Fence.wide n Tryd.prog Q a W0 := by
  have h1 : 1 ≤ n := by omega
  have hrl := hp_lt hrb
  refine wpIn_rangeFunc_ownH rfl h1 (gf := 97) (lb := #[.pointer (some ⟨Bz, 0, none⟩)]) hg trivial (enters_of Tryd.func97 (by kernel_rfl) rfl)
    (all_stops (n - 1) (by omega) Bz m hm hm7 W0 hBz hB) Zn.Keeps.t (fun W l o o' hl _ _ _ => World.putObj_heap_other (by omega)) (Below.refl _ _) (fun x => by rw [hps]; rfl)
    (fun pre W => Below W0.heap.size W0 W ∧ ∀ x ∈ pre, Pr x.val = false)
    (fun c pre W => (c = .ret ∧ ∃ x, x < m * m ∧ Pr x = true) ∧ W0.grownBy W (some rb) ∧ W.heap[rb]? = some (.cells #[.bool false] 4 (0, 0)))
    (OwnFrom.and ?own1 (fun _ _ _ _ h _ _ => h))
    (fun c => OwnFrom.and (fun _ _ _ _ h _ _ => h) (OwnFrom.and ?own2 ?own3))
    ⟨Below.refl _ _, fun x hx => by cases hx⟩
    (fun x a' W => ∃ Bx, W0.heap.size ≤ Bx ∧ W.heap[Bx]? = some (.cells #[.int .i64 (Zn.row m x.val), .int .i64 (Zn.col m x.val)] 74 (0, 0)) ∧ a' = fr x.val Bx)
    (fun x a' _ X Y row hs hg hr => by obtain ⟨Bx, h1, h2, h3⟩ := hs; exact ⟨Bx, h1, cells_own (β := Unit) Bx _ _ () X Y row h2 hg (fun r e => (hr r e).2), h3⟩)
    ?assign ?body ?done ?stop
  case own1 =>
    intro pre X Y row hs hg2 hr
    exact ⟨hg2.os.trans hs.os, hg2.tape.trans hs.tape, hg2.output.trans hs.output, Nat.le_trans hs.size hg2.size, fun i hi => (hg2.block i (Nat.lt_of_lt_of_le hi hs.size) (fun e => by have := (hr i e.symm).1; omega)).trans (hs.block i hi)⟩
  case own2 =>
    intro pre X Y row hs hg2 hr
    exact ⟨hg2.os.trans hs.os, hg2.tape.trans hs.tape, hg2.output.trans hs.output, Nat.le_trans hs.size hg2.size, fun i hi hne2 => (hg2.block i (Nat.lt_of_lt_of_le hi hs.size) (fun e => by have := (hr i e.symm).1; omega)).trans (hs.block i hi hne2)⟩
  case own3 =>
    intro pre X Y row hs hg2 hr
    exact (hg2.block rb (hp_lt hs) (fun e => by have := (hr rb e.symm).1; omega)).trans hs
  case assign =>
    rintro l pre x W K ⟨hG, hI⟩ hK
    refine hassign l x W K (hK _ _ ((KeepsOthers.alloc _ _).from _) (Below.heap_alloc _ _ _ (Nat.lt_of_lt_of_le hBz hG.size)) ⟨?_, hI⟩ ⟨W.heap.size, hG.size, World.alloc_heap_new W _, rfl⟩)
    exact hG.alloc hG.size _
  case body =>
    rintro l pre x a' W hl ⟨r, hr⟩ ⟨hG, hI⟩ ⟨Bx, hBx, bX, rfl⟩ hlt
    refine wpIn_mono (hbody l x.val Bx W x.isLt hBx bX hG) (fun e a'' W' he => ?_)
    cases e <;> first | exact he.elim | skip
    · obtain ⟨hp, hb⟩ := he
      refine ⟨(keeps_below hb).from _, hb.block _ (Nat.lt_of_lt_of_le hBz hG.size), hG.trans (hb.mono hG.size), fun y hy => ?_⟩
      rcases List.mem_append.1 hy with hy | hy
      · exact hI y hy
      · rw [List.mem_singleton.1 hy]; exact hp
    · obtain ⟨hp, hg2, hr2⟩ := he
      refine ⟨KeepsOthers.from ⟨hg2.size, fun k o hk hc => ?_⟩ _, ⟨rfl, x.val, x.isLt, hp⟩, gtrans (grown_of_below hG _) hg2, hr2⟩
      by_cases e : k = rb
      · subst e
        have := (hG.block k hrl).trans hrb
        rw [this] at hk
        cases hk
        cases hc
      · exact (hg2.block k (hp_lt hk) (fun c => e (Option.some.inj c))).trans hk
  case done =>
    rintro Dd ys W hD rfl ⟨hG, hI⟩ hK
    refine hdone Dd W hD hG (fun x hx => ?_) hK
    have := hI (Zn.ix m hm x) (List.mem_map.2 ⟨x, List.mem_range.2 hx, rfl⟩)
    rw [show (Zn.ix m hm x).val = x from Nat.mod_eq_of_lt hx] at this
    exact this
  case stop =>
    rintro Dd c pre W hD _ ⟨⟨rfl, hx⟩, hg2, hr2⟩ hK
    exact hstop Dd W hD hg2 hr2 hx hK
end Go.Proofs.YtjhccmjgfngkcaaDoor.PZoneSame
