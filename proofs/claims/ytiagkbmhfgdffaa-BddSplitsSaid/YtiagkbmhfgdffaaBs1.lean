/- Walk of package bdd's restrict: the step down, and all steps. -/
import Derived.Test.YtiagkbmhfgdffaaBr
set_option linter.unusedVariables false
set_option linter.unusedSimpArgs false
namespace Go.Proofs.Ytiagkbmhfgdffaa
open Go Go.RowKit Go.Deep Go.Proofs.YtiagkbmhfgdffaaW.PrintWords Go.Proofs.YtiagkbmhfgdffaaW.PrintLast Go.Proofs.YtiagkbmhfgdffaaW.PrintMore
section
variable {w w' : World} {mg b mb bp : Nat} {lim : Int} {L : List Nd} {ES : List Ent} {S S' : Nat → Prop}
theorem rst_len {B : Nat} (hB : lim < B) (v : Int) (d : Bool) : ∀ (n : Nat) (L : List Nd) (f : Int), L.length < B → (Ar.rst lim v d n L f).1.length < B
  | 0, _, _, h => h
  | n + 1, L, f, hl => by
    rcases Ar.rst_way v d n L f (lim := lim) rfl with ⟨c, e1⟩ | ⟨hN, hlt, L1, lo, e1, h1, hrest⟩
    · rw [e1]; exact hl
    · have k1 := rst_len hB v d n L (Ar.nd L f).l hl
      rw [h1] at k1
      rcases hrest with ⟨z1, e2⟩ | ⟨z1, L2, hi, e2, h2, hrest⟩
      · rw [e2]; exact k1
      · have k2 := rst_len hB v d n L1 (Ar.nd L f).h k1
        rw [h2] at k2
        rcases hrest with ⟨z2, e3⟩ | ⟨z2, e3⟩
        · rw [e3]; exact k2
        · rw [e3]
          dsimp only at k2
          rcases Ar.mk_cases lim L2 (Ar.nd L f).v lo hi with ⟨m, _, h⟩ | ⟨_, _, _, ⟨_, h⟩ | ⟨_, _, h⟩ | ⟨_, _, hle, h⟩⟩ <;> rw [h]
          · exact k2
          · exact k2
          · exact k2
          · simp; omega

set_option maxRecDepth 100000 in
set_option maxHeartbeats 8000000 in
theorem rst_stepF {k : Nat} {v : Int} (hlim : lim < 100000000000) (hv0 : 0 ≤ v) (h12 : v < 12) (IH : RstTo lim mg v false k) : RstTo lim mg v false (k + 1) := by
  intro w L S f M hf hn hl
  have ok := M.ok
  have HM := Lib.hid M
  rcases Ar.rst_way v false k L f (lim := lim) rfl with ⟨c, _⟩ | ⟨hN, hlt, L1, lo, e1, h1, hrest⟩
  · exact rst_leaf M k c
  · have hvn := Ar.var_node hN
    have hc := Ar.ok_child ok hN
    have e0 : ∀ q, Ar.half L f (Ar.nd L f).v q = if q then (Ar.nd L f).h else (Ar.nd L f).l := fun q => by unfold Ar.half; rw [if_pos ⟨hN, rfl⟩]
    have hva : ∀ q, (Ar.nd L f).v < Ar.var L (Ar.half L f (Ar.nd L f).v q) := fun q => Ar.half_var ok (by omega) hc.2.1
    obtain ⟨L', x', er, hR⟩ : ∃ L' x' er, Ar.rst lim v false (k + 1) L f = (L', x', er) := ⟨_, _, _, rfl⟩
    have hsp := Ar.rst_spec v false hv0 h12 (k + 1) L f ok hf hn L' x' er hR
    have hth : ∀ x, Ar.RstIs L f v false x → (L', x', er) = (L, x, 0) := fun x I => by rw [← hR]; exact Ar.rst_there v false hv0 h12 (k + 1) L f x ok hn I
    obtain ⟨L2, hi, e2, h2⟩ : ∃ L2 hi e2, Ar.rst lim v false k L1 (Ar.nd L f).h = (L2, hi, e2) := ⟨_, _, _, rfl⟩
    have hbo : bothF lim (Ar.nd L f).v (L1, lo, e1) (L2, hi, e2) = Ar.rst lim v false (k + 1) L f := by
      rcases hrest with ⟨z, e⟩ | ⟨z, L2', hi', e2', h2', ⟨z2, e⟩ | ⟨z2, e⟩⟩
      · rw [e, bothF_1 z]
      · rw [h2] at h2'
        simp only [Prod.mk.injEq] at h2'
        obtain ⟨rfl, rfl, rfl⟩ := h2'
        subst z
        rw [e, bothF_2 z2]
      · rw [h2] at h2'
        simp only [Prod.mk.injEq] at h2'
        obtain ⟨rfl, rfl, rfl⟩ := h2'
        subst z z2
        rw [e, bothF_3]
    have s1 := Ar.rst_spec (lim := lim) v false hv0 h12 k L _ ok (hf.child hN).1 (by omega) L1 lo e1 h1
    have k1 : L1.length < 100000000000 := by have := rst_len (B := 100000000000) (lim := lim) (by omega) v false k L (Ar.nd L f).l hl; rw [h1] at this; exact this
    have k2 : L2.length < 100000000000 := by have := rst_len (B := 100000000000) (lim := lim) (by omega) v false k L1 (Ar.nd L f).h k1; rw [h2] at this; exact this
    have HBOTH : Hid (∀ (W : World) (c0 c1 c2 c3 c4 : Nat), Mgr W mg lim L S → CapsR W S mg f v (Ar.nd L f) false c0 c1 c2 c3 c4 →
        Calls Try.prog 59 #[.pointer (some ⟨mg, 0, none⟩), .int .i64 (Ar.nd L f).v, .func (.func 63) #[] #[.pointer (some ⟨c0, 0, none⟩), .pointer (some ⟨c1, 0, none⟩), .pointer (some ⟨c2, 0, none⟩), .pointer (some ⟨c3, 0, none⟩), .pointer (some ⟨c4, 0, none⟩)]] W
          (OpPost W mg lim S (L', x', er))) := by
      refine Lib.hid (fun W c0 c1 c2 c3 c4 MW CW => ?_)
      rw [← hR, ← hbo]
      refine both_rst ?_ (fun z w1 t1 M1 => ?_) k2
      · have := clo_rst IH MW CW false hf (by have := hva false; omega) hl
        rw [e0] at this
        simp only [Bool.false_eq_true, if_false] at this
        rw [h1] at this
        exact this
      · have C1 := CW.touch t1
        have bf := Ar.half_bo hf (Ar.nd L f).v true
        have e : Ar.half L1 f (Ar.nd L f).v true = Ar.half L f (Ar.nd L f).v true := Ar.half_pre s1.2.1 hf.lt _ _
        have := clo_rst IH M1 C1 true (hf.pre s1.2.1) (by
          rw [e, Ar.var_pre s1.2.1 bf.lt]
          have := hva true
          omega) k1
        rw [e, e0] at this
        simp only [if_true] at this
        rw [h2] at this
        exact this
    rw [hR]
    clear hrest h1 h2 hbo s1 k1 k2 hva IH e1 lo L1 e2 hi L2 hR e0
    have HSP := Lib.hid hsp
    have HLT : Hid (∀ k, S k → k < w.heap.size) := Lib.hid M.lt
    have HV := Lib.hid (show 0 ≤ v ∧ v < 12 from ⟨hv0, h12⟩)
    obtain ⟨b, mb, bp, ES, MA⟩ := M
    have m0 := MA.c0
    have M1 := Lib.hid MA.c1
    have GG := Lib.hid (fun (W : World) (hb : Below w.heap.size w W) => get_any (MA.me.below hb) f v (-9))
    have hmo := MA.mok
    have hmf : ∀ (fn : Fn) (first cap : Array Value) (w : World), (Instr.makeFunc fn first cap).run Try.prog w = .ok (.func fn first cap) w := fun _ _ _ _ => rfl
    obtain ⟨n, en⟩ : ∃ n, Ar.nd L f = n := ⟨_, rfl⟩
    rw [en] at HBOTH hlt
    have GN : Hid (∀ W, Below w.heap.size w W → Calls Try.prog 38 #[.pointer (some ⟨b, 0, none⟩), .int .i64 f] W fun e w' => e = .returned (.tuple #[.agg #[.int .i64 n.v, .int .i64 n.l, .int .i64 n.h], .bool true]) ∧ Below W.heap.size W w') := by
      refine Lib.hid (fun W hb => ?_)
      have hk : f.toNat < L.length := by have := hN.1; have := hN.2; omega
      have hnd : L[f.toNat] = n := by rw [← en, ← Ar.nd_at hk, Int.toNat_of_nonneg hN.1]
      have := get_in (MA.ar.below hb) f.toNat hk
      rw [hnd, Int.toNat_of_nonneg hN.1] at this
      exact this
    have d1 : decide (v ≤ n.v) = false := by simp; omega
    obtain ⟨mx, hmx⟩ : ∃ mx, mget ES f v (-9) = mx := ⟨_, rfl⟩
    rw [hmx] at GG
    have HMX := Lib.hid (fun x (e : mget ES f v (-9) = some x) => hth x (hmo.rst (b := false) e))
    have HME := Lib.hid hmx
    clear MA hsp hth hmo hmx ok hf hn hl hN hvn hc en hlt hv0 h12
    go_enter Try.func43, Try.ntmps43
    go_wp2_with fail
    obtain ⟨B0, B1, B2, B3, HB⟩ := boxes4' w (.cells #[.pointer (some ⟨mg, 0, none⟩)] 23) (.cells #[.int .i64 f] 3) (.cells #[.int .i64 v] 3) (.cells #[.bool false] 4)
    generalize ((((w.alloc (.cells #[.pointer (some ⟨mg, 0, none⟩)] 23)).alloc (.cells #[.int .i64 f] 3)).alloc (.cells #[.int .i64 v] 3)).alloc (.cells #[.bool false] 4)) = wb at *
    have x4 := cell_at B0 0 rfl
    have x5 := cell_at B1 0 rfl
    replace m0 := cell_below HB m0
    have HB0 := Lib.hid HB
    have G0 := Lib.hid B0
    have G1 := Lib.hid B1
    have G2 := Lib.hid B2
    have G3 := Lib.hid B3
    clear B0 B1 B2 B3 HB
    refine start_ (n := 12) (S := fun w' => w'.cell? ⟨w.heap.size, 0, none⟩ = some (.pointer (some ⟨mg, 0, none⟩)) ∧ w'.cell? ⟨w.heap.size + 1, 0, none⟩ = some (.int .i64 f) ∧ w'.cell? ⟨mg, 0, none⟩ = some (.pointer (some ⟨b, 0, none⟩))) (ds := [10]) #[false, false, false, false, false, false, false, false, false, false, false, false] (by kernel_rfl) rfl rfl ⟨cell_below ((Below.refl wb.heap.size wb).drew) x4, cell_below ((Below.refl wb.heap.size wb).drew) x5, cell_below ((Below.refl wb.heap.size wb).drew) m0⟩ (fun hHeld => ?_)
    refine take_ (i := 0) (N := some 18) (v := ?_) (a' := ?_) #[true, false, false, false, false, false, false, false, false, false, false, false] rfl rfl (by kernel_rfl) (fun _ _ _ h => h) (Or.inl ⟨by rfl, ?_⟩) hHeld ?_ ?_
    rotate_left
    · rintro w' ⟨s0, s1, s2⟩
      go_simp
      with_reducible rfl
    rotate_left
    · simp only [Act.put, List.setIfInBounds_toArray, List.set_cons_zero, List.set_cons_succ, i64_w, i32_w]
      rfl
    refine pure_ (i := 1) (N := some 19) (v := ?_) (a' := ?_) #[true, true, false, false, false, false, false, false, false, false, false, false] rfl rfl (by kernel_rfl) (fun _ _ _ h => h) (Or.inl ⟨by rfl, ?_⟩) ?_ ?_
    rotate_left
    · intro w'
      go_simp
      with_reducible rfl
    rotate_left
    · simp only [Act.put, List.setIfInBounds_toArray, List.set_cons_zero, List.set_cons_succ, i64_w, i32_w]
      rfl
    refine pure_ (i := 2) (N := some 20) (v := ?_) (a' := ?_) #[true, true, true, false, false, false, false, false, false, false, false, false] rfl rfl (by kernel_rfl) (fun _ _ _ h => h) (Or.inl ⟨by rfl, ?_⟩) ?_ ?_
    rotate_left
    · intro w'
      go_simp
      with_reducible rfl
    rotate_left
    · simp only [Act.put, List.setIfInBounds_toArray, List.set_cons_zero, List.set_cons_succ, i64_w, i32_w]
      rfl
    refine take_ (i := 3) (N := some 21) (v := ?_) (a' := ?_) #[true, true, true, true, false, false, false, false, false, false, false, false] rfl rfl (by kernel_rfl) (fun _ _ _ h => h) (Or.inl ⟨by rfl, ?_⟩) hHeld ?_ ?_
    rotate_left
    · rintro w' ⟨s0, s1, s2⟩
      go_simp
      with_reducible rfl
    rotate_left
    · simp only [Act.put, List.setIfInBounds_toArray, List.set_cons_zero, List.set_cons_succ, i64_w, i32_w]
      rfl
    refine take_ (i := 4) (N := some 22) (v := ?_) (a' := ?_) #[true, true, true, true, true, false, false, false, false, false, false, false] rfl rfl (by kernel_rfl) (fun _ _ _ h => h) (Or.inl ⟨by rfl, ?_⟩) hHeld ?_ ?_
    rotate_left
    · rintro w' ⟨s0, s1, s2⟩
      go_simp
      with_reducible rfl
    rotate_left
    · simp only [Act.put, List.setIfInBounds_toArray, List.set_cons_zero, List.set_cons_succ, i64_w, i32_w]
      rfl
    refine join_ (σ := Nat) 2 #[true, true, true, true, true, true, true, true, true, true, false, false] (fun zz => [(23, .tuple #[.agg #[.int .i64 n.v, .int .i64 n.l, .int .i64 n.h], .bool true]), (10, .pointer (some ⟨zz, 0, none⟩)), (17, .tuple #[.agg #[.int .i64 n.v, .int .i64 n.l, .int .i64 n.h], .bool true]), (24, .agg #[.int .i64 n.v, .int .i64 n.l, .int .i64 n.h]), (25, .bool true)]) (fun zz w' => Below wb.heap.size wb w' ∧ w'.heap[zz]? = some (.cells #[.int .i64 0, .int .i64 0, .int .i64 0] 70 (0, 0)) ∧ wb.heap.size ≤ zz) ?_ ?_
    rotate_left
    · intro hJ5_9
      refine join_ (σ := Unit) 3 #[true, true, true, true, true, true, true, true, true, false, false, false] (fun zz => [(23, .tuple #[.agg #[.int .i64 n.v, .int .i64 n.l, .int .i64 n.h], .bool true]), (17, .tuple #[.agg #[.int .i64 n.v, .int .i64 n.l, .int .i64 n.h], .bool true]), (24, .agg #[.int .i64 n.v, .int .i64 n.l, .int .i64 n.h]), (25, .bool true)]) (fun zz w' => Below wb.heap.size wb w') ?_ ?_
      rotate_left
      · intro hJ5
        refine join_ (σ := Nat) 6 #[true, true, true, true, true, false, false, false, false, true, false, false] (fun zz => [(10, .pointer (some ⟨zz, 0, none⟩))]) (fun zz w' => Below wb.heap.size wb w' ∧ w'.heap[zz]? = some (.cells #[.int .i64 0, .int .i64 0, .int .i64 0] 70 (0, 0)) ∧ wb.heap.size ≤ zz) ?_ ?_
        rotate_left
        · intro hJ9
          refine two_ (i := 5) (j := 9) (Ni := some 23) (Nj := some 10) #[true, true, true, true, true, true, false, false, false, false, false, false] #[true, true, true, true, true, false, false, false, false, true, false, false] rfl rfl rfl rfl (by kernel_rfl) (by decide) (by decide) (fun K hK => ?_) (fun K hK => ?_)
          · skip
            refine goes_ Try.func38 (by kernel_rfl) rfl #[.pointer (some ⟨b, 0, none⟩), .int .i64 f] (by rfl) rfl rfl (by simp only [List.map_toArray, List.map_cons, List.map_nil]; rfl) ?_
            with_reducible refine (GN.out _ (seq HB0.out (by first | exact cur | exact (Below.refl _ _).drew))).mono ?_
            rintro e w3 ⟨rfl, hb⟩
            refine ⟨_, rfl, ?_⟩
            have cur3 := seq ((Below.refl wb.heap.size wb).drew) hb
            refine hK.out _ _ ⟨cell_below (cur3) x4, cell_below (cur3) x5, cell_below (cur3) m0⟩ (fun hHeld => ?_)
            clear hK K
            refine norm_ (a' := ?_) ?_ ?_
            rotate_left
            · show Act.put _ (some 23) _ = _
              simp only [Act.put, List.setIfInBounds_toArray, List.set_cons_zero, List.set_cons_succ, i64_w, i32_w]
              rfl
            refine pure_ (i := 6) (N := some 17) (v := ?_) (a' := ?_) #[true, true, true, true, true, true, true, false, false, false, false, false] rfl rfl (by kernel_rfl) (fun _ _ _ h => h) (Or.inl ⟨by rfl, ?_⟩) ?_ ?_
            rotate_left
            · intro w'
              go_simp
              with_reducible rfl
            rotate_left
            · simp only [Act.put, List.setIfInBounds_toArray, List.set_cons_zero, List.set_cons_succ, i64_w, i32_w]
              rfl
            refine pure_ (i := 7) (N := some 24) (v := ?_) (a' := ?_) #[true, true, true, true, true, true, true, true, false, false, false, false] rfl rfl (by kernel_rfl) (fun _ _ _ h => h) (Or.inl ⟨by rfl, ?_⟩) ?_ ?_
            rotate_left
            · intro w'
              go_simp
              with_reducible rfl
            rotate_left
            · simp only [Act.put, List.setIfInBounds_toArray, List.set_cons_zero, List.set_cons_succ, i64_w, i32_w]
              rfl
            refine pure_ (i := 8) (N := some 25) (v := ?_) (a' := ?_) #[true, true, true, true, true, true, true, true, true, false, false, false] rfl rfl (by kernel_rfl) (fun _ _ _ h => h) (Or.inl ⟨by rfl, ?_⟩) ?_ ?_
            rotate_left
            · intro w'
              go_simp
              with_reducible rfl
            rotate_left
            · simp only [Act.put, List.setIfInBounds_toArray, List.set_cons_zero, List.set_cons_succ, i64_w, i32_w]
              rfl
            exact norm_ (by first | (simp only [putAll, Act.put, List.setIfInBounds_toArray, List.set_cons_zero, List.set_cons_succ]; done) | (simp only [putAll, Act.put, List.setIfInBounds_toArray, List.set_cons_zero, List.set_cons_succ]; rfl)) (hJ5 () _ cur3)
          · skip
            refine value_ (w1 := ?_) (v := ?_) (by rfl) rfl ?_ ?_
            rotate_left 2
            · go_simp
              constructor
              · rfl
              · rfl
            have cur3 := Below.push ((Below.refl wb.heap.size wb).drew) (Nat.le_refl _) (.cells #[.int .i64 0, .int .i64 0, .int .i64 0] 70)
            refine hK.out _ _ ⟨cell_below (cur3) x4, cell_below (cur3) x5, cell_below (cur3) m0⟩ (fun hHeld => ?_)
            clear hK K
            refine norm_ (a' := ?_) ?_ ?_
            rotate_left
            · show Act.put _ (some 10) _ = _
              simp only [Act.put, List.setIfInBounds_toArray, List.set_cons_zero, List.set_cons_succ, i64_w, i32_w]
              rfl
            exact norm_ (by first | (simp only [putAll, Act.put, List.setIfInBounds_toArray, List.set_cons_zero, List.set_cons_succ]; done) | (simp only [putAll, Act.put, List.setIfInBounds_toArray, List.set_cons_zero, List.set_cons_succ]; rfl)) (hJ9 (wb.drew.heap.size) _ ⟨cur3, blk_new _ _, ((Below.refl wb.heap.size wb).drew).size⟩)
        · skip
          rintro ga9 w1 ⟨cur, p9, q9⟩
          have hHeld : w1.cell? ⟨w.heap.size, 0, none⟩ = some (.pointer (some ⟨mg, 0, none⟩)) ∧ w1.cell? ⟨w.heap.size + 1, 0, none⟩ = some (.int .i64 f) ∧ w1.cell? ⟨mg, 0, none⟩ = some (.pointer (some ⟨b, 0, none⟩)) := ⟨cell_below (cur) x4, cell_below (cur) x5, cell_below (cur) m0⟩
          refine norm_ (a' := ?_) ?_ ?_
          rotate_left
          · simp only [putAll, Act.put, List.setIfInBounds_toArray, List.set_cons_zero, List.set_cons_succ]
            rfl
          refine one_ (i := 5) (N := some 23) #[true, true, true, true, true, true, false, false, false, true, false, false] rfl rfl (by kernel_rfl) (by decide) (fun K hK => ?_)
          refine goes_ Try.func38 (by kernel_rfl) rfl #[.pointer (some ⟨b, 0, none⟩), .int .i64 f] (by rfl) rfl rfl (by simp only [List.map_toArray, List.map_cons, List.map_nil]; rfl) ?_
          with_reducible refine (GN.out _ (seq HB0.out (by first | exact cur | exact (Below.refl _ _).drew))).mono ?_
          rintro e w3 ⟨rfl, hb⟩
          refine ⟨_, rfl, ?_⟩
          have cur3 := seq (cur) hb
          have p3_9 := blk_below p9 hb
          refine hK.out _ _ ⟨cell_below (cur3) x4, cell_below (cur3) x5, cell_below (cur3) m0⟩ (fun hHeld => ?_)
          clear hK K
          refine norm_ (a' := ?_) ?_ ?_
          rotate_left
          · show Act.put _ (some 23) _ = _
            simp only [Act.put, List.setIfInBounds_toArray, List.set_cons_zero, List.set_cons_succ, i64_w, i32_w]
            rfl
          refine pure_ (i := 6) (N := some 17) (v := ?_) (a' := ?_) #[true, true, true, true, true, true, true, false, false, true, false, false] rfl rfl (by kernel_rfl) (fun _ _ _ h => h) (Or.inl ⟨by rfl, ?_⟩) ?_ ?_
          rotate_left
          · intro w'
            go_simp
            with_reducible rfl
          rotate_left
          · simp only [Act.put, List.setIfInBounds_toArray, List.set_cons_zero, List.set_cons_succ, i64_w, i32_w]
            rfl
          refine pure_ (i := 7) (N := some 24) (v := ?_) (a' := ?_) #[true, true, true, true, true, true, true, true, false, true, false, false] rfl rfl (by kernel_rfl) (fun _ _ _ h => h) (Or.inl ⟨by rfl, ?_⟩) ?_ ?_
          rotate_left
          · intro w'
            go_simp
            with_reducible rfl
          rotate_left
          · simp only [Act.put, List.setIfInBounds_toArray, List.set_cons_zero, List.set_cons_succ, i64_w, i32_w]
            rfl
          refine pure_ (i := 8) (N := some 25) (v := ?_) (a' := ?_) #[true, true, true, true, true, true, true, true, true, true, false, false] rfl rfl (by kernel_rfl) (fun _ _ _ h => h) (Or.inl ⟨by rfl, ?_⟩) ?_ ?_
          rotate_left
          · intro w'
            go_simp
            with_reducible rfl
          rotate_left
          · simp only [Act.put, List.setIfInBounds_toArray, List.set_cons_zero, List.set_cons_succ, i64_w, i32_w]
            rfl
          exact norm_ (by first | (simp only [putAll, Act.put, List.setIfInBounds_toArray, List.set_cons_zero, List.set_cons_succ]; done) | (simp only [putAll, Act.put, List.setIfInBounds_toArray, List.set_cons_zero, List.set_cons_succ]; rfl)) (hJ5_9 ga9 _ ⟨cur3, p3_9, q9⟩)
      · skip
        rintro ⟨⟩ w1 cur
        have hHeld : w1.cell? ⟨w.heap.size, 0, none⟩ = some (.pointer (some ⟨mg, 0, none⟩)) ∧ w1.cell? ⟨w.heap.size + 1, 0, none⟩ = some (.int .i64 f) ∧ w1.cell? ⟨mg, 0, none⟩ = some (.pointer (some ⟨b, 0, none⟩)) := ⟨cell_below (cur) x4, cell_below (cur) x5, cell_below (cur) m0⟩
        refine norm_ (a' := ?_) ?_ ?_
        rotate_left
        · simp only [putAll, Act.put, List.setIfInBounds_toArray, List.set_cons_zero, List.set_cons_succ]
          rfl
        refine one_ (i := 9) (N := some 10) #[true, true, true, true, true, true, true, true, true, true, false, false] rfl rfl (by kernel_rfl) (by decide) (fun K hK => ?_)
        refine value_ (w1 := ?_) (v := ?_) (by rfl) rfl ?_ ?_
        rotate_left 2
        · go_simp
          constructor
          · rfl
          · rfl
        have cur3 := Below.push (cur) (Nat.le_refl _) (.cells #[.int .i64 0, .int .i64 0, .int .i64 0] 70)
        refine hK.out _ _ ⟨cell_below (cur3) x4, cell_below (cur3) x5, cell_below (cur3) m0⟩ (fun hHeld => ?_)
        clear hK K
        refine norm_ (a' := ?_) ?_ ?_
        rotate_left
        · show Act.put _ (some 10) _ = _
          simp only [Act.put, List.setIfInBounds_toArray, List.set_cons_zero, List.set_cons_succ, i64_w, i32_w]
          rfl
        exact norm_ (by first | (simp only [putAll, Act.put, List.setIfInBounds_toArray, List.set_cons_zero, List.set_cons_succ]; done) | (simp only [putAll, Act.put, List.setIfInBounds_toArray, List.set_cons_zero, List.set_cons_succ]; rfl)) (hJ5_9 (w1.heap.size) _ ⟨cur3, blk_new _ _, (cur).size⟩)
    rintro ga9 w1 ⟨cur, p9, q9⟩
    have hHeld : w1.cell? ⟨w.heap.size, 0, none⟩ = some (.pointer (some ⟨mg, 0, none⟩)) ∧ w1.cell? ⟨w.heap.size + 1, 0, none⟩ = some (.int .i64 f) ∧ w1.cell? ⟨mg, 0, none⟩ = some (.pointer (some ⟨b, 0, none⟩)) := ⟨cell_below (cur) x4, cell_below (cur) x5, cell_below (cur) m0⟩
    refine norm_ (a' := ?_) ?_ ?_
    rotate_left
    · simp only [putAll, Act.put, List.setIfInBounds_toArray, List.set_cons_zero, List.set_cons_succ]
      rfl
    refine last_ (i := 10) (N := none) #[true, true, true, true, true, true, true, true, true, true, true, false] rfl rfl (by kernel_rfl) (by decide) (fun K hK => ?_)
    have u0 := (blk_cell p9 0).trans rfl
    have u1 := (blk_cell p9 1).trans rfl
    have u2 := (blk_cell p9 2).trans rfl
    have f0 := blk_frozen p9 0
    have f1 := blk_frozen p9 1
    have f2 := blk_frozen p9 2
    refine skip_ (w1 := ?_) (by rfl) rfl ?_ ?_
    rotate_left
    · go_simp
      rfl
    refine hK.out _ _ ?_
    clear hK K
    refine pure_ (i := 11) (N := some 11) (v := ?_) (a' := ?_) #[true, true, true, true, true, true, true, true, true, true, true, true] rfl rfl (by kernel_rfl) (fun _ _ _ h => h) (Or.inl ⟨by rfl, ?_⟩) ?_ ?_
    rotate_left
    · intro w'
      go_simp
      with_reducible rfl
    rotate_left
    · simp only [Act.put, List.setIfInBounds_toArray, List.set_cons_zero, List.set_cons_succ, i64_w, i32_w]
      rfl
    refine done_ (by kernel_rfl) ?_
    have s0 := HB0.out.size
    have l0 := lt_of_heap G3.out
    have lg : w.heap.size ≤ ga9 := Nat.le_trans s0 q9
    have HB1 : Hid (Below w.heap.size w (put3 w1 ga9 (.int .i64 n.v) (.int .i64 n.l) (.int .i64 n.h))) := Lib.hid (put3_below _ _ _ (seq HB0.out cur) lg)
    have G0' := Lib.hid (put3_far (.int .i64 n.v) (.int .i64 n.l) (.int .i64 n.h) (blk_below G0.out cur) (show w.heap.size ≠ ga9 by omega))
    have G1' := Lib.hid (put3_far (.int .i64 n.v) (.int .i64 n.l) (.int .i64 n.h) (blk_below G1.out cur) (show w.heap.size + 1 ≠ ga9 by omega))
    have G2' := Lib.hid (put3_far (.int .i64 n.v) (.int .i64 n.l) (.int .i64 n.h) (blk_below G2.out cur) (show w.heap.size + 1 + 1 ≠ ga9 by omega))
    have G3' := Lib.hid (put3_far (.int .i64 n.v) (.int .i64 n.l) (.int .i64 n.h) (blk_below G3.out cur) (show w.heap.size + 1 + 1 + 1 ≠ ga9 by omega))
    have G9' := Lib.hid (put3_a (.int .i64 n.v) (.int .i64 n.l) (.int .i64 n.h) p9)
    clear hHeld u0 u1 u2 f0 f1 f2 cur p9 x4 x5 m0 s0 l0 q9 G0 G1 G2 G3 HB0
    obtain ⟨W, hW⟩ : ∃ W, W = put3 w1 ga9 (.int .i64 n.v) (.int .i64 n.l) (.int .i64 n.h) := ⟨_, rfl⟩
    rw [← hW] at HB1 G0' G1' G2' G3' G9'
    have hW2 : ((w1.setCell ⟨ga9, 0, none⟩ (.int .i64 n.v)).setCell ⟨ga9, 1, none⟩ (.int .i64 n.l)).setCell ⟨ga9, 2, none⟩ (.int .i64 n.h) = W := hW.symm
    rw [hW2]
    clear hW hW2
    have x4 := cell_at G0'.out 0 rfl
    have x5 := cell_at G1'.out 0 rfl
    have x6 := cell_at G2'.out 0 rfl
    have x7 := cell_at G3'.out 0 rfl
    have y0 := cell_at G9'.out 0 rfl
    have CP : Hid (CapsR W S mg f v n false w.heap.size (w.heap.size + 1) ga9 (w.heap.size + 1 + 1) (w.heap.size + 1 + 1 + 1)) := by
      have hS : ∀ k, w.heap.size ≤ k → ¬ S k := fun k h c => by have := HLT.out k c; omega
      exact Lib.hid ⟨G0'.out, G1'.out, G9'.out, G2'.out, G3'.out, hS _ (Nat.le_refl _), hS _ (by omega), hS _ lg, hS _ (by omega), hS _ (by omega)⟩
    have z7 := cell_alloc (.cells #[.int .i64 f, .int .i64 v, .int .i64 (-9)] 95) x7
    have KN := blk_new W (.cells #[.int .i64 f, .int .i64 v, .int .i64 (-9)] 95)
    have zk2 := (blk_cell KN 2).trans rfl
    have zf2 := blk_frozen KN 2
    go_wp2_with fail
    have KB : (W.alloc (.cells #[.int .i64 f, .int .i64 v, .int .i64 (-9)] 95)).heap[W.heap.size]? = some (.cells #[.int .i64 f, .int .i64 v, .int .i64 (-9)] 95 (0, 0)) := blk_new W _
    have hbk : Below W.heap.size W (W.alloc (.cells #[.int .i64 f, .int .i64 v, .int .i64 (-9)] 95)) := Below.push (Below.refl W.heap.size W) (Nat.le_refl _) _
    have HB2 : Hid (Below w.heap.size w (W.alloc (.cells #[.int .i64 f, .int .i64 v, .int .i64 (-9)] 95))) := Lib.hid (seq HB1.out hbk)
    obtain ⟨gk, hgk⟩ : ∃ gk, gk = W.heap.size := ⟨_, rfl⟩
    have hgw : w.heap.size ≤ gk := by have := HB1.out.size; omega
    rw [← hgk] at KB
    replace x4 := cell_below hbk x4
    replace y0 := cell_below hbk y0
    have m1 := cell_below HB2.out M1.out
    have CP2 : Hid (CapsR (W.alloc (.cells #[.int .i64 f, .int .i64 v, .int .i64 (-9)] 95)) S mg f v n false w.heap.size (w.heap.size + 1) ga9 (w.heap.size + 1 + 1) (w.heap.size + 1 + 1 + 1)) :=
      Lib.hid ⟨blk_below CP.out.h0 hbk, blk_below CP.out.h1 hbk, blk_below CP.out.h2 hbk, blk_below CP.out.h3 hbk, blk_below CP.out.h4 hbk, CP.out.n0, CP.out.n1, CP.out.n2, CP.out.n3, CP.out.n4⟩
    have KB2 := Lib.hid KB
    have k0 := cell_at KB 0 rfl
    have k1 := cell_at KB 1 rfl
    have k2 := cell_at KB 2 rfl
    clear z7 KN zk2 zf2
    (try rw [← hgk])
    clear KB CP HB1 G0' G1' G2' G3' G9' x5 x6 x7 hbk
    generalize W.alloc (.cells #[.int .i64 f, .int .i64 v, .int .i64 (-9)] 95) = wb2 at *
    clear hgk
    cases mx with
    | some x =>
      have hx := HMX.out x HME.out
      simp only [Prod.mk.injEq] at hx
      obtain ⟨rfl, rfl, rfl⟩ := hx
      refine start_ (n := 11) (S := fun w' => w'.cell? ⟨w.heap.size, 0, none⟩ = some (.pointer (some ⟨mg, 0, none⟩)) ∧ w'.cell? ⟨mg, 1, none⟩ = some (.pointer (some ⟨mb, 0, none⟩)) ∧ w'.cell? ⟨gk, 0, none⟩ = some (.int .i64 f) ∧ w'.cell? ⟨gk, 1, none⟩ = some (.int .i64 v) ∧ w'.cell? ⟨gk, 2, none⟩ = some (.int .i64 (-9))) (ds := []) #[false, false, false, false, false, false, false, false, false, false, false] (by kernel_rfl) rfl rfl ⟨cell_below ((Below.refl wb2.heap.size wb2).drew) x4, cell_below ((Below.refl wb2.heap.size wb2).drew) m1, cell_below ((Below.refl wb2.heap.size wb2).drew) k0, cell_below ((Below.refl wb2.heap.size wb2).drew) k1, cell_below ((Below.refl wb2.heap.size wb2).drew) k2⟩ (fun hHeld => ?_)
      refine take_ (i := 0) (N := some 48) (v := ?_) (a' := ?_) #[true, false, false, false, false, false, false, false, false, false, false] rfl rfl (by kernel_rfl) (fun _ _ _ h => h) (Or.inl ⟨by rfl, ?_⟩) hHeld ?_ ?_
      rotate_left
      · rintro w' ⟨s0, s1, s2, s3, s4⟩
        go_simp
        with_reducible rfl
      rotate_left
      · simp only [Act.put, List.setIfInBounds_toArray, List.set_cons_zero, List.set_cons_succ, i64_w, i32_w]
        rfl
      refine pure_ (i := 1) (N := some 49) (v := ?_) (a' := ?_) #[true, true, false, false, false, false, false, false, false, false, false] rfl rfl (by kernel_rfl) (fun _ _ _ h => h) (Or.inl ⟨by rfl, ?_⟩) ?_ ?_
      rotate_left
      · intro w'
        go_simp
        with_reducible rfl
      rotate_left
      · simp only [Act.put, List.setIfInBounds_toArray, List.set_cons_zero, List.set_cons_succ, i64_w, i32_w]
        rfl
      refine pure_ (i := 2) (N := some 50) (v := ?_) (a' := ?_) #[true, true, true, false, false, false, false, false, false, false, false] rfl rfl (by kernel_rfl) (fun _ _ _ h => h) (Or.inl ⟨by rfl, ?_⟩) ?_ ?_
      rotate_left
      · intro w'
        go_simp
        with_reducible rfl
      rotate_left
      · simp only [Act.put, List.setIfInBounds_toArray, List.set_cons_zero, List.set_cons_succ, i64_w, i32_w]
        rfl
      refine take_ (i := 3) (N := some 51) (v := ?_) (a' := ?_) #[true, true, true, true, false, false, false, false, false, false, false] rfl rfl (by kernel_rfl) (fun _ _ _ h => h) (Or.inl ⟨by rfl, ?_⟩) hHeld ?_ ?_
      rotate_left
      · rintro w' ⟨s0, s1, s2, s3, s4⟩
        go_simp
        with_reducible rfl
      rotate_left
      · simp only [Act.put, List.setIfInBounds_toArray, List.set_cons_zero, List.set_cons_succ, i64_w, i32_w]
        rfl
      refine take_ (i := 4) (N := some 52) (v := ?_) (a' := ?_) #[true, true, true, true, true, false, false, false, false, false, false] rfl rfl (by kernel_rfl) (fun _ _ _ h => h) (Or.inl ⟨by rfl, ?_⟩) hHeld ?_ ?_
      rotate_left
      · rintro w' ⟨s0, s1, s2, s3, s4⟩
        go_simp
        with_reducible rfl
      rotate_left
      · simp only [Act.put, List.setIfInBounds_toArray, List.set_cons_zero, List.set_cons_succ, i64_w, i32_w]
        rfl
      refine one_ (i := 5) (N := some 53) #[true, true, true, true, true, true, false, false, false, false, false] rfl rfl (by kernel_rfl) (by decide) (fun K hK => ?_)
      refine goes_ Try.func57 (by kernel_rfl) rfl #[.pointer (some ⟨mb, 0, none⟩), .agg #[.int .i64 f, .int .i64 v, .int .i64 (-9)]] (by rfl) rfl rfl (by simp only [List.map_toArray, List.map_cons, List.map_nil]; rfl) ?_
      with_reducible refine (GG.out _ (seq HB2.out ((Below.refl wb2.heap.size wb2).drew))).mono ?_
      rintro e w3 ⟨rfl, hb⟩
      refine ⟨_, rfl, ?_⟩
      have cur := seq ((Below.refl wb2.heap.size wb2).drew) hb
      clear hb
      refine hK.out _ _ ⟨cell_below cur x4, cell_below cur m1, cell_below cur k0, cell_below cur k1, cell_below cur k2⟩ (fun hHeld => ?_)
      clear hK K
      refine norm_ (a' := ?_) ?_ ?_
      rotate_left
      · show Act.put _ (some 53) _ = _
        simp only [Act.put, List.setIfInBounds_toArray, List.set_cons_zero, List.set_cons_succ, i64_w, i32_w]
        rfl
      refine pure_ (i := 6) (N := some 47) (v := ?_) (a' := ?_) #[true, true, true, true, true, true, true, false, false, false, false] rfl rfl (by kernel_rfl) (fun _ _ _ h => h) (Or.inl ⟨by rfl, ?_⟩) ?_ ?_
      rotate_left
      · intro w'
        go_simp
        with_reducible rfl
      rotate_left
      · simp only [Act.put, List.setIfInBounds_toArray, List.set_cons_zero, List.set_cons_succ, i64_w, i32_w]
        rfl
      refine pure_ (i := 7) (N := some 54) (v := ?_) (a' := ?_) #[true, true, true, true, true, true, true, true, false, false, false] rfl rfl (by kernel_rfl) (fun _ _ _ h => h) (Or.inl ⟨by rfl, ?_⟩) ?_ ?_
      rotate_left
      · intro w'
        go_simp
        with_reducible rfl
      rotate_left
      · simp only [Act.put, List.setIfInBounds_toArray, List.set_cons_zero, List.set_cons_succ, i64_w, i32_w]
        rfl
      refine pure_ (i := 8) (N := some 55) (v := ?_) (a' := ?_) #[true, true, true, true, true, true, true, true, true, false, false] rfl rfl (by kernel_rfl) (fun _ _ _ h => h) (Or.inl ⟨by rfl, ?_⟩) ?_ ?_
      rotate_left
      · intro w'
        go_simp
        with_reducible rfl
      rotate_left
      · simp only [Act.put, List.setIfInBounds_toArray, List.set_cons_zero, List.set_cons_succ, i64_w, i32_w]
        rfl
      refine pure_ (i := 9) (N := some 13) (v := ?_) (a' := ?_) #[true, true, true, true, true, true, true, true, true, true, false] rfl rfl (by kernel_rfl) (fun _ _ _ h => h) (Or.inl ⟨by rfl, ?_⟩) ?_ ?_
      rotate_left
      · intro w'
        go_simp
        with_reducible rfl
      rotate_left
      · simp only [Act.put, List.setIfInBounds_toArray, List.set_cons_zero, List.set_cons_succ, i64_w, i32_w]
        rfl
      refine pure_ (i := 10) (N := some 14) (v := ?_) (a' := ?_) #[true, true, true, true, true, true, true, true, true, true, true] rfl rfl (by kernel_rfl) (fun _ _ _ h => h) (Or.inl ⟨by rfl, ?_⟩) ?_ ?_
      rotate_left
      · intro w'
        go_simp
        with_reducible rfl
      rotate_left
      · simp only [Act.put, List.setIfInBounds_toArray, List.set_cons_zero, List.set_cons_succ, i64_w, i32_w]
        rfl
      refine done_ (by kernel_rfl) ?_
      have HE := Lib.hid (OpPost.same (x := x') HM.out (seq HB2.out cur))
      clear cur hHeld m1 x4 k0 k1 k2 y0
      go_wp2_with fail
      go_ret2
      exact HE.out
    | none =>
      refine start_ (n := 11) (S := fun w' => w'.cell? ⟨w.heap.size, 0, none⟩ = some (.pointer (some ⟨mg, 0, none⟩)) ∧ w'.cell? ⟨mg, 1, none⟩ = some (.pointer (some ⟨mb, 0, none⟩)) ∧ w'.cell? ⟨gk, 0, none⟩ = some (.int .i64 f) ∧ w'.cell? ⟨gk, 1, none⟩ = some (.int .i64 v) ∧ w'.cell? ⟨gk, 2, none⟩ = some (.int .i64 (-9))) (ds := []) #[false, false, false, false, false, false, false, false, false, false, false] (by kernel_rfl) rfl rfl ⟨cell_below ((Below.refl wb2.heap.size wb2).drew) x4, cell_below ((Below.refl wb2.heap.size wb2).drew) m1, cell_below ((Below.refl wb2.heap.size wb2).drew) k0, cell_below ((Below.refl wb2.heap.size wb2).drew) k1, cell_below ((Below.refl wb2.heap.size wb2).drew) k2⟩ (fun hHeld => ?_)
      refine take_ (i := 0) (N := some 48) (v := ?_) (a' := ?_) #[true, false, false, false, false, false, false, false, false, false, false] rfl rfl (by kernel_rfl) (fun _ _ _ h => h) (Or.inl ⟨by rfl, ?_⟩) hHeld ?_ ?_
      rotate_left
      · rintro w' ⟨s0, s1, s2, s3, s4⟩
        go_simp
        with_reducible rfl
      rotate_left
      · simp only [Act.put, List.setIfInBounds_toArray, List.set_cons_zero, List.set_cons_succ, i64_w, i32_w]
        rfl
      refine pure_ (i := 1) (N := some 49) (v := ?_) (a' := ?_) #[true, true, false, false, false, false, false, false, false, false, false] rfl rfl (by kernel_rfl) (fun _ _ _ h => h) (Or.inl ⟨by rfl, ?_⟩) ?_ ?_
      rotate_left
      · intro w'
        go_simp
        with_reducible rfl
      rotate_left
      · simp only [Act.put, List.setIfInBounds_toArray, List.set_cons_zero, List.set_cons_succ, i64_w, i32_w]
        rfl
      refine pure_ (i := 2) (N := some 50) (v := ?_) (a' := ?_) #[true, true, true, false, false, false, false, false, false, false, false] rfl rfl (by kernel_rfl) (fun _ _ _ h => h) (Or.inl ⟨by rfl, ?_⟩) ?_ ?_
      rotate_left
      · intro w'
        go_simp
        with_reducible rfl
      rotate_left
      · simp only [Act.put, List.setIfInBounds_toArray, List.set_cons_zero, List.set_cons_succ, i64_w, i32_w]
        rfl
      refine take_ (i := 3) (N := some 51) (v := ?_) (a' := ?_) #[true, true, true, true, false, false, false, false, false, false, false] rfl rfl (by kernel_rfl) (fun _ _ _ h => h) (Or.inl ⟨by rfl, ?_⟩) hHeld ?_ ?_
      rotate_left
      · rintro w' ⟨s0, s1, s2, s3, s4⟩
        go_simp
        with_reducible rfl
      rotate_left
      · simp only [Act.put, List.setIfInBounds_toArray, List.set_cons_zero, List.set_cons_succ, i64_w, i32_w]
        rfl
      refine take_ (i := 4) (N := some 52) (v := ?_) (a' := ?_) #[true, true, true, true, true, false, false, false, false, false, false] rfl rfl (by kernel_rfl) (fun _ _ _ h => h) (Or.inl ⟨by rfl, ?_⟩) hHeld ?_ ?_
      rotate_left
      · rintro w' ⟨s0, s1, s2, s3, s4⟩
        go_simp
        with_reducible rfl
      rotate_left
      · simp only [Act.put, List.setIfInBounds_toArray, List.set_cons_zero, List.set_cons_succ, i64_w, i32_w]
        rfl
      refine one_ (i := 5) (N := some 53) #[true, true, true, true, true, true, false, false, false, false, false] rfl rfl (by kernel_rfl) (by decide) (fun K hK => ?_)
      refine goes_ Try.func57 (by kernel_rfl) rfl #[.pointer (some ⟨mb, 0, none⟩), .agg #[.int .i64 f, .int .i64 v, .int .i64 (-9)]] (by rfl) rfl rfl (by simp only [List.map_toArray, List.map_cons, List.map_nil]; rfl) ?_
      with_reducible refine (GG.out _ (seq HB2.out ((Below.refl wb2.heap.size wb2).drew))).mono ?_
      rintro e w3 ⟨rfl, hb⟩
      refine ⟨_, rfl, ?_⟩
      have cur := seq ((Below.refl wb2.heap.size wb2).drew) hb
      clear hb
      refine hK.out _ _ ⟨cell_below cur x4, cell_below cur m1, cell_below cur k0, cell_below cur k1, cell_below cur k2⟩ (fun hHeld => ?_)
      clear hK K
      refine norm_ (a' := ?_) ?_ ?_
      rotate_left
      · show Act.put _ (some 53) _ = _
        simp only [Act.put, List.setIfInBounds_toArray, List.set_cons_zero, List.set_cons_succ, i64_w, i32_w]
        rfl
      refine pure_ (i := 6) (N := some 47) (v := ?_) (a' := ?_) #[true, true, true, true, true, true, true, false, false, false, false] rfl rfl (by kernel_rfl) (fun _ _ _ h => h) (Or.inl ⟨by rfl, ?_⟩) ?_ ?_
      rotate_left
      · intro w'
        go_simp
        with_reducible rfl
      rotate_left
      · simp only [Act.put, List.setIfInBounds_toArray, List.set_cons_zero, List.set_cons_succ, i64_w, i32_w]
        rfl
      refine pure_ (i := 7) (N := some 54) (v := ?_) (a' := ?_) #[true, true, true, true, true, true, true, true, false, false, false] rfl rfl (by kernel_rfl) (fun _ _ _ h => h) (Or.inl ⟨by rfl, ?_⟩) ?_ ?_
      rotate_left
      · intro w'
        go_simp
        with_reducible rfl
      rotate_left
      · simp only [Act.put, List.setIfInBounds_toArray, List.set_cons_zero, List.set_cons_succ, i64_w, i32_w]
        rfl
      refine pure_ (i := 8) (N := some 55) (v := ?_) (a' := ?_) #[true, true, true, true, true, true, true, true, true, false, false] rfl rfl (by kernel_rfl) (fun _ _ _ h => h) (Or.inl ⟨by rfl, ?_⟩) ?_ ?_
      rotate_left
      · intro w'
        go_simp
        with_reducible rfl
      rotate_left
      · simp only [Act.put, List.setIfInBounds_toArray, List.set_cons_zero, List.set_cons_succ, i64_w, i32_w]
        rfl
      refine pure_ (i := 9) (N := some 13) (v := ?_) (a' := ?_) #[true, true, true, true, true, true, true, true, true, true, false] rfl rfl (by kernel_rfl) (fun _ _ _ h => h) (Or.inl ⟨by rfl, ?_⟩) ?_ ?_
      rotate_left
      · intro w'
        go_simp
        with_reducible rfl
      rotate_left
      · simp only [Act.put, List.setIfInBounds_toArray, List.set_cons_zero, List.set_cons_succ, i64_w, i32_w]
        rfl
      refine pure_ (i := 10) (N := some 14) (v := ?_) (a' := ?_) #[true, true, true, true, true, true, true, true, true, true, true] rfl rfl (by kernel_rfl) (fun _ _ _ h => h) (Or.inl ⟨by rfl, ?_⟩) ?_ ?_
      rotate_left
      · intro w'
        go_simp
        with_reducible rfl
      rotate_left
      · simp only [Act.put, List.setIfInBounds_toArray, List.set_cons_zero, List.set_cons_succ, i64_w, i32_w]
        rfl
      refine done_ (by kernel_rfl) ?_
      replace x4 := cell_below cur x4
      replace y0 := cell_below cur y0
      have CP3 : Hid (CapsR w3 S mg f v n false w.heap.size (w.heap.size + 1) ga9 (w.heap.size + 1 + 1) (w.heap.size + 1 + 1 + 1)) :=
        Lib.hid ⟨blk_below CP2.out.h0 cur, blk_below CP2.out.h1 cur, blk_below CP2.out.h2 cur, blk_below CP2.out.h3 cur, blk_below CP2.out.h4 cur, CP2.out.n0, CP2.out.n1, CP2.out.n2, CP2.out.n3, CP2.out.n4⟩
      have KB3 := Lib.hid (blk_below KB2.out cur)
      have HB3 := Lib.hid (seq HB2.out cur)
      clear cur hHeld k0 k1 k2 m1 CP2 KB2 HB2
      go_wp2_with fail
      refine (HBOTH.out w3 _ _ _ _ _ (HM.out.below HB3.out) CP3.out).mono ?_
      rintro e w5 ⟨ev, rfl, M5, T5, E5⟩
      clear x4 y0
      by_cases he : er = 0
      · subst he
        obtain rfl := E5.zero
        obtain ⟨b5, mb5, bp5, ES5, MA5⟩ := M5
        have m1 := MA5.c1
        have HI : Hid (Ar.RstIs L' f v false x') := by
          rcases HSP.out.2.2 with ⟨_, h⟩ | ⟨h, _⟩
          · exact Lib.hid h
          · exact absurd h (by decide)
        have hS : ∀ k, w.heap.size ≤ k → ¬ S k := fun k h c => by have := HLT.out k c; omega
        have x4 := cell_at (T5.heap CP3.out.h0 CP3.out.n0) 0 rfl
        have B4 := T5.heap KB3.out (hS _ hgw)
        have k0 := cell_at B4 0 rfl
        have k1 := cell_at B4 1 rfl
        have k2 := cell_at B4 2 rfl
        have GM5 := Lib.hid MA5
        have GT5 := Lib.hid T5
        clear MA5 T5 B4 hS E5
        go_wp2_with fail
        refine start_ (n := 7) (S := fun w' => w'.cell? ⟨w.heap.size, 0, none⟩ = some (.pointer (some ⟨mg, 0, none⟩)) ∧ w'.cell? ⟨mg, 1, none⟩ = some (.pointer (some ⟨mb5, 0, none⟩)) ∧ w'.cell? ⟨gk, 0, none⟩ = some (.int .i64 f) ∧ w'.cell? ⟨gk, 1, none⟩ = some (.int .i64 v) ∧ w'.cell? ⟨gk, 2, none⟩ = some (.int .i64 (-9))) (ds := [6]) #[false, false, false, false, false, false, false] (by kernel_rfl) rfl rfl ⟨cell_below ((Below.refl w5.heap.size w5).drew) x4, cell_below ((Below.refl w5.heap.size w5).drew) m1, cell_below ((Below.refl w5.heap.size w5).drew) k0, cell_below ((Below.refl w5.heap.size w5).drew) k1, cell_below ((Below.refl w5.heap.size w5).drew) k2⟩ (fun hHeld => ?_)
        refine pure_ (i := 5) (N := some 73) (v := ?_) (a' := ?_) #[false, false, false, false, false, true, false] rfl rfl (by kernel_rfl) (fun _ _ _ h => h) (Or.inl ⟨by rfl, ?_⟩) ?_ ?_
        rotate_left
        · intro w'
          go_simp
          with_reducible rfl
        rotate_left
        · simp only [Act.put, List.setIfInBounds_toArray, List.set_cons_zero, List.set_cons_succ, i64_w, i32_w]
          rfl
        refine take_ (i := 0) (N := some 68) (v := ?_) (a' := ?_) #[true, false, false, false, false, true, false] rfl rfl (by kernel_rfl) (fun _ _ _ h => h) (Or.inl ⟨by rfl, ?_⟩) hHeld ?_ ?_
        rotate_left
        · rintro w' ⟨s0, s1, s2, s3, s4⟩
          go_simp
          with_reducible rfl
        rotate_left
        · simp only [Act.put, List.setIfInBounds_toArray, List.set_cons_zero, List.set_cons_succ, i64_w, i32_w]
          rfl
        refine pure_ (i := 1) (N := some 69) (v := ?_) (a' := ?_) #[true, true, false, false, false, true, false] rfl rfl (by kernel_rfl) (fun _ _ _ h => h) (Or.inl ⟨by rfl, ?_⟩) ?_ ?_
        rotate_left
        · intro w'
          go_simp
          with_reducible rfl
        rotate_left
        · simp only [Act.put, List.setIfInBounds_toArray, List.set_cons_zero, List.set_cons_succ, i64_w, i32_w]
          rfl
        refine pure_ (i := 2) (N := some 70) (v := ?_) (a' := ?_) #[true, true, true, false, false, true, false] rfl rfl (by kernel_rfl) (fun _ _ _ h => h) (Or.inl ⟨by rfl, ?_⟩) ?_ ?_
        rotate_left
        · intro w'
          go_simp
          with_reducible rfl
        rotate_left
        · simp only [Act.put, List.setIfInBounds_toArray, List.set_cons_zero, List.set_cons_succ, i64_w, i32_w]
          rfl
        refine take_ (i := 3) (N := some 71) (v := ?_) (a' := ?_) #[true, true, true, true, false, true, false] rfl rfl (by kernel_rfl) (fun _ _ _ h => h) (Or.inl ⟨by rfl, ?_⟩) hHeld ?_ ?_
        rotate_left
        · rintro w' ⟨s0, s1, s2, s3, s4⟩
          go_simp
          with_reducible rfl
        rotate_left
        · simp only [Act.put, List.setIfInBounds_toArray, List.set_cons_zero, List.set_cons_succ, i64_w, i32_w]
          rfl
        refine take_ (i := 4) (N := some 72) (v := ?_) (a' := ?_) #[true, true, true, true, true, true, false] rfl rfl (by kernel_rfl) (fun _ _ _ h => h) (Or.inl ⟨by rfl, ?_⟩) hHeld ?_ ?_
        rotate_left
        · rintro w' ⟨s0, s1, s2, s3, s4⟩
          go_simp
          with_reducible rfl
        rotate_left
        · simp only [Act.put, List.setIfInBounds_toArray, List.set_cons_zero, List.set_cons_succ, i64_w, i32_w]
          rfl
        refine last_ (i := 6) (N := some 74) #[true, true, true, true, true, true, true] rfl rfl (by kernel_rfl) (by decide) (fun K hK => ?_)
        refine goes_ Try.func62 (by kernel_rfl) rfl #[.pointer (some ⟨mb5, 0, none⟩), .agg #[.int .i64 f, .int .i64 v, .int .i64 (-9)], .int .i64 x'] (by rfl) rfl rfl (by simp only [List.map_toArray, List.map_cons, List.map_nil]; rfl) ?_
        with_reducible refine (put_any (GM5.out.me.below ((Below.refl w5.heap.size w5).drew)) f v (-9) x').mono ?_
        rintro e w6 ⟨rfl, M6, T6⟩
        refine ⟨_, rfl, ?_⟩
        refine hK.out _ _ ?_
        clear hK K
        refine norm_ (a' := ?_) ?_ ?_
        rotate_left
        · show Act.put _ (some 74) _ = _
          simp only [Act.put, List.setIfInBounds_toArray, List.set_cons_zero, List.set_cons_succ, i64_w, i32_w]
          rfl
        refine done_ (by kernel_rfl) ?_
        have M6' := GM5.out.put M6 ⟨T6.os, T6.tape, T6.output, T6.size, T6.block⟩ (GM5.out.mok.put (x := x') (by
          unfold KeyOk
          dsimp only
          rw [if_pos rfl]
          exact ⟨HV.out.1, HV.out.2, HI.out⟩))
        have T6' : Touch w5 w6 (fun k => k = bp5) := ⟨T6.os, T6.tape, T6.output, T6.size, T6.block⟩
        have s5 := GT5.out.size
        have s6 := T6'.size
        have HF : Hid (OpPost w mg lim S (L', x', 0) (.returned (.tuple #[.int .i64 x', .nilIface])) w6) := by
          refine Lib.hid (OpPost.lift HB3.out ⟨.nilIface, rfl, ⟨b5, mb5, bp5, _, M6'.mono (fun k hk => ?_) (fun k hk => ?_)⟩, GT5.out.step T6' (fun k hk hkb => ?_), .inl ⟨rfl, rfl⟩⟩)
          · rcases hk with hk | hk
            · exact .inl hk
            · exact .inr ⟨hk.1, by omega⟩
          · rcases hk with hk | hk
            · have := M6'.lt k (.inl hk); exact this
            · exact hk.2
          · have := GM5.out.sbp
            rw [hkb]
            rw [hkb] at hk
            rcases this with h | h
            · exact h
            · omega
        clear M6' T6' M6 T6 s5 s6 m1 x4 k0 k1 k2 hHeld
        go_wp2_with fail
        go_ret2
        exact HF.out
      · have HE := Lib.hid he
        have HF : Hid (OpPost w mg lim S (L', x', er) (.returned (.tuple #[.int .i64 x', ev])) w5) := Lib.hid (OpPost.lift HB3.out ⟨ev, rfl, M5, T5, E5⟩)
        clear M5 T5 he
        rcases E5 with ⟨h, _⟩ | ⟨_, rfl⟩ | ⟨_, fb, u, rfl, _⟩
        · exact absurd h HE.out
        all_goals
          go_wp2_with fail
          go_ret2
          exact HF.out

set_option maxRecDepth 100000 in
set_option maxHeartbeats 8000000 in
theorem rst_stepT {k : Nat} {v : Int} (hlim : lim < 100000000000) (hv0 : 0 ≤ v) (h12 : v < 12) (IH : RstTo lim mg v true k) : RstTo lim mg v true (k + 1) := by
  intro w L S f M hf hn hl
  have ok := M.ok
  have HM := Lib.hid M
  rcases Ar.rst_way v true k L f (lim := lim) rfl with ⟨c, _⟩ | ⟨hN, hlt, L1, lo, e1, h1, hrest⟩
  · exact rst_leaf M k c
  · have hvn := Ar.var_node hN
    have hc := Ar.ok_child ok hN
    have e0 : ∀ q, Ar.half L f (Ar.nd L f).v q = if q then (Ar.nd L f).h else (Ar.nd L f).l := fun q => by unfold Ar.half; rw [if_pos ⟨hN, rfl⟩]
    have hva : ∀ q, (Ar.nd L f).v < Ar.var L (Ar.half L f (Ar.nd L f).v q) := fun q => Ar.half_var ok (by omega) hc.2.1
    obtain ⟨L', x', er, hR⟩ : ∃ L' x' er, Ar.rst lim v true (k + 1) L f = (L', x', er) := ⟨_, _, _, rfl⟩
    have hsp := Ar.rst_spec v true hv0 h12 (k + 1) L f ok hf hn L' x' er hR
    have hth : ∀ x, Ar.RstIs L f v true x → (L', x', er) = (L, x, 0) := fun x I => by rw [← hR]; exact Ar.rst_there v true hv0 h12 (k + 1) L f x ok hn I
    obtain ⟨L2, hi, e2, h2⟩ : ∃ L2 hi e2, Ar.rst lim v true k L1 (Ar.nd L f).h = (L2, hi, e2) := ⟨_, _, _, rfl⟩
    have hbo : bothF lim (Ar.nd L f).v (L1, lo, e1) (L2, hi, e2) = Ar.rst lim v true (k + 1) L f := by
      rcases hrest with ⟨z, e⟩ | ⟨z, L2', hi', e2', h2', ⟨z2, e⟩ | ⟨z2, e⟩⟩
      · rw [e, bothF_1 z]
      · rw [h2] at h2'
        simp only [Prod.mk.injEq] at h2'
        obtain ⟨rfl, rfl, rfl⟩ := h2'
        subst z
        rw [e, bothF_2 z2]
      · rw [h2] at h2'
        simp only [Prod.mk.injEq] at h2'
        obtain ⟨rfl, rfl, rfl⟩ := h2'
        subst z z2
        rw [e, bothF_3]
    have s1 := Ar.rst_spec (lim := lim) v true hv0 h12 k L _ ok (hf.child hN).1 (by omega) L1 lo e1 h1
    have k1 : L1.length < 100000000000 := by have := rst_len (B := 100000000000) (lim := lim) (by omega) v true k L (Ar.nd L f).l hl; rw [h1] at this; exact this
    have k2 : L2.length < 100000000000 := by have := rst_len (B := 100000000000) (lim := lim) (by omega) v true k L1 (Ar.nd L f).h k1; rw [h2] at this; exact this
    have HBOTH : Hid (∀ (W : World) (c0 c1 c2 c3 c4 : Nat), Mgr W mg lim L S → CapsR W S mg f v (Ar.nd L f) true c0 c1 c2 c3 c4 →
        Calls Try.prog 59 #[.pointer (some ⟨mg, 0, none⟩), .int .i64 (Ar.nd L f).v, .func (.func 63) #[] #[.pointer (some ⟨c0, 0, none⟩), .pointer (some ⟨c1, 0, none⟩), .pointer (some ⟨c2, 0, none⟩), .pointer (some ⟨c3, 0, none⟩), .pointer (some ⟨c4, 0, none⟩)]] W
          (OpPost W mg lim S (L', x', er))) := by
      refine Lib.hid (fun W c0 c1 c2 c3 c4 MW CW => ?_)
      rw [← hR, ← hbo]
      refine both_rst ?_ (fun z w1 t1 M1 => ?_) k2
      · have := clo_rst IH MW CW false hf (by have := hva false; omega) hl
        rw [e0] at this
        simp only [Bool.false_eq_true, if_false] at this
        rw [h1] at this
        exact this
      · have C1 := CW.touch t1
        have bf := Ar.half_bo hf (Ar.nd L f).v true
        have e : Ar.half L1 f (Ar.nd L f).v true = Ar.half L f (Ar.nd L f).v true := Ar.half_pre s1.2.1 hf.lt _ _
        have := clo_rst IH M1 C1 true (hf.pre s1.2.1) (by
          rw [e, Ar.var_pre s1.2.1 bf.lt]
          have := hva true
          omega) k1
        rw [e, e0] at this
        simp only [if_true] at this
        rw [h2] at this
        exact this
    rw [hR]
    clear hrest h1 h2 hbo s1 k1 k2 hva IH e1 lo L1 e2 hi L2 hR e0
    have HSP := Lib.hid hsp
    have HLT : Hid (∀ k, S k → k < w.heap.size) := Lib.hid M.lt
    have HV := Lib.hid (show 0 ≤ v ∧ v < 12 from ⟨hv0, h12⟩)
    obtain ⟨b, mb, bp, ES, MA⟩ := M
    have m0 := MA.c0
    have M1 := Lib.hid MA.c1
    have GG := Lib.hid (fun (W : World) (hb : Below w.heap.size w W) => get_any (MA.me.below hb) f v (-10))
    have hmo := MA.mok
    have hmf : ∀ (fn : Fn) (first cap : Array Value) (w : World), (Instr.makeFunc fn first cap).run Try.prog w = .ok (.func fn first cap) w := fun _ _ _ _ => rfl
    obtain ⟨n, en⟩ : ∃ n, Ar.nd L f = n := ⟨_, rfl⟩
    rw [en] at HBOTH hlt
    have GN : Hid (∀ W, Below w.heap.size w W → Calls Try.prog 38 #[.pointer (some ⟨b, 0, none⟩), .int .i64 f] W fun e w' => e = .returned (.tuple #[.agg #[.int .i64 n.v, .int .i64 n.l, .int .i64 n.h], .bool true]) ∧ Below W.heap.size W w') := by
      refine Lib.hid (fun W hb => ?_)
      have hk : f.toNat < L.length := by have := hN.1; have := hN.2; omega
      have hnd : L[f.toNat] = n := by rw [← en, ← Ar.nd_at hk, Int.toNat_of_nonneg hN.1]
      have := get_in (MA.ar.below hb) f.toNat hk
      rw [hnd, Int.toNat_of_nonneg hN.1] at this
      exact this
    have d1 : decide (v ≤ n.v) = false := by simp; omega
    obtain ⟨mx, hmx⟩ : ∃ mx, mget ES f v (-10) = mx := ⟨_, rfl⟩
    rw [hmx] at GG
    have HMX := Lib.hid (fun x (e : mget ES f v (-10) = some x) => hth x (hmo.rst (b := true) e))
    have HME := Lib.hid hmx
    clear MA hsp hth hmo hmx ok hf hn hl hN hvn hc en hlt hv0 h12
    go_enter Try.func43, Try.ntmps43
    go_wp2_with fail
    obtain ⟨B0, B1, B2, B3, HB⟩ := boxes4' w (.cells #[.pointer (some ⟨mg, 0, none⟩)] 23) (.cells #[.int .i64 f] 3) (.cells #[.int .i64 v] 3) (.cells #[.bool true] 4)
    generalize ((((w.alloc (.cells #[.pointer (some ⟨mg, 0, none⟩)] 23)).alloc (.cells #[.int .i64 f] 3)).alloc (.cells #[.int .i64 v] 3)).alloc (.cells #[.bool true] 4)) = wb at *
    have x4 := cell_at B0 0 rfl
    have x5 := cell_at B1 0 rfl
    replace m0 := cell_below HB m0
    have HB0 := Lib.hid HB
    have G0 := Lib.hid B0
    have G1 := Lib.hid B1
    have G2 := Lib.hid B2
    have G3 := Lib.hid B3
    clear B0 B1 B2 B3 HB
    refine start_ (n := 12) (S := fun w' => w'.cell? ⟨w.heap.size, 0, none⟩ = some (.pointer (some ⟨mg, 0, none⟩)) ∧ w'.cell? ⟨w.heap.size + 1, 0, none⟩ = some (.int .i64 f) ∧ w'.cell? ⟨mg, 0, none⟩ = some (.pointer (some ⟨b, 0, none⟩))) (ds := [10]) #[false, false, false, false, false, false, false, false, false, false, false, false] (by kernel_rfl) rfl rfl ⟨cell_below ((Below.refl wb.heap.size wb).drew) x4, cell_below ((Below.refl wb.heap.size wb).drew) x5, cell_below ((Below.refl wb.heap.size wb).drew) m0⟩ (fun hHeld => ?_)
    refine take_ (i := 0) (N := some 18) (v := ?_) (a' := ?_) #[true, false, false, false, false, false, false, false, false, false, false, false] rfl rfl (by kernel_rfl) (fun _ _ _ h => h) (Or.inl ⟨by rfl, ?_⟩) hHeld ?_ ?_
    rotate_left
    · rintro w' ⟨s0, s1, s2⟩
      go_simp
      with_reducible rfl
    rotate_left
    · simp only [Act.put, List.setIfInBounds_toArray, List.set_cons_zero, List.set_cons_succ, i64_w, i32_w]
      rfl
    refine pure_ (i := 1) (N := some 19) (v := ?_) (a' := ?_) #[true, true, false, false, false, false, false, false, false, false, false, false] rfl rfl (by kernel_rfl) (fun _ _ _ h => h) (Or.inl ⟨by rfl, ?_⟩) ?_ ?_
    rotate_left
    · intro w'
      go_simp
      with_reducible rfl
    rotate_left
    · simp only [Act.put, List.setIfInBounds_toArray, List.set_cons_zero, List.set_cons_succ, i64_w, i32_w]
      rfl
    refine pure_ (i := 2) (N := some 20) (v := ?_) (a' := ?_) #[true, true, true, false, false, false, false, false, false, false, false, false] rfl rfl (by kernel_rfl) (fun _ _ _ h => h) (Or.inl ⟨by rfl, ?_⟩) ?_ ?_
    rotate_left
    · intro w'
      go_simp
      with_reducible rfl
    rotate_left
    · simp only [Act.put, List.setIfInBounds_toArray, List.set_cons_zero, List.set_cons_succ, i64_w, i32_w]
      rfl
    refine take_ (i := 3) (N := some 21) (v := ?_) (a' := ?_) #[true, true, true, true, false, false, false, false, false, false, false, false] rfl rfl (by kernel_rfl) (fun _ _ _ h => h) (Or.inl ⟨by rfl, ?_⟩) hHeld ?_ ?_
    rotate_left
    · rintro w' ⟨s0, s1, s2⟩
      go_simp
      with_reducible rfl
    rotate_left
    · simp only [Act.put, List.setIfInBounds_toArray, List.set_cons_zero, List.set_cons_succ, i64_w, i32_w]
      rfl
    refine take_ (i := 4) (N := some 22) (v := ?_) (a' := ?_) #[true, true, true, true, true, false, false, false, false, false, false, false] rfl rfl (by kernel_rfl) (fun _ _ _ h => h) (Or.inl ⟨by rfl, ?_⟩) hHeld ?_ ?_
    rotate_left
    · rintro w' ⟨s0, s1, s2⟩
      go_simp
      with_reducible rfl
    rotate_left
    · simp only [Act.put, List.setIfInBounds_toArray, List.set_cons_zero, List.set_cons_succ, i64_w, i32_w]
      rfl
    refine join_ (σ := Nat) 2 #[true, true, true, true, true, true, true, true, true, true, false, false] (fun zz => [(23, .tuple #[.agg #[.int .i64 n.v, .int .i64 n.l, .int .i64 n.h], .bool true]), (10, .pointer (some ⟨zz, 0, none⟩)), (17, .tuple #[.agg #[.int .i64 n.v, .int .i64 n.l, .int .i64 n.h], .bool true]), (24, .agg #[.int .i64 n.v, .int .i64 n.l, .int .i64 n.h]), (25, .bool true)]) (fun zz w' => Below wb.heap.size wb w' ∧ w'.heap[zz]? = some (.cells #[.int .i64 0, .int .i64 0, .int .i64 0] 70 (0, 0)) ∧ wb.heap.size ≤ zz) ?_ ?_
    rotate_left
    · intro hJ5_9
      refine join_ (σ := Unit) 3 #[true, true, true, true, true, true, true, true, true, false, false, false] (fun zz => [(23, .tuple #[.agg #[.int .i64 n.v, .int .i64 n.l, .int .i64 n.h], .bool true]), (17, .tuple #[.agg #[.int .i64 n.v, .int .i64 n.l, .int .i64 n.h], .bool true]), (24, .agg #[.int .i64 n.v, .int .i64 n.l, .int .i64 n.h]), (25, .bool true)]) (fun zz w' => Below wb.heap.size wb w') ?_ ?_
      rotate_left
      · intro hJ5
        refine join_ (σ := Nat) 6 #[true, true, true, true, true, false, false, false, false, true, false, false] (fun zz => [(10, .pointer (some ⟨zz, 0, none⟩))]) (fun zz w' => Below wb.heap.size wb w' ∧ w'.heap[zz]? = some (.cells #[.int .i64 0, .int .i64 0, .int .i64 0] 70 (0, 0)) ∧ wb.heap.size ≤ zz) ?_ ?_
        rotate_left
        · intro hJ9
          refine two_ (i := 5) (j := 9) (Ni := some 23) (Nj := some 10) #[true, true, true, true, true, true, false, false, false, false, false, false] #[true, true, true, true, true, false, false, false, false, true, false, false] rfl rfl rfl rfl (by kernel_rfl) (by decide) (by decide) (fun K hK => ?_) (fun K hK => ?_)
          · skip
            refine goes_ Try.func38 (by kernel_rfl) rfl #[.pointer (some ⟨b, 0, none⟩), .int .i64 f] (by rfl) rfl rfl (by simp only [List.map_toArray, List.map_cons, List.map_nil]; rfl) ?_
            with_reducible refine (GN.out _ (seq HB0.out (by first | exact cur | exact (Below.refl _ _).drew))).mono ?_
            rintro e w3 ⟨rfl, hb⟩
            refine ⟨_, rfl, ?_⟩
            have cur3 := seq ((Below.refl wb.heap.size wb).drew) hb
            refine hK.out _ _ ⟨cell_below (cur3) x4, cell_below (cur3) x5, cell_below (cur3) m0⟩ (fun hHeld => ?_)
            clear hK K
            refine norm_ (a' := ?_) ?_ ?_
            rotate_left
            · show Act.put _ (some 23) _ = _
              simp only [Act.put, List.setIfInBounds_toArray, List.set_cons_zero, List.set_cons_succ, i64_w, i32_w]
              rfl
            refine pure_ (i := 6) (N := some 17) (v := ?_) (a' := ?_) #[true, true, true, true, true, true, true, false, false, false, false, false] rfl rfl (by kernel_rfl) (fun _ _ _ h => h) (Or.inl ⟨by rfl, ?_⟩) ?_ ?_
            rotate_left
            · intro w'
              go_simp
              with_reducible rfl
            rotate_left
            · simp only [Act.put, List.setIfInBounds_toArray, List.set_cons_zero, List.set_cons_succ, i64_w, i32_w]
              rfl
            refine pure_ (i := 7) (N := some 24) (v := ?_) (a' := ?_) #[true, true, true, true, true, true, true, true, false, false, false, false] rfl rfl (by kernel_rfl) (fun _ _ _ h => h) (Or.inl ⟨by rfl, ?_⟩) ?_ ?_
            rotate_left
            · intro w'
              go_simp
              with_reducible rfl
            rotate_left
            · simp only [Act.put, List.setIfInBounds_toArray, List.set_cons_zero, List.set_cons_succ, i64_w, i32_w]
              rfl
            refine pure_ (i := 8) (N := some 25) (v := ?_) (a' := ?_) #[true, true, true, true, true, true, true, true, true, false, false, false] rfl rfl (by kernel_rfl) (fun _ _ _ h => h) (Or.inl ⟨by rfl, ?_⟩) ?_ ?_
            rotate_left
            · intro w'
              go_simp
              with_reducible rfl
            rotate_left
            · simp only [Act.put, List.setIfInBounds_toArray, List.set_cons_zero, List.set_cons_succ, i64_w, i32_w]
              rfl
            exact norm_ (by first | (simp only [putAll, Act.put, List.setIfInBounds_toArray, List.set_cons_zero, List.set_cons_succ]; done) | (simp only [putAll, Act.put, List.setIfInBounds_toArray, List.set_cons_zero, List.set_cons_succ]; rfl)) (hJ5 () _ cur3)
          · skip
            refine value_ (w1 := ?_) (v := ?_) (by rfl) rfl ?_ ?_
            rotate_left 2
            · go_simp
              constructor
              · rfl
              · rfl
            have cur3 := Below.push ((Below.refl wb.heap.size wb).drew) (Nat.le_refl _) (.cells #[.int .i64 0, .int .i64 0, .int .i64 0] 70)
            refine hK.out _ _ ⟨cell_below (cur3) x4, cell_below (cur3) x5, cell_below (cur3) m0⟩ (fun hHeld => ?_)
            clear hK K
            refine norm_ (a' := ?_) ?_ ?_
            rotate_left
            · show Act.put _ (some 10) _ = _
              simp only [Act.put, List.setIfInBounds_toArray, List.set_cons_zero, List.set_cons_succ, i64_w, i32_w]
              rfl
            exact norm_ (by first | (simp only [putAll, Act.put, List.setIfInBounds_toArray, List.set_cons_zero, List.set_cons_succ]; done) | (simp only [putAll, Act.put, List.setIfInBounds_toArray, List.set_cons_zero, List.set_cons_succ]; rfl)) (hJ9 (wb.drew.heap.size) _ ⟨cur3, blk_new _ _, ((Below.refl wb.heap.size wb).drew).size⟩)
        · skip
          rintro ga9 w1 ⟨cur, p9, q9⟩
          have hHeld : w1.cell? ⟨w.heap.size, 0, none⟩ = some (.pointer (some ⟨mg, 0, none⟩)) ∧ w1.cell? ⟨w.heap.size + 1, 0, none⟩ = some (.int .i64 f) ∧ w1.cell? ⟨mg, 0, none⟩ = some (.pointer (some ⟨b, 0, none⟩)) := ⟨cell_below (cur) x4, cell_below (cur) x5, cell_below (cur) m0⟩
          refine norm_ (a' := ?_) ?_ ?_
          rotate_left
          · simp only [putAll, Act.put, List.setIfInBounds_toArray, List.set_cons_zero, List.set_cons_succ]
            rfl
          refine one_ (i := 5) (N := some 23) #[true, true, true, true, true, true, false, false, false, true, false, false] rfl rfl (by kernel_rfl) (by decide) (fun K hK => ?_)
          refine goes_ Try.func38 (by kernel_rfl) rfl #[.pointer (some ⟨b, 0, none⟩), .int .i64 f] (by rfl) rfl rfl (by simp only [List.map_toArray, List.map_cons, List.map_nil]; rfl) ?_
          with_reducible refine (GN.out _ (seq HB0.out (by first | exact cur | exact (Below.refl _ _).drew))).mono ?_
          rintro e w3 ⟨rfl, hb⟩
          refine ⟨_, rfl, ?_⟩
          have cur3 := seq (cur) hb
          have p3_9 := blk_below p9 hb
          refine hK.out _ _ ⟨cell_below (cur3) x4, cell_below (cur3) x5, cell_below (cur3) m0⟩ (fun hHeld => ?_)
          clear hK K
          refine norm_ (a' := ?_) ?_ ?_
          rotate_left
          · show Act.put _ (some 23) _ = _
            simp only [Act.put, List.setIfInBounds_toArray, List.set_cons_zero, List.set_cons_succ, i64_w, i32_w]
            rfl
          refine pure_ (i := 6) (N := some 17) (v := ?_) (a' := ?_) #[true, true, true, true, true, true, true, false, false, true, false, false] rfl rfl (by kernel_rfl) (fun _ _ _ h => h) (Or.inl ⟨by rfl, ?_⟩) ?_ ?_
          rotate_left
          · intro w'
            go_simp
            with_reducible rfl
          rotate_left
          · simp only [Act.put, List.setIfInBounds_toArray, List.set_cons_zero, List.set_cons_succ, i64_w, i32_w]
            rfl
          refine pure_ (i := 7) (N := some 24) (v := ?_) (a' := ?_) #[true, true, true, true, true, true, true, true, false, true, false, false] rfl rfl (by kernel_rfl) (fun _ _ _ h => h) (Or.inl ⟨by rfl, ?_⟩) ?_ ?_
          rotate_left
          · intro w'
            go_simp
            with_reducible rfl
          rotate_left
          · simp only [Act.put, List.setIfInBounds_toArray, List.set_cons_zero, List.set_cons_succ, i64_w, i32_w]
            rfl
          refine pure_ (i := 8) (N := some 25) (v := ?_) (a' := ?_) #[true, true, true, true, true, true, true, true, true, true, false, false] rfl rfl (by kernel_rfl) (fun _ _ _ h => h) (Or.inl ⟨by rfl, ?_⟩) ?_ ?_
          rotate_left
          · intro w'
            go_simp
            with_reducible rfl
          rotate_left
          · simp only [Act.put, List.setIfInBounds_toArray, List.set_cons_zero, List.set_cons_succ, i64_w, i32_w]
            rfl
          exact norm_ (by first | (simp only [putAll, Act.put, List.setIfInBounds_toArray, List.set_cons_zero, List.set_cons_succ]; done) | (simp only [putAll, Act.put, List.setIfInBounds_toArray, List.set_cons_zero, List.set_cons_succ]; rfl)) (hJ5_9 ga9 _ ⟨cur3, p3_9, q9⟩)
      · skip
        rintro ⟨⟩ w1 cur
        have hHeld : w1.cell? ⟨w.heap.size, 0, none⟩ = some (.pointer (some ⟨mg, 0, none⟩)) ∧ w1.cell? ⟨w.heap.size + 1, 0, none⟩ = some (.int .i64 f) ∧ w1.cell? ⟨mg, 0, none⟩ = some (.pointer (some ⟨b, 0, none⟩)) := ⟨cell_below (cur) x4, cell_below (cur) x5, cell_below (cur) m0⟩
        refine norm_ (a' := ?_) ?_ ?_
        rotate_left
        · simp only [putAll, Act.put, List.setIfInBounds_toArray, List.set_cons_zero, List.set_cons_succ]
          rfl
        refine one_ (i := 9) (N := some 10) #[true, true, true, true, true, true, true, true, true, true, false, false] rfl rfl (by kernel_rfl) (by decide) (fun K hK => ?_)
        refine value_ (w1 := ?_) (v := ?_) (by rfl) rfl ?_ ?_
        rotate_left 2
        · go_simp
          constructor
          · rfl
          · rfl
        have cur3 := Below.push (cur) (Nat.le_refl _) (.cells #[.int .i64 0, .int .i64 0, .int .i64 0] 70)
        refine hK.out _ _ ⟨cell_below (cur3) x4, cell_below (cur3) x5, cell_below (cur3) m0⟩ (fun hHeld => ?_)
        clear hK K
        refine norm_ (a' := ?_) ?_ ?_
        rotate_left
        · show Act.put _ (some 10) _ = _
          simp only [Act.put, List.setIfInBounds_toArray, List.set_cons_zero, List.set_cons_succ, i64_w, i32_w]
          rfl
        exact norm_ (by first | (simp only [putAll, Act.put, List.setIfInBounds_toArray, List.set_cons_zero, List.set_cons_succ]; done) | (simp only [putAll, Act.put, List.setIfInBounds_toArray, List.set_cons_zero, List.set_cons_succ]; rfl)) (hJ5_9 (w1.heap.size) _ ⟨cur3, blk_new _ _, (cur).size⟩)
    rintro ga9 w1 ⟨cur, p9, q9⟩
    have hHeld : w1.cell? ⟨w.heap.size, 0, none⟩ = some (.pointer (some ⟨mg, 0, none⟩)) ∧ w1.cell? ⟨w.heap.size + 1, 0, none⟩ = some (.int .i64 f) ∧ w1.cell? ⟨mg, 0, none⟩ = some (.pointer (some ⟨b, 0, none⟩)) := ⟨cell_below (cur) x4, cell_below (cur) x5, cell_below (cur) m0⟩
    refine norm_ (a' := ?_) ?_ ?_
    rotate_left
    · simp only [putAll, Act.put, List.setIfInBounds_toArray, List.set_cons_zero, List.set_cons_succ]
      rfl
    refine last_ (i := 10) (N := none) #[true, true, true, true, true, true, true, true, true, true, true, false] rfl rfl (by kernel_rfl) (by decide) (fun K hK => ?_)
    have u0 := (blk_cell p9 0).trans rfl
    have u1 := (blk_cell p9 1).trans rfl
    have u2 := (blk_cell p9 2).trans rfl
    have f0 := blk_frozen p9 0
    have f1 := blk_frozen p9 1
    have f2 := blk_frozen p9 2
    refine skip_ (w1 := ?_) (by rfl) rfl ?_ ?_
    rotate_left
    · go_simp
      rfl
    refine hK.out _ _ ?_
    clear hK K
    refine pure_ (i := 11) (N := some 11) (v := ?_) (a' := ?_) #[true, true, true, true, true, true, true, true, true, true, true, true] rfl rfl (by kernel_rfl) (fun _ _ _ h => h) (Or.inl ⟨by rfl, ?_⟩) ?_ ?_
    rotate_left
    · intro w'
      go_simp
      with_reducible rfl
    rotate_left
    · simp only [Act.put, List.setIfInBounds_toArray, List.set_cons_zero, List.set_cons_succ, i64_w, i32_w]
      rfl
    refine done_ (by kernel_rfl) ?_
    have s0 := HB0.out.size
    have l0 := lt_of_heap G3.out
    have lg : w.heap.size ≤ ga9 := Nat.le_trans s0 q9
    have HB1 : Hid (Below w.heap.size w (put3 w1 ga9 (.int .i64 n.v) (.int .i64 n.l) (.int .i64 n.h))) := Lib.hid (put3_below _ _ _ (seq HB0.out cur) lg)
    have G0' := Lib.hid (put3_far (.int .i64 n.v) (.int .i64 n.l) (.int .i64 n.h) (blk_below G0.out cur) (show w.heap.size ≠ ga9 by omega))
    have G1' := Lib.hid (put3_far (.int .i64 n.v) (.int .i64 n.l) (.int .i64 n.h) (blk_below G1.out cur) (show w.heap.size + 1 ≠ ga9 by omega))
    have G2' := Lib.hid (put3_far (.int .i64 n.v) (.int .i64 n.l) (.int .i64 n.h) (blk_below G2.out cur) (show w.heap.size + 1 + 1 ≠ ga9 by omega))
    have G3' := Lib.hid (put3_far (.int .i64 n.v) (.int .i64 n.l) (.int .i64 n.h) (blk_below G3.out cur) (show w.heap.size + 1 + 1 + 1 ≠ ga9 by omega))
    have G9' := Lib.hid (put3_a (.int .i64 n.v) (.int .i64 n.l) (.int .i64 n.h) p9)
    clear hHeld u0 u1 u2 f0 f1 f2 cur p9 x4 x5 m0 s0 l0 q9 G0 G1 G2 G3 HB0
    obtain ⟨W, hW⟩ : ∃ W, W = put3 w1 ga9 (.int .i64 n.v) (.int .i64 n.l) (.int .i64 n.h) := ⟨_, rfl⟩
    rw [← hW] at HB1 G0' G1' G2' G3' G9'
    have hW2 : ((w1.setCell ⟨ga9, 0, none⟩ (.int .i64 n.v)).setCell ⟨ga9, 1, none⟩ (.int .i64 n.l)).setCell ⟨ga9, 2, none⟩ (.int .i64 n.h) = W := hW.symm
    rw [hW2]
    clear hW hW2
    have x4 := cell_at G0'.out 0 rfl
    have x5 := cell_at G1'.out 0 rfl
    have x6 := cell_at G2'.out 0 rfl
    have x7 := cell_at G3'.out 0 rfl
    have y0 := cell_at G9'.out 0 rfl
    have CP : Hid (CapsR W S mg f v n true w.heap.size (w.heap.size + 1) ga9 (w.heap.size + 1 + 1) (w.heap.size + 1 + 1 + 1)) := by
      have hS : ∀ k, w.heap.size ≤ k → ¬ S k := fun k h c => by have := HLT.out k c; omega
      exact Lib.hid ⟨G0'.out, G1'.out, G9'.out, G2'.out, G3'.out, hS _ (Nat.le_refl _), hS _ (by omega), hS _ lg, hS _ (by omega), hS _ (by omega)⟩
    have z7 := cell_alloc (.cells #[.int .i64 f, .int .i64 v, .int .i64 (-9)] 95) x7
    have KN := blk_new W (.cells #[.int .i64 f, .int .i64 v, .int .i64 (-9)] 95)
    have zk2 := (blk_cell KN 2).trans rfl
    have zf2 := blk_frozen KN 2
    go_wp2_with fail
    have KB : (W.alloc (.cells #[.int .i64 f, .int .i64 v, .int .i64 (-10)] 95)).heap[W.heap.size]? = some (.cells #[.int .i64 f, .int .i64 v, .int .i64 (-10)] 95 (0, 0)) := blk_new W _
    have hbk : Below W.heap.size W (W.alloc (.cells #[.int .i64 f, .int .i64 v, .int .i64 (-10)] 95)) := Below.push (Below.refl W.heap.size W) (Nat.le_refl _) _
    have HB2 : Hid (Below w.heap.size w (W.alloc (.cells #[.int .i64 f, .int .i64 v, .int .i64 (-10)] 95))) := Lib.hid (seq HB1.out hbk)
    obtain ⟨gk, hgk⟩ : ∃ gk, gk = W.heap.size := ⟨_, rfl⟩
    have hgw : w.heap.size ≤ gk := by have := HB1.out.size; omega
    rw [← hgk] at KB
    replace x4 := cell_below hbk x4
    replace y0 := cell_below hbk y0
    have m1 := cell_below HB2.out M1.out
    have CP2 : Hid (CapsR (W.alloc (.cells #[.int .i64 f, .int .i64 v, .int .i64 (-10)] 95)) S mg f v n true w.heap.size (w.heap.size + 1) ga9 (w.heap.size + 1 + 1) (w.heap.size + 1 + 1 + 1)) :=
      Lib.hid ⟨blk_below CP.out.h0 hbk, blk_below CP.out.h1 hbk, blk_below CP.out.h2 hbk, blk_below CP.out.h3 hbk, blk_below CP.out.h4 hbk, CP.out.n0, CP.out.n1, CP.out.n2, CP.out.n3, CP.out.n4⟩
    have KB2 := Lib.hid KB
    have k0 := cell_at KB 0 rfl
    have k1 := cell_at KB 1 rfl
    have k2 := cell_at KB 2 rfl
    clear z7 KN zk2 zf2
    (try rw [← hgk])
    clear KB CP HB1 G0' G1' G2' G3' G9' x5 x6 x7 hbk
    generalize W.alloc (.cells #[.int .i64 f, .int .i64 v, .int .i64 (-10)] 95) = wb2 at *
    clear hgk
    cases mx with
    | some x =>
      have hx := HMX.out x HME.out
      simp only [Prod.mk.injEq] at hx
      obtain ⟨rfl, rfl, rfl⟩ := hx
      refine start_ (n := 11) (S := fun w' => w'.cell? ⟨w.heap.size, 0, none⟩ = some (.pointer (some ⟨mg, 0, none⟩)) ∧ w'.cell? ⟨mg, 1, none⟩ = some (.pointer (some ⟨mb, 0, none⟩)) ∧ w'.cell? ⟨gk, 0, none⟩ = some (.int .i64 f) ∧ w'.cell? ⟨gk, 1, none⟩ = some (.int .i64 v) ∧ w'.cell? ⟨gk, 2, none⟩ = some (.int .i64 (-10))) (ds := []) #[false, false, false, false, false, false, false, false, false, false, false] (by kernel_rfl) rfl rfl ⟨cell_below ((Below.refl wb2.heap.size wb2).drew) x4, cell_below ((Below.refl wb2.heap.size wb2).drew) m1, cell_below ((Below.refl wb2.heap.size wb2).drew) k0, cell_below ((Below.refl wb2.heap.size wb2).drew) k1, cell_below ((Below.refl wb2.heap.size wb2).drew) k2⟩ (fun hHeld => ?_)
      refine take_ (i := 0) (N := some 48) (v := ?_) (a' := ?_) #[true, false, false, false, false, false, false, false, false, false, false] rfl rfl (by kernel_rfl) (fun _ _ _ h => h) (Or.inl ⟨by rfl, ?_⟩) hHeld ?_ ?_
      rotate_left
      · rintro w' ⟨s0, s1, s2, s3, s4⟩
        go_simp
        with_reducible rfl
      rotate_left
      · simp only [Act.put, List.setIfInBounds_toArray, List.set_cons_zero, List.set_cons_succ, i64_w, i32_w]
        rfl
      refine pure_ (i := 1) (N := some 49) (v := ?_) (a' := ?_) #[true, true, false, false, false, false, false, false, false, false, false] rfl rfl (by kernel_rfl) (fun _ _ _ h => h) (Or.inl ⟨by rfl, ?_⟩) ?_ ?_
      rotate_left
      · intro w'
        go_simp
        with_reducible rfl
      rotate_left
      · simp only [Act.put, List.setIfInBounds_toArray, List.set_cons_zero, List.set_cons_succ, i64_w, i32_w]
        rfl
      refine pure_ (i := 2) (N := some 50) (v := ?_) (a' := ?_) #[true, true, true, false, false, false, false, false, false, false, false] rfl rfl (by kernel_rfl) (fun _ _ _ h => h) (Or.inl ⟨by rfl, ?_⟩) ?_ ?_
      rotate_left
      · intro w'
        go_simp
        with_reducible rfl
      rotate_left
      · simp only [Act.put, List.setIfInBounds_toArray, List.set_cons_zero, List.set_cons_succ, i64_w, i32_w]
        rfl
      refine take_ (i := 3) (N := some 51) (v := ?_) (a' := ?_) #[true, true, true, true, false, false, false, false, false, false, false] rfl rfl (by kernel_rfl) (fun _ _ _ h => h) (Or.inl ⟨by rfl, ?_⟩) hHeld ?_ ?_
      rotate_left
      · rintro w' ⟨s0, s1, s2, s3, s4⟩
        go_simp
        with_reducible rfl
      rotate_left
      · simp only [Act.put, List.setIfInBounds_toArray, List.set_cons_zero, List.set_cons_succ, i64_w, i32_w]
        rfl
      refine take_ (i := 4) (N := some 52) (v := ?_) (a' := ?_) #[true, true, true, true, true, false, false, false, false, false, false] rfl rfl (by kernel_rfl) (fun _ _ _ h => h) (Or.inl ⟨by rfl, ?_⟩) hHeld ?_ ?_
      rotate_left
      · rintro w' ⟨s0, s1, s2, s3, s4⟩
        go_simp
        with_reducible rfl
      rotate_left
      · simp only [Act.put, List.setIfInBounds_toArray, List.set_cons_zero, List.set_cons_succ, i64_w, i32_w]
        rfl
      refine one_ (i := 5) (N := some 53) #[true, true, true, true, true, true, false, false, false, false, false] rfl rfl (by kernel_rfl) (by decide) (fun K hK => ?_)
      refine goes_ Try.func57 (by kernel_rfl) rfl #[.pointer (some ⟨mb, 0, none⟩), .agg #[.int .i64 f, .int .i64 v, .int .i64 (-10)]] (by rfl) rfl rfl (by simp only [List.map_toArray, List.map_cons, List.map_nil]; rfl) ?_
      with_reducible refine (GG.out _ (seq HB2.out ((Below.refl wb2.heap.size wb2).drew))).mono ?_
      rintro e w3 ⟨rfl, hb⟩
      refine ⟨_, rfl, ?_⟩
      have cur := seq ((Below.refl wb2.heap.size wb2).drew) hb
      clear hb
      refine hK.out _ _ ⟨cell_below cur x4, cell_below cur m1, cell_below cur k0, cell_below cur k1, cell_below cur k2⟩ (fun hHeld => ?_)
      clear hK K
      refine norm_ (a' := ?_) ?_ ?_
      rotate_left
      · show Act.put _ (some 53) _ = _
        simp only [Act.put, List.setIfInBounds_toArray, List.set_cons_zero, List.set_cons_succ, i64_w, i32_w]
        rfl
      refine pure_ (i := 6) (N := some 47) (v := ?_) (a' := ?_) #[true, true, true, true, true, true, true, false, false, false, false] rfl rfl (by kernel_rfl) (fun _ _ _ h => h) (Or.inl ⟨by rfl, ?_⟩) ?_ ?_
      rotate_left
      · intro w'
        go_simp
        with_reducible rfl
      rotate_left
      · simp only [Act.put, List.setIfInBounds_toArray, List.set_cons_zero, List.set_cons_succ, i64_w, i32_w]
        rfl
      refine pure_ (i := 7) (N := some 54) (v := ?_) (a' := ?_) #[true, true, true, true, true, true, true, true, false, false, false] rfl rfl (by kernel_rfl) (fun _ _ _ h => h) (Or.inl ⟨by rfl, ?_⟩) ?_ ?_
      rotate_left
      · intro w'
        go_simp
        with_reducible rfl
      rotate_left
      · simp only [Act.put, List.setIfInBounds_toArray, List.set_cons_zero, List.set_cons_succ, i64_w, i32_w]
        rfl
      refine pure_ (i := 8) (N := some 55) (v := ?_) (a' := ?_) #[true, true, true, true, true, true, true, true, true, false, false] rfl rfl (by kernel_rfl) (fun _ _ _ h => h) (Or.inl ⟨by rfl, ?_⟩) ?_ ?_
      rotate_left
      · intro w'
        go_simp
        with_reducible rfl
      rotate_left
      · simp only [Act.put, List.setIfInBounds_toArray, List.set_cons_zero, List.set_cons_succ, i64_w, i32_w]
        rfl
      refine pure_ (i := 9) (N := some 13) (v := ?_) (a' := ?_) #[true, true, true, true, true, true, true, true, true, true, false] rfl rfl (by kernel_rfl) (fun _ _ _ h => h) (Or.inl ⟨by rfl, ?_⟩) ?_ ?_
      rotate_left
      · intro w'
        go_simp
        with_reducible rfl
      rotate_left
      · simp only [Act.put, List.setIfInBounds_toArray, List.set_cons_zero, List.set_cons_succ, i64_w, i32_w]
        rfl
      refine pure_ (i := 10) (N := some 14) (v := ?_) (a' := ?_) #[true, true, true, true, true, true, true, true, true, true, true] rfl rfl (by kernel_rfl) (fun _ _ _ h => h) (Or.inl ⟨by rfl, ?_⟩) ?_ ?_
      rotate_left
      · intro w'
        go_simp
        with_reducible rfl
      rotate_left
      · simp only [Act.put, List.setIfInBounds_toArray, List.set_cons_zero, List.set_cons_succ, i64_w, i32_w]
        rfl
      refine done_ (by kernel_rfl) ?_
      have HE := Lib.hid (OpPost.same (x := x') HM.out (seq HB2.out cur))
      clear cur hHeld m1 x4 k0 k1 k2 y0
      go_wp2_with fail
      go_ret2
      exact HE.out
    | none =>
      refine start_ (n := 11) (S := fun w' => w'.cell? ⟨w.heap.size, 0, none⟩ = some (.pointer (some ⟨mg, 0, none⟩)) ∧ w'.cell? ⟨mg, 1, none⟩ = some (.pointer (some ⟨mb, 0, none⟩)) ∧ w'.cell? ⟨gk, 0, none⟩ = some (.int .i64 f) ∧ w'.cell? ⟨gk, 1, none⟩ = some (.int .i64 v) ∧ w'.cell? ⟨gk, 2, none⟩ = some (.int .i64 (-10))) (ds := []) #[false, false, false, false, false, false, false, false, false, false, false] (by kernel_rfl) rfl rfl ⟨cell_below ((Below.refl wb2.heap.size wb2).drew) x4, cell_below ((Below.refl wb2.heap.size wb2).drew) m1, cell_below ((Below.refl wb2.heap.size wb2).drew) k0, cell_below ((Below.refl wb2.heap.size wb2).drew) k1, cell_below ((Below.refl wb2.heap.size wb2).drew) k2⟩ (fun hHeld => ?_)
      refine take_ (i := 0) (N := some 48) (v := ?_) (a' := ?_) #[true, false, false, false, false, false, false, false, false, false, false] rfl rfl (by kernel_rfl) (fun _ _ _ h => h) (Or.inl ⟨by rfl, ?_⟩) hHeld ?_ ?_
      rotate_left
      · rintro w' ⟨s0, s1, s2, s3, s4⟩
        go_simp
        with_reducible rfl
      rotate_left
      · simp only [Act.put, List.setIfInBounds_toArray, List.set_cons_zero, List.set_cons_succ, i64_w, i32_w]
        rfl
      refine pure_ (i := 1) (N := some 49) (v := ?_) (a' := ?_) #[true, true, false, false, false, false, false, false, false, false, false] rfl rfl (by kernel_rfl) (fun _ _ _ h => h) (Or.inl ⟨by rfl, ?_⟩) ?_ ?_
      rotate_left
      · intro w'
        go_simp
        with_reducible rfl
      rotate_left
      · simp only [Act.put, List.setIfInBounds_toArray, List.set_cons_zero, List.set_cons_succ, i64_w, i32_w]
        rfl
      refine pure_ (i := 2) (N := some 50) (v := ?_) (a' := ?_) #[true, true, true, false, false, false, false, false, false, false, false] rfl rfl (by kernel_rfl) (fun _ _ _ h => h) (Or.inl ⟨by rfl, ?_⟩) ?_ ?_
      rotate_left
      · intro w'
        go_simp
        with_reducible rfl
      rotate_left
      · simp only [Act.put, List.setIfInBounds_toArray, List.set_cons_zero, List.set_cons_succ, i64_w, i32_w]
        rfl
      refine take_ (i := 3) (N := some 51) (v := ?_) (a' := ?_) #[true, true, true, true, false, false, false, false, false, false, false] rfl rfl (by kernel_rfl) (fun _ _ _ h => h) (Or.inl ⟨by rfl, ?_⟩) hHeld ?_ ?_
      rotate_left
      · rintro w' ⟨s0, s1, s2, s3, s4⟩
        go_simp
        with_reducible rfl
      rotate_left
      · simp only [Act.put, List.setIfInBounds_toArray, List.set_cons_zero, List.set_cons_succ, i64_w, i32_w]
        rfl
      refine take_ (i := 4) (N := some 52) (v := ?_) (a' := ?_) #[true, true, true, true, true, false, false, false, false, false, false] rfl rfl (by kernel_rfl) (fun _ _ _ h => h) (Or.inl ⟨by rfl, ?_⟩) hHeld ?_ ?_
      rotate_left
      · rintro w' ⟨s0, s1, s2, s3, s4⟩
        go_simp
        with_reducible rfl
      rotate_left
      · simp only [Act.put, List.setIfInBounds_toArray, List.set_cons_zero, List.set_cons_succ, i64_w, i32_w]
        rfl
      refine one_ (i := 5) (N := some 53) #[true, true, true, true, true, true, false, false, false, false, false] rfl rfl (by kernel_rfl) (by decide) (fun K hK => ?_)
      refine goes_ Try.func57 (by kernel_rfl) rfl #[.pointer (some ⟨mb, 0, none⟩), .agg #[.int .i64 f, .int .i64 v, .int .i64 (-10)]] (by rfl) rfl rfl (by simp only [List.map_toArray, List.map_cons, List.map_nil]; rfl) ?_
      with_reducible refine (GG.out _ (seq HB2.out ((Below.refl wb2.heap.size wb2).drew))).mono ?_
      rintro e w3 ⟨rfl, hb⟩
      refine ⟨_, rfl, ?_⟩
      have cur := seq ((Below.refl wb2.heap.size wb2).drew) hb
      clear hb
      refine hK.out _ _ ⟨cell_below cur x4, cell_below cur m1, cell_below cur k0, cell_below cur k1, cell_below cur k2⟩ (fun hHeld => ?_)
      clear hK K
      refine norm_ (a' := ?_) ?_ ?_
      rotate_left
      · show Act.put _ (some 53) _ = _
        simp only [Act.put, List.setIfInBounds_toArray, List.set_cons_zero, List.set_cons_succ, i64_w, i32_w]
        rfl
      refine pure_ (i := 6) (N := some 47) (v := ?_) (a' := ?_) #[true, true, true, true, true, true, true, false, false, false, false] rfl rfl (by kernel_rfl) (fun _ _ _ h => h) (Or.inl ⟨by rfl, ?_⟩) ?_ ?_
      rotate_left
      · intro w'
        go_simp
        with_reducible rfl
      rotate_left
      · simp only [Act.put, List.setIfInBounds_toArray, List.set_cons_zero, List.set_cons_succ, i64_w, i32_w]
        rfl
      refine pure_ (i := 7) (N := some 54) (v := ?_) (a' := ?_) #[true, true, true, true, true, true, true, true, false, false, false] rfl rfl (by kernel_rfl) (fun _ _ _ h => h) (Or.inl ⟨by rfl, ?_⟩) ?_ ?_
      rotate_left
      · intro w'
        go_simp
        with_reducible rfl
      rotate_left
      · simp only [Act.put, List.setIfInBounds_toArray, List.set_cons_zero, List.set_cons_succ, i64_w, i32_w]
        rfl
      refine pure_ (i := 8) (N := some 55) (v := ?_) (a' := ?_) #[true, true, true, true, true, true, true, true, true, false, false] rfl rfl (by kernel_rfl) (fun _ _ _ h => h) (Or.inl ⟨by rfl, ?_⟩) ?_ ?_
      rotate_left
      · intro w'
        go_simp
        with_reducible rfl
      rotate_left
      · simp only [Act.put, List.setIfInBounds_toArray, List.set_cons_zero, List.set_cons_succ, i64_w, i32_w]
        rfl
      refine pure_ (i := 9) (N := some 13) (v := ?_) (a' := ?_) #[true, true, true, true, true, true, true, true, true, true, false] rfl rfl (by kernel_rfl) (fun _ _ _ h => h) (Or.inl ⟨by rfl, ?_⟩) ?_ ?_
      rotate_left
      · intro w'
        go_simp
        with_reducible rfl
      rotate_left
      · simp only [Act.put, List.setIfInBounds_toArray, List.set_cons_zero, List.set_cons_succ, i64_w, i32_w]
        rfl
      refine pure_ (i := 10) (N := some 14) (v := ?_) (a' := ?_) #[true, true, true, true, true, true, true, true, true, true, true] rfl rfl (by kernel_rfl) (fun _ _ _ h => h) (Or.inl ⟨by rfl, ?_⟩) ?_ ?_
      rotate_left
      · intro w'
        go_simp
        with_reducible rfl
      rotate_left
      · simp only [Act.put, List.setIfInBounds_toArray, List.set_cons_zero, List.set_cons_succ, i64_w, i32_w]
        rfl
      refine done_ (by kernel_rfl) ?_
      replace x4 := cell_below cur x4
      replace y0 := cell_below cur y0
      have CP3 : Hid (CapsR w3 S mg f v n true w.heap.size (w.heap.size + 1) ga9 (w.heap.size + 1 + 1) (w.heap.size + 1 + 1 + 1)) :=
        Lib.hid ⟨blk_below CP2.out.h0 cur, blk_below CP2.out.h1 cur, blk_below CP2.out.h2 cur, blk_below CP2.out.h3 cur, blk_below CP2.out.h4 cur, CP2.out.n0, CP2.out.n1, CP2.out.n2, CP2.out.n3, CP2.out.n4⟩
      have KB3 := Lib.hid (blk_below KB2.out cur)
      have HB3 := Lib.hid (seq HB2.out cur)
      clear cur hHeld k0 k1 k2 m1 CP2 KB2 HB2
      go_wp2_with fail
      refine (HBOTH.out w3 _ _ _ _ _ (HM.out.below HB3.out) CP3.out).mono ?_
      rintro e w5 ⟨ev, rfl, M5, T5, E5⟩
      clear x4 y0
      by_cases he : er = 0
      · subst he
        obtain rfl := E5.zero
        obtain ⟨b5, mb5, bp5, ES5, MA5⟩ := M5
        have m1 := MA5.c1
        have HI : Hid (Ar.RstIs L' f v true x') := by
          rcases HSP.out.2.2 with ⟨_, h⟩ | ⟨h, _⟩
          · exact Lib.hid h
          · exact absurd h (by decide)
        have hS : ∀ k, w.heap.size ≤ k → ¬ S k := fun k h c => by have := HLT.out k c; omega
        have x4 := cell_at (T5.heap CP3.out.h0 CP3.out.n0) 0 rfl
        have B4 := T5.heap KB3.out (hS _ hgw)
        have k0 := cell_at B4 0 rfl
        have k1 := cell_at B4 1 rfl
        have k2 := cell_at B4 2 rfl
        have GM5 := Lib.hid MA5
        have GT5 := Lib.hid T5
        clear MA5 T5 B4 hS E5
        go_wp2_with fail
        refine start_ (n := 7) (S := fun w' => w'.cell? ⟨w.heap.size, 0, none⟩ = some (.pointer (some ⟨mg, 0, none⟩)) ∧ w'.cell? ⟨mg, 1, none⟩ = some (.pointer (some ⟨mb5, 0, none⟩)) ∧ w'.cell? ⟨gk, 0, none⟩ = some (.int .i64 f) ∧ w'.cell? ⟨gk, 1, none⟩ = some (.int .i64 v) ∧ w'.cell? ⟨gk, 2, none⟩ = some (.int .i64 (-10))) (ds := [6]) #[false, false, false, false, false, false, false] (by kernel_rfl) rfl rfl ⟨cell_below ((Below.refl w5.heap.size w5).drew) x4, cell_below ((Below.refl w5.heap.size w5).drew) m1, cell_below ((Below.refl w5.heap.size w5).drew) k0, cell_below ((Below.refl w5.heap.size w5).drew) k1, cell_below ((Below.refl w5.heap.size w5).drew) k2⟩ (fun hHeld => ?_)
        refine pure_ (i := 5) (N := some 73) (v := ?_) (a' := ?_) #[false, false, false, false, false, true, false] rfl rfl (by kernel_rfl) (fun _ _ _ h => h) (Or.inl ⟨by rfl, ?_⟩) ?_ ?_
        rotate_left
        · intro w'
          go_simp
          with_reducible rfl
        rotate_left
        · simp only [Act.put, List.setIfInBounds_toArray, List.set_cons_zero, List.set_cons_succ, i64_w, i32_w]
          rfl
        refine take_ (i := 0) (N := some 68) (v := ?_) (a' := ?_) #[true, false, false, false, false, true, false] rfl rfl (by kernel_rfl) (fun _ _ _ h => h) (Or.inl ⟨by rfl, ?_⟩) hHeld ?_ ?_
        rotate_left
        · rintro w' ⟨s0, s1, s2, s3, s4⟩
          go_simp
          with_reducible rfl
        rotate_left
        · simp only [Act.put, List.setIfInBounds_toArray, List.set_cons_zero, List.set_cons_succ, i64_w, i32_w]
          rfl
        refine pure_ (i := 1) (N := some 69) (v := ?_) (a' := ?_) #[true, true, false, false, false, true, false] rfl rfl (by kernel_rfl) (fun _ _ _ h => h) (Or.inl ⟨by rfl, ?_⟩) ?_ ?_
        rotate_left
        · intro w'
          go_simp
          with_reducible rfl
        rotate_left
        · simp only [Act.put, List.setIfInBounds_toArray, List.set_cons_zero, List.set_cons_succ, i64_w, i32_w]
          rfl
        refine pure_ (i := 2) (N := some 70) (v := ?_) (a' := ?_) #[true, true, true, false, false, true, false] rfl rfl (by kernel_rfl) (fun _ _ _ h => h) (Or.inl ⟨by rfl, ?_⟩) ?_ ?_
        rotate_left
        · intro w'
          go_simp
          with_reducible rfl
        rotate_left
        · simp only [Act.put, List.setIfInBounds_toArray, List.set_cons_zero, List.set_cons_succ, i64_w, i32_w]
          rfl
        refine take_ (i := 3) (N := some 71) (v := ?_) (a' := ?_) #[true, true, true, true, false, true, false] rfl rfl (by kernel_rfl) (fun _ _ _ h => h) (Or.inl ⟨by rfl, ?_⟩) hHeld ?_ ?_
        rotate_left
        · rintro w' ⟨s0, s1, s2, s3, s4⟩
          go_simp
          with_reducible rfl
        rotate_left
        · simp only [Act.put, List.setIfInBounds_toArray, List.set_cons_zero, List.set_cons_succ, i64_w, i32_w]
          rfl
        refine take_ (i := 4) (N := some 72) (v := ?_) (a' := ?_) #[true, true, true, true, true, true, false] rfl rfl (by kernel_rfl) (fun _ _ _ h => h) (Or.inl ⟨by rfl, ?_⟩) hHeld ?_ ?_
        rotate_left
        · rintro w' ⟨s0, s1, s2, s3, s4⟩
          go_simp
          with_reducible rfl
        rotate_left
        · simp only [Act.put, List.setIfInBounds_toArray, List.set_cons_zero, List.set_cons_succ, i64_w, i32_w]
          rfl
        refine last_ (i := 6) (N := some 74) #[true, true, true, true, true, true, true] rfl rfl (by kernel_rfl) (by decide) (fun K hK => ?_)
        refine goes_ Try.func62 (by kernel_rfl) rfl #[.pointer (some ⟨mb5, 0, none⟩), .agg #[.int .i64 f, .int .i64 v, .int .i64 (-10)], .int .i64 x'] (by rfl) rfl rfl (by simp only [List.map_toArray, List.map_cons, List.map_nil]; rfl) ?_
        with_reducible refine (put_any (GM5.out.me.below ((Below.refl w5.heap.size w5).drew)) f v (-10) x').mono ?_
        rintro e w6 ⟨rfl, M6, T6⟩
        refine ⟨_, rfl, ?_⟩
        refine hK.out _ _ ?_
        clear hK K
        refine norm_ (a' := ?_) ?_ ?_
        rotate_left
        · show Act.put _ (some 74) _ = _
          simp only [Act.put, List.setIfInBounds_toArray, List.set_cons_zero, List.set_cons_succ, i64_w, i32_w]
          rfl
        refine done_ (by kernel_rfl) ?_
        have M6' := GM5.out.put M6 ⟨T6.os, T6.tape, T6.output, T6.size, T6.block⟩ (GM5.out.mok.put (x := x') (by
          unfold KeyOk
          dsimp only
          rw [if_neg (by decide), if_pos rfl]
          exact ⟨HV.out.1, HV.out.2, HI.out⟩))
        have T6' : Touch w5 w6 (fun k => k = bp5) := ⟨T6.os, T6.tape, T6.output, T6.size, T6.block⟩
        have s5 := GT5.out.size
        have s6 := T6'.size
        have HF : Hid (OpPost w mg lim S (L', x', 0) (.returned (.tuple #[.int .i64 x', .nilIface])) w6) := by
          refine Lib.hid (OpPost.lift HB3.out ⟨.nilIface, rfl, ⟨b5, mb5, bp5, _, M6'.mono (fun k hk => ?_) (fun k hk => ?_)⟩, GT5.out.step T6' (fun k hk hkb => ?_), .inl ⟨rfl, rfl⟩⟩)
          · rcases hk with hk | hk
            · exact .inl hk
            · exact .inr ⟨hk.1, by omega⟩
          · rcases hk with hk | hk
            · have := M6'.lt k (.inl hk); exact this
            · exact hk.2
          · have := GM5.out.sbp
            rw [hkb]
            rw [hkb] at hk
            rcases this with h | h
            · exact h
            · omega
        clear M6' T6' M6 T6 s5 s6 m1 x4 k0 k1 k2 hHeld
        go_wp2_with fail
        go_ret2
        exact HF.out
      · have HE := Lib.hid he
        have HF : Hid (OpPost w mg lim S (L', x', er) (.returned (.tuple #[.int .i64 x', ev])) w5) := Lib.hid (OpPost.lift HB3.out ⟨ev, rfl, M5, T5, E5⟩)
        clear M5 T5 he
        rcases E5 with ⟨h, _⟩ | ⟨_, rfl⟩ | ⟨_, fb, u, rfl, _⟩
        · exact absurd h HE.out
        all_goals
          go_wp2_with fail
          go_ret2
          exact HF.out

theorem rst_to (hlim : lim < 100000000000) {v : Int} (hv0 : 0 ≤ v) (h12 : v < 12) (d : Bool) : ∀ n, RstTo lim mg v d n
  | 0 => fun w L S f M hf hn hl => by
    have := Ar.var_le M.ok f
    omega
  | n + 1 => by
    cases d
    · exact rst_stepF hlim hv0 h12 (rst_to hlim hv0 h12 false n)
    · exact rst_stepT hlim hv0 h12 (rst_to hlim hv0 h12 true n)
end
end Go.Proofs.Ytiagkbmhfgdffaa
