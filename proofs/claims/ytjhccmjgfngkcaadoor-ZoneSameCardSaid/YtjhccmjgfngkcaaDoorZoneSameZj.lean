/- zone.Has. -/
import Derived.Test.YtjhccmjgfngkcaaDoorZoneSameZi
import Derived.Test.YtjhccmjgfngkcaaDoorZoneSameZf
set_option linter.unusedVariables false
set_option linter.unusedSimpArgs false
namespace Go.Proofs.YtjhccmjgfngkcaaDoor.PZoneSame
open Go Go.RowKit Go.Shelf Go.Deep Go.Proofs.YtjhccmjgfngkcaaDoorW.PrintWords Go.Proofs.YtjhccmjgfngkcaaDoorW.PrintLast Go.Proofs.YtjhccmjgfngkcaaDoorW.PrintMore
open Zn (botN wholeB wholeB_iff nearZ upd)
variable {w : World}
attribute [local go_sem] Oper.semAt_some

theorem ints_reads {A : Option Addr} {c : Nat} {l : List Int} (h : IntsAt w (.slice A l.length c) l) : ReadsInt w .i64 A l.length l := by
  obtain ⟨ao, c', e, h0, h1, h2⟩ := h
  injection e with e1 e2 e3
  subst e1
  refine ⟨rfl, h1, fun hn => ?_⟩
  obtain ⟨b, off, e4, h3, h4⟩ := h2 (by intro e; rw [e] at hn; simp at hn)
  exact ⟨⟨b, off, none⟩, e4, fun j hj => by rw [Addr.add_lit]; exact h4 j hj⟩
theorem bret {fn : Func} {p : Tmp} (h : fn.results = #[.cell p 4]) (tmps : Array Value) (w : World) (g : Nat) {b : Bool} (hg : w.heap[g]? = some (.cells #[.bool b] 4 (0, 0))) (hp : tmps.getD p undef = .pointer (some ⟨g, 0, none⟩)) :
    (results fn tmps).run Tryd.prog w = .ok (.bool b) w := by
  have hp' : tmps[p]?.getD undef = .pointer (some ⟨g, 0, none⟩) := by simpa using hp
  have hc := hp_cell hg 0 rfl
  unfold results
  rw [h]
  go_simp
set_option maxRecDepth 100000 in
set_option maxHeartbeats 4000000 in
theorem Has_any {v vp : Value} {N : Int} {L p : List Int} (h : ZAt w v N L) (hpi : IntsAt w vp p) : Calls Tryd.prog 32 #[v, vp] w fun e w' => e = .returned (.bool (Zn.hasC (Zn.cleanP N L).1 (Zn.cleanP N L).2 p)) ∧ Below w.heap.size w w' := by
  have CL : ∀ W', Below w.heap.size w W' → Calls Tryd.prog 67 #[v] W' (ZPost W' (Zn.cleanP N L)) := fun W' hb => clean_any (h.below hb)
  have hsh := Zn.cleanP_shape N L
  have hbd := Zn.cleanP_bound N L
  obtain ⟨A, c, rfl⟩ := h.form
  obtain ⟨zz, hzz⟩ : ∃ zz, Zn.cleanP N L = zz := ⟨_, rfl⟩
  rw [hzz] at CL hsh hbd ⊢
  clear hzz h
  obtain ⟨n1, l1⟩ := zz
  have HC := Lib.hid CL
  have hn0 := hsh.n0
  have hn6 := hsh.n6
  have HS := Lib.hid hsh.len
  have HBD := Lib.hid hbd
  dsimp only at hn0 hn6 HS HBD ⊢
  clear CL hsh hbd
  obtain ⟨r, hr⟩ : ∃ r, Zn.hasC n1 l1 p = r := ⟨_, rfl⟩
  rw [hr]
  have HR := Lib.hid hr
  clear hr
  have HP := Lib.hid hpi
  obtain ⟨ap, cp, rfl, hcp, hlp, -⟩ := hpi
  refine (callsIn_wide (n := 20)).1 ?_
  refine callsIn_of_wp_marks Tryd.func32 rfl trivial ?_
  simp only [Tryd.ntmps32, List.size_toArray, List.length_cons, List.length_nil, Nat.reduceAdd, Nat.reduceSub, Array.replicate_succ, Array.replicate_zero, List.push_toArray, List.append_toArray, List.nil_append, List.cons_append]
  refine wpIn_wide.2 ?_
  go_wp2_with fail
  have bZ := blk_alloc (blk_new w (.cells #[.int .i64 N, .slice A L.length c] 27)) (.cells #[.bool false] 4)
  have bR := blk_new (w.alloc (.cells #[.int .i64 N, .slice A L.length c] 27)) (.cells #[.bool false] 4)
  have cur : Below w.heap.size w ((w.alloc (.cells #[.int .i64 N, .slice A L.length c] 27)).alloc (.cells #[.bool false] 4)) := psh (psh (Below.refl _ _) (Nat.le_refl _) (.cells #[.int .i64 N, .slice A L.length c] 27)) (Nat.le_refl _) (.cells #[.bool false] 4)
  have hsz : ((w.alloc (.cells #[.int .i64 N, .slice A L.length c] 27)).alloc (.cells #[.bool false] 4)).heap.size = w.heap.size + 2 := by simp
  simp only [World.size_alloc] at bR
  obtain ⟨W0, hW0⟩ : ∃ W0, ((w.alloc (.cells #[.int .i64 N, .slice A L.length c] 27)).alloc (.cells #[.bool false] 4)) = W0 := ⟨_, rfl⟩
  rw [hW0] at bZ bR cur hsz ⊢
  clear hW0
  obtain ⟨s, hs⟩ : ∃ s, w.heap.size = s := ⟨_, rfl⟩
  rw [hs] at bZ bR cur hsz
  simp only [hs]
  obtain ⟨z0, z1, z2, z3⟩ := cells2 bZ
  go_at_call 67
  refine (HC.out _ (by rw [hs]; exact cur)).mono ?_
  rintro e w1 ⟨v1, rfl, hz, hb⟩
  dsimp only at hz
  obtain ⟨A1, c1, rfl⟩ := hz.form
  obtain ⟨r0, r1, r2, r3⟩ := cells2 (blk_below bZ hb)
  have g1 := blk_far (p := ⟨s, 1, none⟩) (blk_far (p := ⟨s, 0, none⟩) (blk_below bR hb) (by show s + 1 ≠ s; omega) (.int .i64 n1)) (by show s + 1 ≠ s; omega) (.slice A1 l1.length c1)
  obtain ⟨f1, f2, f3⟩ := zfin (s := s) (blk_below bZ hb) hz (cur.trans (hb.mono (by omega))) (by omega) (by omega) (by omega)
  have hszb := hb.size
  go_wp2_with fail
  generalize (w1.setCell ⟨s, 0, none⟩ (.int .i64 n1)).setCell ⟨s, 1, none⟩ (.slice A1 l1.length c1) = W2 at f1 f2 f3 g1 ⊢
  clear r0 r1 r2 r3 z0 z1 z2 z3 hz hb bZ bR cur
  have HZ := Lib.hid f2
  have cur := f3
  obtain ⟨z0, z1, z2, z3⟩ := cells2 f1
  clear f2 f3
  have hlt2 := blk_lt g1
  obtain ⟨e1, hd1⟩ : ∃ e1, decide (l1 = []) = e1 := ⟨_, rfl⟩
  obtain ⟨bb, hbb⟩ : ∃ bb, p.any (fun n => !Zn.inB n) = bb := ⟨_, rfl⟩
  cases e1
  · have h1 : l1 ≠ [] := of_decide_eq_false hd1
    by_cases hln : (p.length : Int) = n1
    · cases bb
      · have hp7 : p.length ≤ 6 := by omega
        have HIN : Hid (∀ k, -1152921504606846976 ≤ (0 :: p).getD k 0 ∧ (0 :: p).getD k 0 ≤ 1152921504606846976) := Lib.hid (fun k => by
          cases k with
          | zero => simp
          | succ k =>
            show -1152921504606846976 ≤ p.getD k 0 ∧ p.getD k 0 ≤ 1152921504606846976
            by_cases hk : k < p.length
            · have hmem : p.getD k 0 ∈ p := by simp [List.getD, hk]
              have : Zn.inB (p.getD k 0) = true := by
                cases hc : Zn.inB (p.getD k 0)
                · rw [List.any_eq_false] at hbb
                  have := hbb _ hmem
                  rw [hc] at this
                  exact absurd rfl this
                · rfl
              unfold Zn.inB at this
              simp at this
              exact ⟨by simpa using this.1, by simpa using this.2⟩
            · have : p.getD k 0 = 0 := by simp [List.getD, hk]
              rw [this]; omega)
        have HALL : Hid (p.all Zn.inB = true) := Lib.hid (by
          rw [List.all_eq_true]
          intro x hx
          cases hc : Zn.inB x
          · rw [List.any_eq_false] at hbb
            have := hbb _ hx
            rw [hc] at this
            exact absurd rfl this
          · rfl)
        go_wp2_with (first | (go_at_call 68; refine (none_any HZ.out.zat).mono ?_; rw [hd1]; rintro e w2 ⟨rfl, hb2⟩; replace cur := cur.trans (hb2.mono (by have := cur.size; omega)); have HZ := Lib.hid (HZ.out.below hb2); replace f1 := blk_below f1 hb2; replace g1 := blk_below g1 hb2; obtain ⟨z0, z1, z2, z3⟩ := cells2 f1; have r0 := hp_cell g1 0 rfl; have r1 := hp_free g1 0; clear hb2) | (go_at_call 74; refine (contains_any p _ (HP.out.below (by rw [hs]; exact cur)) _ (by first | exact HBB.out | exact hbb)).mono ?_; rintro e w3 ⟨rfl, hb3⟩; replace cur := cur.trans (hb3.mono (by have := cur.size; omega)); have HZ := Lib.hid (HZ.out.below hb3); replace f1 := blk_below f1 hb3; replace g1 := blk_below g1 hb3; obtain ⟨z0, z1, z2, z3⟩ := cells2 f1; have r0 := hp_cell g1 0 rfl; have r1 := hp_free g1 0; clear hb3) | (at_builtin; refine print_append_row (w0 := w) s rfl _ _ 22 3 .i64 8 rfl Tryd.underlying22 info_int (by decide) _ [0] p ap p.length cp rfl rfl (own_lit _ s 3 .i64 [0] (by have := cur.size; omega) (by simp)) ?qc1 ?qc2 ?qc3 ?qc4 ?_))
        case qc1 => exact ints_reads (HP.out.below (by rw [hs]; exact psh cur (by omega) _))
        case qc2 => exact psh cur (by omega) _
        case qc3 => have := cur.size; simp; omega
        case qc4 => simp; omega
        intro v1 w4 hown hb4 hg4 hat
        have hq : IntsAt w4 v1 (0 :: p) := own_ints hown
        obtain ⟨aq, cq, rfl, hcq, -, hqc⟩ := hq
        obtain ⟨bq, oq, rfl, hbq, hqk⟩ := hqc (by simp)
        clear hown hqc
        generalize hlq : (0 :: p).length = lq at hcq hqk ⊢
        have hzl := HS.out h1
        obtain ⟨m, hm⟩ : ∃ m, n1.toNat + 1 = m := ⟨_, rfl⟩
        have hnm : n1 = (m : Int) - 1 := by omega
        have hm0 : 0 < m := by omega
        have hm7 : m ≤ 7 := by omega
        rw [hm] at hzl
        have HZL := Lib.hid hzl
        clear hzl
        have hzW := hp_lt f1
        have hgW := hp_lt g1
        have f4 := (hg4.block s (by simp; omega) (fun e => by simp [Value.ownBlock] at e; omega)).trans (blk_alloc f1 (.cells #[.int .i64 0] 3))
        have g4 := (hg4.block (s + 1) (by simp; omega) (fun e => by simp [Value.ownBlock] at e; omega)).trans (blk_alloc g1 (.cells #[.int .i64 0] 3))
        obtain ⟨bz, oz, e0, hcz, hzk⟩ := (HZ.out).cellk h1
        cases e0
        have hbz : ∀ k, k < l1.length → w4.cell? ⟨bz, oz + k, none⟩ = some (.int .i64 (l1.getD k 0)) := fun k hk => by
          have hc0 := hzk k hk
          have hlt := World.block_lt_of_cell? _ _ hc0
          have hlt' : bz < w3.heap.size := hlt
          refine (World.cell?_of_block (a := ⟨bz, oz + k, none⟩) ((hg4.block bz (by simp; omega) (fun e => by simp [Value.ownBlock] at e; omega)).trans (Below.heap_alloc _ _ _ hlt'))).trans hc0
        have HZK := Lib.hid hbz
        have HQK := Lib.hid hqk
        have cur5 := psh hb4 (by have := cur.size; omega) (.cells #[.slice (some ⟨bq, oq, none⟩) lq cq] 22)
        have f5 := blk_alloc f4 (.cells #[.slice (some ⟨bq, oq, none⟩) lq cq] 22)
        obtain ⟨z0, z1, z2, z3⟩ := cells2 f5
        have HPL : Hid (lq = p.length + 1) := Lib.hid (by rw [← hlq]; rfl)
        clear hbz hqk hzk r0 r1 hd1 hat hlq z0 z1 z2 z3
        obtain ⟨z0, z1, z2, z3⟩ := cells2 f5
        subst hnm
        go_wp2_with fail
        go_at_call 56
        refine (callsIn_wide.1 (all_in 19 _ _ _)).mono ?_
        rintro e w6 ⟨rfl, rfl⟩
        go_wp2_with fail
        have ZB6 : Obj := .cells #[.int .i64 ((m : Int) - 1), .slice (some ⟨bz, oz, none⟩) l1.length c1] 27
        have bI := blk_new (w4.alloc (.cells #[.slice (some ⟨bq, oq, none⟩) lq cq] 22)) (.cells #[.int .i64 ((m : Int) - 1), .slice (some ⟨bz, oz, none⟩) l1.length c1] 27)
        have bQ := blk_alloc (blk_new w4 (.cells #[.slice (some ⟨bq, oq, none⟩) lq cq] 22)) (.cells #[.int .i64 ((m : Int) - 1), .slice (some ⟨bz, oz, none⟩) l1.length c1] 27)
        have f6 := blk_alloc f5 (.cells #[.int .i64 ((m : Int) - 1), .slice (some ⟨bz, oz, none⟩) l1.length c1] 27)
        have g6 := blk_alloc (blk_alloc g4 (.cells #[.slice (some ⟨bq, oq, none⟩) lq cq] 22)) (.cells #[.int .i64 ((m : Int) - 1), .slice (some ⟨bz, oz, none⟩) l1.length c1] 27)
        have cur6 := psh cur5 (by have := hb4.size; have := cur.size; omega) (.cells #[.int .i64 ((m : Int) - 1), .slice (some ⟨bz, oz, none⟩) l1.length c1] 27)
        have hb46 := psh (psh (Below.refl w4.heap.size w4) (Nat.le_refl _) (.cells #[.slice (some ⟨bq, oq, none⟩) lq cq] 22)) (Nat.le_refl _) (.cells #[.int .i64 ((m : Int) - 1), .slice (some ⟨bz, oz, none⟩) l1.length c1] 27)
        have hsz6 : ((w4.alloc (.cells #[.slice (some ⟨bq, oq, none⟩) lq cq] 22)).alloc (.cells #[.int .i64 ((m : Int) - 1), .slice (some ⟨bz, oz, none⟩) l1.length c1] 27)).heap.size = w4.heap.size + 2 := by simp
        simp only [World.size_alloc] at bI
        have hs1 : s + 1 < w4.heap.size := by have := hp_lt g4; omega
        obtain ⟨W6, hW6⟩ : ∃ W6, (w4.alloc (.cells #[.slice (some ⟨bq, oq, none⟩) lq cq] 22)).alloc (.cells #[.int .i64 ((m : Int) - 1), .slice (some ⟨bz, oz, none⟩) l1.length c1] 27) = W6 := ⟨_, rfl⟩
        obtain ⟨s3, hs3⟩ : ∃ s3, w3.heap.size = s3 := ⟨_, rfl⟩
        have HZK6 : Hid (∀ k, k < l1.length → W6.cell? ⟨bz, oz + k, none⟩ = some (.int .i64 (l1.getD k 0))) := Lib.hid (fun k hk => by rw [← hW6]; exact cell_below hb46 (HZK.out k hk))
        have HQK6 : Hid (∀ k, k < lq → W6.cell? ⟨bq, oq + k, none⟩ = some (.int .i64 ((0 :: p).getD k 0))) := Lib.hid (fun k hk => by rw [← hW6]; exact cell_below hb46 (HQK.out k hk))
        have hbzlt : bz < W6.heap.size := World.block_lt_of_cell? _ _ (HZK6.out 0 (by rw [HZL.out]; exact Nat.mul_pos hm0 hm0))
        obtain ⟨q, hqs⟩ : ∃ q, w4.heap.size = q := ⟨_, rfl⟩
        simp only [hW6, hqs, hs3] at bI bQ f6 g6 cur6 hsz6 hs1 ⊢
        clear hW6 hb46 HZK HQK z0 z1 z2 z3
        refine wpIn_wide.1 (range_scan (n := 20) (by omega) hm0 hm7 (Bz := q + 1) (rb := s + 1) (fun x => decide ((0 :: p).getD (x / m) 0 - (0 :: p).getD (x % m) 0 > l1.getD x 0)) rfl rfl (hp_cell bI 0 rfl) (by omega) g6
          (fun x Bx => { tmps := #[.agg #[.int .i64 N, .slice A L.length c], .slice ap p.length cp, .pointer (some ⟨s, 0, none⟩), undef, .pointer (some ⟨s + 1, 0, none⟩), .pointer (some ⟨q, 0, none⟩), .int .i64 (x : Int), .pointer (some ⟨Bx, 0, none⟩), .agg #[.int .i64 N, .slice A L.length c], .agg #[.int .i64 ((m : Int) - 1), .slice (some ⟨bz, oz, none⟩) l1.length c1], .agg #[.int .i64 ((m : Int) - 1), .slice (some ⟨bz, oz, none⟩) l1.length c1], .bool false, .bool false, .slice ap p.length cp, .int .i64 ((m : Int) - 1), .pointer (some ⟨s, 0, none⟩), .int .i64 ((m : Int) - 1), .bool false, .bool false, .bool false, .slice ap p.length cp, .bool false, .bool false, .slice (some ⟨s3, 0, none⟩) 1 1, .slice ap p.length cp, .slice (some ⟨bq, oq, none⟩) lq cq, .agg #[.int .i64 ((m : Int) - 1), .slice (some ⟨bz, oz, none⟩) l1.length c1], .func (.func 97) #[] #[.pointer (some ⟨q + 1, 0, none⟩)], .int .i64 (x : Int), .agg #[.int .i64 (Zn.row m x), .int .i64 (Zn.col m x)], undef, undef, undef, undef, undef, undef, undef, undef, undef, undef, undef, undef, undef, undef, undef, undef, undef], defers := [] }) ?assign ?body ?done ?stop)
        case assign =>
          intro l x W K hK
          unfold Zn.enc
          gi_wp2
          exact hK
        case body =>
          intro l x Bx W hx hBx bX hB
          have hxi := Zn.div_lt hx
          have hxj := Nat.mod_lt x hm0
          obtain ⟨i, hi⟩ : ∃ i, x / m = i := ⟨_, rfl⟩
          obtain ⟨j, hj⟩ : ∃ j, x % m = j := ⟨_, rfl⟩
          have hxl : x < l1.length := by rw [HZL.out]; exact hx
          have hil : i < lq := by rw [HPL.out, ← hi]; omega
          have hjl : j < lq := by rw [HPL.out, ← hj]; omega
          obtain ⟨d, hd⟩ : ∃ d, l1.getD x 0 = d := ⟨_, rfl⟩
          obtain ⟨qi, hqi⟩ : ∃ qi, (0 :: p).getD i 0 = qi := ⟨_, rfl⟩
          obtain ⟨qj, hqj⟩ : ∃ qj, (0 :: p).getD j 0 = qj := ⟨_, rfl⟩
          have z1 := cell_below hB (hp_cell f6 1 (v := .slice (some ⟨bz, oz, none⟩) l1.length c1) rfl)
          have y0 := cell_below hB (hp_cell bQ 0 (v := .slice (some ⟨bq, oq, none⟩) lq cq) rfl)
          have p0 : W.cell? ⟨Bx, 0, none⟩ = some (.int .i64 (i : Int)) := by rw [← hi]; exact hp_cell bX 0 rfl
          have p1 : W.cell? ⟨Bx, 1, none⟩ = some (.int .i64 (j : Int)) := by rw [← hj]; exact hp_cell bX 1 rfl
          have d1 := cell_below hB (HZK6.out x hxl)
          have k0 := cell_below hB (HQK6.out i hil)
          have k1 := cell_below hB (HQK6.out j hjl)
          rw [hd] at d1
          rw [hqi] at k0
          rw [hqj] at k1
          have hgr : W.heap[s + 1]? = some (.cells #[.bool false] 4 (0, 0)) := blk_below g6 hB
          have hbi := HIN.out i
          rw [hqi] at hbi
          have hbj := HIN.out j
          rw [hqj] at hbj
          have hsub : IntKind.i64.wrap (qi - qj) = qi - qj := IntWalk.i64_in _ (by omega)
          have hx0 : (0 : Int) ≤ (x : Int) := by omega
          have hx1 : (x : Int) < (l1.length : Int) := by omega
          have hi0 : (0 : Int) ≤ (i : Int) := by omega
          have hi1 : (i : Int) < (lq : Int) := by omega
          have hj0 : (0 : Int) ≤ (j : Int) := by omega
          have hj1 : (j : Int) < (lq : Int) := by omega
          have HPr : Hid (decide ((0 :: p).getD (x / m) 0 - (0 :: p).getD (x % m) 0 > l1.getD x 0) = decide (qi - qj > d)) := Lib.hid (by rw [hi, hj, hqi, hqj, hd])
          clear hi hj hd hqi hqj hbi hbj hxl hil hjl hxi hxj
          gi_wp2_with fail
          refine start_round (n := 17) (S := fun w' => w'.cell? ⟨q, 0, none⟩ = some (.slice (some ⟨bq, oq, none⟩) lq cq) ∧ w'.cell? ⟨Bx, 0, none⟩ = some (.int .i64 (i : Int)) ∧ w'.cell? ⟨Bx, 1, none⟩ = some (.int .i64 (j : Int)) ∧ w'.cell? ⟨bq, oq + i, none⟩ = some (.int .i64 qi) ∧ w'.cell? ⟨bq, oq + j, none⟩ = some (.int .i64 qj) ∧ w'.cell? ⟨s, 1, none⟩ = some (.slice (some ⟨bz, oz, none⟩) l1.length c1) ∧ w'.cell? ⟨bz, oz + x, none⟩ = some (.int .i64 d)) (ds := []) #[false, false, false, false, false, false, false, false, false, false, false, false, false, false, false, false, false] (by kernel_rfl) rfl rfl (by kernel_rfl) (fun ⟨_, _, h⟩ => h) ⟨cell_below ((Below.refl W.heap.size W).drew) y0, cell_below ((Below.refl W.heap.size W).drew) p0, cell_below ((Below.refl W.heap.size W).drew) p1, cell_below ((Below.refl W.heap.size W).drew) k0, cell_below ((Below.refl W.heap.size W).drew) k1, cell_below ((Below.refl W.heap.size W).drew) z1, cell_below ((Below.refl W.heap.size W).drew) d1⟩ (fun hHeld => ?_)
          refine pure_ (i := 1) (N := some 31) (v := ?_) (a' := ?_) #[false, true, false, false, false, false, false, false, false, false, false, false, false, false, false, false, false] rfl rfl (by kernel_rfl) (fun _ _ _ h => h) (Or.inl ⟨by rfl, ?_⟩) ?_ ?_
          rotate_left
          · intro w'
            go_simp
            with_reducible rfl
          rotate_left
          · simp only [Act.put, List.setIfInBounds_toArray, List.set_cons_zero, List.set_cons_succ, i64_w, i32_w]
            rfl
          refine pure_ (i := 6) (N := some 36) (v := ?_) (a' := ?_) #[false, true, false, false, false, false, true, false, false, false, false, false, false, false, false, false, false] rfl rfl (by kernel_rfl) (fun _ _ _ h => h) (Or.inl ⟨by rfl, ?_⟩) ?_ ?_
          rotate_left
          · intro w'
            go_simp
            with_reducible rfl
          rotate_left
          · simp only [Act.put, List.setIfInBounds_toArray, List.set_cons_zero, List.set_cons_succ, i64_w, i32_w]
            rfl
          refine pure_ (i := 11) (N := some 41) (v := ?_) (a' := ?_) #[false, true, false, false, false, false, true, false, false, false, false, true, false, false, false, false, false] rfl rfl (by kernel_rfl) (fun _ _ _ h => h) (Or.inl ⟨by rfl, ?_⟩) ?_ ?_
          rotate_left
          · intro w'
            go_simp
            with_reducible rfl
          rotate_left
          · simp only [Act.put, List.setIfInBounds_toArray, List.set_cons_zero, List.set_cons_succ, i64_w, i32_w]
            rfl
          refine pure_ (i := 13) (N := some 43) (v := ?_) (a' := ?_) #[false, true, false, false, false, false, true, false, false, false, false, true, false, true, false, false, false] rfl rfl (by kernel_rfl) (fun _ _ _ h => h) (Or.inl ⟨by rfl, ?_⟩) ?_ ?_
          rotate_left
          · intro w'
            go_simp
            with_reducible rfl
          rotate_left
          · simp only [Act.put, List.setIfInBounds_toArray, List.set_cons_zero, List.set_cons_succ, i64_w, i32_w]
            rfl
          refine take_ (i := 0) (N := some 30) (v := ?_) (a' := ?_) #[true, true, false, false, false, false, true, false, false, false, false, true, false, true, false, false, false] rfl rfl (by kernel_rfl) (fun _ _ _ h => h) (Or.inl ⟨by rfl, ?_⟩) hHeld ?_ ?_
          rotate_left
          · rintro w' ⟨s0, s1, s2, s3, s4, s5, s6⟩
            go_simp
            with_reducible rfl
          rotate_left
          · simp only [Act.put, List.setIfInBounds_toArray, List.set_cons_zero, List.set_cons_succ, i64_w, i32_w]
            rfl
          refine take_ (i := 2) (N := some 32) (v := ?_) (a' := ?_) #[true, true, true, false, false, false, true, false, false, false, false, true, false, true, false, false, false] rfl rfl (by kernel_rfl) (fun _ _ _ h => h) (Or.inl ⟨by rfl, ?_⟩) hHeld ?_ ?_
          rotate_left
          · rintro w' ⟨s0, s1, s2, s3, s4, s5, s6⟩
            go_simp
            with_reducible rfl
          rotate_left
          · simp only [Act.put, List.setIfInBounds_toArray, List.set_cons_zero, List.set_cons_succ, i64_w, i32_w]
            rfl
          refine pure_ (i := 3) (N := some 33) (v := ?_) (a' := ?_) #[true, true, true, true, false, false, true, false, false, false, false, true, false, true, false, false, false] rfl rfl (by kernel_rfl) (fun _ _ _ h => h) (Or.inl ⟨by rfl, ?_⟩) ?_ ?_
          rotate_left
          · intro w'
            go_simp
            with_reducible rfl
          rotate_left
          · simp only [Act.put, List.setIfInBounds_toArray, List.set_cons_zero, List.set_cons_succ, i64_w, i32_w]
            rfl
          refine take_ (i := 4) (N := some 34) (v := ?_) (a' := ?_) #[true, true, true, true, true, false, true, false, false, false, false, true, false, true, false, false, false] rfl rfl (by kernel_rfl) (fun _ _ _ h => h) (Or.inl ⟨by rfl, ?_⟩) hHeld ?_ ?_
          rotate_left
          · rintro w' ⟨s0, s1, s2, s3, s4, s5, s6⟩
            go_simp
            with_reducible rfl
          rotate_left
          · simp only [Act.put, List.setIfInBounds_toArray, List.set_cons_zero, List.set_cons_succ, i64_w, i32_w]
            rfl
          refine take_ (i := 5) (N := some 35) (v := ?_) (a' := ?_) #[true, true, true, true, true, true, true, false, false, false, false, true, false, true, false, false, false] rfl rfl (by kernel_rfl) (fun _ _ _ h => h) (Or.inl ⟨by rfl, ?_⟩) hHeld ?_ ?_
          rotate_left
          · rintro w' ⟨s0, s1, s2, s3, s4, s5, s6⟩
            go_simp
            with_reducible rfl
          rotate_left
          · simp only [Act.put, List.setIfInBounds_toArray, List.set_cons_zero, List.set_cons_succ, i64_w, i32_w]
            rfl
          refine take_ (i := 7) (N := some 37) (v := ?_) (a' := ?_) #[true, true, true, true, true, true, true, true, false, false, false, true, false, true, false, false, false] rfl rfl (by kernel_rfl) (fun _ _ _ h => h) (Or.inl ⟨by rfl, ?_⟩) hHeld ?_ ?_
          rotate_left
          · rintro w' ⟨s0, s1, s2, s3, s4, s5, s6⟩
            go_simp
            with_reducible rfl
          rotate_left
          · simp only [Act.put, List.setIfInBounds_toArray, List.set_cons_zero, List.set_cons_succ, i64_w, i32_w]
            rfl
          refine pure_ (i := 8) (N := some 38) (v := ?_) (a' := ?_) #[true, true, true, true, true, true, true, true, true, false, false, true, false, true, false, false, false] rfl rfl (by kernel_rfl) (fun _ _ _ h => h) (Or.inl ⟨by rfl, ?_⟩) ?_ ?_
          rotate_left
          · intro w'
            go_simp
            with_reducible rfl
          rotate_left
          · simp only [Act.put, List.setIfInBounds_toArray, List.set_cons_zero, List.set_cons_succ, i64_w, i32_w]
            rfl
          refine take_ (i := 9) (N := some 39) (v := ?_) (a' := ?_) #[true, true, true, true, true, true, true, true, true, true, false, true, false, true, false, false, false] rfl rfl (by kernel_rfl) (fun _ _ _ h => h) (Or.inl ⟨by rfl, ?_⟩) hHeld ?_ ?_
          rotate_left
          · rintro w' ⟨s0, s1, s2, s3, s4, s5, s6⟩
            go_simp
            with_reducible rfl
          rotate_left
          · simp only [Act.put, List.setIfInBounds_toArray, List.set_cons_zero, List.set_cons_succ, i64_w, i32_w]
            rfl
          refine pure_ (i := 10) (N := some 40) (v := ?_) (a' := ?_) #[true, true, true, true, true, true, true, true, true, true, true, true, false, true, false, false, false] rfl rfl (by kernel_rfl) (fun _ _ _ h => h) (Or.inl ⟨by rfl, ?_⟩) ?_ ?_
          rotate_left
          · intro w'
            go_simp
            with_reducible rfl
          rotate_left
          · simp only [Act.put, List.setIfInBounds_toArray, List.set_cons_zero, List.set_cons_succ, i64_w, i32_w]
            rfl
          refine take_ (i := 12) (N := some 42) (v := ?_) (a' := ?_) #[true, true, true, true, true, true, true, true, true, true, true, true, true, true, false, false, false] rfl rfl (by kernel_rfl) (fun _ _ _ h => h) (Or.inl ⟨by rfl, ?_⟩) hHeld ?_ ?_
          rotate_left
          · rintro w' ⟨s0, s1, s2, s3, s4, s5, s6⟩
            go_simp
            with_reducible rfl
          rotate_left
          · simp only [Act.put, List.setIfInBounds_toArray, List.set_cons_zero, List.set_cons_succ, i64_w, i32_w]
            rfl
          refine pure_ (i := 14) (N := some 44) (v := ?_) (a' := ?_) #[true, true, true, true, true, true, true, true, true, true, true, true, true, true, true, false, false] rfl rfl (by kernel_rfl) (fun _ _ _ h => h) (Or.inl ⟨by rfl, ?_⟩) ?_ ?_
          rotate_left
          · intro w'
            go_simp
            with_reducible rfl
          rotate_left
          · simp only [Act.put, List.setIfInBounds_toArray, List.set_cons_zero, List.set_cons_succ, i64_w, i32_w]
            rfl
          refine take_ (i := 15) (N := some 45) (v := ?_) (a' := ?_) #[true, true, true, true, true, true, true, true, true, true, true, true, true, true, true, true, false] rfl rfl (by kernel_rfl) (fun _ _ _ h => h) (Or.inl ⟨by rfl, ?_⟩) hHeld ?_ ?_
          rotate_left
          · rintro w' ⟨s0, s1, s2, s3, s4, s5, s6⟩
            go_simp
            with_reducible rfl
          rotate_left
          · simp only [Act.put, List.setIfInBounds_toArray, List.set_cons_zero, List.set_cons_succ, i64_w, i32_w]
            rfl
          refine pure_ (i := 16) (N := some 46) (v := ?_) (a' := ?_) #[true, true, true, true, true, true, true, true, true, true, true, true, true, true, true, true, true] rfl rfl (by kernel_rfl) (fun _ _ _ h => h) (Or.inl ⟨by rfl, ?_⟩) ?_ ?_
          rotate_left
          · intro w'
            go_simp
            with_reducible rfl
          rotate_left
          · simp only [Act.put, List.setIfInBounds_toArray, List.set_cons_zero, List.set_cons_succ, i64_w, i32_w]
            rfl
          refine done_ (by kernel_rfl) ?_
          have hgd : W.drew.heap[s + 1]? = some (.cells #[.bool false] 4 (0, 0)) := hgr
          have r0 := hp_cell hgd 0 (v := .bool false) rfl
          have r1 := hp_free hgd 0
          by_cases hgt : d < qi - qj
          · gi_wp2_with fail
            exact ⟨by rw [HPr.out]; exact decide_eq_true hgt, gtrans (gset W (s + 1) 0 (.bool false)) (grown_of_below ((Below.refl _ (W.setCell ⟨s + 1, 0, none⟩ (.bool false))).drew) _), by show (W.setCell ⟨s + 1, 0, none⟩ (.bool false)).heap[s + 1]? = _; rw [blk_set hgr 0 (.bool false)]; rfl⟩
          · have hle := of_decide_eq_false (HPr.out.trans (decide_eq_false hgt))
            have hle' : (0 :: p).getD (x / m) 0 - (0 :: p).getD (x % m) 0 ≤ l1.getD x 0 := by omega
            gi_wp2_with fail
            exact ⟨by simpa using hle', (Below.refl W.heap.size W).drew⟩
        case done =>
          intro Dm W hDm hB hall hK
          dsimp only
          have hgr : W.heap[s + 1]? = some (.cells #[.bool false] 4 (0, 0)) := blk_below g6 hB
          have r0 := hp_cell hgr 0 (v := .bool false) rfl
          have r1 := hp_free hgr 0
          have cur7 := cur6.trans (hB.mono (by omega))
          have hrt : r = true := by
            rw [← HR.out]
            unfold Zn.hasC
            rw [HALL.out, decide_eq_false h1, decide_eq_true hln, hm]
            simp only [Bool.not_false, Bool.true_and, List.all_eq_true, decide_eq_true_eq]
            intro x hx
            have := hall x (List.mem_range.1 hx)
            have := of_decide_eq_false this
            omega
          subst hrt
          have M1 : Marks s W [Dm] := Marks.nil.cons (W0 := W6) ⟨List.nodup_nil, fun _ h => by cases h⟩ (by omega) hDm hK
          have HM := Lib.hid (M1.set (j := 0) hgr (.bool true))
          have hg2 := blk_set hgr 0 (.bool true)
          have HC7 := Lib.hid (cur7.setCell (p := ⟨s + 1, 0, none⟩) (by simp) (.bool true))
          clear hall hK M1
          go_wp2_with fail
          refine leaves_marks (s := s) [Dm] _ HM.out (by have := HC7.out.size; omega) (fun W' hb hc => ⟨_, bret rfl _ _ (s + 1) (b := true) (hc _ _ hg2 rfl) rfl, rfl, ?_⟩)
          rw [hs]
          exact HC7.out.trans hb
        case stop =>
          intro Dm W hDm hG hr2 hex hK
          have hrt : r = false := by
            rw [← HR.out]
            unfold Zn.hasC
            rw [HALL.out, decide_eq_false h1, decide_eq_true hln, hm]
            obtain ⟨x, hx, hx2⟩ := hex
            have hx2 := of_decide_eq_true hx2
            cases hc : (List.range (m * m)).all fun x => decide ((0 :: p).getD (x / m) 0 - (0 :: p).getD (x % m) 0 ≤ l1.getD x 0)
            · rfl
            · have := of_decide_eq_true (List.all_eq_true.1 hc x (List.mem_range.2 hx))
              omega
          subst hrt
          have cur7 := gbelow cur6 hG (by omega) (by omega)
          have hsW := hG.size
          have M1 : Marks s W [Dm] := Marks.nil.cons (W0 := W6) ⟨List.nodup_nil, fun _ h => by cases h⟩ (by omega) hDm hK
          have HM := Lib.hid M1
          have HC7 := Lib.hid cur7
          clear hK M1 hex
          dsimp only
          gi_wp2_with fail
          refine leaves_marks (s := s) [Dm] _ HM.out (by omega) (fun W' hb hc => ⟨_, bret rfl _ _ (s + 1) (b := false) (hc _ _ hr2 rfl) rfl, rfl, ?_⟩)
          rw [hs]
          exact HC7.out.trans hb
      · have hr0 : r = false := by
          rw [← HR.out]
          unfold Zn.hasC
          have : p.all Zn.inB = false := by
            cases hc : p.all Zn.inB
            · rfl
            · rw [List.any_eq_true] at hbb
              obtain ⟨x, hx, h2⟩ := hbb
              rw [List.all_eq_true.1 hc x hx] at h2
              cases h2
          rw [this]
          simp
        subst hr0
        have HBB := Lib.hid hbb
        clear HR hbb
        go_wp2_with (first | (go_at_call 68; refine (none_any HZ.out.zat).mono ?_; rw [hd1]; rintro e w2 ⟨rfl, hb2⟩; replace cur := cur.trans (hb2.mono (by have := cur.size; omega)); have HZ := Lib.hid (HZ.out.below hb2); replace f1 := blk_below f1 hb2; replace g1 := blk_below g1 hb2; obtain ⟨z0, z1, z2, z3⟩ := cells2 f1; have r0 := hp_cell g1 0 rfl; have r1 := hp_free g1 0; clear hb2) | (go_at_call 74; refine (contains_any p _ (HP.out.below (by rw [hs]; exact cur)) _ (by first | exact HBB.out | exact hbb)).mono ?_; rintro e w3 ⟨rfl, hb3⟩; replace cur := cur.trans (hb3.mono (by have := cur.size; omega)); have HZ := Lib.hid (HZ.out.below hb3); replace f1 := blk_below f1 hb3; replace g1 := blk_below g1 hb3; obtain ⟨z0, z1, z2, z3⟩ := cells2 f1; have r0 := hp_cell g1 0 rfl; have r1 := hp_free g1 0; clear hb3))
        refine ⟨_, bret rfl _ _ (s + 1) (b := false) (by rw [blk_set g1 0 (.bool false)]; rfl) rfl, rfl, ?_⟩; first | exact cur.setCell (p := ⟨s + 1, 0, none⟩) (by simp) _ | (rw [hs]; exact cur.setCell (p := ⟨s + 1, 0, none⟩) (by simp) _)
    · have hr0 : r = false := by rw [← HR.out]; unfold Zn.hasC; simp [hln]
      subst hr0
      clear HR
      go_wp2_with (first | (go_at_call 68; refine (none_any HZ.out.zat).mono ?_; rw [hd1]; rintro e w2 ⟨rfl, hb2⟩; replace cur := cur.trans (hb2.mono (by have := cur.size; omega)); have HZ := Lib.hid (HZ.out.below hb2); replace f1 := blk_below f1 hb2; replace g1 := blk_below g1 hb2; obtain ⟨z0, z1, z2, z3⟩ := cells2 f1; have r0 := hp_cell g1 0 rfl; have r1 := hp_free g1 0; clear hb2) | (go_at_call 74; refine (contains_any p _ (HP.out.below (by rw [hs]; exact cur)) _ (by first | exact HBB.out | exact hbb)).mono ?_; rintro e w3 ⟨rfl, hb3⟩; replace cur := cur.trans (hb3.mono (by have := cur.size; omega)); have HZ := Lib.hid (HZ.out.below hb3); replace f1 := blk_below f1 hb3; replace g1 := blk_below g1 hb3; obtain ⟨z0, z1, z2, z3⟩ := cells2 f1; have r0 := hp_cell g1 0 rfl; have r1 := hp_free g1 0; clear hb3))
      refine ⟨_, bret rfl _ _ (s + 1) (b := false) (by rw [blk_set g1 0 (.bool false)]; rfl) rfl, rfl, ?_⟩; first | exact cur.setCell (p := ⟨s + 1, 0, none⟩) (by simp) _ | (rw [hs]; exact cur.setCell (p := ⟨s + 1, 0, none⟩) (by simp) _)
  · have h1 : l1 = [] := of_decide_eq_true hd1
    have hr0 : r = false := by rw [← HR.out]; unfold Zn.hasC; rw [hd1]; rfl
    subst hr0
    clear HR h1
    go_wp2_with (first | (go_at_call 68; refine (none_any HZ.out.zat).mono ?_; rw [hd1]; rintro e w2 ⟨rfl, hb2⟩; replace cur := cur.trans (hb2.mono (by have := cur.size; omega)); have HZ := Lib.hid (HZ.out.below hb2); replace f1 := blk_below f1 hb2; replace g1 := blk_below g1 hb2; obtain ⟨z0, z1, z2, z3⟩ := cells2 f1; have r0 := hp_cell g1 0 rfl; have r1 := hp_free g1 0; clear hb2) | (go_at_call 74; refine (contains_any p _ (HP.out.below (by rw [hs]; exact cur)) _ (by first | exact HBB.out | exact hbb)).mono ?_; rintro e w3 ⟨rfl, hb3⟩; replace cur := cur.trans (hb3.mono (by have := cur.size; omega)); have HZ := Lib.hid (HZ.out.below hb3); replace f1 := blk_below f1 hb3; replace g1 := blk_below g1 hb3; obtain ⟨z0, z1, z2, z3⟩ := cells2 f1; have r0 := hp_cell g1 0 rfl; have r1 := hp_free g1 0; clear hb3))
    refine ⟨_, bret rfl _ _ (s + 1) (b := false) (by rw [blk_set g1 0 (.bool false)]; rfl) rfl, rfl, ?_⟩; first | exact cur.setCell (p := ⟨s + 1, 0, none⟩) (by simp) _ | (rw [hs]; exact cur.setCell (p := ⟨s + 1, 0, none⟩) (by simp) _)
end Go.Proofs.YtjhccmjgfngkcaaDoor.PZoneSame
