/- Walk of law 07's run: a script on a manager, and by the document. -/
import Derived.Test.YtiagkbmhfgdffaaBddSplitsDo
import Derived.Test.YtiagkbmhfgdffaaGf
set_option linter.unusedVariables false
set_option linter.unusedSimpArgs false
namespace Go.Proofs.Ytiagkbmhfgdffaa.PBddSplits
open Go Go.RowKit Go.Deep Go.Maps Go.Proofs.YtiagkbmhfgdffaaW.PrintWords Go.Proofs.YtiagkbmhfgdffaaW.PrintLast Go.Proofs.YtiagkbmhfgdffaaW.PrintMore
variable {w w' W : World} {mg : Nat} {lim : Int} {S : Nat → Prop}
def RunPost (w : World) (mg : Nat) (lim : Int) (S : Nat → Prop) (s : R7) (e : Ending) (w' : World) : Prop :=
  ∃ vl vt S', e = .returned (.tuple #[vl, vt, .int .i64 s.full, .bool true]) ∧ RunI w w' mg lim S s vl vt S'
theorem results_tmp4 {fn : Func} {t u v x : Tmp} (h : fn.results = #[.tmp t, .tmp u, .tmp v, .tmp x]) (tmps : Array Value) (P : Program) (w : World) :
    (results fn tmps).run P w = .ok (.tuple #[tmps.getD t undef, tmps.getD u undef, tmps.getD v undef, tmps.getD x undef]) w := by
  simp [results, h]
set_option maxRecDepth 100000 in
set_option maxHeartbeats 16000000 in
theorem run_any (hlim : lim ≤ 65536) (M : Mgr w mg lim [] S) {w0 : World} {v : Value} {xs : List Op7} (ho : Ops7 w0 v xs) (hb0 : Below w0.heap.size w0 w) (hS : ∀ k, S k → w0.heap.size ≤ k) (hx : xs.length ≤ 1000) :
    Calls Try.prog 12 #[.pointer (some ⟨mg, 0, none⟩), v] w (RunPost w mg lim S (runR7 lim xs)) := by
  have HM := Lib.hid M
  have hcell := ops7_away ho hb0 hS
  obtain ⟨ao, c, rfl, hc, hc2, -⟩ := ho
  unfold maxLen at hc2
  have HC := Lib.hid (hcell ao c rfl)
  have HLim := Lib.hid hlim
  clear M hcell hlim hS hb0
  have k1 := heap_alloc_new w (.cells #[.int .i64 (-1), .int .i64 (-2)] 3)
  have kb : Below w.heap.size w (w.alloc (.cells #[.int .i64 (-1), .int .i64 (-2)] 3)) := Below.push (Below.refl _ _) (Nat.le_refl _) _
  go_enter Try.func12, Try.ntmps12
  go_wp2_with fail
  refine (helmsmanref07_Start.calls 4097 _ _ Start_f).mono ?_
  rintro e w2 ⟨vt0, rfl, hN, hb2⟩
  have hsz : (w.alloc (.cells #[.int .i64 (-1), .int .i64 (-2)] 3)).heap.size = w.heap.size.succ := by simp
  rw [hsz] at hN hb2
  have HI0 := Lib.hid (RunI.start HM.out hb2 hN)
  clear hN hb2 hsz k1 kb
  go_wp2_with fail
  go_loopg [8, 9, 10, 21] xs.length (fun gk u8 u9 u10 u21 wr => ∃ (k : Nat) (S' : Nat → Prop), u21 = .int .i64 k ∧ k + gk = xs.length ∧ u10 = .int .i64 (runR7 lim (xs.take k)).full ∧ Hid (RunI w wr mg lim S (runR7 lim (xs.take k)) u8 u9 S'))
  case atStart => exact ⟨0, S, rfl, by omega, rfl, HI0⟩
  case round =>
    clear HI0
    obtain ⟨k, S', rfl, hk, rfl, HI⟩ := hrel
    by_cases hlt : k < xs.length
    · obtain ⟨b, o, rfl, hb, hnb, c0, c1, c2, c3, c4, c5⟩ := HC.out k hlt
      have HSucc := Lib.hid (runR7_take (lim := lim) hlt)
      have HG := Lib.hid (Good.run (lim := lim) (by have := HLim.out; omega) (xs.take k))
      have hlen := runR7_len (lim := lim) (xs.take k)
      rw [List.length_take, Nat.min_eq_left (by omega)] at hlen
      have HLen := Lib.hid hlen
      clear hlen
      generalize runR7 lim (xs.take k) = s at *
      have hbb := HI.out.tch.block b hb hnb
      generalize xs[k] = op at *
      obtain ⟨kd, ov, oa, ob, oc, oy⟩ := op
      dsimp only at c0 c1 c2 c3 c4 c5
      replace c0 := (World.cell?_of_block (w := w) (a := ⟨b, o + k * 6, none⟩) hbb).trans c0
      replace c1 := (World.cell?_of_block (w := w) (a := ⟨b, o + k * 6 + 1, none⟩) hbb).trans c1
      replace c2 := (World.cell?_of_block (w := w) (a := ⟨b, o + k * 6 + 2, none⟩) hbb).trans c2
      replace c3 := (World.cell?_of_block (w := w) (a := ⟨b, o + k * 6 + 3, none⟩) hbb).trans c3
      replace c4 := (World.cell?_of_block (w := w) (a := ⟨b, o + k * 6 + 4, none⟩) hbb).trans c4
      replace c5 := (World.cell?_of_block (w := w) (a := ⟨b, o + k * 6 + 5, none⟩) hbb).trans c5
      have hk1 := heap_alloc_new wr (.cells #[.int .i64 kd, .int .i64 ov, .int .i64 oa, .int .i64 ob, .int .i64 oc, .bool oy] 31)
      have HIa := Lib.hid (HI.out.below (Below.push (Below.refl _ _) (Nat.le_refl _) (.cells #[.int .i64 kd, .int .i64 ov, .int .i64 oa, .int .i64 ob, .int .i64 oc, .bool oy] 31)))
      have HSz : Hid (∀ k, S' k → k < wr.heap.size) := Lib.hid HI.out.m.lt
      have HK1 := Lib.hid hk1
      clear hk1 hnb hbb
      have hroom : s.L.length < 100000000000 := by have := HG.out.room; have := HLim.out; omega
      have HDoes := Lib.hid (does_any (lim := lim) (by have := HLim.out; omega) HIa.out.m hroom HIa.out.l.ints (fun x hx => bo_fits hroom (HG.out.bo x hx)) ⟨kd, ov, oa, ob, oc, oy⟩)
      have HStep := Lib.hid (step_cases (lim := lim) (by have := HLim.out; omega) HG.out ⟨kd, ov, oa, ob, oc, oy⟩)
      have HT4 : Hid (∀ t ∈ s.T, t.length = 4096) := Lib.hid (fun t ht => by
        obtain ⟨i, hi, rfl⟩ := List.mem_iff_getElem.1 ht
        have hl := HG.out.len
        have := (HG.out.sem i (by omega)).len
        simpa [List.getD, hi] using this)
      generalize doesF lim s.L s.l ⟨kd, ov, oa, ob, oc, oy⟩ = r at *
      clear hroom
      go_wp2_with fail
      generalize wr.alloc (.cells #[.int .i64 kd, .int .i64 ov, .int .i64 oa, .int .i64 ob, .int .i64 oc, .bool oy] 31) = wa at *
      refine HDoes.out.mono ?_
      rintro e w3 ⟨ev, rfl, hM3, ht3, he3⟩
      have HI3 := Lib.hid (HIa.out.op hM3 ht3)
      have hx3 := ht3.heap HK1.out (fun h => by have := HSz.out _ h; omega)
      have HE3 := Lib.hid he3
      clear hM3 ht3 he3 HDoes HIa HK1 c0 c1 c2 c3 c4 c5
      have x0 : w3.cell? ⟨wr.heap.size, 0, none⟩ = some (.int .i64 kd) := cell_at hx3 0 rfl
      have x1 : w3.cell? ⟨wr.heap.size, 1, none⟩ = some (.int .i64 ov) := cell_at hx3 1 rfl
      have x2 : w3.cell? ⟨wr.heap.size, 2, none⟩ = some (.int .i64 oa) := cell_at hx3 2 rfl
      have x3 : w3.cell? ⟨wr.heap.size, 3, none⟩ = some (.int .i64 ob) := cell_at hx3 3 rfl
      have x4 : w3.cell? ⟨wr.heap.size, 4, none⟩ = some (.int .i64 oc) := cell_at hx3 4 rfl
      have x5 : w3.cell? ⟨wr.heap.size, 5, none⟩ = some (.bool oy) := cell_at hx3 5 rfl
      clear hx3
      have hTb := Tbs.of_N HI3.out.t
      obtain ⟨av, ct, rfl, -⟩ := id hTb
      have HTb := Lib.hid hTb
      clear hTb
      go_wp2_with fail
      refine (Do_any HTb.out HT4.out ⟨kd, ov, oa, ob, oc, oy⟩).mono ?_
      rintro e w4 ⟨hb4, hcase⟩
      have HI4 := Lib.hid (HI3.out.below hb4)
      have HE4 := Lib.hid (HE3.out.below hb4)
      have HB4 := Lib.hid hb4
      clear hb4 x0 x1 x2 x3 x4 x5 HTb HT4
      obtain ⟨L', x, en⟩ := r
      rcases hcase with ⟨hm, rfl⟩ | ⟨hm, vD, rfl, hRD⟩
      · obtain ⟨hr, hs⟩ : (L', x, en) = (s.L, 0, 1) ∧ stepR7 lim s ⟨kd, ov, oa, ob, oc, oy⟩ = s := by
          rcases HStep.out with ⟨_, h1, h2⟩ | ⟨h1, _⟩ | ⟨h1, _⟩
          · exact ⟨h1, h2⟩
          · rw [hm] at h1; cases h1
          · rw [hm] at h1; cases h1
        simp only [Prod.mk.injEq] at hr
        obtain ⟨rfl, rfl, rfl⟩ := hr
        have HS := Lib.hid hs
        have HIs := Lib.hid (isErr w4 ev 1 1 true (by decide) HE4.out rfl)
        clear hm hs HStep HE3 HE4
        go_wp2_with fail
        refine HIs.out.mono ?_
        rintro e w5 ⟨rfl, rfl⟩
        go_wp2_with fail
        go_roundg (gk - 1)
        case measure => omega
        case rel => exact ⟨k + 1, _, by go_num, by omega, by rw [HSucc.out, HS.out], by rw [HSucc.out, HS.out]; exact HI4⟩
      · rcases HStep.out with ⟨h1, _⟩ | ⟨_, hr, _, hs⟩ | ⟨_, hr, hsem, hs⟩
        · rw [hm] at h1; cases h1
        · simp only [Prod.mk.injEq] at hr
          obtain ⟨rfl, rfl⟩ := hr
          have HS := Lib.hid hs
          have HIs := Lib.hid (isErr w4 ev 50 50 true (by decide) HE4.out rfl)
          have hfl : s.full ≤ 1000 := by have := HLen.out; omega
          clear hm hs HStep HE3 HE4 hRD
          go_wp2_with fail
          refine HIs.out.mono ?_
          rintro e w5 ⟨rfl, rfl⟩
          go_wp2_with fail
          go_roundg (gk - 1)
          case measure => omega
          case rel => exact ⟨k + 1, _, by go_num, by omega, by rw [HSucc.out, HS.out]; go_num, by rw [HSucc.out, HS.out]; exact Lib.hid ⟨HI4.out.m, HI4.out.sub, HI4.out.l, HI4.out.lS, HI4.out.t, HI4.out.tch⟩⟩
        · replace hr : en = 0 := hr
          subst hr
          have he : ev = .nilIface := by
            rcases HE4.out with ⟨_, h⟩ | ⟨h, _⟩ | ⟨h, _⟩
            · exact h
            · exact absurd (show (0 : Int) = 1 from h) (by decide)
            · exact absurd rfl h
          subst he
          have HS := Lib.hid hs
          have HIs := Lib.hid (is_nil 50 w4)
          have HRD := Lib.hid hRD
          obtain ⟨aD, cD, rfl⟩ := Kd.R_slice hRD
          have HL2 := Lib.hid HLen.out
          clear hm hs HStep HE3 HE4 hRD hsem
          go_wp2_with fail
          refine HIs.out.mono ?_
          rintro e w5 ⟨rfl, rfl⟩
          clear HIs
          go_wp2_with (first | ((with_reducible refine gate_builtin (b := .append) (xs := #[.tmp 38, .tmp 40]) rfl ?_); at_builtin; refine print_append_cells (w0 := w4) w.heap.size rfl (.tmp 38) (.tmp 40) 26 3 (.int .i64 0) 1 8 rfl Try.underlying26 inf_int rfl (by decide) (by decide) u8 s.l.length (s.l.map (Value.int .i64)) [.int .i64 x] rfl rfl rfl ?aP ?aO ?aB ?aS ?aL ?_; (case aP => (intro u hu; rw [List.mem_singleton.1 hu]; rfl)); (case aO => exact HI4.out.l); (case aB => exact Below.refl _ _); (case aS => exact HI4.out.tch.size); (case aL => (have := HL2.out; omega)); intro v1 w6 hown hb6 hg6 hat6; have HI6 := Lib.hid (HI4.out.pushl hown hg6 hat6); have HF6 := Lib.hid (HI3.out.fk (v1 := v1) HRD.out HB4.out.size hg6 hat6); clear hown hb6 hg6 hat6) | ((with_reducible refine gate_builtin (b := .append) (xs := #[.tmp 42, .tmp 44]) rfl ?_); at_builtin; refine Kd.N_append (Kd.slice 4 Kd.bool) (w0 := w6) w.heap.size rfl (.tmp 42) (.tmp 44) 27 34 (.slice none 0 0) 24 rfl Try.underlying27 inf_tab rfl (by decide) (by decide) (.slice av s.T.length ct) s.T (doT s.T ⟨kd, ov, oa, ob, oc, oy⟩) [.slice aD (doT s.T ⟨kd, ov, oa, ob, oc, oy⟩).length cD] _ _ rfl rfl HF6.out.1 HF6.out.2 HI6.out.fresh HI6.out.t ?bB ?bS ?bL ?_; (case bB => exact Below.refl _ _); (case bS => exact HI6.out.tch.size); (case bL => (have := HL2.out; omega)); intro v2 w7 hn7 hb7 hg7 hat7; have HI7 := Lib.hid (HI6.out.pusht hn7 hg7); clear hn7 hb7 hg7 hat7))
          go_roundg (gk - 1)
          case measure => omega
          case rel => exact ⟨k + 1, _, by go_num, by omega, by rw [HSucc.out, HS.out], by rw [HSucc.out, HS.out]; exact HI7⟩
    · have hkx : k = xs.length := by omega
      subst hkx
      rw [List.take_length] at HI ⊢
      go_wp2_with fail
      (try simp only [Exit.inBlock, Exit.then])
      refine bodyPost_ret (results_tmp4 rfl _ _ _) rfl ?_
      exact ⟨_, _, _, rfl, HI.out⟩
end Go.Proofs.Ytiagkbmhfgdffaa.PBddSplits
