/- Walk of the law NodeAlike: it answers true. -/
import Derived.Test.YtknoigebkpapoaaDoorAk
import Derived.Deep.RegionHeld3
set_option linter.unusedVariables false
set_option linter.unusedSimpArgs false
namespace Go.Proofs.YtknoigebkpapoaaDoor
open Go.RowKit Go.Deep
variable {w : World}

set_option maxRecDepth 100000 in
set_option maxHeartbeats 8000000 in
theorem nodeAlike_walk (v1 v2 : Value) (v : Int) (xs ys : List Nd) (hg : ErrT w) (h : Ops w v1 xs) (h2 : Ops w v2 ys) :
    Calls Tryd.prog 9 #[v1, v2, .int .i64 v] w fun e w' => e = .returned (.bool true) ∧ Below w.heap.size w w' := by
  have HO := Lib.hid h
  have HG := Lib.hid hg
  obtain ⟨ao, c, rfl, hc, hc2, _⟩ := h
  obtain ⟨ap, d, rfl, hd, hd2, hcell⟩ := h2
  unfold maxLen at hc2 hd2
  have HC := Lib.hid hcell
  clear hg hcell
  obtain ⟨i0, hi0, hz0, hz1, hz2⟩ := info_parts info_node
  go_enter Tryd.func9, Tryd.ntmps9
  go_wp2_with fail
  refine (build5_any _ xs 200 HO.out).mono ?_
  rw [show max (200 : Int) 0 = 200 from rfl]
  rintro e w1 ⟨hb1, ⟨hl, rfl⟩ | ⟨hl, b, v8, S0, rfl, A, hS, O, hv8, hL, hR⟩⟩
  · have HB1 := Lib.hid hb1
    have HG1 := Lib.hid (HG.out.below hb1 HG.out.lt)
    clear hb1
    go_wp2_with fail
    refine (alive05 HG1.out).mono ?_
    rintro e w2 ⟨rfl, hb2⟩
    go_wp2_with fail
    go_ret
    exact ⟨rfl, Below.seq HB1.out (Nat.le_refl _) hb2⟩
  · have HB1 := Lib.hid hb1
    have HG1 := Lib.hid (HG.out.below hb1 HG.out.lt)
    have HH := Lib.hid (Ar.bldR_has 200 xs)
    have HOK := Lib.hid A.ok
    have hI := O.ints
    have hown := fun k hk => ownsRow_block (show w1.ownsRow _ _ _ v8 _ _ from O) (g := k) hk
    have HK : Hid (NKI w w1 b (Ar.bldR 200 xs).1 v8 (Ar.bldR 200 xs).2) := Lib.hid ⟨S0, ⟨A, hS, hb1⟩, hI, fun i hi => ⟨hv8 i hi, (hown i hi).2⟩⟩
    generalize (Ar.bldR 200 xs).1 = L at *
    generalize (Ar.bldR 200 xs).2 = rs at *
    obtain ⟨ar, cr, rfl, hcr, hcr2, _⟩ := O.ints
    unfold maxLen at hcr2
    have HI0 := HK
    clear hb1 A O hv8 hI HK hS hown
    by_cases hm : 60 < ys.length
    · have hm' : (60 : Int) < ys.length := by omega
      clear HI0
      go_wp2_with fail
      refine (alive05 HG1.out).mono ?_
      rintro e w2 ⟨rfl, hb2⟩
      go_wp2_with fail
      go_ret
      exact ⟨rfl, Below.seq HB1.out (Nat.le_refl _) hb2⟩
    · have hm' : (ys.length : Int) ≤ 60 := by omega
      by_cases hv0 : v < 0
      · clear HI0
        go_wp2_with fail
        refine (alive05 HG1.out).mono ?_
        rintro e w2 ⟨rfl, hb2⟩
        go_wp2_with fail
        go_ret
        exact ⟨rfl, Below.seq HB1.out (Nat.le_refl _) hb2⟩
      · have hv0' : 0 ≤ v := by omega
        by_cases hv1 : 12 ≤ v
        · clear HI0
          go_wp2_with fail
          refine (alive05 HG1.out).mono ?_
          rintro e w2 ⟨rfl, hb2⟩
          go_wp2_with fail
          go_ret
          exact ⟨rfl, Below.seq HB1.out (Nat.le_refl _) hb2⟩
        · have hv1' : v < 12 := by omega
          have HGW : Hid (∀ W, Below w.heap.size w W → ErrT W) := Lib.hid (fun W hW => HG.out.below hW HG.out.lt)
          have HLL : Hid (L.length ≤ 60) := Lib.hid hL
          clear HG1 HB1 HO hL
          go_wp2_with fail
          go_loopg [46] rs.length (fun gk i wr => ∃ k : Nat, i = .int .i64 k ∧ k + gk = rs.length ∧ Hid (NKI w wr b L (.slice ar rs.length cr) rs))
          case atStart => exact ⟨0, rfl, by omega, HI0⟩
          case round =>
            clear HI0
            obtain ⟨k, rfl, hk, HI⟩ := hrel
            by_cases hlt : k < rs.length
            · obtain ⟨g, o, rfl, e1⟩ := HI.out.at rfl k hlt
              have hx := HH.out rs[k] (List.getElem_mem hlt)
              generalize rs[k] = x at *
              by_cases hvx : v < Ar.var L x
              · have hmk := HI.out.mk v x x (Ar.mk_same (lim := 200) hv0' hv1' hx hvx) (by have := HLL.out; omega)
                have HMK := Lib.hid hmk
                obtain ⟨z, hz⟩ : ∃ z, Ar.var L x = z := ⟨_, rfl⟩
                rw [hz] at hvx
                have HZ := Lib.hid hz
                have hd2' : decide (z ≤ v) = false := decide_eq_false (by omega)
                clear hz hx hmk
                go_wp2_with fail
                refine HMK.out.mono ?_
                rintro e w5 ⟨ev, rfl, hn, he, -⟩
                obtain rfl := he (by first | trivial | rfl)
                have HN := Lib.hid hn
                clear hn he HMK HI e1
                go_wp2_with fail
                refine (HN.out.var x).mono ?_
                rintro e w6 ⟨rfl, hn⟩
                rw [HZ.out]
                have HN6 := Lib.hid hn
                clear hn HN
                go_wp2_with fail
                refine (HN6.out.var x).mono ?_
                rintro e w7 ⟨rfl, hn⟩
                rw [HZ.out]
                have HN7 := Lib.hid hn
                clear hn HN6
                go_wp2_with fail
                go_roundg (gk - 1)
                case measure => omega
                case rel => exact ⟨k + 1, by go_num, by omega, HN7⟩
              · have hmk := HI.out.mk v x x (Ar.mk_below (lim := 200) hv0' hv1' hvx) (by have := HLL.out; omega)
                have HMK := Lib.hid hmk
                obtain ⟨z, hz⟩ : ∃ z, Ar.var L x = z := ⟨_, rfl⟩
                rw [hz] at hvx
                have HZ := Lib.hid hz
                have hvz : z ≤ v := by omega
                clear hz hx hmk
                go_wp2_with fail
                refine HMK.out.mono ?_
                rintro e w5 ⟨ev, rfl, hn, -, he⟩
                obtain ⟨fb, rfl, hfb⟩ := he (by first | trivial | decide)
                have HN := Lib.hid hn
                have HFb := Lib.hid hfb
                clear hn he HMK HI e1 hfb
                go_wp2_with fail
                obtain ⟨Sx, Ix, -⟩ := id HN.out
                refine (var_any Ix.a x).mono ?_
                rintro e w6 ⟨rfl, hb6⟩
                rw [HZ.out]
                have HN6 := Lib.hid (HN.out.below hb6)
                have HF6 : Hid (FaultAt w6 fb v 51) := Lib.hid ((hb6.block fb (lt_of_heap HFb.out)).trans HFb.out)
                clear hb6 HN HFb Ix
                go_wp2_with fail
                obtain ⟨Sy, Iy, -⟩ := id HN6.out
                refine (var_any Iy.a x).mono ?_
                rintro e w7 ⟨rfl, hb7⟩
                rw [HZ.out]
                have HN7 := Lib.hid (HN6.out.below hb7)
                have HF7 : Hid (FaultAt w7 fb v 51) := Lib.hid ((hb7.block fb (lt_of_heap HF6.out)).trans HF6.out)
                clear hb7 HN6 HF6 Iy
                go_wp2_with fail
                refine (number05_fault 51 v fb (by omega) (HGW.out _ HN7.out.bel) HF7.out).mono ?_
                rintro e w8 ⟨rfl, hb8⟩
                have HN8 := Lib.hid (HN7.out.below hb8)
                clear hb8 HN7 HF7
                go_wp2_with fail
                go_roundg (gk - 1)
                case measure => omega
                case rel => exact ⟨k + 1, by go_num, by omega, HN8⟩
            · have HN0 : Hid (NKN w wr b L (.slice none 0 0) (L.take 0)) := Lib.hid (NKN.of HI.out)
              clear HI
              go_wp2_with fail
              refine (HN0.out.len).mono ?_
              rintro e w' ⟨rfl, rfl⟩
              go_wp2_with fail
              go_loopg [13, 87] L.length (fun gk v13 i wr => ∃ k : Nat, i = .int .i64 k ∧ k + gk = L.length ∧ Hid (NKN w wr b L v13 (L.take k)))
              case atStart => exact ⟨0, rfl, by omega, HN0⟩
              case round =>
                clear HN0
                obtain ⟨k, rfl, hk, HN⟩ := hrel
                by_cases hlt : k < L.length
                · have hTk : L.take (k + 1) = L.take k ++ [L[k]] := List.take_succ_eq_append_getElem hlt
                  have HTk := Lib.hid hTk
                  have HTl : Hid ((L.take k).length = k) := Lib.hid (by rw [List.length_take]; omega)
                  have HGet := Lib.hid (HN.out.get k hlt)
                  have hk60 : k ≤ 60 := by have := HLL.out; omega
                  generalize L[k] = nn at *
                  obtain ⟨nv, nl, nh⟩ := nn
                  generalize L.take k = M at *
                  clear hTk
                  go_wp2_with fail
                  refine HGet.out.mono ?_
                  rintro e w5 ⟨rfl, hn⟩
                  have hx5 := heap_alloc_new w5 (.cells #[.int .i64 nv, .int .i64 nl, .int .i64 nh] 57)
                  have HN5 := Lib.hid (hn.below (Below.push (Below.refl _ _) (Nat.le_refl _) (.cells #[.int .i64 nv, .int .i64 nl, .int .i64 nh] 57)))
                  clear hn HGet HN
                  go_upto_region 16 with fail
                  generalize w5.alloc (.cells #[.int .i64 nv, .int .i64 nl, .int .i64 nh] 57) = w6 at *
                  have x0 : w6.cell? ⟨w5.heap.size, 0, none⟩ = some (.int .i64 nv) := cell_at hx5 0 rfl
                  have x1 : w6.cell? ⟨w5.heap.size, 1, none⟩ = some (.int .i64 nl) := cell_at hx5 1 rfl
                  have x2 : w6.cell? ⟨w5.heap.size, 2, none⟩ = some (.int .i64 nh) := cell_at hx5 2 rfl
                  clear hx5
                  obtain ⟨S6, I6, hO6, hv6⟩ := id HN5.out
                  have HO6 := Lib.hid hO6
                  have hs6 := HN5.out.bel.size
                  clear I6 hO6 hv6
                  go_wp2_with (at_builtin; refine wpList_append_src rfl (.tmp 96) (.tmp 98) 72 rfl w.heap.size 57 i0 (.agg #[.int .i64 0, .int .i64 0, .int .i64 0]) 3 24 Tryd.underlying72 hi0 hz0 hz1 hz2 rfl (by decide) u13 M.length (cellsOf M) rfl (HO6.out.alloc _) _ 1 [.int .i64 nv, .int .i64 nl, .int .i64 nh] rfl ?c2 ?c3 ?c4 ?c5 ?c6 ?_)
                  case c2 =>
                    refine .inr ⟨_, _, rfl, rfl, World.news_of_block (cs := #[.int .i64 nv, .int .i64 nl, .int .i64 nh]) (t := 57) (fr := (0, 0)) ?_⟩
                    have := heap_alloc_new w6 (.cells #[.int .i64 nv, .int .i64 nl, .int .i64 nh] 57)
                    simpa using this
                  case c3 => intro u hu; simp at hu; rcases hu with rfl | rfl | rfl <;> rfl
                  case c4 => have := HTl.out; unfold maxLen; omega
                  case c5 => have := HTl.out; omega
                  case c6 => simp; omega
                  intro v' w7 hown hgrow hnil hblk
                  have HN7 : Hid (NKN w w7 b L v' (M ++ [⟨nv, nl, nh⟩])) := Lib.hid ((HN5.out.below (Below.push (Below.refl _ _) (Nat.le_refl _) _)).push (n := ⟨nv, nl, nh⟩) hown hgrow (hblk.imp id (fun e => ⟨_, e, by simp⟩)))
                  clear hown hgrow hnil hblk HO6 HN5
                  go_wp2_with fail
                  go_roundg (gk - 1)
                  case measure => omega
                  case rel => exact ⟨k + 1, by go_num, by omega, by rw [HTk.out]; exact HN7⟩
                · have hkL : k = L.length := by omega
                  subst hkL
                  rw [List.take_length] at HN
                  obtain ⟨an, cn, rfl, hml⟩ := HN.out.form
                  unfold maxLen at hml
                  have HN0 : Hid (NKN w wr b (Ar.bld 200 L (ys.take 0)) (.slice an L.length cn) L) := HN
                  clear HN
                  go_wp2_with fail
                  go_loopg [103] ys.length (fun gk i wr => ∃ k : Nat, i = .int .i64 k ∧ k + gk = ys.length ∧ Hid (NKN w wr b (Ar.bld 200 L (ys.take k)) (.slice an L.length cn) L))
                  case atStart => exact ⟨0, rfl, by omega, HN0⟩
                  case round =>
                    clear HN0
                    obtain ⟨k, rfl, hk, HN⟩ := hrel
                    by_cases hlt : k < ys.length
                    · obtain ⟨g, o, rfl, hg, c0, c1, c2⟩ := HC.out k hlt
                      have hbw := HN.out.bel
                      replace c0 := (hbw.cell (p := ⟨g, o + k * 3, none⟩) hg).trans c0
                      replace c1 := (hbw.cell (p := ⟨g, o + k * 3 + 1, none⟩) hg).trans c1
                      replace c2 := (hbw.cell (p := ⟨g, o + k * 3 + 2, none⟩) hg).trans c2
                      have hnx := Ar.bld_next (lim := 200) (L := L) hlt
                      have hbl := Ar.bld_len 200 (ys.take k) L
                      rw [List.length_take, Nat.min_eq_left (by omega)] at hbl
                      have hx1 := heap_alloc_new wr (.cells #[.int .i64 ys[k].v, .int .i64 ys[k].l, .int .i64 ys[k].h] 52)
                      have HNa := Lib.hid (HN.out.below (Below.push (Below.refl _ _) (Nat.le_refl _) (.cells #[.int .i64 ys[k].v, .int .i64 ys[k].l, .int .i64 ys[k].h] 52)))
                      generalize Ar.bld 200 L (ys.take k) = Lk at *
                      generalize ys[k] = op at *
                      obtain ⟨ov, ol, oh⟩ := op
                      dsimp only at c0 c1 c2 hnx hx1 HNa
                      obtain ⟨L', x, en, hmk⟩ : ∃ L' x en, Ar.mk 200 Lk ov ol oh = (L', x, en) := ⟨_, _, _, rfl⟩
                      rw [hmk] at hnx
                      have HNX := Lib.hid hnx
                      have HMk := Lib.hid (HNa.out.mk ov ol oh hmk (by have := HLL.out; omega))
                      clear hbw hnx hbl hmk HN HNa
                      go_upto_region 21 with fail
                      generalize wr.alloc (.cells #[.int .i64 ov, .int .i64 ol, .int .i64 oh] 52) = w6 at *
                      have x0 : w6.cell? ⟨wr.heap.size, 0, none⟩ = some (.int .i64 ov) := cell_at hx1 0 rfl
                      have x1 : w6.cell? ⟨wr.heap.size, 1, none⟩ = some (.int .i64 ol) := cell_at hx1 1 rfl
                      have x2 : w6.cell? ⟨wr.heap.size, 2, none⟩ = some (.int .i64 oh) := cell_at hx1 2 rfl
                      clear hx1 c0 c1 c2
                      go_wp2_with fail
                      refine HMk.out.mono ?_
                      rintro e w7 ⟨ev, rfl, hn, -⟩
                      have HN7 := Lib.hid hn
                      clear hn HMk x0 x1 x2
                      go_wp2_with fail
                      go_roundg (gk - 1)
                      case measure => omega
                      case rel => exact ⟨k + 1, by go_num, by omega, by rw [HNX.out]; exact HN7⟩
                    · have hkL : k = ys.length := by omega
                      subst hkL
                      rw [List.take_length] at HN
                      have hpre := Ar.bld_pre 200 ys L
                      have hok := Ar.bld_ok 200 ys L HOK.out
                      have hbl := Ar.bld_len 200 ys L
                      generalize Ar.bld 200 L ys = L2 at *
                      have HPre := Lib.hid hpre
                      have HOk2 := Lib.hid hok
                      have HBl := Lib.hid hbl
                      have HN0 := HN
                      clear hpre hok hbl HN
                      go_wp2_with fail
                      go_loopg [118] L.length (fun gk i wr => ∃ k : Nat, i = .int .i64 k ∧ k + gk = L.length ∧ Hid (NKN w wr b L2 (.slice an L.length cn) L))
                      case atStart => exact ⟨0, rfl, by omega, HN0⟩
                      case round =>
                        clear HN0
                        obtain ⟨k, rfl, hk, HN⟩ := hrel
                        by_cases hlt : k < L.length
                        · obtain ⟨g, rfl, c0, c1, c2⟩ := HN.out.at rfl k hlt
                          have hl2 : k < L2.length := by have := HPre.out.length_le; omega
                          have hmk := Ar.mk_hit (lim := 200) HOk2.out k hl2
                          rw [pre_at HPre.out k hlt hl2] at hmk
                          have hx1 := heap_alloc_new wr (.cells #[.int .i64 L[k].v, .int .i64 L[k].l, .int .i64 L[k].h] 57)
                          have HNa := Lib.hid (HN.out.below (Below.push (Below.refl _ _) (Nat.le_refl _) (.cells #[.int .i64 L[k].v, .int .i64 L[k].l, .int .i64 L[k].h] 57)))
                          generalize L[k] = op at *
                          obtain ⟨ov, ol, oh⟩ := op
                          dsimp only at c0 c1 c2 hx1 HNa hmk
                          have HMk := Lib.hid (HNa.out.mk ov ol oh hmk (by have := HLL.out; have := HBl.out; omega))
                          clear hmk HN HNa hl2
                          go_upto_region 26 with fail
                          generalize wr.alloc (.cells #[.int .i64 ov, .int .i64 ol, .int .i64 oh] 57) = w6 at *
                          have x0 : w6.cell? ⟨wr.heap.size, 0, none⟩ = some (.int .i64 ov) := cell_at hx1 0 rfl
                          have x1 : w6.cell? ⟨wr.heap.size, 1, none⟩ = some (.int .i64 ol) := cell_at hx1 1 rfl
                          have x2 : w6.cell? ⟨wr.heap.size, 2, none⟩ = some (.int .i64 oh) := cell_at hx1 2 rfl
                          clear hx1 c0 c1 c2
                          go_wp2_with fail
                          refine HMk.out.mono ?_
                          rintro e w7 ⟨ev, rfl, hn, he⟩
                          obtain rfl := he (by first | trivial | rfl)
                          have HN7 := Lib.hid hn
                          clear hn he HMk x0 x1 x2
                          go_wp2_with fail
                          go_roundg (gk - 1)
                          case measure => omega
                          case rel => exact ⟨k + 1, by go_num, by omega, HN7⟩
                        · have HB := Lib.hid HN.out.bel
                          have HGx := Lib.hid (HGW.out _ HN.out.bel)
                          clear HN
                          go_wp2_with fail
                          refine (alive05 HGx.out).mono ?_
                          rintro e w2 ⟨rfl, hb2⟩
                          have HB2 := Lib.hid (Below.seq HB.out (Nat.le_refl _) hb2)
                          clear hb2
                          go_wp2_with fail
                          go_ret
                          exact ⟨rfl, HB2.out⟩
end Go.Proofs.YtknoigebkpapoaaDoor
