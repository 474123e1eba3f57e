/- Walk of the law NodeStays: it answers true. -/
import Derived.Test.YtknoigebkpapoaaDoorCp
import Derived.Deep.RegionHeld3
set_option linter.unusedVariables false
set_option linter.unusedSimpArgs false
namespace Go.Proofs.YtknoigebkpapoaaDoor
open Go.RowKit Go.Deep
variable {w : World}
attribute [local go_sem high] eq_nd

set_option maxRecDepth 100000 in
set_option maxHeartbeats 8000000 in
theorem nodeStays_walk (limit : Int) (v1 v2 : Value) (xs ys : List Nd) (hg : ErrT w) (h : Ops w v1 xs) (h2 : Ops w v2 ys) :
    Calls Tryd.prog 10 #[.int .i64 limit, v1, v2] w fun e w' => e = .returned (.bool true) ∧ Below w.heap.size w w' := by
  have HO := Lib.hid h
  have HG := Lib.hid hg
  obtain ⟨ao, c, rfl, hc, hc2, _⟩ := h
  obtain ⟨ap, d, rfl, hd, hd2, hcell⟩ := h2
  unfold maxLen at hc2 hd2
  have HC := Lib.hid hcell
  clear hg hcell
  go_enter Tryd.func10, Tryd.ntmps10
  go_wp2_with fail
  refine (build5_any _ xs limit HO.out).mono ?_
  generalize max limit 0 = lim
  rintro e w1 ⟨hb1, ⟨hl, rfl⟩ | ⟨hl, b, v8, S0, rfl, A, hS, O, hv8, hL, hR⟩⟩
  · have HB1 := Lib.hid hb1
    have HG1 := Lib.hid (HG.out.below hb1 HG.out.lt)
    clear hb1
    go_wp2_with fail
    refine (alive05 HG1.out).mono ?_
    rintro e w2 ⟨rfl, hb2⟩
    go_wp2_with fail
    go_ret
    exact ⟨rfl, Below.seq HB1.out (Nat.le_refl _) hb2⟩
  · have HB1 := Lib.hid hb1
    have HG1 := Lib.hid (HG.out.below hb1 HG.out.lt)
    have HK : Hid (NK w w1 b lim (Ar.bldR lim xs).1 S0) := Lib.hid ⟨A, hS, hb1⟩
    generalize (Ar.bldR lim xs).1 = L at *
    clear hb1 A O hv8 hR hS
    by_cases hm : 60 < ys.length
    · have hm' : (60 : Int) < ys.length := by omega
      go_wp2_with fail
      refine (alive05 HG1.out).mono ?_
      rintro e w2 ⟨rfl, hb2⟩
      go_wp2_with fail
      go_ret
      exact ⟨rfl, Below.seq HB1.out (Nat.le_refl _) hb2⟩
    · have hm' : (ys.length : Int) ≤ 60 := by omega
      have HGW : Hid (∀ W, Below w.heap.size w W → ErrT W) := Lib.hid (fun W hW => HG.out.below hW HG.out.lt)
      have HLL : Hid (L.length ≤ 60) := Lib.hid hL
      clear HG1 HB1 HO hL
      go_wp2_with fail
      refine HK.out.copy.mono ?_
      rintro e w2 ⟨cc, rfl, hT⟩
      have HN0 : Hid (TwoA w w2 b cc lim L (Ar.bld lim L (ys.take 0))) := Lib.hid hT
      clear hT HK
      go_wp2_with fail
      refine HN0.out.len.mono ?_
      rintro e w' ⟨rfl, rfl⟩
      go_wp2_with fail
      go_loopg [47] ys.length (fun gk i wr => ∃ k : Nat, i = .int .i64 k ∧ k + gk = ys.length ∧ Hid (TwoA w wr b cc lim L (Ar.bld lim L (ys.take k))))
      case atStart => exact ⟨0, rfl, by omega, HN0⟩
      case round =>
        clear HN0
        obtain ⟨k, rfl, hk, HN⟩ := hrel
        by_cases hlt : k < ys.length
        · obtain ⟨g, o, rfl, hg, c0, c1, c2⟩ := HC.out k hlt
          have hbw := HN.out.bel
          replace c0 := (hbw.cell (p := ⟨g, o + k * 3, none⟩) hg).trans c0
          replace c1 := (hbw.cell (p := ⟨g, o + k * 3 + 1, none⟩) hg).trans c1
          replace c2 := (hbw.cell (p := ⟨g, o + k * 3 + 2, none⟩) hg).trans c2
          have hnx := Ar.bld_next (lim := lim) (L := L) hlt
          have hbl := Ar.bld_len lim (ys.take k) L
          rw [List.length_take, Nat.min_eq_left (by omega)] at hbl
          have hx1 := heap_alloc_new wr (.cells #[.int .i64 ys[k].v, .int .i64 ys[k].l, .int .i64 ys[k].h] 52)
          have HNa := Lib.hid (HN.out.below (Below.push (Below.refl _ _) (Nat.le_refl _) (.cells #[.int .i64 ys[k].v, .int .i64 ys[k].l, .int .i64 ys[k].h] 52)))
          generalize Ar.bld lim L (ys.take k) = Lk at *
          generalize ys[k] = op at *
          obtain ⟨ov, ol, oh⟩ := op
          dsimp only at c0 c1 c2 hnx hx1 HNa
          have HNX := Lib.hid hnx
          have HMk := Lib.hid (HNa.out.swap.mk ov ol oh (by have := HLL.out; omega))
          clear hbw hnx hbl HN HNa
          go_upto_region 11 with fail
          generalize wr.alloc (.cells #[.int .i64 ov, .int .i64 ol, .int .i64 oh] 52) = w6 at *
          have x0 : w6.cell? ⟨wr.heap.size, 0, none⟩ = some (.int .i64 ov) := cell_at hx1 0 rfl
          have x1 : w6.cell? ⟨wr.heap.size, 1, none⟩ = some (.int .i64 ol) := cell_at hx1 1 rfl
          have x2 : w6.cell? ⟨wr.heap.size, 2, none⟩ = some (.int .i64 oh) := cell_at hx1 2 rfl
          clear hx1 c0 c1 c2
          go_wp2_with fail
          refine HMk.out.mono ?_
          rintro e w7 ⟨yy, ev, rfl, hn⟩
          have HN7 := Lib.hid hn.swap
          clear hn HMk x0 x1 x2
          go_wp2_with fail
          go_roundg (gk - 1)
          case measure => omega
          case rel => exact ⟨k + 1, by go_num, by omega, by rw [HNX.out]; exact HN7⟩
        · have hkL : k = ys.length := by omega
          subst hkL
          rw [List.take_length] at HN
          have hpre := Ar.bld_pre lim ys L
          obtain ⟨L2, hL2⟩ : ∃ L2, Ar.bld lim L ys = L2 := ⟨_, rfl⟩
          rw [hL2] at HN hpre
          have HPre := Lib.hid hpre
          have HL2 := Lib.hid hL2
          have HB2L : Hid (L2.length ≤ 120) := Lib.hid (by have := Ar.bld_len lim ys L; rw [hL2] at this; have := HLL.out; omega)
          have HN0 := HN
          clear hpre hL2 HN
          go_wp2_with fail
          go_loopg [61] L.length (fun gk i wr => ∃ k : Nat, i = .int .i64 k ∧ k + gk = L.length ∧ Hid (TwoA w wr b cc lim L L2))
          case atStart => exact ⟨0, rfl, by omega, HN0⟩
          case round =>
            clear HN0
            obtain ⟨k, rfl, hk, HN⟩ := hrel
            by_cases hlt : k < L.length
            · have hk60 : k ≤ 60 := by have := HLL.out; omega
              have hl2 : k < L2.length := by have := HPre.out.length_le; omega
              have hpk := pre_at HPre.out k hlt hl2
              have HG1 := Lib.hid (HN.out.get k hlt)
              have HG2 : Hid (∀ W, TwoA w W b cc lim L L2 → Calls Tryd.prog 29 #[.pointer (some ⟨cc, 0, none⟩), .int .i64 k] W fun e w' => e = .returned (.tuple #[.agg #[.int .i64 L[k].v, .int .i64 L[k].l, .int .i64 L[k].h], .bool true]) ∧ TwoA w w' b cc lim L L2 ∧ Below W.heap.size W w') := Lib.hid (fun W h => by
                have := h.swap.get k hl2
                rw [hpk] at this
                exact this.mono (fun _ _ hp => ⟨hp.1, hp.2.1.swap, hp.2.2⟩))
              clear hpk hl2
              generalize L[k] = nn at *
              obtain ⟨nv, nl, nh⟩ := nn
              have hE : ndEq nv nl nh nv nl nh = true := (ndEq_iff ⟨nv, nl, nh⟩ ⟨nv, nl, nh⟩).2 rfl
              go_wp2_with fail
              refine HG1.out.mono ?_
              rintro e w5 ⟨rfl, hn, -⟩
              have hx5 := heap_alloc_new w5 (.cells #[.int .i64 nv, .int .i64 nl, .int .i64 nh] 57)
              have HN5 := Lib.hid (hn.below (Below.push (Below.refl _ _) (Nat.le_refl _) (.cells #[.int .i64 nv, .int .i64 nl, .int .i64 nh] 57)))
              clear hn HG1 HN
              go_upto_region 17 with fail
              generalize w5.alloc (.cells #[.int .i64 nv, .int .i64 nl, .int .i64 nh] 57) = w6 at *
              have HX := Lib.hid hx5
              clear hx5
              go_wp2_with fail
              refine (HG2.out _ HN5.out).mono ?_
              rintro e w7 ⟨rfl, hn, hb⟩
              have hx7 := heap_alloc_new w7 (.cells #[.int .i64 nv, .int .i64 nl, .int .i64 nh] 57)
              have hx8 : (w7.alloc (.cells #[.int .i64 nv, .int .i64 nl, .int .i64 nh] 57)).heap[w5.heap.size]? = some (.cells #[.int .i64 nv, .int .i64 nl, .int .i64 nh] 57 (0, 0)) := heap_alloc_lt _ ((hb.block _ (lt_of_heap HX.out)).trans HX.out)
              have HN7 := Lib.hid (hn.below (Below.push (Below.refl _ _) (Nat.le_refl _) (.cells #[.int .i64 nv, .int .i64 nl, .int .i64 nh] 57)))
              clear hn hb HN5 HX HG2
              go_upto_region 18 with fail
              generalize w7.alloc (.cells #[.int .i64 nv, .int .i64 nl, .int .i64 nh] 57) = w8 at *
              have x0 : w8.cell? ⟨w5.heap.size, 0, none⟩ = some (.int .i64 nv) := cell_at hx8 0 rfl
              have x1 : w8.cell? ⟨w5.heap.size, 1, none⟩ = some (.int .i64 nl) := cell_at hx8 1 rfl
              have x2 : w8.cell? ⟨w5.heap.size, 2, none⟩ = some (.int .i64 nh) := cell_at hx8 2 rfl
              have y0 : w8.cell? ⟨w7.heap.size, 0, none⟩ = some (.int .i64 nv) := cell_at hx7 0 rfl
              have y1 : w8.cell? ⟨w7.heap.size, 1, none⟩ = some (.int .i64 nl) := cell_at hx7 1 rfl
              have y2 : w8.cell? ⟨w7.heap.size, 2, none⟩ = some (.int .i64 nh) := cell_at hx7 2 rfl
              clear hx7 hx8
              go_wp2_with fail
              go_roundg (gk - 1)
              case measure => omega
              case rel => exact ⟨k + 1, by go_num, by omega, HN7⟩
            · have HN0 : Hid (TwoA w wr b cc lim (Ar.bld lim L (ys.take 0)) L2) := HN
              clear HN
              go_wp2_with fail
              go_loopg [90] ys.length (fun gk i wr => ∃ k : Nat, i = .int .i64 k ∧ k + gk = ys.length ∧ Hid (TwoA w wr b cc lim (Ar.bld lim L (ys.take k)) L2))
              case atStart => exact ⟨0, rfl, by omega, HN0⟩
              case round =>
                clear HN0
                obtain ⟨k, rfl, hk, HN⟩ := hrel
                by_cases hlt : k < ys.length
                · obtain ⟨g, o, rfl, hg, c0, c1, c2⟩ := HC.out k hlt
                  have hbw := HN.out.bel
                  replace c0 := (hbw.cell (p := ⟨g, o + k * 3, none⟩) hg).trans c0
                  replace c1 := (hbw.cell (p := ⟨g, o + k * 3 + 1, none⟩) hg).trans c1
                  replace c2 := (hbw.cell (p := ⟨g, o + k * 3 + 2, none⟩) hg).trans c2
                  have hnx := Ar.bld_next (lim := lim) (L := L) hlt
                  have hbl := Ar.bld_len lim (ys.take k) L
                  rw [List.length_take, Nat.min_eq_left (by omega)] at hbl
                  have hx1 := heap_alloc_new wr (.cells #[.int .i64 ys[k].v, .int .i64 ys[k].l, .int .i64 ys[k].h] 52)
                  have HNa := Lib.hid (HN.out.below (Below.push (Below.refl _ _) (Nat.le_refl _) (.cells #[.int .i64 ys[k].v, .int .i64 ys[k].l, .int .i64 ys[k].h] 52)))
                  generalize Ar.bld lim L (ys.take k) = Lk at *
                  generalize ys[k] = op at *
                  obtain ⟨ov, ol, oh⟩ := op
                  dsimp only at c0 c1 c2 hnx hx1 HNa
                  have HNX := Lib.hid hnx
                  have HMk := Lib.hid (HNa.out.mk ov ol oh (by have := HLL.out; omega))
                  clear hbw hnx hbl HN HNa
                  go_upto_region 24 with fail
                  generalize wr.alloc (.cells #[.int .i64 ov, .int .i64 ol, .int .i64 oh] 52) = w6 at *
                  have x0 : w6.cell? ⟨wr.heap.size, 0, none⟩ = some (.int .i64 ov) := cell_at hx1 0 rfl
                  have x1 : w6.cell? ⟨wr.heap.size, 1, none⟩ = some (.int .i64 ol) := cell_at hx1 1 rfl
                  have x2 : w6.cell? ⟨wr.heap.size, 2, none⟩ = some (.int .i64 oh) := cell_at hx1 2 rfl
                  clear hx1 c0 c1 c2
                  go_wp2_with fail
                  refine HMk.out.mono ?_
                  rintro e w7 ⟨yy, ev, rfl, hn⟩
                  have HN7 := Lib.hid hn
                  clear hn HMk x0 x1 x2
                  go_wp2_with fail
                  go_roundg (gk - 1)
                  case measure => omega
                  case rel => exact ⟨k + 1, by go_num, by omega, by rw [HNX.out]; exact HN7⟩
                · have hkL : k = ys.length := by omega
                  subst hkL
                  rw [List.take_length] at HN
                  rw [HL2.out] at HN
                  have HN0 := HN
                  clear HN
                  go_wp2_with fail
                  refine HN0.out.len.mono ?_
                  rintro e w' ⟨rfl, rfl⟩
                  go_wp2_with fail
                  go_loopg [105] L2.length (fun gk i wr => ∃ k : Nat, i = .int .i64 k ∧ k + gk = L2.length ∧ Hid (TwoA w wr b cc lim L2 L2))
                  case atStart => exact ⟨0, rfl, by omega, HN0⟩
                  case round =>
                    clear HN0
                    obtain ⟨k, rfl, hk, HN⟩ := hrel
                    by_cases hlt : k < L2.length
                    · have hk60 : k ≤ 120 := by have := HB2L.out; omega
                      have HG1 := Lib.hid (HN.out.get k hlt)
                      have HG2 : Hid (∀ W, TwoA w W b cc lim L2 L2 → Calls Tryd.prog 29 #[.pointer (some ⟨cc, 0, none⟩), .int .i64 k] W fun e w' => e = .returned (.tuple #[.agg #[.int .i64 L2[k].v, .int .i64 L2[k].l, .int .i64 L2[k].h], .bool true]) ∧ TwoA w w' b cc lim L2 L2 ∧ Below W.heap.size W w') := Lib.hid (fun W h => (h.swap.get k hlt).mono (fun _ _ hp => ⟨hp.1, hp.2.1.swap, hp.2.2⟩))
                      generalize L2[k] = nn at *
                      obtain ⟨nv, nl, nh⟩ := nn
                      have hE : ndEq nv nl nh nv nl nh = true := (ndEq_iff ⟨nv, nl, nh⟩ ⟨nv, nl, nh⟩).2 rfl
                      go_wp2_with fail
                      refine HG1.out.mono ?_
                      rintro e w5 ⟨rfl, hn, -⟩
                      have hx5 := heap_alloc_new w5 (.cells #[.int .i64 nv, .int .i64 nl, .int .i64 nh] 57)
                      have HN5 := Lib.hid (hn.below (Below.push (Below.refl _ _) (Nat.le_refl _) (.cells #[.int .i64 nv, .int .i64 nl, .int .i64 nh] 57)))
                      clear hn HG1 HN
                      go_upto_region 30 with fail
                      generalize w5.alloc (.cells #[.int .i64 nv, .int .i64 nl, .int .i64 nh] 57) = w6 at *
                      have HX := Lib.hid hx5
                      clear hx5
                      go_wp2_with fail
                      refine (HG2.out _ HN5.out).mono ?_
                      rintro e w7 ⟨rfl, hn, hb⟩
                      have hx7 := heap_alloc_new w7 (.cells #[.int .i64 nv, .int .i64 nl, .int .i64 nh] 57)
                      have hx8 : (w7.alloc (.cells #[.int .i64 nv, .int .i64 nl, .int .i64 nh] 57)).heap[w5.heap.size]? = some (.cells #[.int .i64 nv, .int .i64 nl, .int .i64 nh] 57 (0, 0)) := heap_alloc_lt _ ((hb.block _ (lt_of_heap HX.out)).trans HX.out)
                      have HN7 := Lib.hid (hn.below (Below.push (Below.refl _ _) (Nat.le_refl _) (.cells #[.int .i64 nv, .int .i64 nl, .int .i64 nh] 57)))
                      clear hn hb HN5 HX HG2
                      go_upto_region 31 with fail
                      generalize w7.alloc (.cells #[.int .i64 nv, .int .i64 nl, .int .i64 nh] 57) = w8 at *
                      have x0 : w8.cell? ⟨w5.heap.size, 0, none⟩ = some (.int .i64 nv) := cell_at hx8 0 rfl
                      have x1 : w8.cell? ⟨w5.heap.size, 1, none⟩ = some (.int .i64 nl) := cell_at hx8 1 rfl
                      have x2 : w8.cell? ⟨w5.heap.size, 2, none⟩ = some (.int .i64 nh) := cell_at hx8 2 rfl
                      have y0 : w8.cell? ⟨w7.heap.size, 0, none⟩ = some (.int .i64 nv) := cell_at hx7 0 rfl
                      have y1 : w8.cell? ⟨w7.heap.size, 1, none⟩ = some (.int .i64 nl) := cell_at hx7 1 rfl
                      have y2 : w8.cell? ⟨w7.heap.size, 2, none⟩ = some (.int .i64 nh) := cell_at hx7 2 rfl
                      clear hx7 hx8
                      go_wp2_with fail
                      go_roundg (gk - 1)
                      case measure => omega
                      case rel => exact ⟨k + 1, by go_num, by omega, HN7⟩
                    · have HB := Lib.hid HN.out.bel
                      have HGx := Lib.hid (HGW.out _ HN.out.bel)
                      go_wp2_with fail
                      refine (alive05 HGx.out).mono ?_
                      rintro e w2 ⟨rfl, hb2⟩
                      have HB2 := Lib.hid (Below.seq HB.out (Nat.le_refl _) hb2)
                      have HN2 := Lib.hid (HN.out.below hb2)
                      clear hb2 HN
                      go_wp2_with fail
                      refine HN2.out.swap.len.mono ?_
                      rintro e w' ⟨rfl, rfl⟩
                      go_wp2_with fail
                      refine HN2.out.len.mono ?_
                      rintro e w' ⟨rfl, rfl⟩
                      go_wp2_with fail
                      go_ret
                      exact ⟨rfl, HB2.out⟩

end Go.Proofs.YtknoigebkpapoaaDoor
