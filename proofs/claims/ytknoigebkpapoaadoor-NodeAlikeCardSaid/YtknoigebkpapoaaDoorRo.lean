/- Walk of the document's Walk: where bits lead. -/
import Derived.Test.YtknoigebkpapoaaDoorRn
import Derived.Test.YtknoigebkpapoaaDoorWk
set_option linter.unusedVariables false
set_option linter.unusedSimpArgs false
namespace Go.Proofs.YtknoigebkpapoaaDoor
open Go.RowKit Go.Deep
variable {w : World} {lim : Int} {L : List Nd} {vl : Value}

/-- Bits, without the last ones. -/
def shr (bits : Int) (j : Nat) : Int := bits / 2 ^ j
theorem shr_bd {bits : Int} (h0 : 0 ≤ bits) (h1 : bits < 18446744073709551616) (j : Nat) : 0 ≤ shr bits j ∧ shr bits j < 18446744073709551616 := by
  unfold shr
  have hp : (0 : Int) < 2 ^ j := Int.pow_pos (by decide)
  have := Int.ediv_nonneg h0 (Int.le_of_lt hp)
  have := Int.ediv_le_self (2 ^ j) h0
  omega
theorem shr_next (bits : Int) (j : Nat) : shr bits j / 2 = shr bits (j + 1) := by
  unfold shr
  rw [Int.ediv_ediv_of_nonneg (Int.le_of_lt (Int.pow_pos (by decide))), Int.pow_succ]
theorem bt_shr {bits : Int} (h0 : 0 ≤ bits) (h1 : bits < 18446744073709551616) (j : Nat) : bt bits j = (shr bits j % 2 == 1) := by
  obtain ⟨ha, hb⟩ := shr_bd h0 h1 j
  unfold bt
  rw [Int.toNat_natCast]
  change (Go.bits BinOp.and IntKind.u64 (shr bits j) 1 == 1) = _
  obtain ⟨n, hn⟩ := Int.eq_ofNat_of_zero_le ha
  rw [hn]
  have e : Go.bits BinOp.and IntKind.u64 ((n : Nat) : Int) 1 = ((n % 2 : Nat) : Int) := by
    show IntKind.u64.wrap ((BitVec.ofInt 64 ((n : Nat) : Int) &&& BitVec.ofInt 64 1).toNat : Int) = _
    have e2 : (BitVec.ofInt 64 ((n : Nat) : Int)).toNat = n := by
      rw [BitVec.ofInt_natCast, BitVec.toNat_ofNat]; exact Nat.mod_eq_of_lt (by omega)
    have e3 : (BitVec.ofInt 64 1).toNat = 1 := by decide
    rw [BitVec.toNat_and, e2, e3, Nat.and_one_is_mod, IntKind.wrap_u64]
    omega
  rw [e]
  simp

theorem shr_step {bits : Int} (h0 : 0 ≤ bits) (h1 : bits < 18446744073709551616) (j : Nat) : IntKind.u64.wrap ((shr bits j).tdiv 2) = shr bits (j + 1) := by
  obtain ⟨ha, hb⟩ := shr_bd h0 h1 j
  rw [Int.tdiv_eq_ediv_of_nonneg ha, shr_next]
  have := shr_bd h0 h1 (j + 1)
  rw [IntKind.wrap_u64]
  exact Int.emod_eq_of_lt this.1 this.2
theorem shr_last {bits : Int} (h0 : 0 ≤ bits) (h1 : bits < 18446744073709551616) (j : Nat) : ((shr bits j).tmod 2 == 1) = (shr bits j % 2 == 1) := by
  obtain ⟨ha, hb⟩ := shr_bd h0 h1 j
  rw [Int.tmod_eq_emod_of_nonneg ha]

set_option maxRecDepth 100000 in
set_option maxHeartbeats 2000000 in
theorem ref_walk (h : Row w vl L) (ok : Ar.Ok L) (r bits : Int) (h0 : 0 ≤ bits) (h1 : bits < 18446744073709551616) :
    Calls Tryd.prog 40 #[.agg #[.int .i64 lim, vl], .int .i64 r, .int .u64 bits] w fun e w' => e = .returned (.int .i64 (Ar.wk (bt bits) L (r.toNat + 1) r)) ∧ Below w.heap.size w w' := by
  obtain ⟨⟨ao, cap, rfl⟩, hn⟩ := h.shape
  have HR := Lib.hid h
  have HOK := Lib.hid ok
  have HD := Lib.hid (shr_bd h0 h1)
  have HT := Lib.hid (bt_shr h0 h1)
  have hx0 := heap_alloc_new w (.cells #[.int .i64 lim, .slice ao L.length cap] 27)
  have HX := Lib.hid hx0
  have HSS := Lib.hid (shr_step h0 h1)
  have HSL := Lib.hid (shr_last h0 h1)
  have hz0 : shr bits 0 = bits := by unfold shr; simp
  have HZ := Lib.hid hz0
  clear h ok h0 h1 hx0 hz0
  go_enter Tryd.func40, Tryd.ntmps40
  go_wp2_with fail
  go_loopg [1] (r.toNat + 1) (fun gk p wr => ∃ q : Int, p = .int .i64 q ∧ q < gk ∧ Hid (Ar.wk (bt bits) L gk q = Ar.wk (bt bits) L (r.toNat + 1) r) ∧ Hid (Below w.heap.size w wr ∧ wr.heap[w.heap.size]? = some (.cells #[.int .i64 lim, .slice ao L.length cap] 27 (0, 0))))
  case atStart => exact ⟨r, rfl, by omega, Lib.hid rfl, Lib.hid ⟨Below.push (Below.refl _ w) (Nat.le_refl _) _, HX.out⟩⟩
  case round =>
    clear HX
    obtain ⟨q, rfl, hq, HW, HB⟩ := hrel
    have c1 := cell_at HB.out.2 1 (v := .slice ao L.length cap) rfl
    by_cases hn' : Ar.isN L q
    · obtain ⟨gk0, rfl⟩ : ∃ m, gk = m + 1 := ⟨gk - 1, by unfold Ar.isN at hn'; omega⟩
      obtain ⟨k, rfl⟩ : ∃ k : Nat, q = k := ⟨q.toNat, by unfold Ar.isN at hn'; omega⟩
      have hk : k < L.length := by unfold Ar.isN at hn'; omega
      have hkd : decide ((0 : Int) ≤ k) = true := decide_eq_true (by omega)
      have he := HOK.out.each k hk
      have hl : L[k].l < k := he.2.2.2.2.1
      have hh : L[k].h < k := he.2.2.2.2.2.2.1
      obtain ⟨V, hV⟩ : ∃ V : Nat, L[k].v = V := ⟨L[k].v.toNat, by have := he.1; omega⟩
      have hv1 : V < 12 := by have := he.2.1; omega
      have hw := HW.out
      rw [Ar.wk, if_pos hn', Ar.nd_at hk, hV, HT.out V] at hw
      have HW2 := Lib.hid hw
      obtain ⟨bl, cap', hsl, hbl, _, e0, e1, e2⟩ := row_node HR.out k hk
      simp only [Value.slice.injEq, true_and] at hsl
      obtain ⟨rfl, rfl⟩ := hsl
      rw [hV] at e0
      replace e0 := (HB.out.1.cell (p := ⟨bl, k * 3, none⟩) hbl).trans e0
      replace e1 := (HB.out.1.cell (p := ⟨bl, k * 3 + 1, none⟩) hbl).trans e1
      replace e2 := (HB.out.1.cell (p := ⟨bl, k * 3 + 2, none⟩) hbl).trans e2
      have hbw : bl < wr.heap.size := Nat.lt_of_lt_of_le hbl HB.out.1.size
      have hpw := lt_of_heap HB.out.2
      have HB3 := Lib.hid (And.intro (Below.push HB.out.1 (Nat.le_refl _) (.cells #[.int .i64 (V : Int), .int .i64 L[k].l, .int .i64 L[k].h] 56)) (heap_alloc_lt (.cells #[.int .i64 (V : Int), .int .i64 L[k].l, .int .i64 L[k].h] 56) HB.out.2))
      have HN := Lib.hid (heap_alloc_new wr (.cells #[.int .i64 (V : Int), .int .i64 L[k].l, .int .i64 L[k].h] 56))
      clear hw he HW hV hn' HB
      go_wp2_with fail
      generalize wr.alloc (.cells #[.int .i64 (V : Int), .int .i64 L[k].l, .int .i64 L[k].h] 56) = w3 at *
      have n0 := cell_at HN.out 0 (v := .int .i64 (V : Int)) rfl
      have n1 := cell_at HN.out 1 (v := .int .i64 L[k].l) rfl
      have n2 := cell_at HN.out 2 (v := .int .i64 L[k].h) rfl
      have hpr := HD.out 0
      go_loopg [8, 9] V (fun gj bb ii wx => ∃ j : Nat, ii = .int .i64 j ∧ j + gj = V ∧ bb = .int .u64 (shr bits j) ∧ w3 = wx)
      case atStart => exact ⟨0, rfl, by omega, by rw [HZ.out], rfl⟩
      case round =>
        obtain ⟨j, rfl, hj, rfl, rfl⟩ := hrel
        by_cases hjl : j < V
        · go_wp2_with fail
          go_roundg (gk - 1)
          case measure => omega
          case rel => exact ⟨j + 1, by go_num, by omega, congrArg _ (HSS.out j), rfl⟩
        · obtain rfl : j = V := by omega
          have hsl := HSL.out j
          cases hb : (shr bits j % 2 == 1)
          · rw [hb] at hsl HW2
            have HW3 := Lib.hid (show Ar.wk (bt bits) L _ L[k].l = _ from HW2.out)
            clear hb HW2
            go_wp2_with fail
            go_roundg gk0
            case measure => omega
            case rel => exact ⟨L[k].l, rfl, by omega, HW3, HB3⟩
          · rw [hb] at hsl HW2
            have HW3 := Lib.hid (show Ar.wk (bt bits) L _ L[k].h = _ from HW2.out)
            clear hb HW2
            go_wp2_with fail
            go_roundg gk0
            case measure => omega
            case rel => exact ⟨L[k].h, rfl, by omega, HW3, HB3⟩
    · have hw := HW.out
      rw [Ar.wk_not hn'] at hw
      have HW2 := Lib.hid hw
      have HB2 := Lib.hid HB.out.1
      clear hw HW HB
      unfold Ar.isN at hn'
      by_cases hq0 : q < 0
      · clear hn'
        go_wp2_with fail
        go_ret
        exact ⟨ret_eq (show Value.int .i64 q = _ from by rw [HW2.out]), HB2.out⟩
      · have hq1 : (L.length : Int) ≤ q := by omega
        clear hn'
        go_wp2_with fail
        go_ret
        exact ⟨ret_eq (show Value.int .i64 q = _ from by rw [HW2.out]), HB2.out⟩
end Go.Proofs.YtknoigebkpapoaaDoor
