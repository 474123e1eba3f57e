/- Walk of the document's Mark, and that it marks what can be reached. -/
import Derived.Test.YtknoigebkpapoaaRg
import Derived.Test.YtknoigebkpapoaaSd
set_option linter.unusedVariables false
set_option linter.unusedSimpArgs false
namespace Go.Proofs.Ytknoigebkpapoaa
open Go.RowKit Go.Deep
variable {w : World} {lim : Int} {L : List Nd} {vl : Value}

/-- What is marked when all nodes above i have been gone through. -/
def RM (L : List Nd) (roots : List Int) (i : Int) (out : List Bool) : Prop :=
  out.length = L.length ∧ ∀ k, k < L.length → (out.getD k false = true ↔ ((k : Int) ∈ roots ∨ ∃ m : Nat, i < m ∧ m < L.length ∧ Ar.Reach L roots m ∧ ((Ar.nd L m).l = k ∨ (Ar.nd L m).h = k)))
theorem RM.at {roots : List Int} {i : Nat} {out : List Bool} (ok : Ar.Ok L) (h : RM L roots i out) (hi : i < L.length) : out.getD i false = true ↔ Ar.Reach L roots i := by
  rw [h.2 i hi]
  constructor
  · rintro (h | ⟨m, _, hm, hr, h | h⟩)
    · exact .root h
    · exact h ▸ .low hr ⟨by omega, by omega⟩
    · exact h ▸ .high hr ⟨by omega, by omega⟩
  · intro hr
    generalize hx : (i : Int) = x at hr
    cases hr with
    | root hm => exact .inl hm
    | @low r hr hn =>
      obtain ⟨m, rfl⟩ : ∃ m : Nat, r = m := ⟨r.toNat, by unfold Ar.isN at hn; omega⟩
      have hm : m < L.length := by unfold Ar.isN at hn; omega
      have he := ok.each m hm
      rw [Ar.nd_at hm] at hx
      exact .inr ⟨m, by rw [Ar.nd_at hm]; omega, hm, hr, .inl rfl⟩
    | @high r hr hn =>
      obtain ⟨m, rfl⟩ : ∃ m : Nat, r = m := ⟨r.toNat, by unfold Ar.isN at hn; omega⟩
      have hm : m < L.length := by unfold Ar.isN at hn; omega
      have he := ok.each m hm
      rw [Ar.nd_at hm] at hx
      exact .inr ⟨m, by rw [Ar.nd_at hm]; omega, hm, hr, .inr rfl⟩
theorem RM.last {roots : List Int} {out : List Bool} (ok : Ar.Ok L) (h : RM L roots (-1) out) : Marks L roots out := by
  refine ⟨h.1, fun k hk => ?_⟩
  rw [h.2 k hk]
  constructor
  · rintro (h | ⟨m, _, hm, hr, h | h⟩)
    · exact .root h
    · exact h ▸ .low hr ⟨by omega, by omega⟩
    · exact h ▸ .high hr ⟨by omega, by omega⟩
  · intro hr
    generalize hx : (k : Int) = x at hr
    cases hr with
    | root hm => exact .inl hm
    | @low r hr hn =>
      obtain ⟨m, rfl⟩ : ∃ m : Nat, r = m := ⟨r.toNat, by unfold Ar.isN at hn; omega⟩
      exact .inr ⟨m, by omega, by unfold Ar.isN at hn; omega, hr, .inl rfl⟩
    | @high r hr hn =>
      obtain ⟨m, rfl⟩ : ∃ m : Nat, r = m := ⟨r.toNat, by unfold Ar.isN at hn; omega⟩
      exact .inr ⟨m, by omega, by unfold Ar.isN at hn; omega, hr, .inr rfl⟩
theorem RM.start {roots : List Int} {out : List Bool} (hl : out.length = L.length) (h : ∀ k, k < L.length → (out.getD k false = true ↔ (k : Int) ∈ roots)) : RM L roots ((L.length : Int) - 1) out :=
  ⟨hl, fun k hk => (h k hk).trans ⟨.inl, fun c => c.elim id (fun ⟨m, h1, h2, _⟩ => by omega)⟩⟩
theorem getD_set {out : List Bool} {j k : Nat} (hj : j < out.length) : (out.set j true).getD k false = true ↔ (k = j ∨ out.getD k false = true) := by
  simp only [List.getD, List.getElem?_set]
  by_cases h : j = k
  · subst h; simp [hj]
  · rw [if_neg h]; simp [Ne.symm h]
/-- One node more: what it marks. -/
def RM.put (out : List Bool) (c : Int) : List Bool := if 0 ≤ c then out.set c.toNat true else out
theorem RM.put_get {out : List Bool} {c : Int} (hc : c < out.length) (k : Nat) : (RM.put out c).getD k false = true ↔ ((k : Int) = c ∨ out.getD k false = true) := by
  unfold RM.put
  by_cases h : 0 ≤ c
  · rw [if_pos h, getD_set (by omega)]
    exact or_congr_left (by omega)
  · rw [if_neg h]
    constructor
    · exact .inr
    · rintro (h1 | h1)
      · omega
      · exact h1
theorem RM.put_len (out : List Bool) (c : Int) : (RM.put out c).length = out.length := by unfold RM.put; split <;> simp
theorem RM.yes {roots : List Int} {m : Nat} {out : List Bool} (ok : Ar.Ok L) (h : RM L roots m out) (hm : m < L.length) (hb : out.getD m false = true) : RM L roots ((m : Int) - 1) (RM.put (RM.put out L[m].l) L[m].h) := by
  have he := ok.each m hm
  have hr := (h.at ok hm).1 hb
  refine ⟨by rw [RM.put_len, RM.put_len]; exact h.1, fun k hk => ?_⟩
  rw [RM.put_get (by rw [RM.put_len, h.1]; omega), RM.put_get (by rw [h.1]; omega), h.2 k hk]
  constructor
  · rintro (h1 | h1 | h1 | ⟨j, h1, h2, h3, h4⟩)
    · exact .inr ⟨m, by omega, hm, hr, .inr (by rw [Ar.nd_at hm]; omega)⟩
    · exact .inr ⟨m, by omega, hm, hr, .inl (by rw [Ar.nd_at hm]; omega)⟩
    · exact .inl h1
    · exact .inr ⟨j, by omega, h2, h3, h4⟩
  · rintro (h1 | ⟨j, h1, h2, h3, h4⟩)
    · exact .inr (.inr (.inl h1))
    · by_cases e : j = m
      · subst e
        rw [Ar.nd_at hm] at h4
        rcases h4 with h4 | h4
        · exact .inr (.inl h4.symm)
        · exact .inl h4.symm
      · exact .inr (.inr (.inr ⟨j, by omega, h2, h3, h4⟩))
theorem RM.no {roots : List Int} {m : Nat} {out : List Bool} (ok : Ar.Ok L) (h : RM L roots m out) (hm : m < L.length) (hb : out.getD m false = false) : RM L roots ((m : Int) - 1) out := by
  refine ⟨h.1, fun k hk => ?_⟩
  rw [h.2 k hk]
  constructor
  · rintro (h1 | ⟨j, h1, h2, h3, h4⟩)
    · exact .inl h1
    · exact .inr ⟨j, by omega, h2, h3, h4⟩
  · rintro (h1 | ⟨j, h1, h2, h3, h4⟩)
    · exact .inl h1
    · by_cases e : j = m
      · subst e
        have := (h.at ok hm).2 h3
        rw [hb] at this
        cases this
      · exact .inr ⟨j, by omega, h2, h3, h4⟩

/-- What stands in memory while Mark goes. -/
def KI (w wr : World) (lim : Int) (vl : Value) (L : List Nd) (out : List Bool) : Prop :=
  wr.heap[w.heap.size]? = some (.cells #[.int .i64 lim, vl] 27 (0, 0)) ∧ wr.heap[w.heap.size + 1]? = some (.cells (out.map Value.bool).toArray 4 (0, 0)) ∧ Below w.heap.size w wr ∧ out.length = L.length
theorem KI.set {w wr : World} {out : List Bool} (h : KI w wr lim vl L out) (j : Nat) : KI w (wr.setCell ⟨w.heap.size + 1, j, none⟩ (.bool true)) lim vl L (out.set j true) := by
  refine ⟨heap_setCell_other (b := w.heap.size + 1) _ h.1 rfl (by omega) _, ?_, h.2.2.1.setCell (by simp) _, by simpa using h.2.2.2⟩
  have := heap_setCell_same (j := j) h.2.1 (.bool true)
  rw [show ((out.map Value.bool).toArray.setIfInBounds j (Value.bool true)) = ((out.set j true).map Value.bool).toArray by simp [List.map_set]] at this
  exact this
theorem KI.push {w wr : World} {out : List Bool} (h : KI w wr lim vl L out) (o : Obj) : KI w (wr.alloc o) lim vl L out :=
  ⟨heap_alloc_lt _ h.1, heap_alloc_lt _ h.2.1, Below.push h.2.2.1 (Nat.le_refl _) o, h.2.2.2⟩
theorem KI.get {w wr : World} {out : List Bool} (h : KI w wr lim vl L out) {k : Nat} (hk : k < L.length) : wr.cell? ⟨w.heap.size + 1, k, none⟩ = some (.bool (out.getD k false)) :=
  cell_at h.2.1 k (by have := h.2.2.2; simp [List.getD, show k < out.length from by omega])

def RefMarkPost (w : World) (L : List Nd) (roots : List Int) (e : Ending) (w' : World) : Prop :=
  ∃ v out, e = .returned v ∧ Bools w' v out ∧ Marks L roots out ∧ Below w.heap.size w w'

set_option maxRecDepth 100000 in
set_option maxHeartbeats 2000000 in
theorem ref_mark (h : Row w vl L) (ok : Ar.Ok L) (v : Value) (roots : List Int) (hr : Ints w v roots) (hsm : L.length ≤ 1000000000000) (hsr : roots.length ≤ 1000000000000) :
    Calls Try.prog 9 #[.agg #[.int .i64 lim, vl], v] w (RefMarkPost w L roots) := by
  have hmk : ∀ w : World, (Instr.makeSlice 31 (.int .i64 (L.length : Int)) (.int .i64 (L.length : Int))).run Try.prog w = .ok (.slice (some ⟨w.heap.size, 0, none⟩) L.length L.length) (w.alloc (.cells (madeCells #[.bool false] L.length) 4)) := fun w =>
    run_make_row' (P := Try.prog) 31 4 (.bool false) 1 Try.underlying31 info_bool rfl .i64 .i64 L.length (by omega) (by omega) w
  have HR := Lib.hid hr
  have HRow := Lib.hid h
  obtain ⟨⟨ao, cap, rfl⟩, hn⟩ := h.shape
  obtain ⟨ai, ci, rfl, hci, hci2, hce⟩ := hr
  unfold maxLen at hci2
  have HC := Lib.hid hce
  have HOK := Lib.hid ok
  clear h hce ok
  have K0 : KI w ((w.alloc (.cells #[.int .i64 lim, .slice ao L.length cap] 27)).alloc (.cells (madeCells #[.bool false] L.length) 4)) lim (.slice ao L.length cap) L (List.replicate L.length false) := by
    refine ⟨heap_alloc_lt _ (heap_alloc_new w _), ?_, Below.push (Below.push (Below.refl _ w) (Nat.le_refl _) _) (Nat.le_refl _) _, by simp⟩
    rw [← madeCells_false]
    exact alloc2 w _ _
  have HK0 := Lib.hid K0
  clear K0
  go_enter Try.func9, Try.ntmps9
  go_wp2_with fail
  go_loopg [6] roots.length (fun gk i wr => ∃ (k : Nat) (out : List Bool), i = .int .i64 k ∧ k + gk = roots.length ∧ Hid (KI w wr lim (.slice ao L.length cap) L out) ∧ Hid (∀ j, j < L.length → (out.getD j false = true ↔ (j : Int) ∈ roots.take k)))
  case atStart => exact ⟨0, _, rfl, by omega, HK0, Lib.hid (fun j hj => by simp [List.getD, List.getElem?_replicate, hj])⟩
  case round =>
    clear HK0
    obtain ⟨k, out, rfl, hk, HK, HM⟩ := hrel
    by_cases hlt : k < roots.length
    · obtain ⟨bi, oi, rfl, hcell⟩ := HC.out k hlt
      have hbi : bi < w.heap.size := World.block_lt_of_cell? w _ hcell
      have kc := (HK.out.2.2.1.cell (p := ⟨bi, oi + k, none⟩) hbi).trans hcell
      have htk : roots.take (k + 1) = roots.take k ++ [roots[k]] := List.take_succ_eq_append_getElem hlt
      have HT := Lib.hid htk
      clear hcell htk
      generalize roots[k] = r at *
      by_cases h0 : r < 0
      · have hd : decide (0 ≤ r) = false := decide_eq_false (by omega)
        go_wp2_with fail
        go_roundg (gk - 1)
        case measure => omega
        case rel => exact ⟨k + 1, out, by go_num, by omega, HK, Lib.hid (fun j hj => by rw [HM.out j hj, HT.out]; simp; omega)⟩
      · obtain ⟨j, rfl⟩ : ∃ j : Nat, r = j := ⟨r.toNat, by omega⟩
        by_cases h1 : j < L.length
        · have kf := free_at HK.out.2.1 j
          have kg := HK.out.get h1
          have hj1 : (j : Int) < L.length := by omega
          have hj0 : (0 : Int) ≤ j := by omega
          have hne : bi ≠ w.heap.size + 1 := by omega
          have HK' := Lib.hid (HK.out.set j)
          go_wp2_with fail
          go_roundg (gk - 1)
          case measure => omega
          case rel => exact ⟨k + 1, out.set j true, by go_num, by omega, HK', Lib.hid (fun i hi => by rw [getD_set (by rw [HK.out.2.2.2]; exact h1), HM.out i hi, HT.out]; simp only [List.mem_append, List.mem_singleton]; rw [or_comm]; exact or_congr_right (by omega))⟩
        · have hj1 : (L.length : Int) ≤ j := by omega
          have hj0 : (0 : Int) ≤ j := by omega
          go_wp2_with fail
          go_roundg (gk - 1)
          case measure => omega
          case rel => exact ⟨k + 1, out, by go_num, by omega, HK, Lib.hid (fun i hi => by rw [HM.out i hi, HT.out]; simp; omega)⟩
    · obtain rfl : k = roots.length := by omega
      have HRM := Lib.hid (RM.start HK.out.2.2.2 (fun j hj => by have := HM.out j hj; rwa [List.take_length] at this))
      have k1 : wr.cell? ⟨w.heap.size, 1, none⟩ = some (.slice ao L.length cap) := cell_at HK.out.1 1 rfl
      have hw1 : IntKind.i64.wrap ((L.length : Int) - 1) = L.length - 1 := IntWalk.i64_in _ (by omega)
      clear HM
      go_wp2_with fail
      go_loopg [7] L.length (fun gk i wr => ∃ out : List Bool, i = .int .i64 ((gk : Int) - 1) ∧ gk ≤ L.length ∧ Hid (KI w wr lim (.slice ao L.length cap) L out) ∧ Hid (RM L roots ((gk : Int) - 1) out))
      case atStart => exact ⟨out, rfl, Nat.le_refl _, HK, HRM⟩
      case round =>
        clear HK HRM k1 hw1 HC
        obtain ⟨out, rfl, hle, HK, HRM⟩ := hrel
        cases gk with
        | zero =>
          have hz1 : ((0 : Nat) : Int) - 1 = -1 := rfl
          rw [hz1] at HRM
          rw [hz1]
          have HMk := Lib.hid (HRM.out.last HOK.out)
          clear HRM
          go_wp2_with fail
          go_ret
          exact ⟨.slice (some ⟨w.heap.size + 1, 0, none⟩) L.length L.length, out, rfl, ⟨w.heap.size + 1, by rw [HK.out.2.2.2], HK.out.2.1⟩, HMk.out, HK.out.2.2.1⟩
        | succ m =>
          have hm : m < L.length := by omega
          have hmi : ((m + 1 : Nat) : Int) - 1 = m := by omega
          rw [hmi] at HRM
          rw [hmi]
          have he := HOK.out.each m hm
          have HE := Lib.hid he
          obtain ⟨hl1, hh1⟩ : L[m].l < m ∧ L[m].h < m := ⟨he.2.2.2.2.1, he.2.2.2.2.2.2.1⟩
          clear he
          have k1 : wr.cell? ⟨w.heap.size, 1, none⟩ = some (.slice ao L.length cap) := cell_at HK.out.1 1 rfl
          obtain ⟨bl, cap', hsl, hbl, _, e0, e1, e2⟩ := row_node (HRow.out.below HK.out.2.2.1) m hm
          obtain ⟨rfl, rfl⟩ : ao = some ⟨bl, 0, none⟩ ∧ cap = cap' := by cases hsl; exact ⟨rfl, rfl⟩
          clear hsl
          have HK1 := Lib.hid (HK.out.push (.cells #[.int .i64 L[m].v, .int .i64 L[m].l, .int .i64 L[m].h] 58))
          have b1 := HK1.out.get hm
          have hne1 : w.heap.size + 1 ≠ wr.heap.size := by have := lt_of_heap HK.out.2.1; omega
          have hwm : IntKind.i64.wrap ((m : Int) - 1) = m - 1 := IntWalk.i64_in _ (by omega)
          cases hb : out.getD m false
          · rw [hb] at b1
            have HRM2 := Lib.hid (HRM.out.no HOK.out hm hb)
            have HK3 := HK1
            clear HRM hb
            go_wp2_with fail
            go_roundg m
            case measure => omega
            case rel => exact ⟨out, by go_num, by omega, HK3, HRM2⟩
          · rw [hb] at b1
            have HRM2 := Lib.hid (HRM.out.yes HOK.out hm hb)
            have HBT := Lib.hid hb
            clear HRM hb
            by_cases hl0 : 0 ≤ L[m].l
            · obtain ⟨l, hl⟩ : ∃ l : Nat, L[m].l = l := ⟨L[m].l.toNat, by omega⟩
              have hlm : l < L.length := by omega
              have hpl : RM.put out L[m].l = out.set l true := by unfold RM.put; rw [if_pos hl0, hl]; rfl
              rw [hpl] at HRM2
              have HK2 := Lib.hid (HK1.out.set l)
              have b2 := HK2.out.get hm
              rw [show (out.set l true).getD m false = true from (getD_set (by rw [HK.out.2.2.2]; exact hlm)).2 (.inr HBT.out)] at b2
              have fl := free_at HK1.out.2.1 l
              have kl := HK1.out.get hlm
              have hlI : (l : Int) < L.length := by omega
              have hl00 : (0 : Int) ≤ l := by omega
              have hx2 := heap_setCell_other (b := w.heap.size + 1) ⟨w.heap.size + 1, l, none⟩ (heap_alloc_new wr (.cells #[.int .i64 L[m].v, .int .i64 L[m].l, .int .i64 L[m].h] 58)) rfl (by omega) (.bool true)
              have z2 := cell_at hx2 2 (v := .int .i64 L[m].h) rfl
              rw [hl] at hl0 hl1
              rw [hl] at HK1 HK2 b1 b2 fl kl hx2 z2 e1 HE
              clear hpl hx2
              by_cases hh0 : 0 ≤ L[m].h
              · obtain ⟨q, hq⟩ : ∃ q : Nat, L[m].h = q := ⟨L[m].h.toNat, by omega⟩
                have hqm : q < L.length := by omega
                have hpq : RM.put (out.set l true) L[m].h = (out.set l true).set q true := by unfold RM.put; rw [if_pos hh0, hq]; rfl
                rw [hpq] at HRM2
                have HK3 := Lib.hid (HK2.out.set q)
                have fq := free_at HK2.out.2.1 q
                have kq := HK2.out.get hqm
                have hqI : (q : Int) < L.length := by omega
                have hq00 : (0 : Int) ≤ q := by omega
                rw [hq] at hh0 hh1
                rw [hq] at HK1 HK2 HK3 b1 b2 fl kl fq kq z2 e2 HE
                clear hpq
                go_wp2_with fail
                go_roundg m
                case measure => omega
                case rel => exact ⟨(out.set l true).set q true, by go_num, by omega, HK3, HRM2⟩
              · have hpq : RM.put (out.set l true) L[m].h = out.set l true := by unfold RM.put; rw [if_neg hh0]
                rw [hpq] at HRM2
                have HK3 := HK2
                clear hpq
                go_wp2_with fail
                go_roundg m
                case measure => omega
                case rel => exact ⟨out.set l true, by go_num, by omega, HK3, HRM2⟩
            · by_cases hh0 : 0 ≤ L[m].h
              · obtain ⟨q, hq⟩ : ∃ q : Nat, L[m].h = q := ⟨L[m].h.toNat, by omega⟩
                have hqm : q < L.length := by omega
                have hpq : RM.put (RM.put out L[m].l) L[m].h = out.set q true := by unfold RM.put; rw [if_neg hl0, if_pos hh0, hq]; rfl
                rw [hpq] at HRM2
                have HK3 := Lib.hid (HK1.out.set q)
                have fq := free_at HK1.out.2.1 q
                have kq := HK1.out.get hqm
                have hqI : (q : Int) < L.length := by omega
                have hq00 : (0 : Int) ≤ q := by omega
                rw [hq] at hh0 hh1
                rw [hq] at HK1 HK3 b1 fq kq e2 HE
                clear hpq
                go_wp2_with fail
                go_roundg m
                case measure => omega
                case rel => exact ⟨out.set q true, by go_num, by omega, HK3, HRM2⟩
              · have hpp : RM.put (RM.put out L[m].l) L[m].h = out := by unfold RM.put; rw [if_neg hl0, if_neg hh0]
                rw [hpp] at HRM2
                have HK3 := HK1
                clear hpp
                go_wp2_with fail
                go_roundg m
                case measure => omega
                case rel => exact ⟨out, by go_num, by omega, HK3, HRM2⟩
end Go.Proofs.Ytknoigebkpapoaa
