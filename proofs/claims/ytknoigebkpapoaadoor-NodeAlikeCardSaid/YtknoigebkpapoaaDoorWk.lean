/- Walk of the arena's Walk: where bits lead. -/
import Derived.Test.YtknoigebkpapoaaDoorRn
import Derived.Deep.LoopGhost
set_option linter.unusedVariables false
set_option linter.unusedSimpArgs false
namespace Go.Proofs.YtknoigebkpapoaaDoor
open Go.RowKit Go.Deep
variable {w : World} {b : Nat} {lim : Int} {L : List Nd} {S : Nat → Prop}

/-- Where bits lead from a ref. -/
def Ar.wk (t : Int → Bool) (L : List Nd) : Nat → Int → Int
  | 0, r => r
  | f + 1, r => if Ar.isN L r then Ar.wk t L f (if t (Ar.nd L r).v then (Ar.nd L r).h else (Ar.nd L r).l) else r
theorem Ar.wk_not {t : Int → Bool} {L : List Nd} {r : Int} (h : ¬ Ar.isN L r) (f : Nat) : Ar.wk t L f r = r := by
  cases f with
  | zero => rfl
  | succ f => rw [Ar.wk, if_neg h]
def bt (n : Int) (v : Int) : Bool := Go.bits BinOp.and IntKind.u64 (n / 2 ^ v.toNat) 1 == 1

set_option maxRecDepth 100000 in
set_option maxHeartbeats 2000000 in
theorem walk_any (A : Arena w b lim L S) (r bits : Int) :
    Calls Tryd.prog 39 #[.pointer (some ⟨b, 0, none⟩), .int .i64 r, .int .u64 bits] w fun e w' => e = .returned (.int .i64 (Ar.wk (bt bits) L (r.toNat + 1) r)) ∧ Below w.heap.size w w' := by
  have HA := Lib.hid A
  have HOK := Lib.hid A.ok
  clear A
  go_enter Tryd.func39, Tryd.ntmps39
  go_wp2_with fail
  go_loopg [1] (r.toNat + 1) (fun gk p wr => ∃ q : Int, p = .int .i64 q ∧ q < gk ∧ Hid (Ar.wk (bt bits) L gk q = Ar.wk (bt bits) L (r.toNat + 1) r) ∧ Hid (Below w.heap.size w wr))
  case atStart => exact ⟨r, rfl, by omega, Lib.hid rfl, Lib.hid (Below.refl _ _)⟩
  case round =>
    obtain ⟨q, rfl, hq, HW, HB⟩ := hrel
    have A1 := HA.out.below HB.out
    by_cases hn : Ar.isN L q
    · obtain ⟨gk, rfl⟩ : ∃ m, gk = m + 1 := ⟨gk - 1, by unfold Ar.isN at hn; omega⟩
      obtain ⟨k, rfl⟩ : ∃ k : Nat, q = k := ⟨q.toNat, by unfold Ar.isN at hn; omega⟩
      have hk : k < L.length := by unfold Ar.isN at hn; omega
      have he := HOK.out.each k hk
      have hv0 : 0 ≤ L[k].v := he.1
      have hv1 : L[k].v < 12 := he.2.1
      have hl : L[k].l < k := he.2.2.2.2.1
      have hh : L[k].h < k := he.2.2.2.2.2.2.1
      have hw := HW.out
      rw [Ar.wk, if_pos hn, Ar.nd_at hk] at hw
      have HW2 := Lib.hid hw
      clear hw he HW
      go_wp2_with fail
      refine (get_in A1 k hk).mono ?_
      rintro e w2 ⟨rfl, hb2⟩
      have HB3 := Lib.hid (Below.push (Below.seq HB.out (Nat.le_refl _) hb2) (Nat.le_refl _) (.cells #[.int .i64 L[k].v, .int .i64 L[k].l, .int .i64 L[k].h] 57))
      clear hb2 A1
      cases hb : bt bits L[k].v
      · rw [hb] at HW2
        have HW3 := Lib.hid (show Ar.wk (bt bits) L gk L[k].l = _ from HW2.out)
        unfold bt at hb
        clear HW2
        go_wp2_with fail
        go_roundg gk
        case measure => omega
        case rel => exact ⟨L[k].l, rfl, by omega, HW3, HB3⟩
      · rw [hb] at HW2
        have HW3 := Lib.hid (show Ar.wk (bt bits) L gk L[k].h = _ from HW2.out)
        unfold bt at hb
        clear HW2
        go_wp2_with fail
        go_roundg gk
        case measure => omega
        case rel => exact ⟨L[k].h, rfl, by omega, HW3, HB3⟩
    · have hw := HW.out
      rw [Ar.wk_not hn] at hw
      have HW2 := Lib.hid hw
      clear hw HW
      go_wp2_with fail
      refine (get_out A1 q hn).mono ?_
      rintro e w2 ⟨rfl, hb2⟩
      have hB := Below.push (Below.seq HB.out (Nat.le_refl _) hb2) (Nat.le_refl _) (.cells #[.int .i64 0, .int .i64 0, .int .i64 0] 57)
      have HB3 := Lib.hid hB
      clear hB hb2
      go_wp2_with fail
      go_ret
      exact ⟨ret_eq (show Value.int .i64 q = _ from by rw [HW2.out]), HB3.out⟩
end Go.Proofs.YtknoigebkpapoaaDoor
