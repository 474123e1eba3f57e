/- Texts of this claim, one behind the other: Ve, Vf, Vg, Vh, Vi, Vj. -/
import Derived.Test.YtiagkbmhfgdffaaGe
import Derived.Deep.QuietTactic
import Derived.BigQuiet
import Derived.Test.YtiagkbmhfgdffaaWNEv
import Derived.Test.YtiagkbmhfgdffaaWMore
import Derived.Test.YtiagkbmhfgdffaaWFour
import Derived.Test.YtiagkbmhfgdffaaGd
import Derived.Deep.Slices
import Derived.Deep.Fields
import Derived.ChangeSame
import Derived.ProofKit
import Derived.OpenShut
import Derived.ChangeOld
import Derived.Below
import Derived.SizedLaws
set_option linter.unusedVariables false
set_option linter.unusedSimpArgs false
namespace Go.Proofs.Ytiagkbmhfgdffaa
open Go Go.RowKit Go.Deep Go.Maps
section
variable {w w' W : World} {mg : Nat} {lim : Int} {L : List Nd} {S : Nat → Prop}
set_option maxHeartbeats 2000000 in
theorem at7_any {bx : Nat} {v : Value} {l : List Int} (hb : w.cell? ⟨bx, 0, none⟩ = some v) (hl : Ints w v l) (k : Int) :
    Calls Try.prog 53 #[.int .i64 k, .pointer (some ⟨bx, 0, none⟩)] w fun e w' => e = .returned (.int .i64 (at7 l k)) ∧ w = w' := by
  obtain ⟨ao, c, rfl, hc, hc2, hcell⟩ := hl
  unfold maxLen at hc2
  have HC := Lib.hid hcell
  clear hcell
  by_cases h0 : k < 0
  · have HE : Hid (at7 l k = 1073741824) := Lib.hid (by unfold at7; rw [if_neg (by omega)])
    go_enter Try.func53, Try.ntmps53
    go_wp2_with fail
    go_ret
    exact ⟨by rw [HE.out]; rfl, rfl⟩
  · by_cases h1 : k < l.length
    · obtain ⟨j, rfl⟩ := Int.eq_ofNat_of_zero_le (show 0 ≤ k by omega)
      have hj : j < l.length := by omega
      have HE : Hid (at7 l j = l[j]) := Lib.hid (by unfold at7; rw [if_pos (by omega), Int.toNat_natCast]; simp [List.getD, hj])
      obtain ⟨g, o, rfl, e1⟩ := HC.out j hj
      generalize l[j] = x at *
      clear h0
      go_enter Try.func53, Try.ntmps53
      go_wp2_with fail
      go_ret
      exact ⟨by rw [HE.out]; rfl, rfl⟩
    · have HE : Hid (at7 l k = 1073741824) := Lib.hid (by unfold at7; rw [if_neg (by omega)])
      have h2 : (l.length : Int) ≤ k := by omega
      go_enter Try.func53, Try.ntmps53
      go_wp2_with fail
      go_ret
      exact ⟨by rw [HE.out]; rfl, rfl⟩
theorem quiet_l7 {P : Program} {f : FuncId} {args : Array Value} {w : World} {n : Nat} {v : Value}
    (h : Calls P f args (w.drewN n) fun e w' => e = .returned v ∧ w.drewN n = w') : Calls P f args (w.drewN n) fun e w'' => e = .returned v ∧ ∃ m, w'' = w.drewN m :=
  h.mono fun _ _ ⟨he, hm⟩ => ⟨he, n, hm.symm⟩
theorem drawn7 (w : World) (n : Nat) : Below w.heap.size w (w.drewN n) := ⟨rfl, rfl, rfl, Nat.le_refl _, fun _ _ => rfl⟩
theorem at7_fits {l : List Int} (hf : ∀ x ∈ l, fits x) (k : Int) : fits (at7 l k) := by
  unfold at7
  split
  · rename_i h
    have hk : k.toNat < l.length := by omega
    have : l.getD k.toNat 0 = l[k.toNat] := by simp [List.getD, hk]
    rw [this]; exact hf _ (List.getElem_mem hk)
  · exact fits_of (by decide) (by decide)
set_option maxRecDepth 100000 in
set_option maxHeartbeats 16000000 in
theorem does_any (hlim : lim < 100000000000) (M : Mgr w mg lim L S) (hl : L.length < 100000000000) {v : Value} {l : List Int} (hr : Ints w v l) (hf : ∀ x ∈ l, fits x) (o : Op7) :
    Calls Try.prog 33 #[.pointer (some ⟨mg, 0, none⟩), v, .agg #[.int .i64 o.kind, .int .i64 o.v, .int .i64 o.a, .int .i64 o.b, .int .i64 o.c, .bool o.yes]] w (OpPost w mg lim S (doesF lim L l o)) := by
  obtain ⟨kd, ov, oa, ob, oc, oy⟩ := o
  have HM := Lib.hid M
  have HL := Lib.hid hl
  have HLim := Lib.hid hlim
  have HR := Lib.hid hr
  obtain ⟨ao, cc, rfl, -⟩ := hr
  have HD : Hid (doesF lim L l ⟨kd, ov, oa, ob, oc, oy⟩ = if kd = 0 then varF lim L ov else if kd = 1 then iteF lim L (at7 l oa) (-1) (-2) else if kd = 2 then iteF lim L (at7 l oa) (at7 l ob) (-1) else
  if kd = 3 then iteF lim L (at7 l oa) (-2) (at7 l ob) else if kd = 4 then xoF lim L (at7 l oa) (at7 l ob) else if kd = 5 then iteF lim L (at7 l oa) (at7 l ob) (at7 l oc) else
  if kd = 6 then rstF lim L (at7 l oa) ov oy else if kd = 7 then exF lim L (at7 l oa) ov else if kd = 8 then cpF lim L (at7 l oa) ov (at7 l ob) else (L, 0, 1)) := Lib.hid rfl
  generalize doesF lim L l ⟨kd, ov, oa, ob, oc, oy⟩ = R at *
  have FA := Lib.hid (at7_fits hf oa)
  have FB := Lib.hid (at7_fits hf ob)
  have FC := Lib.hid (at7_fits hf oc)
  obtain ⟨k1, k2, kb⟩ := two_in w (.cells #[.slice ao l.length cc] 26) (.cells #[.int .i64 kd, .int .i64 ov, .int .i64 oa, .int .i64 ob, .int .i64 oc, .bool oy] 31)
  have K1 := Lib.hid k1
  have K2 := Lib.hid k2
  have Kb := Lib.hid kb
  clear M hl hlim hf k1 k2 kb
  go_enter Try.func33, Try.ntmps33
  go_upto_region 2 with fail
  generalize (w.alloc (.cells #[.slice ao l.length cc] 26)).alloc (.cells #[.int .i64 kd, .int .i64 ov, .int .i64 oa, .int .i64 ob, .int .i64 oc, .bool oy] 31) = w1 at *
  have x0 : w1.cell? ⟨w.heap.size, 0, none⟩ = some (.slice ao l.length cc) := cell_at K1.out 0 rfl
  have y0 : w1.cell? ⟨w.heap.size + 1, 0, none⟩ = some (.int .i64 kd) := cell_at K2.out 0 rfl
  have y1 : w1.cell? ⟨w.heap.size + 1, 1, none⟩ = some (.int .i64 ov) := cell_at K2.out 1 rfl
  have y2 : w1.cell? ⟨w.heap.size + 1, 2, none⟩ = some (.int .i64 oa) := cell_at K2.out 2 rfl
  have y3 : w1.cell? ⟨w.heap.size + 1, 3, none⟩ = some (.int .i64 ob) := cell_at K2.out 3 rfl
  have y4 : w1.cell? ⟨w.heap.size + 1, 4, none⟩ = some (.int .i64 oc) := cell_at K2.out 4 rfl
  have y5 : w1.cell? ⟨w.heap.size + 1, 5, none⟩ = some (.bool oy) := cell_at K2.out 5 rfl
  have HQ := Lib.hid (HR.out.below Kb.out)
  go_quiet ((go_at_call 53; exact quiet_l7 (at7_any (w := w1.drewN _) x0 (HQ.out.below (drawn7 _ _)) _)))
  have HB := Lib.hid (Below.seq Kb.out (Nat.le_refl _) (drawn7 w1 nq))
  have z0 : (w1.drewN nq).cell? ⟨w.heap.size + 1, 0, none⟩ = some (.int .i64 kd) := y0
  have z1 : (w1.drewN nq).cell? ⟨w.heap.size + 1, 1, none⟩ = some (.int .i64 ov) := y1
  have z5 : (w1.drewN nq).cell? ⟨w.heap.size + 1, 5, none⟩ = some (.bool oy) := y5
  have HM2 := Lib.hid (HM.out.below HB.out)
  clear x0 y0 y1 y2 y3 y4 y5 HQ K1 K2 Kb HR
  generalize w1.drewN nq = w2 at *
  generalize at7 l oa = xa at *
  generalize at7 l ob = xb at *
  generalize at7 l oc = xc at *
  by_cases h0 : kd = 0
  · subst h0
    have HE : Hid (R = varF lim L ov) := Lib.hid (by rw [HD.out, if_pos rfl])
    have HO := Lib.hid (Var_any HM2.out HL.out ov)
    clear HD
    go_wp2_with fail
    refine HO.out.mono ?_
    rintro e w3 ⟨ev, rfl, hp⟩
    have HP := Lib.hid hp
    clear hp HO
    go_wp2_with fail
    go_ret2
    rw [HE.out]
    exact OpPost.lift HB.out ⟨ev, rfl, HP.out⟩
  have c0 : (kd == 0) = false := beq_eq_false_iff_ne.2 h0
  by_cases h1 : kd = 1
  · subst h1
    have HE : Hid (R = iteF lim L xa (-1) (-2)) := Lib.hid (by rw [HD.out, if_neg (by decide), if_pos rfl])
    have HO := Lib.hid (Not_any HLim.out HM2.out HL.out FA.out)
    clear HD
    go_wp2_with fail
    refine HO.out.mono ?_
    rintro e w3 ⟨ev, rfl, hp⟩
    have HP := Lib.hid hp
    clear hp HO
    go_wp2_with fail
    go_ret2
    rw [HE.out]
    exact OpPost.lift HB.out ⟨ev, rfl, HP.out⟩
  have c1 : (kd == 1) = false := beq_eq_false_iff_ne.2 h1
  by_cases h2 : kd = 2
  · subst h2
    have HE : Hid (R = iteF lim L xa xb (-1)) := Lib.hid (by rw [HD.out, if_neg (by decide), if_neg (by decide), if_pos rfl])
    have HO := Lib.hid (And_any HLim.out HM2.out HL.out FA.out FB.out)
    clear HD
    go_wp2_with fail
    refine HO.out.mono ?_
    rintro e w3 ⟨ev, rfl, hp⟩
    have HP := Lib.hid hp
    clear hp HO
    go_wp2_with fail
    go_ret2
    rw [HE.out]
    exact OpPost.lift HB.out ⟨ev, rfl, HP.out⟩
  have c2 : (kd == 2) = false := beq_eq_false_iff_ne.2 h2
  by_cases h3 : kd = 3
  · subst h3
    have HE : Hid (R = iteF lim L xa (-2) xb) := Lib.hid (by rw [HD.out, if_neg (by decide), if_neg (by decide), if_neg (by decide), if_pos rfl])
    have HO := Lib.hid (Or_any HLim.out HM2.out HL.out FA.out FB.out)
    clear HD
    go_wp2_with fail
    refine HO.out.mono ?_
    rintro e w3 ⟨ev, rfl, hp⟩
    have HP := Lib.hid hp
    clear hp HO
    go_wp2_with fail
    go_ret2
    rw [HE.out]
    exact OpPost.lift HB.out ⟨ev, rfl, HP.out⟩
  have c3 : (kd == 3) = false := beq_eq_false_iff_ne.2 h3
  by_cases h4 : kd = 4
  · subst h4
    have HE : Hid (R = xoF lim L xa xb) := Lib.hid (by rw [HD.out, if_neg (by decide), if_neg (by decide), if_neg (by decide), if_neg (by decide), if_pos rfl])
    have HO := Lib.hid (Xor_any HLim.out HM2.out HL.out FA.out FB.out)
    clear HD
    go_wp2_with fail
    refine HO.out.mono ?_
    rintro e w3 ⟨ev, rfl, hp⟩
    have HP := Lib.hid hp
    clear hp HO
    go_wp2_with fail
    go_ret2
    rw [HE.out]
    exact OpPost.lift HB.out ⟨ev, rfl, HP.out⟩
  have c4 : (kd == 4) = false := beq_eq_false_iff_ne.2 h4
  by_cases h5 : kd = 5
  · subst h5
    have HE : Hid (R = iteF lim L xa xb xc) := Lib.hid (by rw [HD.out, if_neg (by decide), if_neg (by decide), if_neg (by decide), if_neg (by decide), if_neg (by decide), if_pos rfl])
    have HO := Lib.hid (Ite_any HLim.out HM2.out HL.out FA.out FB.out FC.out)
    clear HD
    go_wp2_with fail
    refine HO.out.mono ?_
    rintro e w3 ⟨ev, rfl, hp⟩
    have HP := Lib.hid hp
    clear hp HO
    go_wp2_with fail
    go_ret2
    rw [HE.out]
    exact OpPost.lift HB.out ⟨ev, rfl, HP.out⟩
  have c5 : (kd == 5) = false := beq_eq_false_iff_ne.2 h5
  by_cases h6 : kd = 6
  · subst h6
    have HE : Hid (R = rstF lim L xa ov oy) := Lib.hid (by rw [HD.out, if_neg (by decide), if_neg (by decide), if_neg (by decide), if_neg (by decide), if_neg (by decide), if_neg (by decide), if_pos rfl])
    have HO := Lib.hid (Restrict_any HLim.out HM2.out HL.out ov oy FA.out)
    clear HD
    go_wp2_with fail
    refine HO.out.mono ?_
    rintro e w3 ⟨ev, rfl, hp⟩
    have HP := Lib.hid hp
    clear hp HO
    go_wp2_with fail
    go_ret2
    rw [HE.out]
    exact OpPost.lift HB.out ⟨ev, rfl, HP.out⟩
  have c6 : (kd == 6) = false := beq_eq_false_iff_ne.2 h6
  by_cases h7 : kd = 7
  · subst h7
    have HE : Hid (R = exF lim L xa ov) := Lib.hid (by rw [HD.out, if_neg (by decide), if_neg (by decide), if_neg (by decide), if_neg (by decide), if_neg (by decide), if_neg (by decide), if_neg (by decide), if_pos rfl])
    have HO := Lib.hid (Exists_any HLim.out HM2.out HL.out ov FA.out)
    clear HD
    go_wp2_with fail
    refine HO.out.mono ?_
    rintro e w3 ⟨ev, rfl, hp⟩
    have HP := Lib.hid hp
    clear hp HO
    go_wp2_with fail
    go_ret2
    rw [HE.out]
    exact OpPost.lift HB.out ⟨ev, rfl, HP.out⟩
  have c7 : (kd == 7) = false := beq_eq_false_iff_ne.2 h7
  by_cases h8 : kd = 8
  · subst h8
    have HE : Hid (R = cpF lim L xa ov xb) := Lib.hid (by rw [HD.out, if_neg (by decide), if_neg (by decide), if_neg (by decide), if_neg (by decide), if_neg (by decide), if_neg (by decide), if_neg (by decide), if_neg (by decide), if_pos rfl])
    have HO := Lib.hid (Compose_any HLim.out HM2.out HL.out ov FA.out FB.out)
    clear HD
    go_wp2_with fail
    refine HO.out.mono ?_
    rintro e w3 ⟨ev, rfl, hp⟩
    have HP := Lib.hid hp
    clear hp HO
    go_wp2_with fail
    go_ret2
    rw [HE.out]
    exact OpPost.lift HB.out ⟨ev, rfl, HP.out⟩
  have c8 : (kd == 8) = false := beq_eq_false_iff_ne.2 h8
  have HE : Hid (R = (L, 0, 1)) := Lib.hid (by rw [HD.out, if_neg h0, if_neg h1, if_neg h2, if_neg h3, if_neg h4, if_neg h5, if_neg h6, if_neg h7, if_neg h8])
  clear HD h0 h1 h2 h3 h4 h5 h6 h7 h8
  go_wp2_with fail
  go_ret2
  rw [HE.out]
  exact op_bad HM.out HB.out
end
end Go.Proofs.Ytiagkbmhfgdffaa

set_option linter.unusedVariables false
set_option linter.unusedSimpArgs false
namespace Go.Proofs.Ytiagkbmhfgdffaa
open Go Go.RowKit Go.Deep Go.Maps Go.Proofs.YtiagkbmhfgdffaaW.PrintWords Go.Proofs.YtiagkbmhfgdffaaW.PrintLast Go.Proofs.YtiagkbmhfgdffaaW.PrintMore
variable {w w' W : World}
theorem inf_bool : (Try.prog.info? 4).map (fun i => (i.zero, i.size, i.bytes)) = some (some (.bool false), 1, 1) := by kernel_rfl
theorem inf_int : (Try.prog.info? 3).map (fun i => (i.zero, i.size, i.bytes)) = some (some (.int .i64 0), 1, 8) := by kernel_rfl
theorem inf_tab : (Try.prog.info? 34).map (fun i => (i.zero, i.size, i.bytes)) = some (some (.slice none 0 0), 1, 24) := by kernel_rfl
/-- A row of booleans that is read. -/
def HeldB (w : World) (v : Value) (X : List Bool) : Prop := ∃ A c, v = .slice A X.length c ∧ X.length ≤ c ∧ Kd.bool.C w A X.length X
theorem HeldB.below {v : Value} {X : List Bool} (h : HeldB w v X) (hb : Below w.heap.size w w') : HeldB w' v X := by
  obtain ⟨A, c, e, hc, hC⟩ := h
  exact ⟨A, c, e, hc, Kd.C_below hC hb⟩
theorem HeldB.nil (w : World) : HeldB w (.slice none 0 0) [] := ⟨none, 0, rfl, Nat.le_refl _, ⟨rfl, by simp, fun h => absurd h (by simp)⟩⟩
theorem HeldB.of_R {v : Value} {X : List Bool} {e base : Nat} {ok : Nat → Prop} (h : Kd.bool.R e w base ok v X) : HeldB w v X := Kd.R_reads h
/-- A row of rows that is read. -/
def Tbs (w : World) (v : Value) (T : List (List Bool)) : Prop :=
  ∃ ao c, v = .slice ao T.length c ∧ T.length ≤ c ∧ T.length ≤ maxLen ∧ ∀ i (h : i < T.length), ∃ b o u, ao = some ⟨b, o, none⟩ ∧ w.cell? ⟨b, o + i, none⟩ = some u ∧ HeldB w u T[i]
theorem Tbs.below {v : Value} {T : List (List Bool)} (h : Tbs w v T) (hb : Below w.heap.size w w') : Tbs w' v T := by
  obtain ⟨ao, c, e, h1, h2, h3⟩ := h
  refine ⟨ao, c, e, h1, h2, fun i hi => ?_⟩
  obtain ⟨b, o, u, ha, hc, hu⟩ := h3 i hi
  exact ⟨b, o, u, ha, (World.cell?_of_block (w := w) (hb.block b (World.block_lt_of_cell? w _ hc))).trans hc, hu.below hb⟩
theorem spot_of_C {α : Type} [Inhabited α] {d : Kd α} {ad : Addr} {n : Nat} {xs : List α} (h : d.C w (some ad) n xs) (hn : 0 < n) (hd : 0 < d.sz := by decide) : ad.spot = none := by
  obtain ⟨ad', cs, he, hl, _, hcell⟩ := Kd.C_get h default 0 (by omega) (by omega)
  cases he
  have hx := hcell 0 cs[0] (by rw [List.getElem?_eq_getElem])
  have := World.cell?_spot hx
  simpa [Addr.add] using this
theorem Tbs.of_C {A : Option Addr} {c : Nat} {T : List (List Bool)} (hc : T.length ≤ c) (h : (Kd.slice 4 Kd.bool).C w A T.length T) : Tbs w (.slice A T.length c) T := by
  refine ⟨A, c, rfl, hc, h.2.1, fun i hi => ?_⟩
  obtain ⟨ad, cs, rfl, hl, ⟨A', c', rfl, hc', hC⟩, hcell⟩ := Kd.C_get h [] (i : Int) (by omega) (by omega)
  have hx := hcell 0 _ rfl
  rw [Int.toNat_natCast, show (Kd.slice 4 Kd.bool).sz = 1 from rfl, Nat.mul_one, Nat.add_zero] at hx
  have hg : T.getD i [] = T[i] := by simp [List.getD, hi]
  rw [Int.toNat_natCast] at hc' hC
  rw [hg] at hx hc' hC
  have hs := spot_of_C h (by omega)
  obtain ⟨b, o, sp⟩ := ad
  obtain rfl : sp = none := hs
  refine ⟨b, o, _, rfl, ?_, A', c', rfl, hc', hC⟩
  rw [add_at] at hx
  exact hx
theorem Tbs.of_N {v : Value} {T : List (List Bool)} {e base : Nat} {ok : Nat → Prop} (h : (Kd.slice 4 Kd.bool).N e w base ok v T) : Tbs w v T := by
  obtain ⟨A, c, rfl, hc, hC⟩ := Kd.N_reads h
  exact Tbs.of_C hc hC
/-- A row of the call's own numbers, read. -/
theorem ints_of_R {v : Value} {l : List Int} {e base : Nat} {ok : Nat → Prop} (h : (Kd.int .i64).R e w base ok v l) (hc : ∀ A n c, v = .slice A n c → c ≤ maxLen) : Ints w v l := by
  obtain ⟨A, c, rfl, hl, hC⟩ := Kd.R_reads h
  refine ⟨A, c, rfl, hl, hc _ _ _ rfl, fun i hi => ?_⟩
  obtain ⟨ad, cs, rfl, _, hK, hcell⟩ := Kd.C_get hC 0 (i : Int) (by omega) (by omega)
  have hK' : cs = [Value.int .i64 (l.getD (i : Int).toNat 0)] := hK
  subst hK'
  have hx := hcell 0 _ rfl
  rw [Int.toNat_natCast, show (Kd.int .i64).sz = 1 from rfl, Nat.mul_one, Nat.add_zero] at hx
  have hg : l.getD i 0 = l[i] := by simp [List.getD, hi]
  rw [hg] at hx
  have hs := spot_of_C hC (by omega)
  obtain ⟨b, o, sp⟩ := ad
  obtain rfl : sp = none := hs
  rw [add_at] at hx
  exact ⟨b, o, rfl, hx⟩
/-- Three boxes of one block. -/
theorem three_at {b : Nat} {v0 v1 v2 : Value} {T : TypeId} (h : w.heap[b]? = some (.cells #[v0, v1, v2] T (0, 0))) : w.cell? ⟨b, 0, none⟩ = some v0 ∧ w.cell? ⟨b, 1, none⟩ = some v1 ∧ w.cell? ⟨b, 2, none⟩ = some v2 :=
  ⟨cell_at h 0 rfl, cell_at h 1 rfl, cell_at h 2 rfl⟩
end Go.Proofs.Ytiagkbmhfgdffaa

set_option linter.unusedVariables false
set_option linter.unusedSimpArgs false
namespace Go.Proofs.Ytiagkbmhfgdffaa
open Go Go.RowKit Go.Deep Go.Maps Go.Proofs.YtiagkbmhfgdffaaW.PrintWords Go.Proofs.YtiagkbmhfgdffaaW.PrintLast Go.Proofs.YtiagkbmhfgdffaaW.PrintMore
variable {w w' W wr : World} {mg : Nat} {lim : Int} {L L' : List Nd} {S S' : Nat → Prop}
def OwnI (w : World) (B : Nat) (v : Value) (xs : List Int) : Prop := w.ownsRow B 3 1 v xs.length (xs.map (Value.int .i64))
theorem OwnI.ints {B : Nat} {v : Value} {xs : List Int} (h : OwnI w B v xs) : Ints w v xs := by
  have hh := h
  rcases h.2 with ⟨rfl, h0⟩ | ⟨g, cap, cur, rfl, _, hg, h1, h2, _⟩
  · have : xs = [] := List.eq_nil_of_length_eq_zero h0
    subst this
    exact ⟨none, 0, rfl, by simp, by simp, fun i hi => by simp at hi⟩
  · refine ⟨_, cap, rfl, h1, h2, fun i hi => ⟨g, 0, rfl, ?_⟩⟩
    have := World.ownsRow.cellAt hh i (by omega)
    rw [Nat.zero_add, this]
    simp [hi]
theorem ErrAt.below {ev : Value} {n : Int} (h : ErrAt w ev n) (hb : Below w.heap.size w w') : ErrAt w' ev n := by
  rcases h with h | h | ⟨hn, fb, v, e, hf⟩
  · exact .inl h
  · exact .inr (.inl h)
  · exact .inr (.inr ⟨hn, fb, v, e, (hb.block fb (lt_of_heap hf)).trans hf⟩)
set_option maxHeartbeats 2000000 in
theorem eql_nil (m : Int) (w : World) : (binOp .eql 44 .nilIface (.iface 51 (.int .i64 m))).run Try.prog w = .ok (.bool false) w := by kernel_rfl
set_option maxRecDepth 100000 in
theorem is_nil (m : Int) (w : World) : Calls Try.prog 24 #[.nilIface, .iface 51 (.int .i64 m)] w fun e w' => e = .returned (.bool false) ∧ w = w' := by
  have heq := eql_nil m w
  go_enter Try.func24, Try.ntmps24
  go_wp2_with fail
  go_ret
  exact ⟨rfl, rfl⟩
/-- The state of a script's run in memory. -/
structure RunI (w wr : World) (mg : Nat) (lim : Int) (S : Nat → Prop) (s : R7) (vl vt : Value) (S' : Nat → Prop) : Prop where
  m : Mgr wr mg lim s.L S'
  sub : ∀ k, S' k → S k ∨ w.heap.size ≤ k
  l : OwnI wr w.heap.size vl s.l
  lS : ∀ k, vl.ownBlock = some k → ¬ S' k
  t : (Kd.slice 4 Kd.bool).N 34 wr w.heap.size (fun k => ¬ S' k ∧ some k ≠ vl.ownBlock) vt s.T
  tch : Touch w wr S
section
variable {s : R7} {vl vt v1 : Value}
theorem OwnI.lt {B : Nat} {v : Value} {xs : List Int} (h : OwnI w B v xs) {k : Nat} (hk : v.ownBlock = some k) : B ≤ k ∧ k < w.heap.size := by
  rcases h.2 with ⟨rfl, _⟩ | ⟨g, cap, cur, rfl, hB, hg, _⟩
  · simp [Value.ownBlock] at hk
  · have : g = k := by simpa [Value.ownBlock] using hk
    subst this
    exact ⟨hB, lt_of_heap hg⟩
theorem RunI.below (h : RunI w wr mg lim S s vl vt S') (hb : Below wr.heap.size wr w') : RunI w w' mg lim S s vl vt S' where
  m := h.m.below hb
  sub := h.sub
  l := ownsRow_touch h.l (Touch.of_below hb (fun _ => False)) (fun _ _ c => c)
  lS := h.lS
  t := Kd.N_below h.t hb
  tch := h.tch.trans (Touch.of_below hb S) (fun _ _ c => c)
theorem RunI.op (h : RunI w wr mg lim S s vl vt S') (hM : Mgr w' mg lim L' (fun k => S' k ∨ (wr.heap.size ≤ k ∧ k < w'.heap.size))) (t : Touch wr w' S') :
    RunI w w' mg lim S ⟨L', s.l, s.T, s.full⟩ vl vt (fun k => S' k ∨ (wr.heap.size ≤ k ∧ k < w'.heap.size)) where
  m := hM
  sub := fun k hk => by
    have := h.tch.size
    rcases hk with hk | hk
    · exact h.sub k hk
    · exact .inr (by omega)
  l := ownsRow_touch h.l t h.lS
  lS := fun k hk c => by
    rcases c with c | c
    · exact h.lS k hk c
    · have := (h.l.lt hk).2; omega
  t := Kd.N_mono (Kd.N_step (Kd.N_bound h.t) (fun k hk hlt => t.block k hlt hk.1.1)) (fun k hk => ⟨fun c => by
    rcases c with c | c
    · exact hk.1.1 c
    · have := hk.2; omega, hk.1.2⟩)
  tch := h.tch.trans t (fun k hk c => by
    rcases h.sub k c with c | c
    · exact c
    · omega)
theorem RunI.pushl (h : RunI w wr mg lim S s vl vt S') {f : Int} (ho : w'.ownsRow w.heap.size 3 1 v1 (s.l.length + 1) (s.l.map (Value.int .i64) ++ [.int .i64 f])) (hg : wr.grownBy w' vl.ownBlock) (hat : v1.ownBlock = vl.ownBlock ∨ ∃ b, v1.ownBlock = some b ∧ wr.heap.size ≤ b) :
    RunI w w' mg lim S ⟨s.L, s.l ++ [f], s.T, s.full⟩ v1 vt S' where
  m := h.m.touch (Touch.grown (S := fun k => vl.ownBlock = some k) (Touch.refl _ _) hg (fun k hk => .inl hk)) (fun k hk c => h.lS k c hk)
  sub := h.sub
  l := by
    unfold OwnI
    rw [List.length_append, List.map_append]
    exact ho
  lS := fun k hk c => by
    rcases hat with e | ⟨b, e, hb⟩
    · exact h.lS k (e ▸ hk) c
    · rw [hk] at e
      cases e
      have := h.m.lt k c
      omega
  t := Kd.N_after h.t hg hat
  tch := h.tch.trans (Touch.grown (S := fun k => vl.ownBlock = some k) (Touch.refl _ _) hg (fun k hk => .inl hk)) (fun k hk c => by have := (h.l.lt c).1; omega)
theorem RunI.pusht (h : RunI w wr mg lim S s vl vt S') {X : List Bool} (hn : (Kd.slice 4 Kd.bool).N 34 w' w.heap.size (fun k => ¬ S' k ∧ some k ≠ vl.ownBlock) v1 (s.T ++ [X])) (hg : wr.grownBy w' vt.ownBlock) :
    RunI w w' mg lim S ⟨s.L, s.l, s.T ++ [X], s.full⟩ vl v1 S' where
  m := h.m.touch (Touch.grown (S := fun k => vt.ownBlock = some k) (Touch.refl _ _) hg (fun k hk => .inl hk)) (fun k hk c => (h.t.1 k c).1 hk)
  sub := h.sub
  l := ownsRow_touch h.l (Touch.grown (S := fun k => vt.ownBlock = some k) (Touch.refl _ _) hg (fun k hk => .inl hk)) (fun k hk c => (h.t.1 k c).2 hk.symm)
  lS := h.lS
  t := hn
  tch := h.tch.trans (Touch.grown (S := fun k => vt.ownBlock = some k) (Touch.refl _ _) hg (fun k hk => .inl hk)) (fun k hk c => by have := Kd.N_base h.t k c; omega)
/-- What Do made may be appended. -/
theorem RunI.fk {w4 w5 w6 : World} (h4 : RunI w w4 mg lim S s vl vt S') {X : List Bool} {v : Value} (hR : Kd.bool.R 4 w5 w4.heap.size (fun _ => True) v X) (h45 : w4.heap.size ≤ w5.heap.size) (hg : w5.grownBy w6 vl.ownBlock)
    (hat : v1.ownBlock = vl.ownBlock ∨ ∃ b, v1.ownBlock = some b ∧ w5.heap.size ≤ b) :
    Kd.FK (Kd.slice 4 Kd.bool) w6 (fun k => w4.heap.size ≤ k ∧ k < w5.heap.size) X [v] ∧ (∀ k, w4.heap.size ≤ k ∧ k < w5.heap.size → (¬ S' k ∧ some k ≠ v1.ownBlock) ∧ some k ≠ vt.ownBlock) := by
  have hl : ∀ k, vl.ownBlock = some k → k < w4.heap.size := fun k hk => (h4.l.lt hk).2
  refine ⟨fun W' hW => ?_, fun k hk => ⟨⟨fun c => ?_, fun c => ?_⟩, fun c => ?_⟩⟩
  · have h5 : Kd.FK (Kd.slice 4 Kd.bool) w5 (fun k => w4.heap.size ≤ k ∧ k < w5.heap.size) X [v] := Kd.FK_of_M (base := w4.heap.size) ⟨v, rfl, Kd.R_mono (Kd.R_bound hR) (fun k hk => ⟨hk.2.1, hk.2.2.1⟩)⟩
    refine h5 W' (fun k hk hlt => (hW k hk (Nat.lt_of_lt_of_le hlt hg.size)).trans (hg.block k hlt (fun e => ?_)))
    have := hl k e.symm
    omega
  · have := h4.m.lt k c; omega
  · rcases hat with e | ⟨b, e, hb⟩
    · rw [e] at c; have := hl k c.symm; omega
    · rw [← c] at e; cases e; omega
  · have := Kd.N_lt h4.t k c.symm; omega
theorem RunI.fresh (h : RunI w wr mg lim S s vl vt S') : ∀ k, wr.heap.size ≤ k → ¬ S' k ∧ some k ≠ vl.ownBlock := fun k hk =>
  ⟨fun c => by have := h.m.lt k c; omega, fun c => by have := (h.l.lt c.symm).2; omega⟩
theorem RunI.start (M : Mgr w mg lim [] S) {w2 : World} {vt : Value} (hb : Below w.heap.size.succ (w.alloc (.cells #[.int .i64 (-1), .int .i64 (-2)] 3)) w2)
    (hN : (Kd.slice 4 Kd.bool).N 34 w2 w.heap.size.succ (fun k => w.heap.size.succ ≤ k) vt [List.replicate 4096 false, List.replicate 4096 true]) :
    RunI w w2 mg lim S startR7 (.slice (some ⟨w.heap.size, 0, none⟩) 2 2) vt S := by
  have hsz : (w.alloc (.cells #[.int .i64 (-1), .int .i64 (-2)] 3)).heap.size = w.heap.size.succ := by simp
  have kb : Below w.heap.size w w2 := (Below.push (Below.refl _ _) (Nat.le_refl _) _ : Below w.heap.size w (w.alloc (.cells #[.int .i64 (-1), .int .i64 (-2)] 3))).trans (hb.mono (Nat.le_succ _))
  have ho := own_lit w w.heap.size 3 .i64 [-1, -2] (Nat.le_refl _) (by decide)
  refine ⟨M.below kb, fun k hk => .inl hk, ?_, fun k hk c => ?_, Kd.N_mono (Kd.N_lower hN (Nat.le_succ _)) (fun k hk => ⟨fun c => ?_, fun c => ?_⟩), Touch.of_below kb S⟩
  · have hb' : Below (w.alloc (.cells #[.int .i64 (-1), .int .i64 (-2)] 3)).heap.size (w.alloc (.cells #[.int .i64 (-1), .int .i64 (-2)] 3)) w2 := by rw [hsz]; exact hb
    exact ownsRow_touch ho (Touch.of_below hb' (fun _ => False)) (fun _ _ c => c)
  · have e : w.heap.size = k := by simpa [Value.ownBlock] using hk
    have := M.lt k c
    omega
  · have := M.lt k c; omega
  · have e : k = w.heap.size := by simpa [Value.ownBlock] using c
    omega
end
/-! scripts in memory -/
def Ops7 (w : World) (v : Value) (xs : List Op7) : Prop :=
  ∃ ao c, v = .slice ao xs.length c ∧ xs.length ≤ c ∧ c ≤ maxLen ∧ ∀ i (h : i < xs.length), ∃ b o, ao = some ⟨b, o, none⟩ ∧ b < w.heap.size ∧
    w.cell? ⟨b, o + i * 6, none⟩ = some (.int .i64 xs[i].kind) ∧ w.cell? ⟨b, o + i * 6 + 1, none⟩ = some (.int .i64 xs[i].v) ∧ w.cell? ⟨b, o + i * 6 + 2, none⟩ = some (.int .i64 xs[i].a) ∧
    w.cell? ⟨b, o + i * 6 + 3, none⟩ = some (.int .i64 xs[i].b) ∧ w.cell? ⟨b, o + i * 6 + 4, none⟩ = some (.int .i64 xs[i].c) ∧ w.cell? ⟨b, o + i * 6 + 5, none⟩ = some (.bool xs[i].yes)
theorem Ops7.below {v : Value} {xs : List Op7} (h : Ops7 w v xs) (t : Below w.heap.size w w') : Ops7 w' v xs := by
  obtain ⟨ao, c, rfl, h1, h2, h3⟩ := h
  refine ⟨ao, c, rfl, h1, h2, fun i hi => ?_⟩
  obtain ⟨b, o, rfl, hb, c0, c1, c2, c3, c4, c5⟩ := h3 i hi
  exact ⟨b, o, rfl, Nat.lt_of_lt_of_le hb t.size, (t.cell (p := ⟨b, _, none⟩) hb).trans c0, (t.cell (p := ⟨b, _, none⟩) hb).trans c1, (t.cell (p := ⟨b, _, none⟩) hb).trans c2, (t.cell (p := ⟨b, _, none⟩) hb).trans c3, (t.cell (p := ⟨b, _, none⟩) hb).trans c4, (t.cell (p := ⟨b, _, none⟩) hb).trans c5⟩
theorem ops7_away {w0 : World} {v : Value} {xs : List Op7} (ho : Ops7 w0 v xs) (hb : Below w0.heap.size w0 w) (hS : ∀ k, S k → w0.heap.size ≤ k) (ao : Option Addr) (c : Nat) (e : v = .slice ao xs.length c) : ∀ i (h : i < xs.length), ∃ b o, ao = some ⟨b, o, none⟩ ∧ b < w.heap.size ∧ ¬ S b ∧
    w.cell? ⟨b, o + i * 6, none⟩ = some (.int .i64 xs[i].kind) ∧ w.cell? ⟨b, o + i * 6 + 1, none⟩ = some (.int .i64 xs[i].v) ∧ w.cell? ⟨b, o + i * 6 + 2, none⟩ = some (.int .i64 xs[i].a) ∧
    w.cell? ⟨b, o + i * 6 + 3, none⟩ = some (.int .i64 xs[i].b) ∧ w.cell? ⟨b, o + i * 6 + 4, none⟩ = some (.int .i64 xs[i].c) ∧ w.cell? ⟨b, o + i * 6 + 5, none⟩ = some (.bool xs[i].yes) := by
  obtain ⟨ao', c', e', _, _, h⟩ := ho
  rw [e] at e'
  simp only [Value.slice.injEq, true_and] at e'
  obtain ⟨rfl, rfl⟩ := e'
  intro i hi
  obtain ⟨b, o, rfl, hl, c0, c1, c2, c3, c4, c5⟩ := h i hi
  exact ⟨b, o, rfl, Nat.lt_of_lt_of_le hl hb.size, fun c => by have := hS b c; omega, (hb.cell (p := ⟨b, _, none⟩) hl).trans c0, (hb.cell (p := ⟨b, _, none⟩) hl).trans c1, (hb.cell (p := ⟨b, _, none⟩) hl).trans c2, (hb.cell (p := ⟨b, _, none⟩) hl).trans c3, (hb.cell (p := ⟨b, _, none⟩) hl).trans c4, (hb.cell (p := ⟨b, _, none⟩) hl).trans c5⟩
end Go.Proofs.Ytiagkbmhfgdffaa

set_option linter.unusedVariables false
set_option linter.unusedSimpArgs false
namespace Go.Proofs.Ytiagkbmhfgdffaa
open Go Go.RowKit Go.Deep Go.Maps
variable {w : World}
theorem al_var0 : varF 65536 [] 0 = ([⟨0, -1, -2⟩], 0, 0) := by decide +kernel
theorem al_not : iteF 65536 [⟨0, -1, -2⟩] 0 (-1) (-2) = ([⟨0, -1, -2⟩, ⟨0, -2, -1⟩], 1, 0) := by decide +kernel
theorem al_and : iteF 65536 [⟨0, -1, -2⟩, ⟨0, -2, -1⟩] 0 1 (-1) = ([⟨0, -1, -2⟩, ⟨0, -2, -1⟩], -1, 0) := by decide +kernel
theorem al_ex : exF 65536 [⟨0, -1, -2⟩, ⟨0, -2, -1⟩] 0 0 = ([⟨0, -1, -2⟩, ⟨0, -2, -1⟩], -2, 0) := by decide +kernel
theorem al_var12 : varF 65536 [⟨0, -1, -2⟩, ⟨0, -2, -1⟩] 12 = ([⟨0, -1, -2⟩, ⟨0, -2, -1⟩], 0, 1) := by decide +kernel
theorem al_full : varF 0 [] 3 = ([], 0, 50) := by decide +kernel
theorem al_ev1 : evB 1 0 [⟨0, -1, -2⟩, ⟨0, -2, -1⟩] = true := by decide +kernel
theorem al_ev2 : evB 2 0 [⟨0, -1, -2⟩, ⟨0, -2, -1⟩] = false := by decide +kernel
theorem al_supp : suppF [⟨0, -1, -2⟩, ⟨0, -2, -1⟩] 1 = 1 := by decide +kernel
theorem al_is : Ar.isb [⟨0, -1, -2⟩, ⟨0, -2, -1⟩] 0 = true := by decide +kernel
theorem al_isn : Ar.isb [⟨0, -1, -2⟩, ⟨0, -2, -1⟩] 1073741824 = false := by decide +kernel
/-- A manager of the call's own. -/
def Live (w wr : World) (mg : Nat) (lim : Int) (L : List Nd) : Prop := ∃ S, Mgr wr mg lim L S ∧ (∀ k, S k → w.heap.size ≤ k) ∧ Below w.heap.size w wr
def LivePost (w : World) (mg : Nat) (lim : Int) (r : List Nd × Int × Int) (e : Ending) (w' : World) : Prop :=
  ∃ ev, e = .returned (.tuple #[.int .i64 r.2.1, ev]) ∧ ErrAt w' ev r.2.2 ∧ Live w w' mg lim r.1
section
variable {wr w' : World} {mg : Nat} {lim : Int} {L : List Nd}
theorem Live.of_new {w1 : World} (hb : Below w.heap.size w w1) {e : Ending} (h : MgrNew w1 lim e w') : ∃ mg, e = .returned (.pointer (some ⟨mg, 0, none⟩)) ∧ Live w w' mg lim [] ∧ Below w1.heap.size w1 w' := by
  obtain ⟨mg, rfl, M, hb1⟩ := h
  exact ⟨mg, rfl, ⟨_, M, fun k hk => by have := hb.size; omega, hb.trans (hb1.mono hb.size)⟩, hb1⟩
theorem Live.below (h : Live w wr mg lim L) (hb : Below wr.heap.size wr w') : Live w w' mg lim L := by
  obtain ⟨S, M, hS, hbl⟩ := h
  exact ⟨S, M.below hb, hS, hbl.trans (hb.mono hbl.size)⟩
theorem Live.op (h : Live w wr mg lim L) {f : FuncId} {args : Array Value} {r : List Nd × Int × Int} (hc : ∀ S, Mgr wr mg lim L S → Calls Try.prog f args wr (OpPost wr mg lim S r)) : Calls Try.prog f args wr (LivePost w mg lim r) := by
  obtain ⟨S, M, hS, hbl⟩ := h
  refine (hc S M).mono ?_
  rintro e w' ⟨ev, rfl, M', t, he⟩
  exact ⟨ev, rfl, he, _, M', fun k hk => by
    have := hbl.size
    rcases hk with hk | hk
    · exact hS k hk
    · omega, hbl.trans (t.below hbl.size (fun k hk c => by have := hS k c; omega))⟩
end
theorem errAt0 {w : World} {ev : Value} (h : ErrAt w ev 0) : ev = .nilIface := by
  rcases h with ⟨_, h⟩ | ⟨h, _⟩ | ⟨h, _⟩
  · exact h
  · exact absurd h (by decide)
  · exact absurd rfl h
theorem fits0 : fits 0 := fits_of (by decide) (by decide)
theorem fits1 : fits 1 := fits_of (by decide) (by decide)
set_option maxRecDepth 100000 in
set_option maxHeartbeats 16000000 in
theorem alive_any (w : World) : Calls Try.prog 11 #[] w fun e w' => e = .returned (.bool true) ∧ Below w.heap.size w w' := by
  go_enter Try.func11, Try.ntmps11
  go_wp2_with fail
  refine (bdd_new 65536 8).mono ?_
  intro e w1 h
  obtain ⟨mg, rfl, hl1, -⟩ := Live.of_new (Below.refl _ _) h
  rw [show max (65536 : Int) 0 = 65536 from rfl] at hl1
  have HL1 := Lib.hid hl1
  clear h hl1
  go_wp2_with fail
  refine (arena_any (Classical.choose_spec HL1.out).1).mono ?_
  rintro e w' ⟨⟨b, rfl, -⟩, rfl⟩
  have HV := Lib.hid (HL1.out.op (r := varF 65536 [] 0) (fun S M => Var_any M (by decide) 0))
  rw [al_var0] at HV
  go_wp2_with fail
  refine HV.out.mono ?_
  rintro e w2 ⟨ev, rfl, he, hl2⟩
  obtain rfl : ev = .nilIface := errAt0 he
  have HL2 := Lib.hid hl2
  have HN := Lib.hid (HL2.out.op (fun S M => Not_any (by decide) M (by simp) fits0))
  rw [al_not] at HN
  clear hl2 he HV HL1
  go_wp2_with fail
  refine HN.out.mono ?_
  rintro e w3 ⟨ev, rfl, he, hl3⟩
  obtain rfl : ev = .nilIface := errAt0 he
  have HL3 := Lib.hid hl3
  have HA := Lib.hid (HL3.out.op (fun S M => And_any (by decide) M (by simp) fits0 fits1))
  rw [al_and] at HA
  clear hl3 he HN HL2
  go_wp2_with fail
  refine HA.out.mono ?_
  rintro e w4 ⟨ev, rfl, he, hl4⟩
  obtain rfl : ev = .nilIface := errAt0 he
  have HL4 := Lib.hid hl4
  have HE := Lib.hid (HL4.out.op (fun S M => Exists_any (by decide) M (by simp) 0 fits0))
  rw [al_ex] at HE
  clear hl4 he HA HL3
  go_wp2_with fail
  refine HE.out.mono ?_
  rintro e w5 ⟨ev, rfl, he, hl5⟩
  obtain rfl : ev = .nilIface := errAt0 he
  have HL5 := Lib.hid hl5
  have HV := Lib.hid (HL5.out.op (fun S M => Var_any M (by simp) 12))
  rw [al_var12] at HV
  clear hl5 he HE HL4
  go_wp2_with fail
  refine HV.out.mono ?_
  rintro e w6 ⟨ev6, rfl, he6, hl6⟩
  have HL6 := Lib.hid hl6
  have HE6 := Lib.hid he6
  clear hl6 he6 HL5 HV
  go_wp2_with fail
  refine (bdd_new 0 8).mono ?_
  intro e w7 h
  obtain ⟨mg2, rfl, hl7, -⟩ := Live.of_new (Below.refl w6.heap.size w6) h
  rw [show max (0 : Int) 0 = 0 from rfl] at hl7
  have HV := Lib.hid (hl7.op (r := varF 0 [] 3) (fun S M => Var_any M (by decide) 3))
  rw [al_full] at HV
  clear hl7 h
  go_wp2_with fail
  refine HV.out.mono ?_
  rintro e w8 ⟨ev8, rfl, he8, hl8⟩
  have hb8 : Below w6.heap.size w6 w8 := by obtain ⟨_, _, _, h⟩ := hl8; exact h
  have HL8 := Lib.hid (HL6.out.below hb8)
  have HI6 := Lib.hid (isErr w8 ev6 1 1 true (by decide) (HE6.out.below hb8) rfl)
  have HI8 := Lib.hid (isErr w8 ev8 50 50 true (by decide) he8 rfl)
  obtain ⟨S, M, hS, hB⟩ := HL8.out
  have HM := Lib.hid M
  have HB := Lib.hid hB
  clear hb8 he8 hl8 HL6 HE6 HV M hS hB HL8
  go_wp2_with fail
  refine HI6.out.mono ?_
  rintro e w' ⟨rfl, rfl⟩
  go_wp2_with fail
  refine HI8.out.mono ?_
  rintro e w' ⟨rfl, rfl⟩
  clear HI6 HI8
  go_wp2_with fail
  refine (eval_any HM.out 0 1).mono ?_
  rintro e w9 ⟨rfl, hb⟩
  rw [al_ev1]
  have HM9 := Lib.hid (HM.out.below hb)
  have HB9 := Lib.hid (HB.out.trans (hb.mono HB.out.size))
  clear hb
  go_wp2_with fail
  refine (eval_any HM9.out 0 2).mono ?_
  rintro e w10 ⟨rfl, hb⟩
  rw [al_ev2]
  have HM10 := Lib.hid (HM9.out.below hb)
  have HB10 := Lib.hid (HB9.out.trans (hb.mono HB9.out.size))
  clear hb
  go_wp2_with fail
  refine (support_any HM10.out 1 fits1 (by simp)).mono ?_
  rintro e w11 ⟨rfl, hb⟩
  rw [al_supp]
  have HM11 := Lib.hid (HM10.out.below hb)
  have HB11 := Lib.hid (HB10.out.trans (hb.mono HB10.out.size))
  clear hb
  go_wp2_with fail
  refine (is_any HM11.out 0 fits0 (by simp)).mono ?_
  rintro e w12 ⟨rfl, hb⟩
  rw [al_is]
  have HM12 := Lib.hid (HM11.out.below hb)
  have HB12 := Lib.hid (HB11.out.trans (hb.mono HB11.out.size))
  clear hb
  go_wp2_with fail
  refine (is_any HM12.out 1073741824 (fits_of (by decide) (by decide)) (by simp)).mono ?_
  rintro e w13 ⟨rfl, hb⟩
  rw [al_isn]
  have HB13 := Lib.hid (HB12.out.trans (hb.mono HB12.out.size))
  clear hb
  go_wp2_with fail
  go_ret
  exact ⟨rfl, HB13.out⟩
end Go.Proofs.Ytiagkbmhfgdffaa

set_option linter.unusedVariables false
set_option linter.unusedSimpArgs false
namespace Go.Proofs.Ytiagkbmhfgdffaa
open Go Go.RowKit Go.Deep Go.Maps Go.Proofs.YtiagkbmhfgdffaaW.PrintWords Go.Proofs.YtiagkbmhfgdffaaW.PrintLast Go.Proofs.YtiagkbmhfgdffaaW.PrintMore
section
variable {w w' W : World} {mg : Nat} {lim : Int} {L : List Nd} {S : Nat → Prop}
theorem HeldB.cell {v : Value} {X : List Bool} (h : HeldB w v X) : ∃ ao c, v = .slice ao X.length c ∧ X.length ≤ maxLen ∧ ∀ i (hi : i < X.length), ∃ b o, ao = some ⟨b, o, none⟩ ∧ b < w.heap.size ∧ w.cell? ⟨b, o + i, none⟩ = some (.bool (X.getD i false)) := by
  obtain ⟨A, c, rfl, hc, hC⟩ := h
  refine ⟨A, c, rfl, hC.2.1, fun i hi => ?_⟩
  obtain ⟨ad, cs, rfl, _, hK, hcell⟩ := Kd.C_get hC false (i : Int) (by omega) (by omega)
  have hK' : cs = [Value.bool (X.getD (i : Int).toNat false)] := hK
  subst hK'
  have hx := hcell 0 _ rfl
  rw [Int.toNat_natCast, show Kd.bool.sz = 1 from rfl, Nat.mul_one, Nat.add_zero] at hx
  have hs := spot_of_C hC (by omega)
  obtain ⟨b, o, sp⟩ := ad
  obtain rfl : sp = none := hs
  rw [add_at] at hx
  exact ⟨b, o, rfl, World.block_lt_of_cell? w _ hx, hx⟩
set_option maxRecDepth 100000 in
set_option maxHeartbeats 4000000 in
theorem says_any (M : Mgr w mg lim L S) (hl : L.length < 100000000000) {f : Int} {vT : Value} {T : List Bool} (hT : HeldB w vT T) (hs : Sem L f T) :
    Calls Try.prog 13 #[.pointer (some ⟨mg, 0, none⟩), .int .i64 f, vT] w fun e w' => e = .returned (.bool true) ∧ Below w.heap.size w w' := by
  have HM := Lib.hid M
  have HL := Lib.hid hl
  have HB : Hid (Ar.isb L f = true) := Lib.hid ((Ar.isb_iff M.ok f).2 hs.bo)
  have HF := Lib.hid (bo_fits hl hs.bo)
  have HE : Hid (∀ n : Nat, n < 4096 → evB n f L = T.getD n false) := Lib.hid (fun n hn => hs.ev n hn)
  obtain ⟨ao, c, rfl, hm, hcell⟩ := hT.cell
  have hlen := hs.len
  rw [hlen] at hm hcell ⊢
  have HC := Lib.hid hcell
  clear M hl hT hs hcell hm hlen
  go_enter Try.func13, Try.ntmps13
  go_wp2_with fail
  go_loopg [11] 4096 (fun gk v11 wr => ∃ n : Nat, v11 = .int .i64 n ∧ n + gk = 4096 ∧ Hid (Below w.heap.size w wr))
  case atStart => exact ⟨0, rfl, by omega, Lib.hid (Below.refl _ _)⟩
  case round =>
    obtain ⟨n, rfl, hn, HW⟩ := hrel
    by_cases hlt : n < 4096
    · obtain ⟨b, o, rfl, hb, hc⟩ := HC.out n hlt
      have hcw := (HW.out.cell (p := ⟨b, o + n, none⟩) hb).trans hc
      have hev := HE.out n hlt
      have hn2 : ((n : Nat) : Int) < 4096 := by omega
      generalize T.getD n false = bn at *
      have HEv := Lib.hid hev
      clear hc hb hev
      go_wp2_with fail
      refine (eval_any (HM.out.below HW.out) f n).mono ?_
      rintro e w2 ⟨rfl, hb2⟩
      rw [HEv.out]
      have HW2 := Lib.hid (HW.out.trans (hb2.mono HW.out.size))
      clear hb2
      have hne : (bn != bn) = false := by cases bn <;> rfl
      go_wp2_with fail
      go_roundg (gk - 1)
      case measure => omega
      case rel => exact ⟨n + 1, by go_num, by omega, HW2⟩
    · have hn4 : n = 4096 := by omega
      subst hn4
      go_wp2_with fail
      refine (is_any (HM.out.below HW.out) f HF.out HL.out).mono ?_
      rintro e w2 ⟨rfl, hb2⟩
      rw [HB.out]
      have HW2 := Lib.hid (HW.out.trans (hb2.mono HW.out.size))
      clear hb2
      go_wp2_with fail
      go_ret
      exact ⟨rfl, HW2.out⟩
end
end Go.Proofs.Ytiagkbmhfgdffaa

set_option linter.unusedVariables false
set_option linter.unusedSimpArgs false
namespace Go.Proofs.Ytiagkbmhfgdffaa
open Go.RowKit Go.Deep Go.ChangeShapes Go.WideShapes Go.ChangeAt

section
variable {H : Type} {enc : TypeId × Value → H} {P : Program} {w : World} {base : Nat} {spare : Nat → Bool} {held : Bool}
/-- A slice of structs, opened: each field of each element. -/
theorem open_slice_fields {t e : TypeId} {fs : Array Field} {fuel : Nat} {cs : List Value} {x : DataW H × List MemPlace} (ht : P.underlying t = some (.slice e)) (he : P.underlying e = some (.struct fs))
    (hone : oneCellFields P fs = true) (hC : P.cellsOf e = fs.size) (h : DataW.trod enc P w base spare held fuel t cs = some x) :
    (cs = [.slice none 0 0]) ∨
    ∃ (a : Addr) (len cap m : Nat), cs = [.slice (some a) len cap] ∧ len ≤ cap ∧ cap ≤ maxLen ∧ m = (if spare a.block then cap else len) ∧
      ∀ i, i < m → ∃ (n : Nat), ∀ (j : Nat) (f : Field), fs[j]? = some f → ∃ (v : Value) (y : DataW H × List MemPlace), w.cell? (a.add (i * fs.size + j)) = some v ∧ DataW.trod enc P w base spare held n f.type [v] = some y := by
  rcases open_slice ht h with h0 | ⟨a, len, cap, m, n, D, Pl, hcs, hb, hl, hm, hmm, hx, hi⟩
  · exact .inl h0.1
  · refine .inr ⟨a, len, cap, m, hcs, hl, hm, hmm, fun i him => ?_⟩
    obtain ⟨cs', hc, ht'⟩ := hi i him
    rw [hC] at hc
    obtain ⟨ys, n', hn', hy, hlen, hyl, hf⟩ := DataW.trod_struct he ht'
    obtain ⟨_, hcl, hat⟩ := World.cells?_some hc
    refine ⟨n', fun j f hj => ?_⟩
    obtain ⟨ho, hk⟩ := hone_of hone j f hj
    have hjl : j < fs.size := (Array.getElem?_eq_some_iff.1 hj).1
    have hcell := hat j hjl
    have hv : cs'[j]? = some (cs'[j]'(by omega)) := List.getElem?_eq_getElem (by omega)
    have h1 := hf j f hj
    rw [ho, hk] at h1
    have hone' : (cs'.drop j).take 1 = [cs'[j]'(by omega)] := by
      rw [List.drop_eq_getElem_cons (by omega)]
      rfl
    rw [hone'] at h1
    have hys : ys[j]? = some (ys[j]'(by omega)) := List.getElem?_eq_getElem (by omega)
    refine ⟨_, _, ?_, h1.trans hys⟩
    rw [← Go.Deep.add_add, hcell, hv]
end

theorem open_ops7 {H : Type} {enc : TypeId × Value → H} {W : World} {a : Option Addr} {len cap : Nat} {d : DataW H} {p : List MemPlace}
    (h : DataW.Trod enc Try.prog W 0 (fun _ => true) true 22 (.slice a len cap) d p) : ∃ xs : List Op7, xs.length = len ∧ Ops7 W (.slice a len cap) xs := by
  obtain ⟨fuel, hf⟩ := h
  rcases open_slice_fields Try.underlying22 Try.underlying31 (by kernel_rfl) (by kernel_rfl) hf with hcs | ⟨x, l, c, m, hcs, hl, hm, hmm, hi⟩
  · simp [Value.cells] at hcs
    obtain ⟨rfl, rfl, rfl⟩ := hcs
    exact ⟨[], rfl, none, 0, rfl, by simp, by simp, fun i hi => by simp at hi⟩
  · simp [Value.cells] at hcs
    obtain ⟨rfl, rfl, rfl⟩ := hcs
    have hx : ∀ i, i < len → ∃ n : Op7, x.spot = none ∧ W.cell? (x.add (i * 6)) = some (.int .i64 n.kind) ∧ W.cell? (x.add (i * 6 + 1)) = some (.int .i64 n.v) ∧ W.cell? (x.add (i * 6 + 2)) = some (.int .i64 n.a) ∧ W.cell? (x.add (i * 6 + 3)) = some (.int .i64 n.b) ∧ W.cell? (x.add (i * 6 + 4)) = some (.int .i64 n.c) ∧ W.cell? (x.add (i * 6 + 5)) = some (.bool n.yes) := by
      intro i hil
      have h0 : 0 < m := by rw [hmm, if_pos rfl]; omega
      obtain ⟨n0, h00⟩ := hi 0 h0
      obtain ⟨u0, y0, hu0, _⟩ := h00 0 _ rfl
      have hsp : x.spot = none := World.cell?_spot (by simpa [Addr.add] using hu0)
      obtain ⟨n, hn⟩ := hi i (by rw [hmm, if_pos rfl]; omega)
      obtain ⟨v0, z0, c0, t0⟩ := hn 0 _ rfl
      obtain ⟨v1, z1, c1, t1⟩ := hn 1 _ rfl
      obtain ⟨v2, z2, c2, t2⟩ := hn 2 _ rfl
      obtain ⟨v3, z3, c3, t3⟩ := hn 3 _ rfl
      obtain ⟨v4, z4, c4, t4⟩ := hn 4 _ rfl
      obtain ⟨v5, z5, c5, t5⟩ := hn 5 _ rfl
      obtain ⟨x0, e0, _⟩ := DataW.trod_int Try.underlying3 t0
      obtain ⟨x1, e1, _⟩ := DataW.trod_int Try.underlying3 t1
      obtain ⟨x2, e2, _⟩ := DataW.trod_int Try.underlying3 t2
      obtain ⟨x3, e3, _⟩ := DataW.trod_int Try.underlying3 t3
      obtain ⟨x4, e4, _⟩ := DataW.trod_int Try.underlying3 t4
      obtain ⟨x5, e5, _⟩ := DataW.trod_bool Try.underlying4 t5
      simp only [List.cons.injEq, and_true] at e0 e1 e2 e3 e4 e5
      subst e0 e1 e2 e3 e4 e5
      exact ⟨⟨x0, x1, x2, x3, x4, x5⟩, hsp, c0, c1, c2, c3, c4, c5⟩
    refine ⟨(List.range len).map (fun i => if h : i < len then Classical.choose (hx i h) else ⟨0, 0, 0, 0, 0, false⟩), by simp, ?_⟩
    refine ⟨some x, cap, by simp, by simpa using hl, hm, fun i hi' => ?_⟩
    have hil : i < len := by simpa using hi'
    obtain ⟨b, o, sp⟩ := x
    have hc := Classical.choose_spec (hx i hil)
    have hs0 : sp = none := hc.1
    have hg : ((List.range len).map (fun i => if h : i < len then Classical.choose (hx i h) else ⟨0, 0, 0, 0, 0, false⟩))[i] = Classical.choose (hx i hil) := by simp [hil]
    obtain ⟨nn, hnn⟩ : ∃ nn, nn = Classical.choose (hx i hil) := ⟨_, rfl⟩
    rw [← hnn] at hc hg
    rw [hg]
    clear hg hnn hi
    subst hs0
    obtain ⟨-, q0, q1, q2, q3, q4, q5⟩ := hc
    rw [add_at] at q0 q1 q2 q3 q4 q5
    exact ⟨b, o, rfl, World.block_lt_of_cell? W _ q0, q0, by rw [Nat.add_assoc]; exact q1, by rw [Nat.add_assoc]; exact q2, by rw [Nat.add_assoc]; exact q3, by rw [Nat.add_assoc]; exact q4, by rw [Nat.add_assoc]; exact q5⟩
end Go.Proofs.Ytiagkbmhfgdffaa
