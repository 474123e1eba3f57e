/- Walk of the law BddSplits: it answers true. -/
import Derived.Test.YtiagkbmhfgdffaaBddSplitsRun
import Derived.Test.YtiagkbmhfgdffaaGf
import Derived.Test.YtiagkbmhfgdffaaVm
set_option linter.unusedVariables false
set_option linter.unusedSimpArgs false
namespace Go.Proofs.Ytiagkbmhfgdffaa.PBddSplits
open Go Go.RowKit Go.Deep Go.Maps Go.Proofs.YtiagkbmhfgdffaaW.PrintWords Go.Proofs.YtiagkbmhfgdffaaW.PrintLast Go.Proofs.YtiagkbmhfgdffaaW.PrintMore
variable {w : World}
/-- A manager of the call's own, beside a row of numbers. -/
def LiveI (w wr : World) (mg : Nat) (L : List Nd) (vl : Value) (l : List Int) : Prop :=
  ∃ S, Mgr wr mg 65536 L S ∧ (∀ k, S k → w.heap.size ≤ k) ∧ Below w.heap.size w wr ∧ Ints wr vl l ∧ ∀ k, vl.ownBlock = some k → ¬ S k ∧ k < wr.heap.size
theorem LiveI.op {wr : World} {mg : Nat} {L : List Nd} {vl : Value} {l : List Int} (h : LiveI w wr mg L vl l) {f : FuncId} {args : Array Value} {r : List Nd × Int × Int} (hc : ∀ W S, Mgr W mg 65536 L S → Calls Try.prog f args W (OpPost W mg 65536 S r)) (hr : r.2.2 = 0) :
    Calls Try.prog f args wr (fun e w' => e = .returned (.tuple #[.int .i64 r.2.1, .nilIface]) ∧ LiveI w w' mg r.1 vl l) := by
  obtain ⟨S, M, hS, hbl, hI, hv⟩ := h
  refine (hc wr S M).mono ?_
  rintro e w' ⟨ev, rfl, M', t, he⟩
  rw [hr] at he
  obtain rfl := errAt0 he
  refine ⟨rfl, _, M', fun k hk => ?_, hbl.trans (t.below hbl.size (fun k hk c => by have := hS k c; omega)), hI.touch t (fun k _ e => (hv k e).1), fun k hk => ⟨fun c => ?_, Nat.lt_of_lt_of_le (hv k hk).2 t.size⟩⟩
  · have := hbl.size
    rcases hk with hk | hk
    · exact hS k hk
    · omega
  · rcases c with c | c
    · exact (hv k hk).1 c
    · have := (hv k hk).2; omega
theorem LiveI.below {wr w' : World} {mg : Nat} {L : List Nd} {vl : Value} {l : List Int} (h : LiveI w wr mg L vl l) (hb : Below wr.heap.size wr w') : LiveI w w' mg L vl l := by
  obtain ⟨S, M, hS, hbl, hI, hv⟩ := h
  exact ⟨S, M.below hb, hS, hbl.trans (hb.mono hbl.size), hI.below hb, fun k hk => ⟨(hv k hk).1, Nat.lt_of_lt_of_le (hv k hk).2 hb.size⟩⟩
theorem LiveI.get {wr : World} {mg : Nat} {L : List Nd} {ao : Option Addr} {c : Nat} {l : List Int} (h : LiveI w wr mg L (.slice ao l.length c) l) (i : Nat) (hi : i < l.length) : ∃ b o, ao = some ⟨b, o, none⟩ ∧ wr.cell? ⟨b, o + i, none⟩ = some (.int .i64 l[i]) := by
  obtain ⟨S, M, hS, hbl, ⟨ao', c', e, _, _, hc⟩, hv⟩ := h
  simp only [Value.slice.injEq, true_and] at e
  obtain ⟨rfl, rfl⟩ := e
  exact hc i hi
theorem LiveI.supp {wr : World} {mg : Nat} {L : List Nd} {vl : Value} {l : List Int} (h : LiveI w wr mg L vl l) {x : Int} {m : Nat} (hx : fits x) (hl : L.length < 100000000000) (hs : suppF L x = (m : Int)) :
    Calls Try.prog 16 #[.pointer (some ⟨mg, 0, none⟩), .int .i64 x] wr (fun e w' => e = .returned (.int .u64 (m : Int)) ∧ LiveI w w' mg L vl l) := by
  have h0 := h
  obtain ⟨S, M, _⟩ := h
  refine (support_any M x hx hl).mono ?_
  rintro e w' ⟨rfl, hb⟩
  exact ⟨by rw [hs], h0.below hb⟩
/-- How it stands as the loop goes. -/
def SpI (s : R7) (cs : List Nat) (L0 : List Nd) (L : List Nd) (i : Nat) : Prop := Ar.Ok L ∧ L0 <+: L ∧ L.length + sumN (cs.drop i) < 65536
theorem says_pre7 {L L' : List Nd} (ok : Ar.Ok L) (hp : L <+: L') {x : Int} {F : (Int → Bool) → Bool} (h : Says L x F) : Says L' x F := ⟨h.1.pre hp, fun t => by rw [Ar.ev_pre ok hp h.1.lt]; exact h.2 t⟩
theorem sp_step {s : R7} {cs : List Nat} {L0 L : List Nd} {v : Nat} {bit : Int} {i : Nat} (g : Good 65536 s) (hf : Fl v s cs) (hp0 : s.L <+: L0) (ok0 : Ar.Ok L0) (hbit : Says L0 bit (fun t => t (v : Int))) (jb : Inn L0 (Vl [v]) bit) (hv : v < 12) (h : SpI s cs L0 L i) (hi : i < s.l.length) :
    ∃ c, SplitOk 65536 L s.l[i] (v : Int) bit c ∧ SpI s cs L0 (p5 65536 L s.l[i] (v : Int) bit).1 (i + 1) := by
  obtain ⟨ok, hp, hroom⟩ := h
  have hic : i < cs.length := by rw [hf.1]; exact hi
  obtain ⟨V, j1, j2, j3⟩ := hf.2 i hi hic
  have hd : cs.drop i = cs[i] :: cs.drop (i + 1) := List.drop_eq_getElem_cons hic
  have hsum : sumN (cs.drop i) = cs[i] + sumN (cs.drop (i + 1)) := by rw [hd]; rfl
  rw [hsum] at hroom
  have so := split_ok (lim := 65536) (V := V) (by decide) ok (f := s.l[i]) (v := (v : Int)) (bit := bit) (by omega) (by omega) (((g.sem i hi).bo.pre hp0).pre hp) (says_pre7 ok0 hp hbit) ((j1.pre hp0).pre hp)
    ((jb.mono (fun u hu => by
      have : v = u := by simpa [Vl] using hu
      rw [← this]; exact j2)).pre hp) j3 (by omega)
  exact ⟨_, so, so.ok, hp.trans so.pre, by have := so.len; omega⟩
theorem or_bit {m1 m2 m3 v : Nat} (h1 : m1 < 4096) (h2 : m2 < 4096) (h3 : m3 < 4096) (b1 : bitN m1 v = false) (b2 : bitN m2 v = false) (b3 : bitN m3 v = false) :
    bt (Go.bits .or .u64 (Go.bits .or .u64 (m1 : Int) (m2 : Int)) (m3 : Int)) (v : Int) = false := by
  have l12 : m1 ||| m2 < 4096 := Nat.or_lt_two_pow (n := 12) h1 h2
  have l123 : m1 ||| m2 ||| m3 < 4096 := Nat.or_lt_two_pow (n := 12) l12 h3
  rw [or_nat _ _ (by omega) (by omega), or_nat _ _ (by omega) (by omega), bt_bitN _ _ (by omega), ← testBit_bitN, Nat.testBit_or, Nat.testBit_or, testBit_bitN, testBit_bitN, testBit_bitN, b1, b2, b3]
  rfl
theorem supp_no {L : List Nd} (ok : Ar.Ok L) {x : Int} (hb : Ar.Bo L x) {v : Nat} (hv : v < 12) (hn : ¬ Dep L x (v : Int)) : ∃ m : Nat, suppF L x = (m : Int) ∧ m < 4096 ∧ bitN m v = false := by
  obtain ⟨m, e, hm, h⟩ := supp_bits ok hb
  refine ⟨m, e, hm, ?_⟩
  rw [Bool.eq_false_iff]
  intro c
  exact hn ((h v hv).1 c)
set_option maxRecDepth 100000 in
set_option maxHeartbeats 16000000 in
theorem BddSplits_walk (cache : Int) (va : Value) (xs : List Op7) (v : Int) (h : Ops7 w va xs) :
    Calls Try.prog 8 #[.int .i64 cache, va, .int .i64 v] w fun e w' => e = .returned (.bool true) ∧ Below w.heap.size w w' := by
  have HO := Lib.hid h
  obtain ⟨ao, c, rfl, hc, hc2, -⟩ := h
  unfold maxLen at hc2
  go_enter Try.func8, Try.ntmps8
  go_wp2_with fail
  refine (bdd_new 65536 cache).mono ?_
  rintro e w1 ⟨mg, rfl, M1, hb1⟩
  rw [show max (65536 : Int) 0 = 65536 from rfl] at M1
  have HM1 := Lib.hid M1
  have HB1 := Lib.hid hb1
  clear M1 hb1
  by_cases hbad : 12 < xs.length ∨ v < 0 ∨ 12 ≤ v
  · rcases (show (12 : Int) < xs.length ∨ ((xs.length : Int) ≤ 12 ∧ v < 0) ∨ ((xs.length : Int) ≤ 12 ∧ 0 ≤ v ∧ 12 ≤ v) by omega) with hx' | ⟨hx', hv'⟩ | ⟨hx', hv', hv2⟩
    all_goals (
      clear hbad
      go_wp2_with fail
      refine (alive_any w1).mono ?_
      rintro e w2 ⟨rfl, hb2⟩
      have HB2 := Lib.hid (HB1.out.trans (hb2.mono HB1.out.size))
      clear hb2
      go_wp2_with fail
      go_ret
      exact ⟨rfl, HB2.out⟩)
  · have hx' : (xs.length : Int) ≤ 12 := by omega
    obtain ⟨v, rfl⟩ := Int.eq_ofNat_of_zero_le (show 0 ≤ v by omega)
    have hv12 : v < 12 := by omega
    have d1 : decide ((v : Int) < 0) = false := decide_eq_false (by omega)
    have d2 : decide ((12 : Int) ≤ v) = false := decide_eq_false (by omega)
    go_wp2_with fail
    refine (run_any (lim := 65536) (by decide) HM1.out HO.out HB1.out (fun k hk => hk.1) (by omega)).mono ?_
    rintro e w2 ⟨vl, vt, S', rfl, hI⟩
    have HG := Lib.hid (Good.run (lim := 65536) (by decide) xs)
    have hlen := runR7_len (lim := 65536) xs
    obtain ⟨hfull, cs, hfl, hroom⟩ := split_room (xs := xs) (by omega) hv12
    generalize runR7 65536 xs = s at *
    have hB2 : Below w.heap.size w w2 := HB1.out.trans (hI.tch.below HB1.out.size (fun k hk c => by have := c.1; omega))
    have hLi : LiveI w w2 mg s.L vl s.l := ⟨S', hI.m, fun k hk => by
      rcases hI.sub k hk with h | h
      · exact h.1
      · have := HB1.out.size; omega, hB2, hI.l.ints, fun k hk => ⟨hI.lS k hk, (hI.l.lt hk).2⟩⟩
    obtain ⟨al, cl, rfl, hlc, hlm, -⟩ := hI.l.ints
    unfold maxLen at hlm
    have HLi := Lib.hid hLi
    have HFl := Lib.hid hfl
    have HRoom := Lib.hid hroom
    have hf0 : s.full = 0 := hfull
    clear hI hLi hB2 hfl hroom hfull HM1 hbad
    have t0 := var_says (lim := 65536) HG.out.ok (v : Int)
    have k0 := varF_cnt (lim := 65536) (L := s.L) (V := Vl [v]) (v : Int) (fun _ _ => by simp [Vl])
    obtain ⟨e0, s0⟩ := ite_cn t0 ((mayb_iff HG.out.ok).2 ⟨fun x hx => (by cases hx), by omega, by omega⟩) k0 (by have := HRoom.out; omega)
    have HV := Lib.hid (HLi.out.op (r := varF 65536 s.L v) (fun W S M => Var_any M (by have := HRoom.out; omega) (v : Int)) e0)
    have hok0 := t0.1
    have hpr0 := t0.2.1
    have hl0 := k0.1
    have hj0 := k0.2 e0
    have HS0 : Hid (Ar.Ok (varF 65536 s.L v).1 ∧ s.L <+: (varF 65536 s.L v).1 ∧ Says (varF 65536 s.L v).1 (varF 65536 s.L v).2.1 (fun t => t (v : Int)) ∧ Inn (varF 65536 s.L v).1 (Vl [v]) (varF 65536 s.L v).2.1 ∧ (varF 65536 s.L v).1.length + sumN (cs.drop 0) < 65536) :=
      Lib.hid ⟨hok0, hpr0, s0, hj0, by have := HRoom.out; rw [List.drop_zero]; omega⟩
    clear t0 k0 e0 s0 hok0 hpr0 hl0 hj0 HRoom
    generalize varF 65536 s.L v = r0 at *
    obtain ⟨L0, bit, n0⟩ := r0
    dsimp only at HS0
    go_wp2_with fail
    refine HV.out.mono ?_
    rintro e w3 ⟨rfl, hl3⟩
    have HL3 := Lib.hid hl3
    clear hl3 HV HLi
    go_wp2_with fail
    go_loopg [74] s.l.length (fun gk vi wr => ∃ (i : Nat) (L : List Nd), vi = .int .i64 i ∧ i + gk = s.l.length ∧ Hid (LiveI w wr mg L (.slice al s.l.length cl) s.l) ∧ Hid (SpI s cs L0 L i))
    case atStart => exact ⟨0, L0, rfl, by omega, HL3, Lib.hid ⟨HS0.out.1, List.prefix_refl _, HS0.out.2.2.2.2⟩⟩
    case round =>
      clear HL3
      obtain ⟨i, L, rfl, hi, HL, HSp⟩ := hrel
      by_cases hlt : i < s.l.length
      · obtain ⟨b, o, rfl, e1⟩ := HL.out.get i hlt
        obtain ⟨cc, so, hsp⟩ := sp_step HG.out HFl.out HS0.out.2.1 HS0.out.1 HS0.out.2.2.1 HS0.out.2.2.2.1 hv12 HSp.out hlt
        have hfb : Ar.Bo L s.l[i] := ((HG.out.sem i hlt).bo.pre HS0.out.2.1).pre HSp.out.2.1
        have hLl : L.length < 100000000000 := by have := HSp.out.2.2; omega
        have hfits := bo_fits hLl hfb
        have hbitf := bo_fits hLl (HS0.out.2.2.1.1.pre HSp.out.2.1)
        generalize s.l[i] = f at *
        have h5l : (p5 65536 L f (v : Int) bit).1.length < 100000000000 := by have := hsp.2.2; omega
        have f1 := bo_fits h5l so.b1
        have f2 := bo_fits h5l so.b2
        have f4 := bo_fits h5l so.b4
        have HK1 : Hid (∀ W S, Mgr W mg 65536 L S → Calls Try.prog 21 #[.pointer (some ⟨mg, 0, none⟩), .int .i64 f, .int .i64 v, .bool false] W (OpPost W mg 65536 S (p1 65536 L f (v : Int)))) := Lib.hid (fun W S M => Restrict_any (by decide) M hLl (v : Int) false hfits)
        have HK2 : Hid (∀ W S, Mgr W mg 65536 (p1 65536 L f (v : Int)).1 S → Calls Try.prog 21 #[.pointer (some ⟨mg, 0, none⟩), .int .i64 f, .int .i64 v, .bool true] W (OpPost W mg 65536 S (p2 65536 L f (v : Int)))) := Lib.hid (fun W S M => Restrict_any (by decide) M so.l1 (v : Int) true hfits)
        have HK3 : Hid (∀ W S, Mgr W mg 65536 (p2 65536 L f (v : Int)).1 S → Calls Try.prog 20 #[.pointer (some ⟨mg, 0, none⟩), .int .i64 bit, .int .i64 (p2 65536 L f (v : Int)).2.1, .int .i64 (p1 65536 L f (v : Int)).2.1] W (OpPost W mg 65536 S (p3 65536 L f (v : Int) bit))) := Lib.hid (fun W S M => Ite_any (by decide) M so.l2 hbitf f2 f1)
        have HK4 : Hid (∀ W S, Mgr W mg 65536 (p3 65536 L f (v : Int) bit).1 S → Calls Try.prog 27 #[.pointer (some ⟨mg, 0, none⟩), .int .i64 f, .int .i64 v] W (OpPost W mg 65536 S (p4 65536 L f (v : Int) bit))) := Lib.hid (fun W S M => Exists_any (by decide) M so.l3 (v : Int) hfits)
        have HK5 : Hid (∀ W S, Mgr W mg 65536 (p4 65536 L f (v : Int) bit).1 S → Calls Try.prog 22 #[.pointer (some ⟨mg, 0, none⟩), .int .i64 f, .int .i64 v, .int .i64 bit] W (OpPost W mg 65536 S (p5 65536 L f (v : Int) bit))) := Lib.hid (fun W S M => Compose_any (by decide) M so.l4 (v : Int) hfits hbitf)
        obtain ⟨m1, sm1, lm1, bm1⟩ := supp_no so.ok so.b1 hv12 so.n1
        obtain ⟨m2, sm2, lm2, bm2⟩ := supp_no so.ok so.b2 hv12 so.n2
        obtain ⟨m4, sm4, lm4, bm4⟩ := supp_no so.ok so.b4 hv12 so.n4
        have HBt := Lib.hid (or_bit lm1 lm2 lm4 bm1 bm2 bm4)
        have HE := Lib.hid (And.intro so.e1 (And.intro so.e2 (And.intro so.e3 (And.intro so.e4 so.e5))))
        have HBS := Lib.hid (And.intro so.both so.same)
        have HSm := Lib.hid (And.intro sm1 (And.intro sm2 sm4))
        have HFt := Lib.hid (And.intro f1 (And.intro f2 f4))
        have HSp2 := Lib.hid hsp
        have H5 := Lib.hid h5l
        clear so hsp hfb hLl hfits hbitf h5l f1 f2 f4 sm1 sm2 sm4 lm1 lm2 lm4 bm1 bm2 bm4 HSp
        generalize p1 65536 L f (v : Int) = q1 at *
        generalize p2 65536 L f (v : Int) = q2 at *
        generalize p3 65536 L f (v : Int) bit = q3 at *
        generalize p4 65536 L f (v : Int) bit = q4 at *
        generalize p5 65536 L f (v : Int) bit = q5 at *
        obtain ⟨L1, x1, n1⟩ := q1
        obtain ⟨L2, x2, n2⟩ := q2
        obtain ⟨L3, x3, n3⟩ := q3
        obtain ⟨L4, x4, n4⟩ := q4
        obtain ⟨L5, x5, n5⟩ := q5
        obtain ⟨rfl, rfl, rfl, rfl, rfl⟩ : n1 = 0 ∧ n2 = 0 ∧ n3 = 0 ∧ n4 = 0 ∧ n5 = 0 := HE.out
        have hx3 : x3 = f := HBS.out.1
        have hx5 : x5 = f := HBS.out.2
        subst hx3
        subst hx5
        clear HE HBS
        go_wp2_with fail
        refine (HL.out.op (r := (L1, x1, 0)) HK1.out rfl).mono ?_
        rintro e w4 ⟨rfl, hl⟩
        have HL1 := Lib.hid hl
        clear hl HK1 HL e1
        go_wp2_with fail
        refine (HL1.out.op (r := (L2, x2, 0)) HK2.out rfl).mono ?_
        rintro e w5 ⟨rfl, hl⟩
        have HL2 := Lib.hid hl
        clear hl HK2 HL1
        go_wp2_with fail
        refine (HL2.out.op (r := (L3, _, 0)) HK3.out rfl).mono ?_
        rintro e w6 ⟨rfl, hl⟩
        have HL3 := Lib.hid hl
        clear hl HK3 HL2
        go_wp2_with fail
        refine (HL3.out.op (r := (L4, x4, 0)) HK4.out rfl).mono ?_
        rintro e w7 ⟨rfl, hl⟩
        have HL4 := Lib.hid hl
        clear hl HK4 HL3
        go_wp2_with fail
        refine (HL4.out.op (r := (L5, _, 0)) HK5.out rfl).mono ?_
        rintro e w8 ⟨rfl, hl⟩
        have HL5 := Lib.hid hl
        clear hl HK5 HL4
        go_wp2_with fail
        refine (HL5.out.supp HFt.out.1 H5.out HSm.out.1).mono ?_
        rintro e w9 ⟨rfl, hl⟩
        have HL6 := Lib.hid hl
        clear hl HL5
        go_wp2_with fail
        refine (HL6.out.supp HFt.out.2.1 H5.out HSm.out.2.1).mono ?_
        rintro e w10 ⟨rfl, hl⟩
        have HL7 := Lib.hid hl
        clear hl HL6
        go_wp2_with fail
        refine (HL7.out.supp HFt.out.2.2 H5.out HSm.out.2.2).mono ?_
        rintro e w11 ⟨rfl, hl⟩
        have HL8 := Lib.hid hl
        clear hl HL7
        have hbt := HBt.out
        unfold bt at hbt
        rw [Int.toNat_natCast] at hbt
        go_wp2_with fail
        go_roundg (gk - 1)
        case measure => omega
        case rel => exact ⟨i + 1, L5, by go_num, by omega, HL8, HSp2⟩
      · have HBw : Hid (Below w.heap.size w wr) := Lib.hid (by obtain ⟨_, _, _, h, _⟩ := HL.out; exact h)
        go_wp2_with fail
        refine (alive_any wr).mono ?_
        rintro e w5 ⟨rfl, hb5⟩
        have HB5 := Lib.hid (HBw.out.trans (hb5.mono HBw.out.size))
        clear hb5
        go_wp2_with fail
        go_ret
        exact ⟨rfl, HB5.out⟩
end Go.Proofs.Ytiagkbmhfgdffaa.PBddSplits
