/- Walk of the law BddOdd: it answers true. -/
import Derived.Test.YtiagkbmhfgdffaaVl
import Derived.Test.YtiagkbmhfgdffaaGf
set_option linter.unusedVariables false
set_option linter.unusedSimpArgs false
namespace Go.Proofs.Ytiagkbmhfgdffaa.PBddOdd
open Go Go.RowKit Go.Deep Go.Maps
variable {w : World}
theorem odd_m {f v : Int} {xs : List Int} (h1 : f ≠ -1) (h2 : f ≠ -2) (hx : f ∈ xs) : mayb [] v xs = false := odd_may h1 h2 hx
theorem Live_bad {w wr : World} {mg : Nat} {lim : Int} {L : List Nd} (h : Live w wr mg lim L) {f : FuncId} {args : Array Value} (hc : ∀ S, Mgr wr mg lim L S → Calls Try.prog f args wr (BadPost wr mg lim S L)) :
    Calls Try.prog f args wr (fun e w' => e = .returned (.tuple #[.int .i64 0, .iface 51 (.int .i64 1)]) ∧ Live w w' mg lim L) := by
  obtain ⟨S, M, hS, hbl⟩ := h
  refine (hc S M).mono ?_
  rintro e w' ⟨rfl, ev, _, M', t, he⟩
  exact ⟨rfl, _, M', fun k hk => by
    have := hbl.size
    rcases hk with hk | hk
    · exact hS k hk
    · omega, hbl.trans (t.below hbl.size (fun k hk c => by have := hS k c; omega))⟩
set_option maxRecDepth 100000 in
set_option maxHeartbeats 16000000 in
theorem BddOdd_walk (f v limit : Int) (hf : fits f) :
    Calls Try.prog 7 #[.int .i64 f, .int .i64 v, .int .i64 limit] w fun e w' => e = .returned (.bool true) ∧ Below w.heap.size w w' := by
  have HF := Lib.hid hf
  have L0 : Hid (([] : List Nd).length < 100000000000) := Lib.hid (by decide)
  clear hf
  go_enter Try.func7, Try.ntmps7
  go_wp2_with fail
  refine (bdd_new limit 4).mono ?_
  intro e w1 h
  obtain ⟨mg, rfl, hl1, -⟩ := Live.of_new (Below.refl w.heap.size w) h
  have HL1 := Lib.hid hl1
  clear h hl1
  generalize max limit 0 = lim at *
  by_cases hodd : f = -1 ∨ f = -2
  · have hB : Hid (Below w.heap.size w w1) := Lib.hid (by obtain ⟨_, _, _, h⟩ := HL1.out; exact h)
    rcases hodd with rfl | rfl
    all_goals (
      go_wp2_with fail
      refine (alive_any w1).mono ?_
      rintro e w2 ⟨rfl, hb2⟩
      have HB2 := Lib.hid (hB.out.trans (hb2.mono hB.out.size))
      clear hb2
      go_wp2_with fail
      go_ret
      exact ⟨rfl, HB2.out⟩)
  · have n1 : f ≠ -1 := fun e => hodd (.inl e)
    have n2 : f ≠ -2 := fun e => hodd (.inr e)
    have c1 : (f == -1) = false := beq_eq_false_iff_ne.2 n1
    have c2 : (f == -2) = false := beq_eq_false_iff_ne.2 n2
    have HN := Lib.hid (And.intro n1 n2)
    clear hodd n1 n2
    have HV1 := Lib.hid (Live_bad HL1.out (fun S M => Not_bad M L0.out HF.out (odd_m HN.out.1 HN.out.2 (by simp))))
    go_wp2_with fail
    refine HV1.out.mono ?_
    rintro e w2 ⟨rfl, hl⟩
    have HL2 := Lib.hid hl
    clear hl HV1
    have HV2 := Lib.hid (Live_bad HL2.out (fun S M => And_bad M L0.out fits_yes HF.out (odd_m HN.out.1 HN.out.2 (by simp))))
    go_wp2_with fail
    refine HV2.out.mono ?_
    rintro e w3 ⟨rfl, hl⟩
    have HL3 := Lib.hid hl
    clear hl HV2
    have HV3 := Lib.hid (Live_bad HL3.out (fun S M => Ite_bad M L0.out fits_yes fits_yes HF.out (odd_m HN.out.1 HN.out.2 (by simp))))
    go_wp2_with fail
    refine HV3.out.mono ?_
    rintro e w4 ⟨rfl, hl⟩
    have HL4 := Lib.hid hl
    clear hl HV3
    have HV4 := Lib.hid (Live_bad HL4.out (fun S M => Restrict_bad M L0.out 0 true HF.out (odd_m HN.out.1 HN.out.2 (by simp))))
    go_wp2_with fail
    refine HV4.out.mono ?_
    rintro e w5 ⟨rfl, hl⟩
    have HL5 := Lib.hid hl
    clear hl HV4
    have HV5 := Lib.hid (Live_bad HL5.out (fun S M => Compose_bad M L0.out 0 HF.out fits_yes (odd_m HN.out.1 HN.out.2 (by simp))))
    go_wp2_with fail
    refine HV5.out.mono ?_
    rintro e w6 ⟨rfl, hl⟩
    have HL6 := Lib.hid hl
    clear hl HV5
    rcases (show v < 0 ∨ (0 ≤ v ∧ 12 ≤ v) ∨ (0 ≤ v ∧ v < 12) by omega) with hv | ⟨hv, hv'⟩ | ⟨hv, hv'⟩
    · have d1 : decide (v < 0) = true := decide_eq_true hv
      have HB : Hid (mayb [] v [-2] = false) := Lib.hid (by
        rw [Bool.eq_false_iff]; intro c; have := ((mayb_iff ok_nil).1 c).2; omega)
      have HV6 := Lib.hid (Live_bad HL6.out (fun S M => Restrict_bad M L0.out v true fits_yes HB.out))
      go_wp2_with fail
      refine HV6.out.mono ?_
      rintro e w7 ⟨rfl, hl⟩
      have HL7 := Lib.hid hl
      clear hl HV6
      have HV7 := Lib.hid (Live_bad HL7.out (fun S M => Xor_bad M L0.out HF.out fits_yes (odd_m HN.out.1 HN.out.2 (by simp))))
      go_wp2_with fail
      refine HV7.out.mono ?_
      rintro e w8 ⟨rfl, hl⟩
      have HL8 := Lib.hid hl
      clear hl HV7
      obtain ⟨S, M, hS, hB⟩ := HL8.out
      have HM := Lib.hid M
      have HBB := Lib.hid hB
      clear M hS hB
      go_wp2_with fail
      refine (alive_any w8).mono ?_
      rintro e wa ⟨rfl, hba⟩
      have HMa := Lib.hid (HM.out.below hba)
      have HBa := Lib.hid (HBB.out.trans (hba.mono HBB.out.size))
      clear hba
      go_wp2_with fail
      refine (is_errno 1 1 true rfl wa).mono ?_
      rintro e w' ⟨rfl, rfl⟩
      go_wp2_with fail
      refine (is_errno 1 1 true rfl wa).mono ?_
      rintro e w' ⟨rfl, rfl⟩
      go_wp2_with fail
      refine (is_errno 1 1 true rfl wa).mono ?_
      rintro e w' ⟨rfl, rfl⟩
      go_wp2_with fail
      refine (is_errno 1 1 true rfl wa).mono ?_
      rintro e w' ⟨rfl, rfl⟩
      go_wp2_with fail
      refine (is_errno 1 1 true rfl wa).mono ?_
      rintro e w' ⟨rfl, rfl⟩
      go_wp2_with fail
      refine (is_errno 1 1 true rfl wa).mono ?_
      rintro e w' ⟨rfl, rfl⟩
      go_wp2_with fail
      refine (is_errno 1 1 true rfl wa).mono ?_
      rintro e w' ⟨rfl, rfl⟩
      go_wp2_with fail
      refine (is_any HMa.out f HF.out L0.out).mono ?_
      rintro e wb ⟨rfl, hbb⟩
      rw [odd_isb HN.out.1 HN.out.2]
      have HMb := Lib.hid (HMa.out.below hbb)
      have HBb := Lib.hid (HBa.out.trans (hbb.mono HBa.out.size))
      clear hbb
      go_wp2_with fail
      refine (support_any HMb.out f HF.out L0.out).mono ?_
      rintro e wc ⟨rfl, hbc⟩
      rw [odd_supp HN.out.1 HN.out.2]
      have HBc := Lib.hid (HBb.out.trans (hbc.mono HBb.out.size))
      clear hbc
      go_wp2_with fail
      go_ret
      exact ⟨rfl, HBc.out⟩
    · have d1 : decide (v < 0) = false := decide_eq_false (by omega)
      have d2 : decide (12 ≤ v) = true := decide_eq_true hv'
      have HB : Hid (mayb [] v [-2] = false) := Lib.hid (by
        rw [Bool.eq_false_iff]; intro c; have := ((mayb_iff ok_nil).1 c).2; omega)
      have HV6 := Lib.hid (Live_bad HL6.out (fun S M => Restrict_bad M L0.out v true fits_yes HB.out))
      go_wp2_with fail
      refine HV6.out.mono ?_
      rintro e w7 ⟨rfl, hl⟩
      have HL7 := Lib.hid hl
      clear hl HV6
      have HV7 := Lib.hid (Live_bad HL7.out (fun S M => Xor_bad M L0.out HF.out fits_yes (odd_m HN.out.1 HN.out.2 (by simp))))
      go_wp2_with fail
      refine HV7.out.mono ?_
      rintro e w8 ⟨rfl, hl⟩
      have HL8 := Lib.hid hl
      clear hl HV7
      obtain ⟨S, M, hS, hB⟩ := HL8.out
      have HM := Lib.hid M
      have HBB := Lib.hid hB
      clear M hS hB
      go_wp2_with fail
      refine (alive_any w8).mono ?_
      rintro e wa ⟨rfl, hba⟩
      have HMa := Lib.hid (HM.out.below hba)
      have HBa := Lib.hid (HBB.out.trans (hba.mono HBB.out.size))
      clear hba
      go_wp2_with fail
      refine (is_errno 1 1 true rfl wa).mono ?_
      rintro e w' ⟨rfl, rfl⟩
      go_wp2_with fail
      refine (is_errno 1 1 true rfl wa).mono ?_
      rintro e w' ⟨rfl, rfl⟩
      go_wp2_with fail
      refine (is_errno 1 1 true rfl wa).mono ?_
      rintro e w' ⟨rfl, rfl⟩
      go_wp2_with fail
      refine (is_errno 1 1 true rfl wa).mono ?_
      rintro e w' ⟨rfl, rfl⟩
      go_wp2_with fail
      refine (is_errno 1 1 true rfl wa).mono ?_
      rintro e w' ⟨rfl, rfl⟩
      go_wp2_with fail
      refine (is_errno 1 1 true rfl wa).mono ?_
      rintro e w' ⟨rfl, rfl⟩
      go_wp2_with fail
      refine (is_errno 1 1 true rfl wa).mono ?_
      rintro e w' ⟨rfl, rfl⟩
      go_wp2_with fail
      refine (is_any HMa.out f HF.out L0.out).mono ?_
      rintro e wb ⟨rfl, hbb⟩
      rw [odd_isb HN.out.1 HN.out.2]
      have HMb := Lib.hid (HMa.out.below hbb)
      have HBb := Lib.hid (HBa.out.trans (hbb.mono HBa.out.size))
      clear hbb
      go_wp2_with fail
      refine (support_any HMb.out f HF.out L0.out).mono ?_
      rintro e wc ⟨rfl, hbc⟩
      rw [odd_supp HN.out.1 HN.out.2]
      have HBc := Lib.hid (HBb.out.trans (hbc.mono HBb.out.size))
      clear hbc
      go_wp2_with fail
      go_ret
      exact ⟨rfl, HBc.out⟩
    · have d1 : decide (v < 0) = false := decide_eq_false (by omega)
      have d2 : decide (12 ≤ v) = false := decide_eq_false (by omega)
      have HB : Hid (mayb [] v [-2] = true) := Lib.hid ((mayb_iff ok_nil).2 ⟨fun x hx => by rw [List.mem_singleton] at hx; rw [hx]; exact .yes, by omega, by omega⟩)
      have HV6 := Lib.hid (HL6.out.op (r := ([], -2, 0)) (fun S M => Restrict_leaf M L0.out v true fits_yes HB.out (Ar.isN_not_neg (by decide))))
      go_wp2_with fail
      refine HV6.out.mono ?_
      rintro e w7 ⟨eR, rfl, heeR, hl⟩
      obtain rfl : eR = .nilIface := errAt0 heeR
      have HL7 := Lib.hid hl
      clear hl heeR HV6
      have HV7 := Lib.hid (Live_bad HL7.out (fun S M => Xor_bad M L0.out HF.out fits_yes (odd_m HN.out.1 HN.out.2 (by simp))))
      go_wp2_with fail
      refine HV7.out.mono ?_
      rintro e w8 ⟨rfl, hl⟩
      have HL8 := Lib.hid hl
      clear hl HV7
      obtain ⟨S, M, hS, hB⟩ := HL8.out
      have HM := Lib.hid M
      have HBB := Lib.hid hB
      clear M hS hB
      go_wp2_with fail
      refine (alive_any w8).mono ?_
      rintro e wa ⟨rfl, hba⟩
      have HMa := Lib.hid (HM.out.below hba)
      have HBa := Lib.hid (HBB.out.trans (hba.mono HBB.out.size))
      clear hba
      go_wp2_with fail
      refine (is_errno 1 1 true rfl wa).mono ?_
      rintro e w' ⟨rfl, rfl⟩
      go_wp2_with fail
      refine (is_errno 1 1 true rfl wa).mono ?_
      rintro e w' ⟨rfl, rfl⟩
      go_wp2_with fail
      refine (is_errno 1 1 true rfl wa).mono ?_
      rintro e w' ⟨rfl, rfl⟩
      go_wp2_with fail
      refine (is_errno 1 1 true rfl wa).mono ?_
      rintro e w' ⟨rfl, rfl⟩
      go_wp2_with fail
      refine (is_errno 1 1 true rfl wa).mono ?_
      rintro e w' ⟨rfl, rfl⟩
      go_wp2_with fail
      refine (is_errno 1 1 true rfl wa).mono ?_
      rintro e w' ⟨rfl, rfl⟩
      go_wp2_with fail
      refine (is_nil 1 wa).mono ?_
      rintro e w' ⟨rfl, rfl⟩
      go_wp2_with fail
      refine (is_any HMa.out f HF.out L0.out).mono ?_
      rintro e wb ⟨rfl, hbb⟩
      rw [odd_isb HN.out.1 HN.out.2]
      have HMb := Lib.hid (HMa.out.below hbb)
      have HBb := Lib.hid (HBa.out.trans (hbb.mono HBa.out.size))
      clear hbb
      go_wp2_with fail
      refine (support_any HMb.out f HF.out L0.out).mono ?_
      rintro e wc ⟨rfl, hbc⟩
      rw [odd_supp HN.out.1 HN.out.2]
      have HBc := Lib.hid (HBb.out.trans (hbc.mono HBb.out.size))
      clear hbc
      go_wp2_with fail
      go_ret
      exact ⟨rfl, HBc.out⟩
end Go.Proofs.Ytiagkbmhfgdffaa.PBddOdd
