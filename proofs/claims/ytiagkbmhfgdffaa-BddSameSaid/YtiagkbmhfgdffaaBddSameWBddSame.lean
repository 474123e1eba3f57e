/- Walk of the law BddSame: it answers true. -/
import Derived.Test.YtiagkbmhfgdffaaPBddSamex50
import Derived.Test.YtiagkbmhfgdffaaBddSameRun
import Derived.Test.YtiagkbmhfgdffaaGf
set_option linter.unusedVariables false
set_option linter.unusedSimpArgs false
namespace Go.Proofs.Ytiagkbmhfgdffaa.PBddSame
open Go Go.RowKit Go.Deep Go.Maps Go.Proofs.YtiagkbmhfgdffaaW.PrintWords Go.Proofs.YtiagkbmhfgdffaaW.PrintLast Go.Proofs.YtiagkbmhfgdffaaW.PrintMore
variable {w : World}
theorem Same_l0 {X Y : List Bool} (hX : X.length = 4096) (hY : Y.length = 4096) : ∀ (d k i : Nat), i + d = 4096 → d < k → (∀ j, j < i → X.getD j false = Y.getD j false) → helmsmanref07_Same.l0 k X Y (i : Int) = some (decide (X = Y))
  | d, 0, _, _, h, _ => by omega
  | 0, k + 1, i, hi, hk, hp => by
    obtain rfl : i = 4096 := by omega
    rw [helmsmanref07_Same.l0, if_neg (by decide)]
    congr 1
    rw [decide_eq_true]
    refine List.ext_getElem (hX.trans hY.symm) (fun n h1 h2 => ?_)
    have := hp n (by omega)
    simpa [List.getD, h1, h2] using this
  | d + 1, k + 1, i, hi, hk, hp => by
    rw [helmsmanref07_Same.l0, if_pos (by omega), if_pos (by omega), if_pos (by omega), if_pos (by omega)]
    have e1 : rdOf false X (i : Int) = X.getD i false := by unfold rdOf; rw [Int.toNat_natCast]
    have e2 : rdOf false Y (i : Int) = Y.getD i false := by unfold rdOf; rw [Int.toNat_natCast]
    rw [e1, e2]
    by_cases h : X.getD i false = Y.getD i false
    · rw [if_neg (by rw [h]; simp), w64 (by omega)]
      exact Same_l0 hX hY d k (i + 1) (by omega) (by omega) (fun j hj => by
        by_cases e : j = i
        · rw [e]; exact h
        · exact hp j (by omega))
    · rw [if_pos (by simpa using h)]
      congr 1
      rw [decide_eq_false]
      intro e; exact h (by rw [e])
theorem Same_f {X Y : List Bool} (hX : X.length = 4096) (hY : Y.length = 4096) : helmsmanref07_Same.f 4097 X Y = some (decide (X = Y)) := by
  unfold helmsmanref07_Same.f
  exact Same_l0 hX hY 4096 4097 0 (by omega) (by omega) (fun j hj => by omega)
theorem quiet_d0 {P : Program} {f : FuncId} {args : Array Value} {w : World} {n : Nat} {v : Value}
    (h : Calls P f args (w.drewN n) fun e w' => e = .returned v ∧ Drawn0 (w.drewN n) w') : Calls P f args (w.drewN n) fun e w'' => e = .returned v ∧ ∃ m, w'' = w.drewN m :=
  h.mono fun _ _ ⟨he, hm⟩ => by
    obtain ⟨m, rfl⟩ := hm
    exact ⟨he, n + m, World.drewN_drewN ..⟩
set_option maxRecDepth 100000 in
set_option maxHeartbeats 16000000 in
theorem BddSame_walk (cache : Int) (v : Value) (xs : List Op7) (h : Ops7 w v xs) :
    Calls Try.prog 4 #[.int .i64 cache, v] w fun e w' => e = .returned (.bool true) ∧ Below w.heap.size w w' := by
  have HO := Lib.hid h
  obtain ⟨ao, c, rfl, hc, hc2, -⟩ := h
  unfold maxLen at hc2
  go_enter Try.func4, Try.ntmps4
  go_wp2_with fail
  refine (bdd_new 65536 cache).mono ?_
  rintro e w1 ⟨mg, rfl, M1, hb1⟩
  rw [show max (65536 : Int) 0 = 65536 from rfl] at M1
  have HM1 := Lib.hid M1
  have HB1 := Lib.hid hb1
  clear M1 hb1
  by_cases hx : 16 < xs.length
  · have hx' : (16 : Int) < xs.length := by omega
    go_wp2_with fail
    refine (alive_any w1).mono ?_
    rintro e w2 ⟨rfl, hb2⟩
    have HB2 := Lib.hid (HB1.out.trans (hb2.mono HB1.out.size))
    clear hb2
    go_wp2_with fail
    go_ret
    exact ⟨rfl, HB2.out⟩
  · have hx' : (xs.length : Int) ≤ 16 := by omega
    go_wp2_with fail
    refine (run_any (lim := 65536) (by decide) HM1.out HO.out HB1.out (fun k hk => hk.1) (by omega)).mono ?_
    rintro e w2 ⟨vl, vt, S', rfl, hI⟩
    have HG := Lib.hid (Good.run (lim := 65536) (by decide) xs)
    have hlen := runR7_len (lim := 65536) xs
    generalize runR7 65536 xs = s at *
    have HB2 := Lib.hid (HB1.out.trans (hI.tch.below HB1.out.size (fun k hk c => by have := c.1; omega)))
    have hli := hI.l.ints
    have hti := Tbs.of_N hI.t
    obtain ⟨al, cl, rfl, hlc, hlm, hlcell⟩ := hli
    obtain ⟨at', ct, rfl, htc, htm, htcell⟩ := hti
    unfold maxLen at hlm htm
    have HL := Lib.hid hlcell
    have HT := Lib.hid htcell
    have hgl := HG.out.len
    clear hI hlcell htcell HM1 hx
    go_wp2_with fail
    go_loopg [38] s.l.length (fun gk v38 wr => ∃ i : Nat, v38 = .int .i64 i ∧ i + gk = s.l.length ∧ Hid (Below w2.heap.size w2 wr))
    case atStart => exact ⟨0, rfl, by omega, Lib.hid (Below.refl _ _)⟩
    case round =>
      obtain ⟨i, rfl, hi, HW⟩ := hrel
      obtain ⟨gk0, hgk0⟩ : ∃ g, g = gk := ⟨_, rfl⟩
      subst hgk0
      by_cases hlt : i < s.l.length
      · go_wp2_with fail
        obtain ⟨wr0, hwr0⟩ : ∃ x, x = wr := ⟨_, rfl⟩
        subst hwr0
        go_loopg [42] i (fun gj v42 wx => ∃ k : Nat, v42 = .int .i64 k ∧ k + gj = i ∧ Hid (Below w2.heap.size w2 wx))
        case atStart => exact ⟨0, rfl, by omega, HW⟩
        case round =>
          clear HW
          obtain ⟨k, rfl, hk, HW⟩ := hrel
          by_cases hkl : k < i
          · obtain ⟨b, o, rfl, e1⟩ := HL.out i hlt
            obtain ⟨b', o', hbo, e2⟩ := HL.out k (by omega)
            simp only [Option.some.injEq, Addr.mk.injEq, and_true] at hbo
            obtain ⟨rfl, rfl⟩ := hbo
            obtain ⟨g, q, u, rfl, f1, hu⟩ := HT.out i (by omega)
            obtain ⟨g', q', u', hgq, f2, hu'⟩ := HT.out k (by omega)
            simp only [Option.some.injEq, Addr.mk.injEq, and_true] at hgq
            obtain ⟨rfl, rfl⟩ := hgq
            obtain ⟨Ai, ci, rfl, hci, hCi⟩ := hu
            obtain ⟨Ak, ck, rfl, hck, hCk⟩ := hu'
            have si := HG.out.sem i hlt
            have sk := HG.out.sem k (by omega)
            have ei : s.T.getD i [] = s.T[i] := by simp [List.getD, show i < s.T.length by omega]
            have ek : s.T.getD k [] = s.T[k] := by simp [List.getD, show k < s.T.length by omega]
            rw [ei] at si
            rw [ek] at sk
            have hS : helmsmanref07_Same.f 4097 s.T[i] s.T[k] = some (s.l[i] == s.l[k]) := by
              rw [Same_f si.len sk.len]
              congr 1
              have := si.same HG.out.ok sk
              by_cases c : s.l[i] = s.l[k]
              · rw [beq_iff_eq.2 c, decide_eq_true (this.1 c)]
              · rw [beq_eq_false_iff_ne.2 c, decide_eq_false (fun e => c (this.2 e))]
            have hne : ((s.l[i] == s.l[k]) != (s.l[i] == s.l[k])) = false := by cases (s.l[i] == s.l[k]) <;> rfl
            generalize s.l[i] = x at *
            generalize s.l[k] = y at *
            generalize s.T[i] = X at *
            generalize s.T[k] = Y at *
            replace e1 := (HW.out.cell (p := ⟨b, o + i, none⟩) (World.block_lt_of_cell? w2 _ e1)).trans e1
            replace e2 := (HW.out.cell (p := ⟨b, o + k, none⟩) (World.block_lt_of_cell? w2 _ e2)).trans e2
            replace f1 := (HW.out.cell (p := ⟨g, q + i, none⟩) (World.block_lt_of_cell? w2 _ f1)).trans f1
            replace f2 := (HW.out.cell (p := ⟨g, q + k, none⟩) (World.block_lt_of_cell? w2 _ f2)).trans f2
            have HCi := Lib.hid (Kd.C_below hCi HW.out)
            have HCk := Lib.hid (Kd.C_below hCk HW.out)
            have HS := Lib.hid hS
            clear hCi hCk si sk ei ek hS
            have hi9 : (i : Int) < s.l.length := by omega
            have hk9 : (k : Int) < s.l.length := by omega
            have hi8 : (i : Int) < s.T.length := by omega
            have hk8 : (k : Int) < s.T.length := by omega
            go_wp2_with fail
            go_quiet ((go_at_call 14; exact quiet_d0 (helmsmanref07_Same.calls 4097 _ _ _ _ _ _ _ _ (Kd.C_below HCi.out (drawn7 _ _)) hci (Kd.C_below HCk.out (drawn7 _ _)) hck HS.out)))
            have HW2 := Lib.hid (HW.out.trans ((drawn7 wr nq).mono HW.out.size))
            go_wp2_with fail
            go_roundg (gk - 1)
            case measure => omega
            case rel => exact ⟨k + 1, by go_num, by omega, HW2⟩
          · go_wp2_with fail
            go_roundg (gk0 - 1)
            case measure => omega
            case rel => exact ⟨i + 1, by go_num, by omega, HW⟩
      · go_wp2_with fail
        refine (alive_any wr).mono ?_
        rintro e w3 ⟨rfl, hb3⟩
        have HB3 := Lib.hid (HB2.out.trans ((HW.out.trans (hb3.mono HW.out.size)).mono HB2.out.size))
        clear hb3
        go_wp2_with fail
        go_ret
        exact ⟨rfl, HB3.out⟩
end Go.Proofs.Ytiagkbmhfgdffaa.PBddSame
