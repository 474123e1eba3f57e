/- Walk of the law BddSupport: it answers true. -/
import Derived.Test.YtiagkbmhfgdffaaPBddSupportx50
import Derived.Test.YtiagkbmhfgdffaaBddSupportRun
import Derived.Test.YtiagkbmhfgdffaaGf
import Derived.Test.YtiagkbmhfgdffaaGe
set_option linter.unusedVariables false
set_option linter.unusedSimpArgs false
namespace Go.Proofs.Ytiagkbmhfgdffaa.PBddSupport
open Go Go.RowKit Go.Deep Go.Maps Go.Proofs.YtiagkbmhfgdffaaW.PrintWords Go.Proofs.YtiagkbmhfgdffaaW.PrintLast Go.Proofs.YtiagkbmhfgdffaaW.PrintMore
variable {w : World}
theorem with_fk {n v k : Nat} {b : Bool} (hn : n < 4096) (hv : v < 12) (hk : 24 < k) : helmsmanref07_with.f k (n : Int) (v : Int) b = some ((withN n v b : Nat) : Int) := by
  unfold helmsmanref07_with.f
  exact with_l0 n v b hn hv v k 0 (by omega) (by omega)
def hg (T : List Bool) (v n : Nat) : Bool := T.getD (withN n v false) false != T.getD (withN n v true) false
theorem Support_l1 {T : List Bool} (hT : T.length = 4096) {v : Nat} (hv : v < 12) (s p r : Int) (K : Nat)
    (hc : ∀ k, K ≤ k → (if (List.range 4096).any (hg T v) = true then helmsmanref07_Support.l0 k T (IntKind.u64.wrap (s + p)) (IntKind.u64.wrap (p * 2)) (wrap64 ((v : Int) + 1)) else helmsmanref07_Support.l0 k T s (IntKind.u64.wrap (p * 2)) (wrap64 ((v : Int) + 1))) = some r) :
    ∀ (d k i : Nat), i + d = 4096 → d + K + 30 < k → helmsmanref07_Support.l1 k T s p (v : Int) ((List.range i).any (hg T v)) (i : Int) = some r
  | d, 0, _, _, h => by omega
  | 0, k + 1, i, hi, hk => by
    obtain rfl : i = 4096 := by omega
    rw [helmsmanref07_Support.l1, if_neg (by decide)]
    exact hc k (by omega)
  | d + 1, k + 1, i, hi, hk => by
    have h1 := withN_lt (n := i) (v := v) (K := 12) false (show i < 2 ^ 12 by omega) hv
    have h2 := withN_lt (n := i) (v := v) (K := 12) true (show i < 2 ^ 12 by omega) hv
    have e1 : rdOf false T ((withN i v false : Nat) : Int) = T.getD (withN i v false) false := by unfold rdOf; rw [Int.toNat_natCast]
    have e2 : rdOf false T ((withN i v true : Nat) : Int) = T.getD (withN i v true) false := by unfold rdOf; rw [Int.toNat_natCast]
    have hs : (List.range (i + 1)).any (hg T v) = ((List.range i).any (hg T v) || hg T v i) := by rw [List.range_succ, List.any_append]; simp
    have ih := Support_l1 hT hv s p r K hc d k (i + 1) (by omega) (by omega)
    rw [hs] at ih
    rw [helmsmanref07_Support.l1, if_pos (by omega), with_fk (by omega) hv (by omega), Option.bind_some, if_pos (by omega), if_pos (by omega), with_fk (by omega) hv (by omega), Option.bind_some, if_pos (by omega), if_pos (by omega), e1, e2, w64 (by omega)]
    change (if hg T v i = true then _ else _) = _
    by_cases hh : hg T v i = true
    · rw [if_pos hh]
      rw [hh, Bool.or_true] at ih
      exact ih
    · rw [if_neg hh]
      rw [Bool.not_eq_true] at hh
      rw [hh, Bool.or_false] at ih
      exact ih
theorem Support_l0 {T : List Bool} (hT : T.length = 4096) (hf : Nat → Bool) (hh : ∀ v, (List.range 4096).any (hg T v) = hf v) (R : Nat) (hR : bitsOf hf 12 = R) : ∀ (d k v : Nat), v + d = 12 → d * 4200 + 10 < k → helmsmanref07_Support.l0 k T ((bitsOf hf v : Nat) : Int) ((2 ^ v : Nat) : Int) (v : Int) = some ((R : Nat) : Int) := by
  intro d
  induction d with
  | zero =>
    intro k v hv hk
    obtain rfl : v = 12 := by omega
    obtain ⟨k, rfl⟩ : ∃ m, k = m + 1 := ⟨k - 1, by omega⟩
    rw [helmsmanref07_Support.l0, if_neg (by decide), hR]
  | succ d ih =>
    intro k v hv hk
    obtain ⟨k, rfl⟩ : ∃ m, k = m + 1 := ⟨k - 1, by omega⟩
    have hp : (2 : Nat) ^ v ≤ 2048 := Nat.pow_le_pow_right (by decide) (show v ≤ 11 by omega)
    have hb : bitsOf hf v < 2 ^ v := bitsOf_lt _ v
    rw [helmsmanref07_Support.l0, if_pos (by omega)]
    have key := fun hc => Support_l1 hT (show v < 12 by omega) ((bitsOf hf v : Nat) : Int) ((2 ^ v : Nat) : Int) ((R : Nat) : Int) (d * 4200 + 11) hc 4096 k 0 (by omega) (by omega)
    refine key (fun k' hk' => ?_)
    have ih := ih k' (v + 1) (by clear key hk' hk; omega) hk'
    have e3 : wrap64 ((v : Int) + 1) = ((v + 1 : Nat) : Int) := by rw [w64 (by omega)]; omega
    have e4 : IntKind.u64.wrap (((2 ^ v : Nat) : Int) * 2) = ((2 ^ (v + 1) : Nat) : Int) := by
      rw [Nat.pow_succ, IntKind.wrap_u64]
      generalize 2 ^ v = q at *
      omega
    have e5 : IntKind.u64.wrap (((bitsOf hf v : Nat) : Int) + ((2 ^ v : Nat) : Int)) = ((bitsOf hf v + 2 ^ v : Nat) : Int) := by
      rw [IntKind.wrap_u64]
      generalize 2 ^ v = q at *
      generalize bitsOf hf v = z at *
      omega
    rw [e3, e4, e5, hh]
    have hz : bitsOf hf (v + 1) = bitsOf hf v + (if hf v then 2 ^ v else 0) := rfl
    rw [hz] at ih
    cases hv' : hf v
    · rw [if_neg (by decide)]
      rw [hv', if_neg (by decide), Nat.add_zero] at ih
      exact ih
    · rw [if_pos rfl]
      rw [hv', if_pos rfl] at ih
      exact ih
theorem Support_f {T : List Bool} (hT : T.length = 4096) : helmsmanref07_Support.f 60000 T = some ((supT T : Nat) : Int) := by
  unfold helmsmanref07_Support.f supT
  have h0 : hangs T = fun v => (List.range 4096).any (hg T v) := rfl
  rw [h0]
  generalize hhf : (fun v => (List.range 4096).any (hg T v)) = hf
  have h := Support_l0 hT hf (fun v => by rw [← hhf]) _ rfl 12 60000 0 (by omega) (by omega)
  exact h
theorem below_of_d0 {w w' : World} (h : Drawn0 w w') : Below w.heap.size w w' := h.below
theorem calls_d0 {P : Program} {f : FuncId} {args : Array Value} {w : World} {v : Value} (h : Calls P f args w fun e w' => e = .returned v ∧ Drawn0 w w') : Calls P f args w fun e w' => e = .returned v ∧ Below w.heap.size w w' :=
  h.mono fun _ _ ⟨he, hm⟩ => ⟨he, hm.below⟩
set_option maxRecDepth 100000 in
set_option maxHeartbeats 16000000 in
theorem BddSupport_walk (v : Value) (xs : List Op7) (h : Ops7 w v xs) :
    Calls Try.prog 6 #[v] w fun e w' => e = .returned (.bool true) ∧ Below w.heap.size w w' := by
  have HO := Lib.hid h
  obtain ⟨ao, c, rfl, hc, hc2, -⟩ := h
  unfold maxLen at hc2
  go_enter Try.func6, Try.ntmps6
  go_wp2_with fail
  refine (bdd_new 65536 50).mono ?_
  rintro e w1 ⟨mg, rfl, M1, hb1⟩
  rw [show max (65536 : Int) 0 = 65536 from rfl] at M1
  have HM1 := Lib.hid M1
  have HB1 := Lib.hid hb1
  clear M1 hb1
  by_cases hx : 16 < xs.length
  · have hx' : (16 : Int) < xs.length := by omega
    go_wp2_with fail
    refine (alive_any w1).mono ?_
    rintro e w2 ⟨rfl, hb2⟩
    have HB2 := Lib.hid (HB1.out.trans (hb2.mono HB1.out.size))
    clear hb2
    go_wp2_with fail
    go_ret
    exact ⟨rfl, HB2.out⟩
  · have hx' : (xs.length : Int) ≤ 16 := by omega
    go_wp2_with fail
    refine (run_any (lim := 65536) (by decide) HM1.out HO.out HB1.out (fun k hk => hk.1) (by omega)).mono ?_
    rintro e w2 ⟨vl, vt, S', rfl, hI⟩
    have HG := Lib.hid (Good.run (lim := 65536) (by omega) xs)
    have hlen := runR7_len (lim := 65536) xs
    generalize runR7 (65536) xs = s at *
    have HB2 := Lib.hid (HB1.out.trans (hI.tch.below HB1.out.size (fun k hk c => by have := c.1; omega)))
    have hli := hI.l.ints
    have hti := Tbs.of_N hI.t
    have HM2 := Lib.hid hI.m
    obtain ⟨al, cl, rfl, hlc, hlm, hlcell⟩ := hli
    obtain ⟨at', ct, rfl, htc, htm, htcell⟩ := hti
    unfold maxLen at hlm htm
    have HL := Lib.hid hlcell
    have HT := Lib.hid htcell
    have HRm : Hid (s.L.length < 100000000000) := Lib.hid (by have := HG.out.room; omega)
    have hgl := HG.out.len
    clear hI hlcell htcell HM1
    have HW0 : Hid (Below w2.heap.size w2 w2) := Lib.hid (Below.refl _ _)
    go_wp2_with fail
    go_loopg [34] s.l.length (fun gk vi wr => ∃ i : Nat, vi = .int .i64 i ∧ i + gk = s.l.length ∧ Hid (Below w2.heap.size w2 wr))
    case atStart => exact ⟨0, rfl, by omega, HW0⟩
    case round =>
      clear HW0
      obtain ⟨i, rfl, hi, HW⟩ := hrel
      by_cases hlt : i < s.l.length
      · obtain ⟨b, o, rfl, e1⟩ := HL.out i hlt
        obtain ⟨g, q, u, rfl, f1, hu⟩ := HT.out i (by omega)
        have si := HG.out.sem i hlt
        have ei : s.T.getD i [] = s.T[i] := by simp [List.getD, show i < s.T.length by omega]
        rw [ei] at si
        have HSu := Lib.hid (supp_sem HG.out.ok si)
        have HF := Lib.hid (Support_f si.len)
        have HFit := Lib.hid (bo_fits HRm.out si.bo)
        have hgb := World.block_lt_of_cell? w2 _ e1
        have hgg := World.block_lt_of_cell? w2 _ f1
        obtain ⟨Au, cu, rfl, hcu, hCu⟩ := hu
        have HCu := Lib.hid (Kd.C_below hCu HW.out)
        have q1 := (HW.out.cell (p := ⟨b, o + i, none⟩) hgb).trans e1
        have q2 := (HW.out.cell (p := ⟨g, q + i, none⟩) hgg).trans f1
        generalize s.l[i] = x at *
        generalize s.T[i] = X at *
        have HMw := Lib.hid (HM2.out.below HW.out)
        clear e1 f1 si ei hgb hgg hCu
        have hsu : Calls Try.prog 16 #[.pointer (some ⟨mg, 0, none⟩), .int .i64 x] wr (fun e w' => e = .returned (.int .u64 ((supT X : Nat) : Int)) ∧ Below wr.heap.size wr w') ∧ True := by
          refine ⟨?_, trivial⟩
          have := support_any HMw.out x HFit.out HRm.out
          rw [HSu.out] at this
          exact this
        clear hsu
        have HSC : Hid (∀ W, Below wr.heap.size wr W → Calls Try.prog 16 #[.pointer (some ⟨mg, 0, none⟩), .int .i64 x] W (fun e w' => e = .returned (.int .u64 ((supT X : Nat) : Int)) ∧ Below W.heap.size W w')) := Lib.hid (fun W hW => by
          have := support_any (HMw.out.below hW) x HFit.out HRm.out
          rw [HSu.out] at this
          exact this)
        have HDC : Hid (∀ W, Below wr.heap.size wr W → Calls Try.prog 17 #[.slice Au X.length cu] W (fun e w' => e = .returned (.int .u64 ((supT X : Nat) : Int)) ∧ Below W.heap.size W w')) := Lib.hid (fun W hW =>
          calls_d0 (helmsmanref07_Support.calls 60000 _ _ _ _ W (Kd.C_below HCu.out hW) hcu HF.out))
        clear HSu HF HFit HCu HMw
        generalize ((supT X : Nat) : Int) = z at *
        have hzz : (z != z) = false := by simp
        go_wp2_with fail
        refine wp_region_held_drew (S := fun w' => w'.cell? ⟨b, o + i, none⟩ = some (.int .i64 x) ∧ w'.cell? ⟨g, q + i, none⟩ = some (.slice Au X.length cu)) (by kernel_rfl) ?_ (fun hHeld => ?_)
        focus ((try dsimp only); (first | done | (exact ⟨cell_below ((Below.refl wr.heap.size wr).drew) q1, cell_below ((Below.refl wr.heap.size wr).drew) q2⟩)); done)
        (refine wpAnyH_take (i := 0) (oi := ⟨some 37, _, _, _, _, _⟩) (v := ?_) rfl (by kernel_rfl) (by kernel_rfl) (by kernel_rfl) (fun _ _ _ h => h) (Or.inl ⟨by kernel_rfl, ?_⟩) hHeld ?_; rotate_left; focus (intro w hSw; (try dsimp only at hSw); go_simp; (try with_reducible rfl); done))
        (first | (simp only [Act.put, List.setIfInBounds_toArray, List.set_cons_zero, List.set_cons_succ]) | (simp only [Act.put, List.setIfInBounds_toArray, List.set]) | (simp only [Act.put]) | skip)
        (refine wpAnyH_take (i := 1) (oi := ⟨some 38, _, _, _, _, _⟩) (v := ?_) rfl (by kernel_rfl) (by kernel_rfl) (by kernel_rfl) (fun _ _ _ h => h) (Or.inl ⟨by kernel_rfl, ?_⟩) hHeld ?_; rotate_left; focus (intro w hSw; (try dsimp only at hSw); go_simp; (try with_reducible rfl); done))
        (first | (simp only [Act.put, List.setIfInBounds_toArray, List.set_cons_zero, List.set_cons_succ]) | (simp only [Act.put, List.setIfInBounds_toArray, List.set]) | (simp only [Act.put]) | skip)
        (refine wpAnyH_take (i := 2) (oi := ⟨some 39, _, _, _, _, _⟩) (v := ?_) rfl (by kernel_rfl) (by kernel_rfl) (by kernel_rfl) (fun _ _ _ h => h) (Or.inl ⟨by kernel_rfl, ?_⟩) hHeld ?_; rotate_left; focus (intro w hSw; (try dsimp only at hSw); go_simp; (try with_reducible rfl); done))
        (first | (simp only [Act.put, List.setIfInBounds_toArray, List.set_cons_zero, List.set_cons_succ]) | (simp only [Act.put, List.setIfInBounds_toArray, List.set]) | (simp only [Act.put]) | skip)
        (refine wpAnyH_take (i := 3) (oi := ⟨some 40, _, _, _, _, _⟩) (v := ?_) rfl (by kernel_rfl) (by kernel_rfl) (by kernel_rfl) (fun _ _ _ h => h) (Or.inl ⟨by kernel_rfl, ?_⟩) hHeld ?_; rotate_left; focus (intro w hSw; (try dsimp only at hSw); go_simp; (try with_reducible rfl); done))
        (first | (simp only [Act.put, List.setIfInBounds_toArray, List.set_cons_zero, List.set_cons_succ]) | (simp only [Act.put, List.setIfInBounds_toArray, List.set]) | (simp only [Act.put]) | skip)
        (refine wpAnyH_take (i := 4) (oi := ⟨some 41, _, _, _, _, _⟩) (v := ?_) rfl (by kernel_rfl) (by kernel_rfl) (by kernel_rfl) (fun _ _ _ h => h) (Or.inl ⟨by kernel_rfl, ?_⟩) hHeld ?_; rotate_left; focus (intro w hSw; (try dsimp only at hSw); go_simp; (try with_reducible rfl); done))
        (first | (simp only [Act.put, List.setIfInBounds_toArray, List.set_cons_zero, List.set_cons_succ]) | (simp only [Act.put, List.setIfInBounds_toArray, List.set]) | (simp only [Act.put]) | skip)
        (refine wpAnyH_take (i := 6) (oi := ⟨some 43, _, _, _, _, _⟩) (v := ?_) rfl (by kernel_rfl) (by kernel_rfl) (by kernel_rfl) (fun _ _ _ h => h) (Or.inl ⟨by kernel_rfl, ?_⟩) hHeld ?_; rotate_left; focus (intro w hSw; (try dsimp only at hSw); go_simp; (try with_reducible rfl); done))
        (first | (simp only [Act.put, List.setIfInBounds_toArray, List.set_cons_zero, List.set_cons_succ]) | (simp only [Act.put, List.setIfInBounds_toArray, List.set]) | (simp only [Act.put]) | skip)
        (refine wpAnyH_take (i := 7) (oi := ⟨some 44, _, _, _, _, _⟩) (v := ?_) rfl (by kernel_rfl) (by kernel_rfl) (by kernel_rfl) (fun _ _ _ h => h) (Or.inl ⟨by kernel_rfl, ?_⟩) hHeld ?_; rotate_left; focus (intro w hSw; (try dsimp only at hSw); go_simp; (try with_reducible rfl); done))
        (first | (simp only [Act.put, List.setIfInBounds_toArray, List.set_cons_zero, List.set_cons_succ]) | (simp only [Act.put, List.setIfInBounds_toArray, List.set]) | (simp only [Act.put]) | skip)
        (refine wpAnyH_take (i := 8) (oi := ⟨some 45, _, _, _, _, _⟩) (v := ?_) rfl (by kernel_rfl) (by kernel_rfl) (by kernel_rfl) (fun _ _ _ h => h) (Or.inl ⟨by kernel_rfl, ?_⟩) hHeld ?_; rotate_left; focus (intro w hSw; (try dsimp only at hSw); go_simp; (try with_reducible rfl); done))
        (first | (simp only [Act.put, List.setIfInBounds_toArray, List.set_cons_zero, List.set_cons_succ]) | (simp only [Act.put, List.setIfInBounds_toArray, List.set]) | (simp only [Act.put]) | skip)
        (refine wpAnyH_take (i := 9) (oi := ⟨some 46, _, _, _, _, _⟩) (v := ?_) rfl (by kernel_rfl) (by kernel_rfl) (by kernel_rfl) (fun _ _ _ h => h) (Or.inl ⟨by kernel_rfl, ?_⟩) hHeld ?_; rotate_left; focus (intro w hSw; (try dsimp only at hSw); go_simp; (try with_reducible rfl); done))
        (first | (simp only [Act.put, List.setIfInBounds_toArray, List.set_cons_zero, List.set_cons_succ]) | (simp only [Act.put, List.setIfInBounds_toArray, List.set]) | (simp only [Act.put]) | skip)
        refine wpAnyH_ready (rs := [5]) (by kernel_rfl) (by simp) (AllReadyH.cons (o := ⟨some 42, _, _, _, _, _⟩) rfl (fun K hK => ?_) AllReadyH.nil)
        go_simp
        refine (HSC.out _ ((Below.refl wr.heap.size wr).drew)).mono ?_
        rintro e w3 ⟨rfl, hb⟩
        have cur := seq ((Below.refl wr.heap.size wr).drew) hb
        clear hb
        (try dsimp only)
        refine Shut.out hK _ _ (by (try dsimp only); (first | done | (exact ⟨cell_below (cur) q1, cell_below (cur) q2⟩))) (fun hHeld => ?_)
        clear hK K
        (first | (simp only [Act.put, List.setIfInBounds_toArray, List.set_cons_zero, List.set_cons_succ]) | (simp only [Act.put, List.setIfInBounds_toArray, List.set]) | (simp only [Act.put]) | skip)
        refine wpAnyH_ready (rs := [10]) (by kernel_rfl) (by simp) (AllReadyH.cons (o := ⟨some 47, _, _, _, _, _⟩) rfl (fun K hK => ?_) AllReadyH.nil)
        go_simp
        refine (HDC.out _ (cur)).mono ?_
        rintro e w3 ⟨rfl, hb⟩
        replace cur := seq cur hb
        clear hb
        (try dsimp only)
        refine Shut.out hK _ _ (by (try dsimp only); (first | done | (exact ⟨cell_below (cur) q1, cell_below (cur) q2⟩))) (fun hHeld => ?_)
        clear hK K
        (first | (simp only [Act.put, List.setIfInBounds_toArray, List.set_cons_zero, List.set_cons_succ]) | (simp only [Act.put, List.setIfInBounds_toArray, List.set]) | (simp only [Act.put]) | skip)
        (refine wpAnyH_take (i := 11) (oi := ⟨some 48, _, _, _, _, _⟩) (v := ?_) rfl (by kernel_rfl) (by kernel_rfl) (by kernel_rfl) (fun _ _ _ h => h) (Or.inl ⟨by kernel_rfl, ?_⟩) hHeld ?_; rotate_left; focus (intro w hSw; (try dsimp only at hSw); go_simp; (try with_reducible rfl); done))
        (first | (simp only [Act.put, List.setIfInBounds_toArray, List.set_cons_zero, List.set_cons_succ]) | (simp only [Act.put, List.setIfInBounds_toArray, List.set]) | (simp only [Act.put]) | skip)
        refine wpAnyH_done (by kernel_rfl) ?_ _
        have HX := Lib.hid (seq HW.out cur)
        clear q1 q2 cur hHeld
        go_wp2_with fail
        go_roundg (gk - 1)
        case measure => omega
        case rel => exact ⟨i + 1, by go_num, by omega, HX⟩
      · go_wp2_with fail
        refine (alive_any wr).mono ?_
        rintro e w3 ⟨rfl, hb3⟩
        have HM3 := Lib.hid (HM2.out.below (seq HW.out hb3))
        have HB3 := Lib.hid (HB2.out.trans ((HW.out.trans (hb3.mono HW.out.size)).mono HB2.out.size))
        have HS0 : Hid (suppF s.L 1073741824 = 0) := Lib.hid (by
          unfold suppF
          rw [if_neg]
          intro c
          have := ((Ar.isb_iff HG.out.ok _).1 c).lt
          have := HG.out.room
          omega)
        clear hb3
        go_wp2_with fail
        refine (support_any HM3.out 1073741824 (fits_of (by decide) (by decide)) HRm.out).mono ?_
        rintro e w4 ⟨rfl, hb4⟩
        rw [HS0.out]
        have HB4 := Lib.hid (HB3.out.trans (hb4.mono HB3.out.size))
        clear hb4
        go_wp2_with fail
        go_ret
        exact ⟨rfl, HB4.out⟩
end Go.Proofs.Ytiagkbmhfgdffaa.PBddSupport
