/- zone.Get, Span, Guard, Right, Top. -/
import Derived.Test.YtjhccmjgfngkcaaDoorZoneSameZd
set_option linter.unusedVariables false
set_option linter.unusedSimpArgs false
namespace Go.Proofs.YtjhccmjgfngkcaaDoor.PZoneSame
open Go Go.RowKit Go.Shelf Go.Deep Go.Proofs.YtjhccmjgfngkcaaDoorW.PrintWords Go.Proofs.YtjhccmjgfngkcaaDoorW.PrintLast Go.Proofs.YtjhccmjgfngkcaaDoorW.PrintMore
open Zn (botN wholeB wholeB_iff nearZ upd)
variable {w : World}
attribute [local go_sem] Oper.semAt_some


theorem Get_any {v : Value} {N : Int} {L : List Int} (h : ZAt w v N L) (i j : Int) : Calls Tryd.prog 29 #[v, .int .i64 i, .int .i64 j] w fun e w' => e = .returned (.int .i64 (Zn.getP (N, L) i j)) ∧ Below w.heap.size w w' := by
  have CL : ∀ W', Below w.heap.size w W' → Calls Tryd.prog 67 #[v] W' (ZPost W' (Zn.cleanP N L)) := fun W' hb => clean_any (h.below hb)
  have hsh := Zn.cleanP_shape N L
  have hr : Zn.getP (N, L) i j = Zn.getC (Zn.cleanP N L).1 (Zn.cleanP N L).2 i j := rfl
  rw [hr]
  clear hr
  obtain ⟨A, c, rfl⟩ := h.form
  obtain ⟨zz, hzz⟩ : ∃ zz, Zn.cleanP N L = zz := ⟨_, rfl⟩
  rw [hzz] at CL hsh ⊢
  clear hzz h
  obtain ⟨n1, l1⟩ := zz
  have HC := Lib.hid CL
  have hn0 := hsh.n0
  have hn6 := hsh.n6
  have HS := Lib.hid hsh.len
  dsimp only at hn0 hn6 HS ⊢
  clear CL hsh
  obtain ⟨r, hr⟩ : ∃ r, Zn.getC n1 l1 i j = r := ⟨_, rfl⟩
  rw [hr]
  have HR := Lib.hid hr
  clear hr
  go_enter Tryd.func29, Tryd.ntmps29
  go_wp2_with fail
  have bZ := blk_new w (.cells #[.int .i64 N, .slice A L.length c] 27)
  have cur : Below w.heap.size w (w.alloc (.cells #[.int .i64 N, .slice A L.length c] 27)) := psh (Below.refl _ _) (Nat.le_refl _) (.cells #[.int .i64 N, .slice A L.length c] 27)
  have hsz : (w.alloc (.cells #[.int .i64 N, .slice A L.length c] 27)).heap.size = w.heap.size + 1 := by simp
  obtain ⟨W0, hW0⟩ : ∃ W0, (w.alloc (.cells #[.int .i64 N, .slice A L.length c] 27)) = W0 := ⟨_, rfl⟩
  rw [hW0] at bZ cur hsz ⊢
  clear hW0
  obtain ⟨s, hs⟩ : ∃ s, w.heap.size = s := ⟨_, rfl⟩
  rw [hs] at bZ cur hsz
  simp only [hs]
  obtain ⟨z0, z1, z2, z3⟩ := cells2 bZ
  go_at_call 67
  refine (HC.out _ (by rw [hs]; exact cur)).mono ?_
  rintro e w1 ⟨v1, rfl, hz, hb⟩
  dsimp only at hz
  obtain ⟨A1, c1, rfl⟩ := hz.form
  obtain ⟨r0, r1, r2, r3⟩ := cells2 (blk_below bZ hb)
  obtain ⟨f1, f2, f3⟩ := zfin (s := s) (blk_below bZ hb) hz (cur.trans (hb.mono (by omega))) (by omega) (by omega) (by omega)
  have hszb := hb.size
  go_wp2_with fail
  generalize (w1.setCell ⟨s, 0, none⟩ (.int .i64 n1)).setCell ⟨s, 1, none⟩ (.slice A1 l1.length c1) = W2 at f1 f2 f3 ⊢
  clear r0 r1 r2 r3 z0 z1 z2 z3 hz hb bZ cur
  have HZ := Lib.hid f2
  have cur := f3
  obtain ⟨z0, z1, z2, z3⟩ := cells2 f1
  clear f2 f3
  by_cases hL : l1 = []
  · subst hL
    have hr : r = -2305843009213693952 := by rw [← HR.out]; exact if_pos (.inl rfl)
    subst hr
    clear HR
    go_wp2_with (go_at_call 68; refine (none_any HZ.out.zat).mono ?_; (first | rw [hdec] | skip); rintro e w2 ⟨rfl, hb2⟩; replace cur := cur.trans (hb2.mono (by have := cur.size; omega)); have HZ2 := Lib.hid (HZ.out.below hb2); obtain ⟨z0, z1, z2, z3⟩ := cells2 (blk_below f1 hb2))
    go_ret
    exact ⟨rfl, by rw [hs]; exact cur⟩
  · have hdec : decide (l1 = []) = false := decide_eq_false hL
    by_cases hmin : min i j < 0
    · have hr : r = -2305843009213693952 := by rw [← HR.out]; exact if_pos (.inr (.inl hmin))
      subst hr
      clear HR
      go_wp2_with (go_at_call 68; refine (none_any HZ.out.zat).mono ?_; (first | rw [hdec] | skip); rintro e w2 ⟨rfl, hb2⟩; replace cur := cur.trans (hb2.mono (by have := cur.size; omega)); have HZ2 := Lib.hid (HZ.out.below hb2); obtain ⟨z0, z1, z2, z3⟩ := cells2 (blk_below f1 hb2))
      go_ret
      exact ⟨rfl, by rw [hs]; exact cur⟩
    · by_cases hmax : max i j > n1
      · have hr : r = -2305843009213693952 := by rw [← HR.out]; exact if_pos (.inr (.inr hmax))
        subst hr
        clear HR
        go_wp2_with (go_at_call 68; refine (none_any HZ.out.zat).mono ?_; (first | rw [hdec] | skip); rintro e w2 ⟨rfl, hb2⟩; replace cur := cur.trans (hb2.mono (by have := cur.size; omega)); have HZ2 := Lib.hid (HZ.out.below hb2); obtain ⟨z0, z1, z2, z3⟩ := cells2 (blk_below f1 hb2))
        go_ret
        exact ⟨rfl, by rw [hs]; exact cur⟩
      · have hr : r = Zn.atP n1 l1 i j := by rw [← HR.out]; exact if_neg (by rintro (h | h | h); exact hL h; exact hmin h; exact hmax h)
        subst hr
        have H1 : 0 ≤ i := by omega
        have H2 : i ≤ n1 := by omega
        have H3 : 0 ≤ j := by omega
        have H4 : j ≤ n1 := by omega
        have hl := HS.out hL
        have HL := Lib.hid hl
        clear HR hl
        go_wp2_with (first | (go_at_call 68; refine (none_any HZ.out.zat).mono ?_; (first | rw [hdec] | skip); rintro e w2 ⟨rfl, hb2⟩; replace cur := cur.trans (hb2.mono (by have := cur.size; omega)); have HZ2 := Lib.hid (HZ.out.below hb2); obtain ⟨z0, z1, z2, z3⟩ := cells2 (blk_below f1 hb2)) | (go_at_call 60; refine (at_z HZ2.out.zat hn0 hn6 HL.out i j H1 H2 H3 H4).mono ?_; rintro e w3 ⟨rfl, hb3⟩; replace cur := cur.trans (hb3.mono (by have := cur.size; omega))))
        go_ret
        exact ⟨rfl, by rw [hs]; exact cur⟩
theorem sret {fn : Func} {p : Tmp} (h : fn.results = #[.cell p 40]) (tmps : Array Value) (w : World) (g : Nat) {x y : Value} (hg : w.heap[g]? = some (.cells #[x, y] 40 (0, 0))) (hp : tmps.getD p undef = .pointer (some ⟨g, 0, none⟩)) :
    (results fn tmps).run Tryd.prog w = .ok (.agg #[x, y]) w := results_cell_row h tmps w g _ _ _ _ hp hg Tryd.underlying40 rfl (by kernel_rfl)
theorem Empty_any (w : World) : Calls Tryd.prog 72 #[] w fun e w' => e = .returned (.agg #[.int .i64 1, .int .i64 0]) ∧ Below w.heap.size w w' :=
  span_Empty.calls 1 0 w rfl
set_option maxRecDepth 100000 in
set_option maxHeartbeats 2000000 in
theorem Span_any {v : Value} {N : Int} {L : List Int} (h : ZAt w v N L) (i : Int) : Calls Tryd.prog 30 #[v, .int .i64 i] w fun e w' => e = .returned (.agg #[.int .i64 (Zn.spanC (Zn.cleanP N L).1 (Zn.cleanP N L).2 i).1, .int .i64 (Zn.spanC (Zn.cleanP N L).1 (Zn.cleanP N L).2 i).2]) ∧ Below w.heap.size w w' := by
  have CL : ∀ W', Below w.heap.size w W' → Calls Tryd.prog 67 #[v] W' (ZPost W' (Zn.cleanP N L)) := fun W' hb => clean_any (h.below hb)
  have hsh := Zn.cleanP_shape N L
  have hbd := Zn.cleanP_bound N L
  obtain ⟨A, c, rfl⟩ := h.form
  obtain ⟨zz, hzz⟩ : ∃ zz, Zn.cleanP N L = zz := ⟨_, rfl⟩
  rw [hzz] at CL hsh hbd ⊢
  clear hzz h
  obtain ⟨n1, l1⟩ := zz
  have HC := Lib.hid CL
  have hn0 := hsh.n0
  have hn6 := hsh.n6
  have HS := Lib.hid hsh.len
  have HBD := Lib.hid hbd
  dsimp only at hn0 hn6 HS HBD ⊢
  clear CL hsh hbd
  obtain ⟨r, hr⟩ : ∃ r, Zn.spanC n1 l1 i = r := ⟨_, rfl⟩
  rw [hr]
  have HR := Lib.hid hr
  clear hr
  obtain ⟨ra, rb⟩ := r
  try dsimp only
  go_enter Tryd.func30, Tryd.ntmps30
  go_wp2_with fail
  have bZ := blk_alloc (blk_new w (.cells #[.int .i64 N, .slice A L.length c] 27)) (.cells #[.int .i64 0, .int .i64 0] 40)
  have bR := blk_new (w.alloc (.cells #[.int .i64 N, .slice A L.length c] 27)) (.cells #[.int .i64 0, .int .i64 0] 40)
  have cur : Below w.heap.size w ((w.alloc (.cells #[.int .i64 N, .slice A L.length c] 27)).alloc (.cells #[.int .i64 0, .int .i64 0] 40)) := psh (psh (Below.refl _ _) (Nat.le_refl _) (.cells #[.int .i64 N, .slice A L.length c] 27)) (Nat.le_refl _) (.cells #[.int .i64 0, .int .i64 0] 40)
  have hsz : ((w.alloc (.cells #[.int .i64 N, .slice A L.length c] 27)).alloc (.cells #[.int .i64 0, .int .i64 0] 40)).heap.size = w.heap.size + 2 := by simp
  simp only [World.size_alloc] at bR
  obtain ⟨W0, hW0⟩ : ∃ W0, ((w.alloc (.cells #[.int .i64 N, .slice A L.length c] 27)).alloc (.cells #[.int .i64 0, .int .i64 0] 40)) = W0 := ⟨_, rfl⟩
  rw [hW0] at bZ bR cur hsz ⊢
  clear hW0
  obtain ⟨s, hs⟩ : ∃ s, w.heap.size = s := ⟨_, rfl⟩
  rw [hs] at bZ bR cur hsz
  simp only [hs]
  obtain ⟨z0, z1, z2, z3⟩ := cells2 bZ
  go_at_call 67
  refine (HC.out _ (by rw [hs]; exact cur)).mono ?_
  rintro e w1 ⟨v1, rfl, hz, hb⟩
  dsimp only at hz
  obtain ⟨A1, c1, rfl⟩ := hz.form
  obtain ⟨r0, r1, r2, r3⟩ := cells2 (blk_below bZ hb)
  have g1 := blk_far (p := ⟨s, 1, none⟩) (blk_far (p := ⟨s, 0, none⟩) (blk_below bR hb) (by show s + 1 ≠ s; omega) (.int .i64 n1)) (by show s + 1 ≠ s; omega) (.slice A1 l1.length c1)
  obtain ⟨f1, f2, f3⟩ := zfin (s := s) (blk_below bZ hb) hz (cur.trans (hb.mono (by omega))) (by omega) (by omega) (by omega)
  have hszb := hb.size
  go_wp2_with fail
  generalize (w1.setCell ⟨s, 0, none⟩ (.int .i64 n1)).setCell ⟨s, 1, none⟩ (.slice A1 l1.length c1) = W2 at f1 f2 f3 g1 ⊢
  clear r0 r1 r2 r3 z0 z1 z2 z3 hz hb bZ bR cur
  have HZ := Lib.hid f2
  have cur := f3
  obtain ⟨z0, z1, z2, z3⟩ := cells2 f1
  clear f2 f3
  by_cases hbad : l1 = [] ∨ i < 1 ∨ i > n1
  · have hr : (ra, rb) = (1, 0) := by rw [← HR.out]; exact if_pos hbad
    injection hr with h1 h2
    subst h1 h2
    clear HR
    obtain ⟨bb, hdec⟩ : ∃ bb, decide (l1 = []) = bb := ⟨_, rfl⟩
    cases bb
    · have hnn : ¬ l1 = [] := of_decide_eq_false hdec
      by_cases hi1 : i < 1
      · go_wp2_with (first | (go_at_call 68; refine (none_any HZ.out.zat).mono ?_; (first | rw [hdec] | skip); rintro e w2 ⟨rfl, hb2⟩; replace cur := cur.trans (hb2.mono (by have := cur.size; omega)); have HZ2 := Lib.hid (HZ.out.below hb2); have g2 := blk_below g1 hb2; have f2 := blk_below f1 hb2; obtain ⟨z0, z1, z2, z3⟩ := cells2 f2; obtain ⟨y0, y1, y2, y3⟩ := cells2 g2) | (go_at_call 72; refine (Empty_any _).mono ?_; rintro e w3 ⟨rfl, hb3⟩; have g3 := blk_below g2 hb3; replace cur := cur.trans (hb3.mono (by have := cur.size; omega)); obtain ⟨y0, y1, y2, y3⟩ := cells2 g3))
        exact bodyPost_ret (sret rfl _ _ (s + 1) (zput g3 _ _) rfl) rfl ⟨rfl, by rw [hs]; exact (cur.setCell (p := ⟨s + 1, 0, none⟩) (by simp) _).setCell (p := ⟨s + 1, 1, none⟩) (by simp) _⟩
      · have hi2 : i > n1 := by rcases hbad with h | h | h; exact absurd h hnn; exact absurd h hi1; exact h
        go_wp2_with (first | (go_at_call 68; refine (none_any HZ.out.zat).mono ?_; (first | rw [hdec] | skip); rintro e w2 ⟨rfl, hb2⟩; replace cur := cur.trans (hb2.mono (by have := cur.size; omega)); have HZ2 := Lib.hid (HZ.out.below hb2); have g2 := blk_below g1 hb2; have f2 := blk_below f1 hb2; obtain ⟨z0, z1, z2, z3⟩ := cells2 f2; obtain ⟨y0, y1, y2, y3⟩ := cells2 g2) | (go_at_call 72; refine (Empty_any _).mono ?_; rintro e w3 ⟨rfl, hb3⟩; have g3 := blk_below g2 hb3; replace cur := cur.trans (hb3.mono (by have := cur.size; omega)); obtain ⟨y0, y1, y2, y3⟩ := cells2 g3))
        exact bodyPost_ret (sret rfl _ _ (s + 1) (zput g3 _ _) rfl) rfl ⟨rfl, by rw [hs]; exact (cur.setCell (p := ⟨s + 1, 0, none⟩) (by simp) _).setCell (p := ⟨s + 1, 1, none⟩) (by simp) _⟩
    · go_wp2_with (first | (go_at_call 68; refine (none_any HZ.out.zat).mono ?_; (first | rw [hdec] | skip); rintro e w2 ⟨rfl, hb2⟩; replace cur := cur.trans (hb2.mono (by have := cur.size; omega)); have HZ2 := Lib.hid (HZ.out.below hb2); have g2 := blk_below g1 hb2; have f2 := blk_below f1 hb2; obtain ⟨z0, z1, z2, z3⟩ := cells2 f2; obtain ⟨y0, y1, y2, y3⟩ := cells2 g2) | (go_at_call 72; refine (Empty_any _).mono ?_; rintro e w3 ⟨rfl, hb3⟩; have g3 := blk_below g2 hb3; replace cur := cur.trans (hb3.mono (by have := cur.size; omega)); obtain ⟨y0, y1, y2, y3⟩ := cells2 g3))
      exact bodyPost_ret (sret rfl _ _ (s + 1) (zput g3 _ _) rfl) rfl ⟨rfl, by rw [hs]; exact (cur.setCell (p := ⟨s + 1, 0, none⟩) (by simp) _).setCell (p := ⟨s + 1, 1, none⟩) (by simp) _⟩
  · have hnn : ¬ l1 = [] := fun e => hbad (.inl e)
    have hdec : decide (l1 = []) = false := decide_eq_false hnn
    have hi1 : ¬ i < 1 := fun e => hbad (.inr (.inl e))
    have hi2 : ¬ i > n1 := fun e => hbad (.inr (.inr e))
    have hr : (ra, rb) = Zn.spOf (-(Zn.atP n1 l1 0 i)) (Zn.atP n1 l1 i 0) := by rw [← HR.out]; exact if_neg hbad
    have HL := Lib.hid (HS.out hnn)
    have HE := Lib.hid hr
    clear HR hbad hr
    go_wp2_with (go_at_call 68; refine (none_any HZ.out.zat).mono ?_; (first | rw [hdec] | skip); rintro e w2 ⟨rfl, hb2⟩; replace cur := cur.trans (hb2.mono (by have := cur.size; omega)); have HZ2 := Lib.hid (HZ.out.below hb2); have g2 := blk_below g1 hb2; have f2 := blk_below f1 hb2; obtain ⟨z0, z1, z2, z3⟩ := cells2 f2; obtain ⟨y0, y1, y2, y3⟩ := cells2 g2)
    have A1' : ∀ W, Below w2.heap.size w2 W → Calls Tryd.prog 60 #[.agg #[.int .i64 n1, .slice A1 l1.length c1], .int .i64 0, .int .i64 i] W fun e w' => e = .returned (.int .i64 (Zn.atP n1 l1 0 i)) ∧ Below W.heap.size W w' := fun W hb => at_z (HZ2.out.below hb).zat hn0 hn6 HL.out 0 i (by omega) (by omega) (by omega) (by omega)
    have A2' : ∀ W, Below w2.heap.size w2 W → Calls Tryd.prog 60 #[.agg #[.int .i64 n1, .slice A1 l1.length c1], .int .i64 i, .int .i64 0] W fun e w' => e = .returned (.int .i64 (Zn.atP n1 l1 i 0)) ∧ Below W.heap.size W w' := fun W hb => at_z (HZ2.out.below hb).zat hn0 hn6 HL.out i 0 (by omega) (by omega) (by omega) (by omega)
    obtain ⟨p1, hp1⟩ : ∃ p1, Zn.atP n1 l1 0 i = p1 := ⟨_, rfl⟩
    obtain ⟨p2, hp2⟩ : ∃ p2, Zn.atP n1 l1 i 0 = p2 := ⟨_, rfl⟩
    have hb1 : -2305843009213693952 ≤ p1 ∧ p1 ≤ 2305843009213693952 := by rw [← hp1]; exact HBD.out _
    have HE1 := HE.out
    rw [hp1, hp2] at HE1
    rw [hp1] at A1'
    rw [hp2] at A2'
    have hneg : IntKind.i64.wrap (-p1) = -p1 := IntWalk.i64_in _ (by omega)
    have HA1 := Lib.hid A1'
    have HA2 := Lib.hid A2'
    have OFC : ∀ W, Calls Tryd.prog 73 #[.int .i64 (-p1), .int .i64 p2] W fun e w' => e = .returned (.agg #[.int .i64 ra, .int .i64 rb]) ∧ Below W.heap.size W w' := fun W => by have := Of_any (-p1) p2 W; rw [← HE1] at this; exact this
    have HOF := Lib.hid OFC
    clear A1' A2' OFC HE1 hp1 hp2 HE
    refine start_ (n := 9) (S := fun w' => w'.cell? ⟨s, 0, none⟩ = some (.int .i64 n1) ∧ w'.cell? ⟨s, 1, none⟩ = some (.slice A1 l1.length c1)) (ds := [8]) #[false, false, false, false, false, false, false, false, false] (by kernel_rfl) rfl rfl ⟨cell_below ((Below.refl w2.heap.size w2).drew) z0, cell_below ((Below.refl w2.heap.size w2).drew) z1⟩ (fun hHeld => ?_)
    refine pure_ (i := 1) (N := some 21) (v := ?_) (a' := ?_) #[false, true, false, false, false, false, false, false, false] rfl rfl (by kernel_rfl) (fun _ _ _ h => h) (Or.inl ⟨by rfl, ?_⟩) ?_ ?_
    rotate_left
    · intro w'
      go_simp
      with_reducible rfl
    rotate_left
    · simp only [Act.put, List.setIfInBounds_toArray, List.set_cons_zero, List.set_cons_succ, i64_w, i32_w]
      rfl
    refine pure_ (i := 5) (N := some 25) (v := ?_) (a' := ?_) #[false, true, false, false, false, true, false, false, false] rfl rfl (by kernel_rfl) (fun _ _ _ h => h) (Or.inl ⟨by rfl, ?_⟩) ?_ ?_
    rotate_left
    · intro w'
      go_simp
      with_reducible rfl
    rotate_left
    · simp only [Act.put, List.setIfInBounds_toArray, List.set_cons_zero, List.set_cons_succ, i64_w, i32_w]
      rfl
    refine take_ (i := 0) (N := some 20) (v := ?_) (a' := ?_) #[true, true, false, false, false, true, false, false, false] rfl rfl (by kernel_rfl) (fun _ _ _ h => h) (Or.inl ⟨by rfl, ?_⟩) hHeld ?_ ?_
    rotate_left
    · rintro w' ⟨s0, s1⟩
      go_simp
      with_reducible rfl
    rotate_left
    · simp only [Act.put, List.setIfInBounds_toArray, List.set_cons_zero, List.set_cons_succ, i64_w, i32_w]
      rfl
    refine take_ (i := 4) (N := some 24) (v := ?_) (a' := ?_) #[true, true, false, false, true, true, false, false, false] rfl rfl (by kernel_rfl) (fun _ _ _ h => h) (Or.inl ⟨by rfl, ?_⟩) hHeld ?_ ?_
    rotate_left
    · rintro w' ⟨s0, s1⟩
      go_simp
      with_reducible rfl
    rotate_left
    · simp only [Act.put, List.setIfInBounds_toArray, List.set_cons_zero, List.set_cons_succ, i64_w, i32_w]
      rfl
    refine one_ (i := 2) (N := some 22) #[true, true, true, false, true, true, false, false, false] rfl rfl (by kernel_rfl) (by decide) (fun K hK => ?_)
    refine goes_ Tryd.func60 (by kernel_rfl) rfl #[.agg #[.int .i64 n1, .slice A1 l1.length c1], .int .i64 0, .int .i64 i] (by rfl) rfl rfl (by simp only [List.map_toArray, List.map_cons, List.map_nil]; rfl) ?_
    with_reducible refine (HA1.out _ ((Below.refl w2.heap.size w2).drew)).mono ?_
    rintro e w3 ⟨rfl, hb⟩
    refine ⟨_, rfl, ?_⟩
    have cur4 := seq ((Below.refl w2.heap.size w2).drew) hb
    clear hb
    refine hK.out _ _ ⟨cell_below cur4 z0, cell_below cur4 z1⟩ (fun hHeld => ?_)
    clear hK K
    refine norm_ (a' := ?_) ?_ ?_
    rotate_left
    · show Act.put _ (some 22) _ = _
      simp only [Act.put, List.setIfInBounds_toArray, List.set_cons_zero, List.set_cons_succ, i64_w, i32_w]
      rfl
    refine pure_ (i := 3) (N := some 23) (v := ?_) (a' := ?_) #[true, true, true, true, true, true, false, false, false] rfl rfl (by kernel_rfl) (fun _ _ _ h => h) (Or.inl ⟨by rfl, ?_⟩) ?_ ?_
    rotate_left
    · intro w'
      go_simp
      with_reducible rfl
    rotate_left
    · simp only [Act.put, List.setIfInBounds_toArray, List.set_cons_zero, List.set_cons_succ, i64_w, i32_w]
      rfl
    refine one_ (i := 6) (N := some 26) #[true, true, true, true, true, true, true, false, false] rfl rfl (by kernel_rfl) (by decide) (fun K hK => ?_)
    refine goes_ Tryd.func60 (by kernel_rfl) rfl #[.agg #[.int .i64 n1, .slice A1 l1.length c1], .int .i64 i, .int .i64 0] (by rfl) rfl rfl (by simp only [List.map_toArray, List.map_cons, List.map_nil]; rfl) ?_
    with_reducible refine (HA2.out _ (cur4)).mono ?_
    rintro e w3 ⟨rfl, hb⟩
    refine ⟨_, rfl, ?_⟩
    replace cur4 := seq cur4 hb
    clear hb
    refine hK.out _ _ ⟨cell_below cur4 z0, cell_below cur4 z1⟩ (fun hHeld => ?_)
    clear hK K
    refine norm_ (a' := ?_) ?_ ?_
    rotate_left
    · show Act.put _ (some 26) _ = _
      simp only [Act.put, List.setIfInBounds_toArray, List.set_cons_zero, List.set_cons_succ, i64_w, i32_w]
      rfl
    refine one_ (i := 7) (N := some 27) #[true, true, true, true, true, true, true, true, false] rfl rfl (by kernel_rfl) (by decide) (fun K hK => ?_)
    refine goes_ Tryd.func73 (by kernel_rfl) rfl #[.int .i64 (-p1), .int .i64 p2] (by rfl) rfl rfl (by simp only [List.map_toArray, List.map_cons, List.map_nil]; rfl) ?_
    with_reducible refine (HOF.out _).mono ?_
    rintro e w3 ⟨rfl, hb⟩
    refine ⟨_, rfl, ?_⟩
    replace cur4 := seq cur4 hb
    clear hb
    refine hK.out _ _ ⟨cell_below cur4 z0, cell_below cur4 z1⟩ (fun hHeld => ?_)
    clear hK K
    refine norm_ (a' := ?_) ?_ ?_
    rotate_left
    · show Act.put _ (some 27) _ = _
      simp only [Act.put, List.setIfInBounds_toArray, List.set_cons_zero, List.set_cons_succ, i64_w, i32_w]
      rfl
    refine last_ (i := 8) (N := none) #[true, true, true, true, true, true, true, true, true] rfl rfl (by kernel_rfl) (by decide) (fun K hK => ?_)
    have g3 := blk_below g2 cur4
    obtain ⟨y0, y1, y2, y3⟩ := cells2 g3
    refine skip_ (w1 := ?_) (by rfl) rfl ?_ ?_
    rotate_left
    · go_simp
      rfl
    refine hK.out _ _ ?_
    clear hK K
    refine done_ (by kernel_rfl) ?_
    go_wp2_with fail
    exact bodyPost_ret (sret rfl _ _ (s + 1) (zput g3 _ _) rfl) rfl ⟨rfl, by rw [hs]; exact ((cur.trans (cur4.mono (by have := cur.size; omega))).setCell (p := ⟨s + 1, 0, none⟩) (by simp) _).setCell (p := ⟨s + 1, 1, none⟩) (by simp) _⟩
set_option maxRecDepth 100000 in
set_option maxHeartbeats 4000000 in
theorem Guard_any {v : Value} {N : Int} {L : List Int} (h : ZAt w v N L) (i j c0 : Int) : Calls Tryd.prog 31 #[v, .int .i64 i, .int .i64 j, .int .i64 c0] w (ZPost w (Zn.guardC (Zn.cleanP N L).1 (Zn.cleanP N L).2 i j c0)) := by
  have CL : ∀ W', Below w.heap.size w W' → Calls Tryd.prog 67 #[v] W' (ZPost W' (Zn.cleanP N L)) := fun W' hb => clean_any (h.below hb)
  have hsh := Zn.cleanP_shape N L
  have hbd := Zn.cleanP_bound N L
  obtain ⟨A, c, rfl⟩ := h.form
  obtain ⟨zz, hzz⟩ : ∃ zz, Zn.cleanP N L = zz := ⟨_, rfl⟩
  rw [hzz] at CL hsh hbd ⊢
  clear hzz h
  obtain ⟨n1, l1⟩ := zz
  have HC := Lib.hid CL
  have hn0 := hsh.n0
  have hn6 := hsh.n6
  have HS := Lib.hid hsh.len
  have HBD := Lib.hid hbd
  dsimp only at hn0 hn6 HS HBD ⊢
  clear CL hsh hbd
  obtain ⟨r, hr⟩ : ∃ r, Zn.guardC n1 l1 i j c0 = r := ⟨_, rfl⟩
  rw [hr]
  have HR := Lib.hid hr
  clear hr
  obtain ⟨ra, rb⟩ := r
  try dsimp only
  go_enter Tryd.func31, Tryd.ntmps31
  go_wp2_with fail
  have bZ := blk_alloc (blk_new w (.cells #[.int .i64 N, .slice A L.length c] 27)) (.cells #[.int .i64 0, .slice none 0 0] 27)
  have bR := blk_new (w.alloc (.cells #[.int .i64 N, .slice A L.length c] 27)) (.cells #[.int .i64 0, .slice none 0 0] 27)
  have cur : Below w.heap.size w ((w.alloc (.cells #[.int .i64 N, .slice A L.length c] 27)).alloc (.cells #[.int .i64 0, .slice none 0 0] 27)) := psh (psh (Below.refl _ _) (Nat.le_refl _) (.cells #[.int .i64 N, .slice A L.length c] 27)) (Nat.le_refl _) (.cells #[.int .i64 0, .slice none 0 0] 27)
  have hsz : ((w.alloc (.cells #[.int .i64 N, .slice A L.length c] 27)).alloc (.cells #[.int .i64 0, .slice none 0 0] 27)).heap.size = w.heap.size + 2 := by simp
  simp only [World.size_alloc] at bR
  obtain ⟨W0, hW0⟩ : ∃ W0, ((w.alloc (.cells #[.int .i64 N, .slice A L.length c] 27)).alloc (.cells #[.int .i64 0, .slice none 0 0] 27)) = W0 := ⟨_, rfl⟩
  rw [hW0] at bZ bR cur hsz ⊢
  clear hW0
  obtain ⟨s, hs⟩ : ∃ s, w.heap.size = s := ⟨_, rfl⟩
  rw [hs] at bZ bR cur hsz
  simp only [hs]
  obtain ⟨z0, z1, z2, z3⟩ := cells2 bZ
  go_at_call 67
  refine (HC.out _ (by rw [hs]; exact cur)).mono ?_
  rintro e w1 ⟨v1, rfl, hz, hb⟩
  dsimp only at hz
  obtain ⟨A1, c1, rfl⟩ := hz.form
  obtain ⟨r0, r1, r2, r3⟩ := cells2 (blk_below bZ hb)
  have g1 := blk_far (p := ⟨s, 1, none⟩) (blk_far (p := ⟨s, 0, none⟩) (blk_below bR hb) (by show s + 1 ≠ s; omega) (.int .i64 n1)) (by show s + 1 ≠ s; omega) (.slice A1 l1.length c1)
  obtain ⟨f1, f2, f3⟩ := zfin (s := s) (blk_below bZ hb) hz (cur.trans (hb.mono (by omega))) (by omega) (by omega) (by omega)
  have hszb := hb.size
  go_wp2_with fail
  generalize (w1.setCell ⟨s, 0, none⟩ (.int .i64 n1)).setCell ⟨s, 1, none⟩ (.slice A1 l1.length c1) = W2 at f1 f2 f3 g1 ⊢
  clear r0 r1 r2 r3 z0 z1 z2 z3 hz hb bZ bR cur
  have HZ := Lib.hid f2
  have cur := f3
  obtain ⟨z0, z1, z2, z3⟩ := cells2 f1
  clear f2 f3
  have hsW := cur.size
  have hlt2 := blk_lt g1
  by_cases hbad : l1 = [] ∨ min i j < 0 ∨ max i j > n1
  · have hr : (ra, rb) = (n1, l1) := by rw [← HR.out]; exact if_pos hbad
    injection hr with h1 h2
    subst h1 h2
    clear HR
    have FIN : ∀ (w2 : World), Below W2.heap.size W2 w2 → ZPost w (ra, rb) (.returned (.agg #[.int .i64 ra, .slice A1 rb.length c1])) ((w2.setCell ⟨s + 1, 0, none⟩ (.int .i64 ra)).setCell ⟨s + 1, 1, none⟩ (.slice A1 rb.length c1)) ∧ ((w2.setCell ⟨s + 1, 0, none⟩ (.int .i64 ra)).setCell ⟨s + 1, 1, none⟩ (.slice A1 rb.length c1)).heap[s + 1]? = some (.cells #[.int .i64 ra, .slice A1 rb.length c1] 27 (0, 0)) := by
      intro w2 hb2
      obtain ⟨q1, q2, q3⟩ := zfin (s := s) (b := s + 1) (blk_below g1 hb2) (HZ.out.below hb2) (cur.trans (hb2.mono (by omega))) (by omega) (by omega) (by omega)
      exact ⟨⟨_, rfl, by rw [hs]; exact q2.lower (by omega), by rw [hs]; exact q3⟩, q1⟩
    have HF := Lib.hid FIN
    clear FIN
    obtain ⟨bb, hdec⟩ : ∃ bb, decide (rb = []) = bb := ⟨_, rfl⟩
    cases bb
    · have hnn : ¬ rb = [] := of_decide_eq_false hdec
      by_cases hmin : min i j < 0
      · go_wp2_with (go_at_call 68; refine (none_any HZ.out.zat).mono ?_; (first | rw [hdec] | skip); rintro e w2 ⟨rfl, hb2⟩; have hb2' := hb2; replace cur := cur.trans (hb2.mono (by have := cur.size; omega)); have HZ2 := Lib.hid (HZ.out.below hb2); have g2 := blk_below g1 hb2; have f2 := blk_below f1 hb2; obtain ⟨z0, z1, z2, z3⟩ := cells2 f2; obtain ⟨y0, y1, y2, y3⟩ := cells2 g2)
        exact bodyPost_ret (zret rfl _ _ (s + 1) (HF.out _ hb2').2 rfl) rfl (HF.out _ hb2').1
      · have hmax : max i j > ra := by rcases hbad with h | h | h; exact absurd h hnn; exact absurd h hmin; exact h
        go_wp2_with (go_at_call 68; refine (none_any HZ.out.zat).mono ?_; (first | rw [hdec] | skip); rintro e w2 ⟨rfl, hb2⟩; have hb2' := hb2; replace cur := cur.trans (hb2.mono (by have := cur.size; omega)); have HZ2 := Lib.hid (HZ.out.below hb2); have g2 := blk_below g1 hb2; have f2 := blk_below f1 hb2; obtain ⟨z0, z1, z2, z3⟩ := cells2 f2; obtain ⟨y0, y1, y2, y3⟩ := cells2 g2)
        exact bodyPost_ret (zret rfl _ _ (s + 1) (HF.out _ hb2').2 rfl) rfl (HF.out _ hb2').1
    · go_wp2_with (go_at_call 68; refine (none_any HZ.out.zat).mono ?_; (first | rw [hdec] | skip); rintro e w2 ⟨rfl, hb2⟩; have hb2' := hb2; replace cur := cur.trans (hb2.mono (by have := cur.size; omega)); have HZ2 := Lib.hid (HZ.out.below hb2); have g2 := blk_below g1 hb2; have f2 := blk_below f1 hb2; obtain ⟨z0, z1, z2, z3⟩ := cells2 f2; obtain ⟨y0, y1, y2, y3⟩ := cells2 g2)
      exact bodyPost_ret (zret rfl _ _ (s + 1) (HF.out _ hb2').2 rfl) rfl (HF.out _ hb2').1
  · have hnn : ¬ l1 = [] := fun e => hbad (.inl e)
    have hdec : decide (l1 = []) = false := decide_eq_false hnn
    have hmin : ¬ min i j < 0 := fun e => hbad (.inr (.inl e))
    have hmax : ¬ max i j > n1 := fun e => hbad (.inr (.inr e))
    by_cases hc0 : c0 < -2305843009213693952
    · have hr : (ra, rb) = (botN n1, []) := by rw [← HR.out]; unfold Zn.guardC; rw [if_neg hbad, if_pos hc0]
      injection hr with h1 h2
      subst h1 h2
      clear HR
      go_wp2_with (first | (go_at_call 68; refine (none_any HZ.out.zat).mono ?_; (first | rw [hdec] | skip); rintro e w2 ⟨rfl, hb2⟩; have hb2' := hb2; replace cur := cur.trans (hb2.mono (by have := cur.size; omega)); have HZ2 := Lib.hid (HZ.out.below hb2); have g2 := blk_below g1 hb2; have f2 := blk_below f1 hb2; obtain ⟨z0, z1, z2, z3⟩ := cells2 f2; obtain ⟨y0, y1, y2, y3⟩ := cells2 g2) | (go_at_call 27; refine (bot_post n1 _).mono ?_; rintro e w3 ⟨v3, rfl, hz3, hb3⟩; dsimp only at hz3; obtain ⟨A3, c3, rfl⟩ := hz3.form; have g3 := blk_below g2 hb3; have cur3 := cur.trans (hb3.mono (by have := cur.size; omega)); obtain ⟨y0, y1, y2, y3⟩ := cells2 g3; have HZ3 := Lib.hid hz3))
      obtain ⟨q1, q2, q3⟩ := zfin (s := s) (b := s + 1) g3 HZ3.out cur3 (by omega) (by have := hb2'.size; omega) (by have := hb2'.size; omega)
      exact bodyPost_ret (zret rfl _ _ (s + 1) q1 rfl) rfl ⟨_, rfl, by rw [hs]; exact q2.lower (by have := hb2'.size; omega), by rw [hs]; exact q3⟩
    · have hr : (ra, rb) = Zn.closeP n1 (l1.set (i.toNat * (n1.toNat + 1) + j.toNat) (min (Zn.atP n1 l1 i j) (nearZ c0))) := by rw [← HR.out]; unfold Zn.guardC; rw [if_neg hbad, if_neg hc0]
      have HR2 := Lib.hid hr
      have HL := Lib.hid (HS.out hnn)
      clear HR hr HS hbad
      have HNN := Lib.hid hnn
      clear hnn
      obtain ⟨m, rfl⟩ : ∃ m : Nat, n1 = (m : Int) := ⟨n1.toNat, by omega⟩
      obtain ⟨a, rfl⟩ : ∃ a : Nat, i = (a : Int) := ⟨i.toNat, by omega⟩
      obtain ⟨b, rfl⟩ : ∃ b : Nat, j = (b : Int) := ⟨j.toNat, by omega⟩
      have hm7 : m + 1 ≤ 7 := by omega
      have ha : a < m + 1 := by omega
      have hb : b < m + 1 := by omega
      have hll := HL.out
      simp only [Int.toNat_natCast] at hll
      have hmm : (m + 1) * (m + 1) ≤ 49 := Nat.mul_le_mul hm7 hm7
      have hij := Zn.lt_of ha hb
      obtain ⟨p0, hp0⟩ : ∃ p0, a * (m + 1) = p0 := ⟨_, rfl⟩
      obtain ⟨p, hp⟩ : ∃ p, p0 + b = p := ⟨_, rfl⟩
      have hp49 : p ≤ 49 := by rw [← hp, ← hp0]; exact Nat.le_trans (Nat.le_of_lt hij) hmm
      have hpl : p < l1.length := by rw [hll, ← hp, ← hp0]; exact hij
      have hw1 : IntKind.i64.wrap ((m : Int) + 1) = (m : Int) + 1 := IntWalk.i64_in _ (by omega)
      have hw2 : IntKind.i64.wrap ((a : Int) * ((m : Int) + 1)) = (p0 : Int) := by
        have : (a : Int) * ((m : Int) + 1) = (p0 : Int) := by rw [← hp0]; simp
        rw [this]; exact IntWalk.i64_in _ (by omega)
      have hw3 : IntKind.i64.wrap ((p0 : Int) + (b : Int)) = (p : Int) := by
        have : (p0 : Int) + (b : Int) = (p : Int) := by rw [← hp]; simp
        rw [this]; exact IntWalk.i64_in _ (by omega)
      have hx0 : (0 : Int) ≤ (p : Int) := by omega
      have hx1 : (p : Int) < (l1.length : Int) := by omega
      have hat : Zn.atP (m : Int) l1 (a : Int) (b : Int) = l1.getD p 0 := by unfold Zn.atP; simp only [Int.toNat_natCast]; rw [hp0, hp]
      have hset : (a : Int).toNat * ((m : Int).toNat + 1) + (b : Int).toNat = p := by simp only [Int.toNat_natCast]; rw [hp0, hp]
      have HR3 := HR2.out
      rw [hset, hat] at HR3
      have HR4 := Lib.hid HR3
      have HLL := Lib.hid hll
      have hl49 : l1.length ≤ 49 := by rw [hll]; exact hmm
      clear HR3 HR2 hset hat hp hp0 hll hij ha hb
      go_wp2_with (first | (go_at_call 68; refine (none_any HZ.out.zat).mono ?_; (first | rw [hdec] | skip); rintro e w2 ⟨rfl, hb2⟩; have hb2' := hb2; replace cur := cur.trans (hb2.mono (by have := cur.size; omega)); have HZ2 := Lib.hid (HZ.out.below hb2); have g2 := blk_below g1 hb2; have f2 := blk_below f1 hb2; obtain ⟨z0, z1, z2, z3⟩ := cells2 f2; obtain ⟨y0, y1, y2, y3⟩ := cells2 g2) | (go_at_call 55; refine (own_any HZ2.out.zat HNN.out (by omega)).mono ?_; rintro e w3 ⟨g, cc, rfl, hcc, hgs, hrow, hb3⟩; have g3 := blk_below g2 hb3; have f3 := blk_below f2 hb3; have cur3 := cur.trans (hb3.mono (by have := cur.size; omega)); have HR := Lib.hid hrow; have f4 := blk_alloc f3 (.cells #[.int .i64 (m : Int), .slice (some ⟨g, 0, none⟩) l1.length cc] 27); obtain ⟨z0, z1, -, -⟩ := cells2 f4))
      have bO := blk_new w3 (.cells #[.int .i64 (m : Int), .slice (some ⟨g, 0, none⟩) l1.length cc] 27)
      have g4 := blk_alloc g3 (.cells #[.int .i64 (m : Int), .slice (some ⟨g, 0, none⟩) l1.length cc] 27)
      have hbp := psh (Below.refl w3.heap.size w3) (Nat.le_refl _) (.cells #[.int .i64 (m : Int), .slice (some ⟨g, 0, none⟩) l1.length cc] 27)
      have HR4' := Lib.hid (HR.out.below hbp)
      have hgq := HR.out.lt
      have hszb2 := hb2'.size
      replace cur3 := psh cur3 (by omega) (.cells #[.int .i64 (m : Int), .slice (some ⟨g, 0, none⟩) l1.length cc] 27)
      have hsz4 : (w3.alloc (.cells #[.int .i64 (m : Int), .slice (some ⟨g, 0, none⟩) l1.length cc] 27)).heap.size = w3.heap.size + 1 := by simp
      obtain ⟨W4, hW4⟩ : ∃ W4, w3.alloc (.cells #[.int .i64 (m : Int), .slice (some ⟨g, 0, none⟩) l1.length cc] 27) = W4 := ⟨_, rfl⟩
      obtain ⟨q, hq⟩ : ∃ q, w3.heap.size = q := ⟨_, rfl⟩
      simp only [hW4, hq] at bO g4 HR4' cur3 hgq hsz4 ⊢
      obtain ⟨o0, o1, o2, o3⟩ := cells2 bO
      obtain ⟨dp, hdp⟩ : ∃ dp, l1.getD p 0 = dp := ⟨_, rfl⟩
      have d1 : W4.cell? ⟨g, p, none⟩ = some (.int .i64 dp) := by rw [← hdp]; exact HR4'.out.cell p hpl
      have HDP := Lib.hid hdp
      clear hdp
      clear hW4 hbp HR z0 z1 hrow hb3 hb2 f4
      refine start_ (n := 13) (S := fun w' => w'.cell? ⟨q, 1, none⟩ = some (.slice (some ⟨g, 0, none⟩) l1.length cc) ∧ w'.cell? ⟨g, p, none⟩ = some (.int .i64 dp)) (ds := [12]) #[false, false, false, false, false, false, false, false, false, false, false, false, false] (by kernel_rfl) rfl rfl ⟨cell_below ((Below.refl W4.heap.size W4).drew) o1, cell_below ((Below.refl W4.heap.size W4).drew) d1⟩ (fun hHeld => ?_)
      refine pure_ (i := 0) (N := some 44) (v := ?_) (a' := ?_) #[true, false, false, false, false, false, false, false, false, false, false, false, false] rfl rfl (by kernel_rfl) (fun _ _ _ h => h) (Or.inl ⟨by rfl, ?_⟩) ?_ ?_
      rotate_left
      · intro w'
        go_simp
        with_reducible rfl
      rotate_left
      · simp only [Act.put, List.setIfInBounds_toArray, List.set_cons_zero, List.set_cons_succ, i64_w, i32_w]
        rfl
      refine pure_ (i := 2) (N := some 46) (v := ?_) (a' := ?_) #[true, false, true, false, false, false, false, false, false, false, false, false, false] rfl rfl (by kernel_rfl) (fun _ _ _ h => h) (Or.inl ⟨by rfl, ?_⟩) ?_ ?_
      rotate_left
      · intro w'
        go_simp
        with_reducible rfl
      rotate_left
      · simp only [Act.put, List.setIfInBounds_toArray, List.set_cons_zero, List.set_cons_succ, i64_w, i32_w]
        rfl
      refine pure_ (i := 3) (N := some 47) (v := ?_) (a' := ?_) #[true, false, true, true, false, false, false, false, false, false, false, false, false] rfl rfl (by kernel_rfl) (fun _ _ _ h => h) (Or.inl ⟨by rfl, ?_⟩) ?_ ?_
      rotate_left
      · intro w'
        go_simp
        with_reducible rfl
      rotate_left
      · simp only [Act.put, List.setIfInBounds_toArray, List.set_cons_zero, List.set_cons_succ, i64_w, i32_w]
        rfl
      refine pure_ (i := 5) (N := some 49) (v := ?_) (a' := ?_) #[true, false, true, true, false, true, false, false, false, false, false, false, false] rfl rfl (by kernel_rfl) (fun _ _ _ h => h) (Or.inl ⟨by rfl, ?_⟩) ?_ ?_
      rotate_left
      · intro w'
        go_simp
        with_reducible rfl
      rotate_left
      · simp only [Act.put, List.setIfInBounds_toArray, List.set_cons_zero, List.set_cons_succ, i64_w, i32_w]
        rfl
      refine pure_ (i := 8) (N := some 52) (v := ?_) (a' := ?_) #[true, false, true, true, false, true, false, false, true, false, false, false, false] rfl rfl (by kernel_rfl) (fun _ _ _ h => h) (Or.inl ⟨by rfl, ?_⟩) ?_ ?_
      rotate_left
      · intro w'
        go_simp
        with_reducible rfl
      rotate_left
      · simp only [Act.put, List.setIfInBounds_toArray, List.set_cons_zero, List.set_cons_succ, i64_w, i32_w]
        rfl
      refine take_ (i := 1) (N := some 45) (v := ?_) (a' := ?_) #[true, true, true, true, false, true, false, false, true, false, false, false, false] rfl rfl (by kernel_rfl) (fun _ _ _ h => h) (Or.inl ⟨by rfl, ?_⟩) hHeld ?_ ?_
      rotate_left
      · rintro w' ⟨s0, s1⟩
        go_simp
        with_reducible rfl
      rotate_left
      · simp only [Act.put, List.setIfInBounds_toArray, List.set_cons_zero, List.set_cons_succ, i64_w, i32_w]
        rfl
      refine take_ (i := 4) (N := some 48) (v := ?_) (a' := ?_) #[true, true, true, true, true, true, false, false, true, false, false, false, false] rfl rfl (by kernel_rfl) (fun _ _ _ h => h) (Or.inl ⟨by rfl, ?_⟩) hHeld ?_ ?_
      rotate_left
      · rintro w' ⟨s0, s1⟩
        go_simp
        with_reducible rfl
      rotate_left
      · simp only [Act.put, List.setIfInBounds_toArray, List.set_cons_zero, List.set_cons_succ, i64_w, i32_w]
        rfl
      refine pure_ (i := 6) (N := some 50) (v := ?_) (a' := ?_) #[true, true, true, true, true, true, true, false, true, false, false, false, false] rfl rfl (by kernel_rfl) (fun _ _ _ h => h) (Or.inl ⟨by rfl, ?_⟩) ?_ ?_
      rotate_left
      · intro w'
        go_simp
        with_reducible rfl
      rotate_left
      · simp only [Act.put, List.setIfInBounds_toArray, List.set_cons_zero, List.set_cons_succ, i64_w, i32_w]
        rfl
      refine take_ (i := 7) (N := some 51) (v := ?_) (a' := ?_) #[true, true, true, true, true, true, true, true, true, false, false, false, false] rfl rfl (by kernel_rfl) (fun _ _ _ h => h) (Or.inl ⟨by rfl, ?_⟩) hHeld ?_ ?_
      rotate_left
      · rintro w' ⟨s0, s1⟩
        go_simp
        with_reducible rfl
      rotate_left
      · simp only [Act.put, List.setIfInBounds_toArray, List.set_cons_zero, List.set_cons_succ, i64_w, i32_w]
        rfl
      refine one_ (i := 9) (N := some 53) #[true, true, true, true, true, true, true, true, true, true, false, false, false] rfl rfl (by kernel_rfl) (by decide) (fun K hK => ?_)
      refine goes_ Tryd.func57 (by kernel_rfl) rfl #[.int .i64 c0] (by rfl) rfl rfl (by simp only [List.map_toArray, List.map_cons, List.map_nil]; rfl) ?_
      with_reducible refine (Near_any c0 _).mono ?_
      rintro e w3 ⟨rfl, hb⟩
      refine ⟨_, rfl, ?_⟩
      have cur4 := seq ((Below.refl W4.heap.size W4).drew) hb
      clear hb
      refine hK.out _ _ ⟨cell_below cur4 o1, cell_below cur4 d1⟩ (fun hHeld => ?_)
      clear hK K
      refine norm_ (a' := ?_) ?_ ?_
      rotate_left
      · show Act.put _ (some 53) _ = _
        simp only [Act.put, List.setIfInBounds_toArray, List.set_cons_zero, List.set_cons_succ, i64_w, i32_w]
        rfl
      refine pure_ (i := 10) (N := some 54) (v := ?_) (a' := ?_) #[true, true, true, true, true, true, true, true, true, true, true, false, false] rfl rfl (by kernel_rfl) (fun _ _ _ h => h) (Or.inl ⟨by rfl, ?_⟩) ?_ ?_
      rotate_left
      · intro w'
        go_simp
        with_reducible rfl
      rotate_left
      · simp only [Act.put, List.setIfInBounds_toArray, List.set_cons_zero, List.set_cons_succ, i64_w, i32_w]
        rfl
      refine pure_ (i := 11) (N := some 55) (v := ?_) (a' := ?_) #[true, true, true, true, true, true, true, true, true, true, true, true, false] rfl rfl (by kernel_rfl) (fun _ _ _ h => h) (Or.inl ⟨by rfl, ?_⟩) ?_ ?_
      rotate_left
      · intro w'
        go_simp
        with_reducible rfl
      rotate_left
      · simp only [Act.put, List.setIfInBounds_toArray, List.set_cons_zero, List.set_cons_succ, i64_w, i32_w]
        rfl
      refine last_ (i := 12) (N := none) #[true, true, true, true, true, true, true, true, true, true, true, true, true] rfl rfl (by kernel_rfl) (by decide) (fun K hK => ?_)
      have RC := HR4'.out.below cur4
      have RC0 : w3.cell? ⟨g, p, none⟩ = some (.int .i64 dp) := by rw [← HDP.out]; exact RC.cell p hpl
      have RC1 := RC.free p
      refine skip_ (w1 := ?_) (by rfl) rfl ?_ ?_
      rotate_left
      · go_simp
        rfl
      refine hK.out _ _ ?_
      clear hK K
      refine done_ (by kernel_rfl) ?_
      have R5 := RC.store p (min dp (nearZ c0))
      have hg5 := gtrans (grown_of_below cur4 (some g)) (gset w3 g p (.int .i64 (min dp (nearZ c0))))
      obtain ⟨W5, hW5⟩ : ∃ W5, w3.setCell ⟨g, p, none⟩ (.int .i64 (min dp (nearZ c0))) = W5 := ⟨_, rfl⟩
      simp only [hW5] at R5 hg5 ⊢
      have g5 := gheap hg5 g4 (by omega)
      have bO5 := gheap hg5 bO (by omega)
      have cur5 := gbelow cur3 hg5 (by omega) (by omega)
      have hI5 := R5.ints hcc (by omega)
      have hLs : (List.range l1.length).map (upd (fun j => l1.getD j 0) p (min dp (nearZ c0))) = l1.set p (min dp (nearZ c0)) := Zn.mapL_set _ _ _
      rw [hLs] at hI5
      have HI5 := Lib.hid (show ZAt W5 (.agg #[.int .i64 (m : Int), .slice (some ⟨g, 0, none⟩) l1.length cc]) (m : Int) (l1.set p (min dp (nearZ c0))) from ⟨_, rfl, hI5⟩)
      obtain ⟨o0, o1, o2, o3⟩ := cells2 bO5
      have hs5 := hg5.size
      clear hLs hI5 R5 hg5 cur4 bO bO5 d1
      go_wp2_with fail
      go_at_call 15
      refine (Close_any HI5.out).mono ?_
      have hr4 := HR4.out
      rw [HDP.out] at hr4
      rw [← hr4]
      clear hr4
      rintro e w6 ⟨v6, rfl, hz6, hb6⟩
      dsimp only at hz6
      obtain ⟨A6, c6, rfl⟩ := hz6.form
      have g6 := blk_below g5 hb6
      have cur6 := cur5.trans (hb6.mono (by have := cur5.size; omega))
      obtain ⟨y0, y1, y2, y3⟩ := cells2 g6
      have HZ6 := Lib.hid hz6
      go_wp2_with fail
      obtain ⟨q1, q2, q3⟩ := zfin (s := s) (b := s + 1) g6 HZ6.out cur6 (by omega) (by omega) (by omega)
      exact bodyPost_ret (zret rfl _ _ (s + 1) q1 rfl) rfl ⟨_, rfl, by rw [hs]; exact q2.lower (by omega), by rw [hs]; exact q3⟩
end Go.Proofs.YtjhccmjgfngkcaaDoor.PZoneSame
