/- zone.Join, Meet. -/
import Derived.Test.YtjhccmjgfngkcaaDoorZoneSameZg
set_option linter.unusedVariables false
set_option linter.unusedSimpArgs false
namespace Go.Proofs.YtjhccmjgfngkcaaDoor.PZoneSame
open Go Go.RowKit Go.Shelf Go.Deep Go.Proofs.YtjhccmjgfngkcaaDoorW.PrintWords Go.Proofs.YtjhccmjgfngkcaaDoorW.PrintLast Go.Proofs.YtjhccmjgfngkcaaDoorW.PrintMore
open Zn (botN wholeB wholeB_iff nearZ upd)
variable {w : World}
attribute [local go_sem] Oper.semAt_some

set_option maxRecDepth 100000 in
set_option maxHeartbeats 4000000 in
theorem join_any {va vb : Value} {N M : Int} {L L2 : List Int} (ha : ZAt w va N L) (hb : ZAt w vb M L2) : Calls Tryd.prog 33 #[va, vb] w (ZPost w (Zn.joinP (N, L) (M, L2))) := by
  obtain ⟨A, c, rfl⟩ := ha.form
  obtain ⟨B, d, rfl⟩ := hb.form
  obtain ⟨va, hva, hA⟩ := ha
  obtain ⟨vb, hvb, hB⟩ := hb
  injection hva with hva
  injection hvb with hvb
  simp at hva hvb
  subst hva hvb
  have hsh1 := Zn.cleanP_shape N L
  have hsh2 := Zn.cleanP_shape M L2
  have hbo : ∀ (W : World) (pa pb : Nat), Below w.heap.size w W → W.heap[pa]? = some (.cells #[.int .i64 N, .slice A L.length c] 27 (0, 0)) → W.heap[pb]? = some (.cells #[.int .i64 M, .slice B L2.length d] 27 (0, 0)) → pa ≠ pb →
      Calls Tryd.prog 76 #[.pointer (some ⟨pa, 0, none⟩), .pointer (some ⟨pb, 0, none⟩)] W fun e w' => e = .returned (.bool (decide ((Zn.cleanP N L).1 = (Zn.cleanP M L2).1))) ∧ Both W pa pb (Zn.cleanP N L) (Zn.cleanP M L2) w' := fun W pa pb hbw h1 h2 h3 => both_any h1 h2 h3 (hA.below hbw) (hB.below hbw)
  obtain ⟨z1, hz1⟩ : ∃ z, Zn.cleanP N L = z := ⟨_, rfl⟩
  obtain ⟨z2, hz2⟩ : ∃ z, Zn.cleanP M L2 = z := ⟨_, rfl⟩
  rw [hz1] at hbo hsh1
  rw [hz2] at hbo hsh2
  obtain ⟨n1, l1⟩ := z1
  obtain ⟨n2, l2⟩ := z2
  have HBO := Lib.hid hbo
  have hn0 := hsh1.n0
  have hn6 := hsh1.n6
  have HS1 := Lib.hid hsh1.len
  have HS2 := Lib.hid hsh2.len
  dsimp only at hn0 hn6 HS1 HS2
  clear hsh1 hsh2 hbo hA hB
  have hr : Zn.joinP (N, L) (M, L2) = if n1 = n2 then Zn.joinC n1 l1 l2 else (0, []) := by unfold Zn.joinP; rw [hz1, hz2]
  rw [hr]
  clear hz1 hz2 hr
  obtain ⟨r, hr⟩ : ∃ r, (if n1 = n2 then Zn.joinC n1 l1 l2 else (0, [])) = r := ⟨_, rfl⟩
  rw [hr]
  have HR := Lib.hid hr
  clear hr
  obtain ⟨ra, rb⟩ := r
  go_enter Tryd.func33, Tryd.ntmps33
  go_wp2_with fail
  have bA := blk_alloc (blk_alloc (blk_new w (.cells #[.int .i64 N, .slice A L.length c] 27)) (.cells #[.int .i64 M, .slice B L2.length d] 27)) (.cells #[.int .i64 0, .slice none 0 0] 27)
  have bB := blk_alloc (blk_new (w.alloc (.cells #[.int .i64 N, .slice A L.length c] 27)) (.cells #[.int .i64 M, .slice B L2.length d] 27)) (.cells #[.int .i64 0, .slice none 0 0] 27)
  have bR := blk_new ((w.alloc (.cells #[.int .i64 N, .slice A L.length c] 27)).alloc (.cells #[.int .i64 M, .slice B L2.length d] 27)) (.cells #[.int .i64 0, .slice none 0 0] 27)
  have cur : Below w.heap.size w (((w.alloc (.cells #[.int .i64 N, .slice A L.length c] 27)).alloc (.cells #[.int .i64 M, .slice B L2.length d] 27)).alloc (.cells #[.int .i64 0, .slice none 0 0] 27)) := psh (psh (psh (Below.refl _ _) (Nat.le_refl _) (.cells #[.int .i64 N, .slice A L.length c] 27)) (Nat.le_refl _) (.cells #[.int .i64 M, .slice B L2.length d] 27)) (Nat.le_refl _) (.cells #[.int .i64 0, .slice none 0 0] 27)
  have hsz : (((w.alloc (.cells #[.int .i64 N, .slice A L.length c] 27)).alloc (.cells #[.int .i64 M, .slice B L2.length d] 27)).alloc (.cells #[.int .i64 0, .slice none 0 0] 27)).heap.size = w.heap.size + 3 := by simp
  simp only [World.size_alloc] at bB bR
  obtain ⟨W0, hW0⟩ : ∃ W0, (((w.alloc (.cells #[.int .i64 N, .slice A L.length c] 27)).alloc (.cells #[.int .i64 M, .slice B L2.length d] 27)).alloc (.cells #[.int .i64 0, .slice none 0 0] 27)) = W0 := ⟨_, rfl⟩
  rw [hW0] at bA bB bR cur hsz ⊢
  clear hW0
  obtain ⟨s, hs⟩ : ∃ s, w.heap.size = s := ⟨_, rfl⟩
  rw [hs] at bA bB bR cur hsz
  simp only [hs]
  try go_wp2_with fail
  refine (HBO.out W0 s (s + 1) (by rw [hs]; exact cur) bA bB (by omega)).mono ?_
  rintro e W2 ⟨rfl, hBo⟩
  have cur2 := hBo.bel cur (by omega) (by omega) (by omega)
  obtain ⟨⟨A1, c1, f1, i1⟩, ⟨B1, d1, f2, i2⟩, -, -, -, -, hblk⟩ := hBo
  dsimp only at f1 f2 i1 i2
  have T : Hid (TZ w s W0.heap.size n1 n2 l1 l2 A1 B1 c1 d1 W2) := Lib.hid ⟨f1, f2, i1, i2, cur2⟩
  obtain ⟨x0, x1, -, -⟩ := cells2 f1
  obtain ⟨y0, y1, -, -⟩ := cells2 f2
  clear i1 i2 bA bB cur HBO
  have g3 : W2.heap[s + 1 + 1]? = some (.cells #[.int .i64 0, .slice none 0 0] 27 (0, 0)) := (hblk (s + 1 + 1) (by omega) (by omega) (by omega)).trans bR
  clear bR hblk
  obtain ⟨e1, hd1⟩ : ∃ e1, decide (l1 = []) = e1 := ⟨_, rfl⟩
  obtain ⟨e2, hd2⟩ : ∃ e2, decide (l2 = []) = e2 := ⟨_, rfl⟩
  have hW2 := hp_lt g3
  clear f1 f2 x0 x1 y0 y1
  obtain ⟨x0, x1, -, -⟩ := cells2 T.out.f1
  obtain ⟨y0, y1, -, -⟩ := cells2 T.out.f2
  by_cases hnn : n1 = n2
  · subst hnn
    have hr0 : Zn.joinC n1 l1 l2 = (ra, rb) := by have := HR.out; rw [if_pos rfl] at this; exact this
    clear HR
    cases e1
    · have h1 : l1 ≠ [] := of_decide_eq_false hd1
      cases e2
      · have h2 : l2 ≠ [] := of_decide_eq_false hd2
        go_wp2_with (first | (go_at_call 68; refine (none_any T.out.z1.zat).mono ?_; rw [hd1]; rintro e w3 ⟨rfl, hb3⟩; have T := Lib.hid (T.out.step hb3); obtain ⟨x0, x1, -, -⟩ := cells2 T.out.f1; obtain ⟨y0, y1, -, -⟩ := cells2 T.out.f2; replace g3 := blk_below g3 hb3; obtain ⟨r0, r1, r2, r3⟩ := cells2 g3; clear hb3) | (go_at_call 68; refine (none_any T.out.z2.zat).mono ?_; rw [hd2]; rintro e w3 ⟨rfl, hb3⟩; have T := Lib.hid (T.out.step hb3); obtain ⟨x0, x1, -, -⟩ := cells2 T.out.f1; obtain ⟨y0, y1, -, -⟩ := cells2 T.out.f2; replace g3 := blk_below g3 hb3; obtain ⟨r0, r1, r2, r3⟩ := cells2 g3; clear hb3))
        have hle : l1.length = l2.length := by rw [HS1.out h1, HS2.out h2]
        have h49 : l1.length ≤ 49 := by rw [HS1.out h1]; exact Nat.mul_le_mul (by omega : n1.toNat + 1 ≤ 7) (by omega : n1.toNat + 1 ≤ 7)
        refine (each_max T.out.z1.zat T.out.z2.zat h1 hle h49).mono ?_
        have hrr : (n1, Zn.mapL l1.length fun j => max (l1.getD j 0) (l2.getD j 0)) = (ra, rb) := by rw [← hr0]; unfold Zn.joinC; rw [if_neg h1, if_neg h2]
        rw [hrr]
        rintro e w6 ⟨v6, rfl, hz6, hb6⟩
        dsimp only at hz6
        obtain ⟨A6, c6, rfl⟩ := hz6.form
        have g6 := blk_below g3 hb6
        have T6 := Lib.hid (T.out.step hb6)
        have HZ6 := Lib.hid hz6
        have hw3 := hp_lt g3
        obtain ⟨r0, r1, r2, r3⟩ := cells2 g6
        clear hle hrr hr0 hz6 hb6
        go_wp2_with fail
        obtain ⟨q1, q2, q3⟩ := zfin (s := s) (b := s + 1 + 1) g6 HZ6.out T6.out.cur (by omega) (by omega) (by omega); exact bodyPost_ret (zret rfl _ _ (s + 1 + 1) q1 rfl) rfl ⟨_, rfl, by first | exact q2.lower (by omega) | (rw [hs]; exact q2.lower (by omega)), by first | exact q3 | (rw [hs]; exact q3)⟩
      · have h2 : l2 = [] := of_decide_eq_true hd2
        have hr1 : (ra, rb) = (n1, l1) := by rw [← hr0]; unfold Zn.joinC; rw [if_neg h1, if_pos h2]
        injection hr1 with h3 h4
        subst h3 h4
        clear hr0 h1 h2
        go_wp2_with (first | (go_at_call 68; refine (none_any T.out.z1.zat).mono ?_; rw [hd1]; rintro e w3 ⟨rfl, hb3⟩; have T := Lib.hid (T.out.step hb3); obtain ⟨x0, x1, -, -⟩ := cells2 T.out.f1; obtain ⟨y0, y1, -, -⟩ := cells2 T.out.f2; replace g3 := blk_below g3 hb3; obtain ⟨r0, r1, r2, r3⟩ := cells2 g3; clear hb3) | (go_at_call 68; refine (none_any T.out.z2.zat).mono ?_; rw [hd2]; rintro e w3 ⟨rfl, hb3⟩; have T := Lib.hid (T.out.step hb3); obtain ⟨x0, x1, -, -⟩ := cells2 T.out.f1; obtain ⟨y0, y1, -, -⟩ := cells2 T.out.f2; replace g3 := blk_below g3 hb3; obtain ⟨r0, r1, r2, r3⟩ := cells2 g3; clear hb3))
        obtain ⟨q1, q2, q3⟩ := zfin (s := s) (b := s + 1 + 1) g3 T.out.z1 T.out.cur (by omega) (by omega) (by omega); exact bodyPost_ret (zret rfl _ _ (s + 1 + 1) q1 rfl) rfl ⟨_, rfl, by first | exact q2.lower (by omega) | (rw [hs]; exact q2.lower (by omega)), by first | exact q3 | (rw [hs]; exact q3)⟩
    · have h1 : l1 = [] := of_decide_eq_true hd1
      have hr1 : (ra, rb) = (n1, l2) := by rw [← hr0]; unfold Zn.joinC; rw [if_pos h1]
      injection hr1 with h3 h4
      subst h3 h4
      clear hr0 h1
      go_wp2_with (first | (go_at_call 68; refine (none_any T.out.z1.zat).mono ?_; rw [hd1]; rintro e w3 ⟨rfl, hb3⟩; have T := Lib.hid (T.out.step hb3); obtain ⟨x0, x1, -, -⟩ := cells2 T.out.f1; obtain ⟨y0, y1, -, -⟩ := cells2 T.out.f2; replace g3 := blk_below g3 hb3; obtain ⟨r0, r1, r2, r3⟩ := cells2 g3; clear hb3) | (go_at_call 68; refine (none_any T.out.z2.zat).mono ?_; rw [hd2]; rintro e w3 ⟨rfl, hb3⟩; have T := Lib.hid (T.out.step hb3); obtain ⟨x0, x1, -, -⟩ := cells2 T.out.f1; obtain ⟨y0, y1, -, -⟩ := cells2 T.out.f2; replace g3 := blk_below g3 hb3; obtain ⟨r0, r1, r2, r3⟩ := cells2 g3; clear hb3))
      obtain ⟨q1, q2, q3⟩ := zfin (s := s) (b := s + 1 + 1) g3 T.out.z2 T.out.cur (by omega) (by omega) (by omega); exact bodyPost_ret (zret rfl _ _ (s + 1 + 1) q1 rfl) rfl ⟨_, rfl, by first | exact q2.lower (by omega) | (rw [hs]; exact q2.lower (by omega)), by first | exact q3 | (rw [hs]; exact q3)⟩
  · have hr0 : (ra, rb) = ((0 : Int), ([] : List Int)) := by rw [← HR.out, if_neg hnn]
    injection hr0 with h1 h2
    subst h1 h2
    clear HR
    have hbot : botN 0 = 0 := rfl
    go_wp2_with (first | (go_at_call 27; refine (bot_post _ _).mono ?_; (first | rw [hbot] | skip); rintro e w6 ⟨v6, rfl, hz6, hb6⟩; dsimp only at hz6; obtain ⟨A6, c6, rfl⟩ := hz6.form; have hwg := hp_lt g3; have g6 := blk_below g3 hb6; have T6 := Lib.hid (T.out.step hb6); have HZ6 := Lib.hid hz6; obtain ⟨r0, r1, r2, r3⟩ := cells2 g6; have hw6 := hb6.size) | fail)
    obtain ⟨q1, q2, q3⟩ := zfin (s := s) (b := s + 1 + 1) g6 HZ6.out T6.out.cur (by omega) (by omega) (by omega); exact bodyPost_ret (zret rfl _ _ (s + 1 + 1) q1 rfl) rfl ⟨_, rfl, by first | exact q2.lower (by omega) | (rw [hs]; exact q2.lower (by omega)), by first | exact q3 | (rw [hs]; exact q3)⟩
set_option maxRecDepth 100000 in
set_option maxHeartbeats 4000000 in
theorem meet_any {va vb : Value} {N M : Int} {L L2 : List Int} (ha : ZAt w va N L) (hb : ZAt w vb M L2) : Calls Tryd.prog 34 #[va, vb] w (ZPost w (Zn.meetP (N, L) (M, L2))) := by
  obtain ⟨A, c, rfl⟩ := ha.form
  obtain ⟨B, d, rfl⟩ := hb.form
  obtain ⟨va, hva, hA⟩ := ha
  obtain ⟨vb, hvb, hB⟩ := hb
  injection hva with hva
  injection hvb with hvb
  simp at hva hvb
  subst hva hvb
  have hsh1 := Zn.cleanP_shape N L
  have hsh2 := Zn.cleanP_shape M L2
  have hbo : ∀ (W : World) (pa pb : Nat), Below w.heap.size w W → W.heap[pa]? = some (.cells #[.int .i64 N, .slice A L.length c] 27 (0, 0)) → W.heap[pb]? = some (.cells #[.int .i64 M, .slice B L2.length d] 27 (0, 0)) → pa ≠ pb →
      Calls Tryd.prog 76 #[.pointer (some ⟨pa, 0, none⟩), .pointer (some ⟨pb, 0, none⟩)] W fun e w' => e = .returned (.bool (decide ((Zn.cleanP N L).1 = (Zn.cleanP M L2).1))) ∧ Both W pa pb (Zn.cleanP N L) (Zn.cleanP M L2) w' := fun W pa pb hbw h1 h2 h3 => both_any h1 h2 h3 (hA.below hbw) (hB.below hbw)
  obtain ⟨z1, hz1⟩ : ∃ z, Zn.cleanP N L = z := ⟨_, rfl⟩
  obtain ⟨z2, hz2⟩ : ∃ z, Zn.cleanP M L2 = z := ⟨_, rfl⟩
  rw [hz1] at hbo hsh1
  rw [hz2] at hbo hsh2
  obtain ⟨n1, l1⟩ := z1
  obtain ⟨n2, l2⟩ := z2
  have HBO := Lib.hid hbo
  have hn0 := hsh1.n0
  have hn6 := hsh1.n6
  have HS1 := Lib.hid hsh1.len
  have HS2 := Lib.hid hsh2.len
  dsimp only at hn0 hn6 HS1 HS2
  clear hsh1 hsh2 hbo hA hB
  have hr : Zn.meetP (N, L) (M, L2) = if n1 = n2 then Zn.meetC n1 l1 l2 else (0, []) := by unfold Zn.meetP; rw [hz1, hz2]
  rw [hr]
  clear hz1 hz2 hr
  obtain ⟨r, hr⟩ : ∃ r, (if n1 = n2 then Zn.meetC n1 l1 l2 else (0, [])) = r := ⟨_, rfl⟩
  rw [hr]
  have HR := Lib.hid hr
  clear hr
  obtain ⟨ra, rb⟩ := r
  go_enter Tryd.func34, Tryd.ntmps34
  go_wp2_with fail
  have bA := blk_alloc (blk_alloc (blk_new w (.cells #[.int .i64 N, .slice A L.length c] 27)) (.cells #[.int .i64 M, .slice B L2.length d] 27)) (.cells #[.int .i64 0, .slice none 0 0] 27)
  have bB := blk_alloc (blk_new (w.alloc (.cells #[.int .i64 N, .slice A L.length c] 27)) (.cells #[.int .i64 M, .slice B L2.length d] 27)) (.cells #[.int .i64 0, .slice none 0 0] 27)
  have bR := blk_new ((w.alloc (.cells #[.int .i64 N, .slice A L.length c] 27)).alloc (.cells #[.int .i64 M, .slice B L2.length d] 27)) (.cells #[.int .i64 0, .slice none 0 0] 27)
  have cur : Below w.heap.size w (((w.alloc (.cells #[.int .i64 N, .slice A L.length c] 27)).alloc (.cells #[.int .i64 M, .slice B L2.length d] 27)).alloc (.cells #[.int .i64 0, .slice none 0 0] 27)) := psh (psh (psh (Below.refl _ _) (Nat.le_refl _) (.cells #[.int .i64 N, .slice A L.length c] 27)) (Nat.le_refl _) (.cells #[.int .i64 M, .slice B L2.length d] 27)) (Nat.le_refl _) (.cells #[.int .i64 0, .slice none 0 0] 27)
  have hsz : (((w.alloc (.cells #[.int .i64 N, .slice A L.length c] 27)).alloc (.cells #[.int .i64 M, .slice B L2.length d] 27)).alloc (.cells #[.int .i64 0, .slice none 0 0] 27)).heap.size = w.heap.size + 3 := by simp
  simp only [World.size_alloc] at bB bR
  obtain ⟨W0, hW0⟩ : ∃ W0, (((w.alloc (.cells #[.int .i64 N, .slice A L.length c] 27)).alloc (.cells #[.int .i64 M, .slice B L2.length d] 27)).alloc (.cells #[.int .i64 0, .slice none 0 0] 27)) = W0 := ⟨_, rfl⟩
  rw [hW0] at bA bB bR cur hsz ⊢
  clear hW0
  obtain ⟨s, hs⟩ : ∃ s, w.heap.size = s := ⟨_, rfl⟩
  rw [hs] at bA bB bR cur hsz
  simp only [hs]
  try go_wp2_with fail
  refine (HBO.out W0 s (s + 1) (by rw [hs]; exact cur) bA bB (by omega)).mono ?_
  rintro e W2 ⟨rfl, hBo⟩
  have cur2 := hBo.bel cur (by omega) (by omega) (by omega)
  obtain ⟨⟨A1, c1, f1, i1⟩, ⟨B1, d1, f2, i2⟩, -, -, -, -, hblk⟩ := hBo
  dsimp only at f1 f2 i1 i2
  have T : Hid (TZ w s W0.heap.size n1 n2 l1 l2 A1 B1 c1 d1 W2) := Lib.hid ⟨f1, f2, i1, i2, cur2⟩
  obtain ⟨x0, x1, -, -⟩ := cells2 f1
  obtain ⟨y0, y1, -, -⟩ := cells2 f2
  clear i1 i2 bA bB cur HBO
  have g3 : W2.heap[s + 1 + 1]? = some (.cells #[.int .i64 0, .slice none 0 0] 27 (0, 0)) := (hblk (s + 1 + 1) (by omega) (by omega) (by omega)).trans bR
  clear bR hblk
  obtain ⟨e1, hd1⟩ : ∃ e1, decide (l1 = []) = e1 := ⟨_, rfl⟩
  obtain ⟨e2, hd2⟩ : ∃ e2, decide (l2 = []) = e2 := ⟨_, rfl⟩
  have hW2 := hp_lt g3
  clear f1 f2 x0 x1 y0 y1
  obtain ⟨x0, x1, -, -⟩ := cells2 T.out.f1
  obtain ⟨y0, y1, -, -⟩ := cells2 T.out.f2
  by_cases hnn : n1 = n2
  · subst hnn
    have hr0 : Zn.meetC n1 l1 l2 = (ra, rb) := by have := HR.out; rw [if_pos rfl] at this; exact this
    clear HR
    cases e1
    · have h1 : l1 ≠ [] := of_decide_eq_false hd1
      cases e2
      · have h2 : l2 ≠ [] := of_decide_eq_false hd2
        go_wp2_with (first | (go_at_call 68; refine (none_any T.out.z1.zat).mono ?_; rw [hd1]; rintro e w3 ⟨rfl, hb3⟩; have T := Lib.hid (T.out.step hb3); obtain ⟨x0, x1, -, -⟩ := cells2 T.out.f1; obtain ⟨y0, y1, -, -⟩ := cells2 T.out.f2; replace g3 := blk_below g3 hb3; obtain ⟨r0, r1, r2, r3⟩ := cells2 g3; clear hb3) | (go_at_call 68; refine (none_any T.out.z2.zat).mono ?_; rw [hd2]; rintro e w3 ⟨rfl, hb3⟩; have T := Lib.hid (T.out.step hb3); obtain ⟨x0, x1, -, -⟩ := cells2 T.out.f1; obtain ⟨y0, y1, -, -⟩ := cells2 T.out.f2; replace g3 := blk_below g3 hb3; obtain ⟨r0, r1, r2, r3⟩ := cells2 g3; clear hb3))
        have hle : l1.length = l2.length := by rw [HS1.out h1, HS2.out h2]
        have h49 : l1.length ≤ 49 := by rw [HS1.out h1]; exact Nat.mul_le_mul (by omega : n1.toNat + 1 ≤ 7) (by omega : n1.toNat + 1 ≤ 7)
        refine (each_min T.out.z1.zat T.out.z2.zat h1 hle h49).mono ?_
        have hrr : Zn.closeP n1 (Zn.mapL l1.length fun j => min (l1.getD j 0) (l2.getD j 0)) = (ra, rb) := by rw [← hr0]; unfold Zn.meetC; rw [if_neg (by rintro (e | e); exact h1 e; exact h2 e)]
        have HRR := Lib.hid hrr
        rintro e w5 ⟨v5, rfl, hz5, hb5⟩
        dsimp only at hz5
        obtain ⟨A5, c5, rfl⟩ := hz5.form
        replace g3 := blk_below g3 hb5
        have T := Lib.hid (T.out.step hb5)
        have HZ5 := Lib.hid hz5
        clear hle hrr hr0 hz5 hb5 r0 r1 r2 r3 h1 h2
        go_wp2_with fail
        go_at_call 15
        refine (Close_any HZ5.out.zat).mono ?_
        rw [HRR.out]
        rintro e w6 ⟨v6, rfl, hz6, hb6⟩
        dsimp only at hz6
        obtain ⟨A6, c6, rfl⟩ := hz6.form
        have g6 := blk_below g3 hb6
        have T6 := Lib.hid (T.out.step hb6)
        have HZ6 := Lib.hid hz6
        have hw3 := hp_lt g3
        obtain ⟨r0, r1, r2, r3⟩ := cells2 g6
        clear hz6 hb6
        go_wp2_with fail
        obtain ⟨q1, q2, q3⟩ := zfin (s := s) (b := s + 1 + 1) g6 HZ6.out T6.out.cur (by omega) (by omega) (by omega); exact bodyPost_ret (zret rfl _ _ (s + 1 + 1) q1 rfl) rfl ⟨_, rfl, by first | exact q2.lower (by omega) | (rw [hs]; exact q2.lower (by omega)), by first | exact q3 | (rw [hs]; exact q3)⟩
      · have h2 : l2 = [] := of_decide_eq_true hd2
        have hr1 : (ra, rb) = (botN n1, []) := by rw [← hr0]; unfold Zn.meetC; rw [if_pos (.inr h2)]
        injection hr1 with h3 h4
        subst h3 h4
        clear hr0 h1 h2
        go_wp2_with (first | (go_at_call 27; refine (bot_post _ _).mono ?_; (first | rw [hbot] | skip); rintro e w6 ⟨v6, rfl, hz6, hb6⟩; dsimp only at hz6; obtain ⟨A6, c6, rfl⟩ := hz6.form; have hwg := hp_lt g3; have g6 := blk_below g3 hb6; have T6 := Lib.hid (T.out.step hb6); have HZ6 := Lib.hid hz6; obtain ⟨r0, r1, r2, r3⟩ := cells2 g6; have hw6 := hb6.size) | first | (go_at_call 68; refine (none_any T.out.z1.zat).mono ?_; rw [hd1]; rintro e w3 ⟨rfl, hb3⟩; have T := Lib.hid (T.out.step hb3); obtain ⟨x0, x1, -, -⟩ := cells2 T.out.f1; obtain ⟨y0, y1, -, -⟩ := cells2 T.out.f2; replace g3 := blk_below g3 hb3; obtain ⟨r0, r1, r2, r3⟩ := cells2 g3; clear hb3) | (go_at_call 68; refine (none_any T.out.z2.zat).mono ?_; rw [hd2]; rintro e w3 ⟨rfl, hb3⟩; have T := Lib.hid (T.out.step hb3); obtain ⟨x0, x1, -, -⟩ := cells2 T.out.f1; obtain ⟨y0, y1, -, -⟩ := cells2 T.out.f2; replace g3 := blk_below g3 hb3; obtain ⟨r0, r1, r2, r3⟩ := cells2 g3; clear hb3))
        obtain ⟨q1, q2, q3⟩ := zfin (s := s) (b := s + 1 + 1) g6 HZ6.out T6.out.cur (by omega) (by omega) (by omega); exact bodyPost_ret (zret rfl _ _ (s + 1 + 1) q1 rfl) rfl ⟨_, rfl, by first | exact q2.lower (by omega) | (rw [hs]; exact q2.lower (by omega)), by first | exact q3 | (rw [hs]; exact q3)⟩
    · have h1 : l1 = [] := of_decide_eq_true hd1
      have hr1 : (ra, rb) = (botN n1, []) := by rw [← hr0]; unfold Zn.meetC; rw [if_pos (.inl h1)]
      injection hr1 with h3 h4
      subst h3 h4
      clear hr0 h1
      go_wp2_with (first | (go_at_call 27; refine (bot_post _ _).mono ?_; (first | rw [hbot] | skip); rintro e w6 ⟨v6, rfl, hz6, hb6⟩; dsimp only at hz6; obtain ⟨A6, c6, rfl⟩ := hz6.form; have hwg := hp_lt g3; have g6 := blk_below g3 hb6; have T6 := Lib.hid (T.out.step hb6); have HZ6 := Lib.hid hz6; obtain ⟨r0, r1, r2, r3⟩ := cells2 g6; have hw6 := hb6.size) | first | (go_at_call 68; refine (none_any T.out.z1.zat).mono ?_; rw [hd1]; rintro e w3 ⟨rfl, hb3⟩; have T := Lib.hid (T.out.step hb3); obtain ⟨x0, x1, -, -⟩ := cells2 T.out.f1; obtain ⟨y0, y1, -, -⟩ := cells2 T.out.f2; replace g3 := blk_below g3 hb3; obtain ⟨r0, r1, r2, r3⟩ := cells2 g3; clear hb3) | (go_at_call 68; refine (none_any T.out.z2.zat).mono ?_; rw [hd2]; rintro e w3 ⟨rfl, hb3⟩; have T := Lib.hid (T.out.step hb3); obtain ⟨x0, x1, -, -⟩ := cells2 T.out.f1; obtain ⟨y0, y1, -, -⟩ := cells2 T.out.f2; replace g3 := blk_below g3 hb3; obtain ⟨r0, r1, r2, r3⟩ := cells2 g3; clear hb3))
      obtain ⟨q1, q2, q3⟩ := zfin (s := s) (b := s + 1 + 1) g6 HZ6.out T6.out.cur (by omega) (by omega) (by omega); exact bodyPost_ret (zret rfl _ _ (s + 1 + 1) q1 rfl) rfl ⟨_, rfl, by first | exact q2.lower (by omega) | (rw [hs]; exact q2.lower (by omega)), by first | exact q3 | (rw [hs]; exact q3)⟩
  · have hr0 : (ra, rb) = ((0 : Int), ([] : List Int)) := by rw [← HR.out, if_neg hnn]
    injection hr0 with h1 h2
    subst h1 h2
    clear HR
    have hbot : botN 0 = 0 := rfl
    go_wp2_with (first | (go_at_call 27; refine (bot_post _ _).mono ?_; (first | rw [hbot] | skip); rintro e w6 ⟨v6, rfl, hz6, hb6⟩; dsimp only at hz6; obtain ⟨A6, c6, rfl⟩ := hz6.form; have hwg := hp_lt g3; have g6 := blk_below g3 hb6; have T6 := Lib.hid (T.out.step hb6); have HZ6 := Lib.hid hz6; obtain ⟨r0, r1, r2, r3⟩ := cells2 g6; have hw6 := hb6.size) | fail)
    obtain ⟨q1, q2, q3⟩ := zfin (s := s) (b := s + 1 + 1) g6 HZ6.out T6.out.cur (by omega) (by omega) (by omega); exact bodyPost_ret (zret rfl _ _ (s + 1 + 1) q1 rfl) rfl ⟨_, rfl, by first | exact q2.lower (by omega) | (rw [hs]; exact q2.lower (by omega)), by first | exact q3 | (rw [hs]; exact q3)⟩
end Go.Proofs.YtjhccmjgfngkcaaDoor.PZoneSame
