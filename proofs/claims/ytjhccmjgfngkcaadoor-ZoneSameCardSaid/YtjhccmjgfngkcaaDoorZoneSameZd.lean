/- zone.clean, Top, Get. -/
import Derived.Test.YtjhccmjgfngkcaaDoorZoneSameZc
import Derived.Test.YtjhccmjgfngkcaaDoorPm
import Derived.Test.YtjhccmjgfngkcaaDoorPZoneSamex13
import Derived.Test.YtjhccmjgfngkcaaDoorPZoneSamex41
import Derived.Test.YtjhccmjgfngkcaaDoorPZoneSamex45
import Derived.Test.YtjhccmjgfngkcaaDoorPZoneSamex44
set_option linter.unusedVariables false
set_option linter.unusedSimpArgs false
namespace Go.Proofs.YtjhccmjgfngkcaaDoor.PZoneSame
open Go Go.RowKit Go.Shelf Go.Deep Go.Proofs.YtjhccmjgfngkcaaDoorW.PrintWords Go.Proofs.YtjhccmjgfngkcaaDoorW.PrintLast Go.Proofs.YtjhccmjgfngkcaaDoorW.PrintMore
open Zn (botN wholeB wholeB_iff nearZ upd)
variable {w : World}
attribute [local go_sem] Oper.semAt_some

theorem ZAt.form {v : Value} {N : Int} {l : List Int} (h : ZAt w v N l) : ∃ A c, v = .agg #[.int .i64 N, .slice A l.length c] := by
  obtain ⟨A, c, e, _⟩ := h.row
  exact ⟨A, c, e⟩
theorem bot_post (N : Int) (w : World) : Calls Tryd.prog 27 #[.int .i64 N] w (ZPost w (botN N, [])) :=
  (Bottom_any N w).mono (fun e w' ⟨v, h1, h2, h3⟩ => by
    obtain ⟨ao, c, rfl⟩ := ints_nil h2
    exact ⟨_, h1, ⟨ao, c, rfl, h2, fun _ _ h => absurd rfl h⟩, h3⟩)
theorem ret_cell {P : Program} {fn : Func} {R : Ending → World → Prop} {a : Act} {W : World} {v : Value} (h : (results fn a.tmps).run P W = .ok v W) (hd : a.defers = []) (hR : R (.returned v) W) : bodyPost P fn R .ret a W := bodyPost_ret h hd hR
set_option maxHeartbeats 1000000 in
theorem clean_any {v : Value} {N : Int} {L : List Int} (h : ZAt w v N L) : Calls Tryd.prog 67 #[v] w (ZPost w (Zn.cleanP N L)) := by
  have CL : ∀ W', Below w.heap.size w W' → Calls Tryd.prog 15 #[v] W' (ZPost W' (Zn.closeP N L)) := fun W' hb => Close_any (h.below hb)
  obtain ⟨A, c, rfl⟩ := h.form
  have HC := Lib.hid CL
  clear CL h
  by_cases hL : L = []
  · subst hL
    have hp : Zn.cleanP N [] = (botN N, []) := rfl
    rw [hp]
    clear hp HC
    go_enter Tryd.func67, Tryd.ntmps67
    go_wp2_with fail
    have bZ := blk_alloc (blk_new w (.cells #[.int .i64 N, .slice A 0 c] 27)) (.cells #[.int .i64 0, .slice none 0 0] 27)
    have bR := blk_new (w.alloc (.cells #[.int .i64 N, .slice A 0 c] 27)) (.cells #[.int .i64 0, .slice none 0 0] 27)
    have cur : Below w.heap.size w ((w.alloc (.cells #[.int .i64 N, .slice A 0 c] 27)).alloc (.cells #[.int .i64 0, .slice none 0 0] 27)) := psh (psh (Below.refl _ _) (Nat.le_refl _) (.cells #[.int .i64 N, .slice A 0 c] 27)) (Nat.le_refl _) (.cells #[.int .i64 0, .slice none 0 0] 27)
    have hsz : ((w.alloc (.cells #[.int .i64 N, .slice A 0 c] 27)).alloc (.cells #[.int .i64 0, .slice none 0 0] 27)).heap.size = w.heap.size + 2 := by simp
    simp only [World.size_alloc] at bR
    obtain ⟨W0, hW0⟩ : ∃ W0, ((w.alloc (.cells #[.int .i64 N, .slice A 0 c] 27)).alloc (.cells #[.int .i64 0, .slice none 0 0] 27)) = W0 := ⟨_, rfl⟩
    rw [hW0] at bZ bR cur hsz ⊢
    clear hW0
    obtain ⟨s, hs⟩ : ∃ s, w.heap.size = s := ⟨_, rfl⟩
    rw [hs] at bZ bR cur hsz
    simp only [hs]
    obtain ⟨z0, z1, -, -⟩ := cells2 bZ
    go_wp2_with (go_at_call 27; refine (bot_post N _).mono ?_; rintro e w1 ⟨v1, rfl, hz, hb⟩; obtain ⟨A1, c1, rfl⟩ := hz.form; obtain ⟨r0, r1, r2, r3⟩ := cells2 (blk_below bR hb); obtain ⟨f1, f2, f3⟩ := zfin (s := s) (blk_below bR hb) hz (cur.trans (hb.mono (by omega))) (by omega) (by omega) (by omega); have HZ := Lib.hid f2; have HB := Lib.hid f3)
    exact bodyPost_ret (zret rfl _ _ (s + 1) f1 rfl) rfl ⟨_, rfl, by rw [hs]; exact HZ.out.lower (by omega), by rw [hs]; exact HB.out⟩
  · have hl : ¬ (L.length : Int) = 0 := fun e => hL (List.length_eq_zero_iff.1 (by omega))
    have hp : Zn.cleanP N L = Zn.closeP N L := if_neg hL
    rw [hp]
    clear hp
    obtain ⟨zz, hzz⟩ : ∃ zz, Zn.closeP N L = zz := ⟨_, rfl⟩
    rw [hzz] at HC ⊢
    clear hzz hL
    obtain ⟨n1, l1⟩ := zz
    go_enter Tryd.func67, Tryd.ntmps67
    go_wp2_with fail
    have bZ := blk_alloc (blk_new w (.cells #[.int .i64 N, .slice A L.length c] 27)) (.cells #[.int .i64 0, .slice none 0 0] 27)
    have bR := blk_new (w.alloc (.cells #[.int .i64 N, .slice A L.length c] 27)) (.cells #[.int .i64 0, .slice none 0 0] 27)
    have cur : Below w.heap.size w ((w.alloc (.cells #[.int .i64 N, .slice A L.length c] 27)).alloc (.cells #[.int .i64 0, .slice none 0 0] 27)) := psh (psh (Below.refl _ _) (Nat.le_refl _) (.cells #[.int .i64 N, .slice A L.length c] 27)) (Nat.le_refl _) (.cells #[.int .i64 0, .slice none 0 0] 27)
    have hsz : ((w.alloc (.cells #[.int .i64 N, .slice A L.length c] 27)).alloc (.cells #[.int .i64 0, .slice none 0 0] 27)).heap.size = w.heap.size + 2 := by simp
    simp only [World.size_alloc] at bR
    obtain ⟨W0, hW0⟩ : ∃ W0, ((w.alloc (.cells #[.int .i64 N, .slice A L.length c] 27)).alloc (.cells #[.int .i64 0, .slice none 0 0] 27)) = W0 := ⟨_, rfl⟩
    rw [hW0] at bZ bR cur hsz ⊢
    clear hW0
    obtain ⟨s, hs⟩ : ∃ s, w.heap.size = s := ⟨_, rfl⟩
    rw [hs] at bZ bR cur hsz
    simp only [hs]
    obtain ⟨z0, z1, -, -⟩ := cells2 bZ
    go_wp2_with (go_at_call 15; refine (HC.out _ (by rw [hs]; exact cur)).mono ?_; rintro e w1 ⟨v1, rfl, hz, hb⟩; dsimp only at hz; obtain ⟨A1, c1, rfl⟩ := hz.form; obtain ⟨r0, r1, r2, r3⟩ := cells2 (blk_below bR hb); obtain ⟨f1, f2, f3⟩ := zfin (s := s) (blk_below bR hb) hz (cur.trans (hb.mono (by omega))) (by omega) (by omega) (by omega); have HZ := Lib.hid f2; have HB := Lib.hid f3)
    exact bodyPost_ret (zret rfl _ _ (s + 1) f1 rfl) rfl ⟨_, rfl, by rw [hs]; exact HZ.out.lower (by omega), by rw [hs]; exact HB.out⟩
theorem at_z {v : Value} {N : Int} {L : List Int} (h : ZAt w v N L) (h0 : 0 ≤ N) (h6 : N ≤ 6) (hl : L.length = (N.toNat + 1) * (N.toNat + 1)) (i j : Int) (hi0 : 0 ≤ i) (hiN : i ≤ N) (hj0 : 0 ≤ j) (hjN : j ≤ N) :
    Calls Tryd.prog 60 #[v, .int .i64 i, .int .i64 j] w fun e w' => e = .returned (.int .i64 (Zn.atP N L i j)) ∧ Below w.heap.size w w' := by
  obtain ⟨A, c, rfl, h1, h2⟩ := h.row
  refine zone_Zone_at.calls N A c L i j _ w h2 h1 ?_
  unfold zone_Zone_at.f
  obtain ⟨m, rfl⟩ : ∃ m : Nat, N = (m : Int) := ⟨N.toNat, by omega⟩
  obtain ⟨a, rfl⟩ : ∃ a : Nat, i = (a : Int) := ⟨i.toNat, by omega⟩
  obtain ⟨b, rfl⟩ : ∃ b : Nat, j = (b : Int) := ⟨j.toNat, by omega⟩
  have hm7 : m + 1 ≤ 7 := by omega
  have ha : a < m + 1 := by omega
  have hb : b < m + 1 := by omega
  rw [Int.toNat_natCast] at hl
  have hij := Zn.lt_of ha hb
  have hmm : (m + 1) * (m + 1) ≤ 49 := Nat.mul_le_mul hm7 hm7
  have him : a * (m + 1) ≤ 49 := Nat.le_trans (Nat.le_trans (Nat.le_add_right _ _) (Nat.le_of_lt hij)) hmm
  have hb2 : a * (m + 1) + b ≤ 49 := Nat.le_trans (Nat.le_of_lt hij) hmm
  have e0 : wrap64 ((m : Int) + 1) = ((m + 1 : Nat) : Int) := by rw [wrap_id (by omega) (by omega)]; omega
  have e1 : wrap64 ((a : Int) * ((m + 1 : Nat) : Int)) = ((a * (m + 1) : Nat) : Int) := by
    rw [← Int.natCast_mul]
    generalize a * (m + 1) = p at him
    exact wrap_id (by omega) (by omega)
  have e2 : wrap64 (((a * (m + 1) : Nat) : Int) + (b : Int)) = ((a * (m + 1) + b : Nat) : Int) := by
    rw [← Int.natCast_add]
    generalize a * (m + 1) + b = p at hb2
    exact wrap_id (by omega) (by omega)
  have e3 : (0 : Int) ≤ ((a * (m + 1) + b : Nat) : Int) := Int.natCast_nonneg _
  have e4 : ((a * (m + 1) + b : Nat) : Int) < (L.length : Int) := by rw [hl]; exact Int.ofNat_lt.2 hij
  rw [e0, e1, e2, if_pos e3, if_pos e4]
  rfl
theorem may_any (N : Int) (w : World) : Calls Tryd.prog 65 #[.int .i64 N] w fun e w' => e = .returned (.bool (decide (0 ≤ N) && decide (N ≤ 6))) ∧ Below w.heap.size w w' := by
  refine (zone_may.calls N _ w ?_).mono fun e w' h => ⟨h.1, h.2.below⟩
  unfold zone_may.f
  by_cases h : 0 ≤ N
  · simp [h]
  · simp [h]
theorem Of_any (a b : Int) (w : World) : Calls Tryd.prog 73 #[.int .i64 a, .int .i64 b] w fun e w' => e = .returned (.agg #[.int .i64 (Zn.spOf a b).1, .int .i64 (Zn.spOf a b).2]) ∧ Below w.heap.size w w' := by
  refine span_Of.calls a b _ _ w ?_
  unfold span_Of.f span_Empty.f Zn.spOf
  have e1 : mx a (-1152921504606846976) = max a (-1152921504606846976) := by unfold mx; split <;> omega
  have e2 : mn b 1152921504606846976 = min b 1152921504606846976 := by unfold mn; split <;> omega
  rw [e1, e2]
  by_cases h : max a (-1152921504606846976) > min b 1152921504606846976
  · simp only [h, if_true]; rfl
  · simp only [h, if_false]
theorem Equal_l0 (x0 x1 : List Int) (hlen : x0.length = x1.length) (hs : x0.length ≤ 1000000) : ∀ (d i k : Nat), i + d = x0.length → d < k → slices_Equal_int_int.l0 k x0 x1 (x0.length : Int) (i : Int) = some (decide (x0.drop i = x1.drop i))
  | 0, i, k + 1, h, _ => by
    unfold slices_Equal_int_int.l0
    rw [if_neg (by omega), List.drop_of_length_le (by omega), List.drop_of_length_le (by omega)]
    simp
  | d + 1, i, k + 1, h, hk => by
    unfold slices_Equal_int_int.l0
    have h0 : i < x0.length := by omega
    have h1 : i < x1.length := by omega
    rw [if_pos (by omega), if_pos (by omega), if_pos (by omega), if_pos (by omega)]
    have d0 := List.drop_eq_getElem_cons h0
    have d1 := List.drop_eq_getElem_cons h1
    have e0 : rd x0 (i : Int) = x0[i] := by simp [rd, List.getD, h0]
    have e1 : rd x1 (i : Int) = x1[i] := by simp [rd, List.getD, h1]
    rw [e0, e1]
    by_cases e : x0[i] = x1[i]
    · rw [if_pos e, show wrap64 ((i : Int) + 1) = ((i + 1 : Nat) : Int) by rw [wrap_id (by omega) (by omega)]; omega, Equal_l0 x0 x1 hlen hs d (i + 1) k (by omega) (by omega)]
      rw [d0, d1, e]
      congr 1
      simp only [List.cons.injEq, true_and]
    · rw [if_neg e, d0, d1]
      have : ¬ (x0[i] :: List.drop (i + 1) x0 = x1[i] :: List.drop (i + 1) x1) := fun c => e (List.cons.inj c).1
      rw [decide_eq_false this]
theorem Equal_f (x0 x1 : List Int) (hs : x0.length ≤ 1000000) : slices_Equal_int_int.f (x0.length + 1) x0 x1 = some (decide (x0 = x1)) := by
  unfold slices_Equal_int_int.f
  by_cases h : x0.length = x1.length
  · rw [if_pos (by omega), show (0 : Int) = ((0 : Nat) : Int) from rfl, Equal_l0 x0 x1 h hs x0.length 0 (x0.length + 1) (by omega) (by omega)]
    rfl
  · rw [if_neg (by omega)]
    have : x0 ≠ x1 := fun e => h (by rw [e])
    simp [this]
theorem Equal_any {a b : Value} {x y : List Int} (h1 : IntsAt w a x) (h2 : IntsAt w b y) (hs : x.length ≤ 1000000) : Calls Tryd.prog 66 #[a, b] w fun e w' => e = .returned (.bool (decide (x = y))) ∧ Below w.heap.size w w' := by
  obtain ⟨A, c, rfl, hc, hr⟩ := h1.row
  obtain ⟨A', c', rfl, hc', hr'⟩ := h2.row
  exact (slices_Equal_int_int.calls _ A c x A' c' y _ w hr hc hr' hc' (Equal_f x y hs)).mono fun e w' h => ⟨h.1, h.2.below⟩
theorem Same_any {a b : Value} {N M : Int} {x y : List Int} (h1 : ZAt w a N x) (h2 : ZAt w b M y) (hs : x.length ≤ 1000000) : Calls Tryd.prog 24 #[a, b] w fun e w' => e = .returned (.bool (decide ((N, x) = (M, y)))) ∧ Below w.heap.size w w' := by
  obtain ⟨A, c, rfl, hc, hr⟩ := h1.row
  obtain ⟨A', c', rfl, hc', hr'⟩ := h2.row
  refine zone_Same.calls (x.length + 1) N A c x M A' c' y _ w hr hc hr' hc' ?_
  unfold zone_Same.f
  by_cases e : N = M
  · subst e
    rw [if_pos rfl, Equal_f x y hs]
    simp
  · rw [if_neg e]
    simp [e]
end Go.Proofs.YtjhccmjgfngkcaaDoor.PZoneSame
