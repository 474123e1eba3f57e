/- zone.each, Join, Meet. -/
import Derived.Test.YtjhccmjgfngkcaaDoorZoneSameZf
set_option linter.unusedVariables false
set_option linter.unusedSimpArgs false
namespace Go.Proofs.YtjhccmjgfngkcaaDoor.PZoneSame
open Go Go.RowKit Go.Shelf Go.Deep Go.Proofs.YtjhccmjgfngkcaaDoorW.PrintWords Go.Proofs.YtjhccmjgfngkcaaDoorW.PrintLast Go.Proofs.YtjhccmjgfngkcaaDoorW.PrintMore
open Zn (botN wholeB wholeB_iff nearZ upd)
variable {w : World}
attribute [local go_sem] Oper.semAt_some

theorem zfin_n {s b B n : Nat} {w W : World} {T : TypeId} {u0 v0 : Value} {N : Int} {A : Option Addr} {c : Nat} {L : List Int} (hn : L.length = n) (hb : W.heap[b]? = some (.cells #[u0, v0] T (0, 0))) (hi : ZNew B W (.agg #[.int .i64 N, .slice A n c]) N L) (cur : Below s w W) (hs : s ≤ b) (hB : b < B) (hsB : s ≤ B) :
    ((W.setCell ⟨b, 0, none⟩ (.int .i64 N)).setCell ⟨b, 1, none⟩ (.slice A n c)).heap[b]? = some (.cells #[.int .i64 N, .slice A n c] T (0, 0)) ∧
    ZNew B ((W.setCell ⟨b, 0, none⟩ (.int .i64 N)).setCell ⟨b, 1, none⟩ (.slice A n c)) (.agg #[.int .i64 N, .slice A n c]) N L ∧
    Below s w ((W.setCell ⟨b, 0, none⟩ (.int .i64 N)).setCell ⟨b, 1, none⟩ (.slice A n c)) := by
  subst hn
  exact zfin hb hi cur hs hB hsB
theorem clo_max (x y : Int) (w : World) : Calls Tryd.prog 78 #[.int .i64 x, .int .i64 y] w fun e w' => e = .returned (.int .i64 (max x y)) ∧ Below w.heap.size w w' := by
  go_enter Tryd.func78, Tryd.ntmps78
  go_wp2_with fail
  go_ret
  exact ⟨rfl, Below.refl _ _⟩
theorem clo_min (x y : Int) (w : World) : Calls Tryd.prog 79 #[.int .i64 x, .int .i64 y] w fun e w' => e = .returned (.int .i64 (min x y)) ∧ Below w.heap.size w w' := by
  go_enter Tryd.func79, Tryd.ntmps79
  go_wp2_with fail
  go_ret
  exact ⟨rfl, Below.refl _ _⟩
set_option maxRecDepth 100000 in
set_option maxHeartbeats 4000000 in
theorem each_max {va vb : Value} {N M : Int} {l1 l2 : List Int} (ha : ZAt w va N l1) (hb : ZAt w vb M l2) (h1 : l1 ≠ []) (hle : l1.length = l2.length) (h49 : l1.length ≤ 49) :
    Calls Tryd.prog 77 #[va, vb, .func (.func 78) #[] #[]] w (ZPost w (N, Zn.mapL l1.length fun j => max (l1.getD j 0) (l2.getD j 0))) := by
  have h2 : l2 ≠ [] := fun e => by rw [e] at hle; exact h1 (List.length_eq_zero_iff.1 hle)
  have OW : ∀ W', Below w.heap.size w W' → Calls Tryd.prog 55 #[va] W' fun e w' => ∃ g cc, e = .returned (.agg #[.int .i64 N, .slice (some ⟨g, 0, none⟩) l1.length cc]) ∧ l1.length ≤ cc ∧ W'.heap.size + 2 ≤ g ∧ RowB w' g l1.length (fun j => l1.getD j 0) ∧ Below W'.heap.size W' w' := fun W' hbw => own_any (ha.below hbw) h1 (by omega)
  obtain ⟨_, rfl, A, c, rfl, hc1, -, hx⟩ := ha
  obtain ⟨_, rfl, B, d, rfl, hc2, -, hy⟩ := hb
  obtain ⟨b1, o1, rfl, hb1, hk1⟩ := hx h1
  obtain ⟨b2, o2, rfl, hb2, hk2⟩ := hy h2
  have HO := Lib.hid OW
  have HK1 := Lib.hid hk1
  have HK2 := Lib.hid hk2
  have HLE := Lib.hid hle
  clear OW hk1 hk2 hx hy hle
  go_enter Tryd.func77, Tryd.ntmps77
  go_wp2_with fail
  have bA := blk_alloc (blk_alloc (blk_new w (.cells #[.int .i64 N, .slice (some ⟨b1, o1, none⟩) l1.length c] 27)) (.cells #[.int .i64 M, .slice (some ⟨b2, o2, none⟩) l2.length d] 27)) (.cells #[.int .i64 0, .slice none 0 0] 27)
  have bB := blk_alloc (blk_new (w.alloc (.cells #[.int .i64 N, .slice (some ⟨b1, o1, none⟩) l1.length c] 27)) (.cells #[.int .i64 M, .slice (some ⟨b2, o2, none⟩) l2.length d] 27)) (.cells #[.int .i64 0, .slice none 0 0] 27)
  have bR := blk_new ((w.alloc (.cells #[.int .i64 N, .slice (some ⟨b1, o1, none⟩) l1.length c] 27)).alloc (.cells #[.int .i64 M, .slice (some ⟨b2, o2, none⟩) l2.length d] 27)) (.cells #[.int .i64 0, .slice none 0 0] 27)
  have cur : Below w.heap.size w (((w.alloc (.cells #[.int .i64 N, .slice (some ⟨b1, o1, none⟩) l1.length c] 27)).alloc (.cells #[.int .i64 M, .slice (some ⟨b2, o2, none⟩) l2.length d] 27)).alloc (.cells #[.int .i64 0, .slice none 0 0] 27)) := psh (psh (psh (Below.refl _ _) (Nat.le_refl _) (.cells #[.int .i64 N, .slice (some ⟨b1, o1, none⟩) l1.length c] 27)) (Nat.le_refl _) (.cells #[.int .i64 M, .slice (some ⟨b2, o2, none⟩) l2.length d] 27)) (Nat.le_refl _) (.cells #[.int .i64 0, .slice none 0 0] 27)
  have hsz : (((w.alloc (.cells #[.int .i64 N, .slice (some ⟨b1, o1, none⟩) l1.length c] 27)).alloc (.cells #[.int .i64 M, .slice (some ⟨b2, o2, none⟩) l2.length d] 27)).alloc (.cells #[.int .i64 0, .slice none 0 0] 27)).heap.size = w.heap.size + 3 := by simp
  simp only [World.size_alloc] at bB bR
  obtain ⟨W0, hW0⟩ : ∃ W0, (((w.alloc (.cells #[.int .i64 N, .slice (some ⟨b1, o1, none⟩) l1.length c] 27)).alloc (.cells #[.int .i64 M, .slice (some ⟨b2, o2, none⟩) l2.length d] 27)).alloc (.cells #[.int .i64 0, .slice none 0 0] 27)) = W0 := ⟨_, rfl⟩
  rw [hW0] at bA bB bR cur hsz ⊢
  clear hW0
  obtain ⟨s, hs⟩ : ∃ s, w.heap.size = s := ⟨_, rfl⟩
  rw [hs] at bA bB bR cur hsz
  simp only [hs]
  obtain ⟨x0, x1, -, -⟩ := cells2 bA
  obtain ⟨y0, y1, -, -⟩ := cells2 bB
  try go_wp2_with fail
  go_at_call 55
  refine (HO.out _ (by rw [hs]; exact cur)).mono ?_
  rintro e w1 ⟨g, cc, rfl, hcc, hgs, hrow, hb⟩
  replace bA := blk_below bA hb
  replace bB := blk_below bB hb
  replace bR := blk_below bR hb
  replace cur := cur.trans (hb.mono (by omega))
  have HR := Lib.hid hrow
  have ZO : Obj := .cells #[.int .i64 N, .slice (some ⟨g, 0, none⟩) l1.length cc] 27
  replace bA := blk_alloc bA (.cells #[.int .i64 N, .slice (some ⟨g, 0, none⟩) l1.length cc] 27)
  replace bB := blk_alloc bB (.cells #[.int .i64 N, .slice (some ⟨g, 0, none⟩) l1.length cc] 27)
  replace bR := blk_alloc bR (.cells #[.int .i64 N, .slice (some ⟨g, 0, none⟩) l1.length cc] 27)
  have bO := blk_new w1 (.cells #[.int .i64 N, .slice (some ⟨g, 0, none⟩) l1.length cc] 27)
  obtain ⟨p0, p1, -, -⟩ := cells2 bO
  go_wp2_with fail
  have hbp := psh (Below.refl w1.heap.size w1) (Nat.le_refl _) (.cells #[.int .i64 N, .slice (some ⟨g, 0, none⟩) l1.length cc] 27)
  have HR1 := Lib.hid (HR.out.below hbp)
  have hg1 := HR.out.lt
  have hgs' : s + 3 + 2 ≤ g := by omega
  have hk1' : ∀ k, k < l1.length → (w1.alloc (.cells #[.int .i64 N, .slice (some ⟨g, 0, none⟩) l1.length cc] 27)).cell? ⟨b1, o1 + k, none⟩ = some (.int .i64 (l1.getD k 0)) := fun k hk => (hbp.cell (p := ⟨b1, o1 + k, none⟩) (by show b1 < w1.heap.size; omega)).trans (((cur.cell (p := ⟨b1, o1 + k, none⟩) (by show b1 < s; omega)).trans (HK1.out k hk)))
  have hk2' : ∀ k, k < l2.length → (w1.alloc (.cells #[.int .i64 N, .slice (some ⟨g, 0, none⟩) l1.length cc] 27)).cell? ⟨b2, o2 + k, none⟩ = some (.int .i64 (l2.getD k 0)) := fun k hk => (hbp.cell (p := ⟨b2, o2 + k, none⟩) (by show b2 < w1.heap.size; omega)).trans (((cur.cell (p := ⟨b2, o2 + k, none⟩) (by show b2 < s; omega)).trans (HK2.out k hk)))
  replace cur := psh cur (by omega) (.cells #[.int .i64 N, .slice (some ⟨g, 0, none⟩) l1.length cc] 27)
  have hsz1 : (w1.alloc (.cells #[.int .i64 N, .slice (some ⟨g, 0, none⟩) l1.length cc] 27)).heap.size = w1.heap.size + 1 := by simp
  obtain ⟨W1, hW1⟩ : ∃ W1, w1.alloc (.cells #[.int .i64 N, .slice (some ⟨g, 0, none⟩) l1.length cc] 27) = W1 := ⟨_, rfl⟩
  obtain ⟨q, hq⟩ : ∃ q, w1.heap.size = q := ⟨_, rfl⟩
  simp only [hW1, hq] at bA bB bR bO HR1 cur hg1 hsz1 hk1' hk2' ⊢
  have HK1' := Lib.hid hk1'
  have HK2' := Lib.hid hk2'
  clear hW1 hbp x0 x1 y0 y1 p0 p1 hk1' hk2' HR hrow
  go_loopg [14] l1.length (fun gk i wr => ∃ k : Nat, i = .int .i64 k ∧ k + gk = l1.length ∧ Hid (W1.grownBy wr (some g)) ∧ Hid (RowB wr g l1.length (fun j => if j < k then max (l1.getD j 0) (l2.getD j 0) else l1.getD j 0)))
  case atStart => exact ⟨0, rfl, by omega, Lib.hid ⟨rfl, rfl, rfl, Nat.le_refl _, fun _ _ _ => rfl⟩, Lib.hid (HR1.out.ext (fun j _ => by simp))⟩
  case round =>
    obtain ⟨k, rfl, hk, HG, HR⟩ := hrel
    by_cases hlt : k < l1.length
    · have hlt2 : k < l2.length := by have := HLE.out; omega
      obtain ⟨x, hx⟩ : ∃ x, l1.getD k 0 = x := ⟨_, rfl⟩
      obtain ⟨y, hy⟩ : ∃ y, l2.getD k 0 = y := ⟨_, rfl⟩
      have q1 : wr.cell? ⟨b1, o1 + k, none⟩ = some (.int .i64 x) := by rw [← hx]; exact (World.cell?_of_block (a := ⟨b1, o1 + k, none⟩) (HG.out.block b1 (by omega) (fun e => by cases e; omega))).trans (HK1'.out k hlt)
      have q2 : wr.cell? ⟨b2, o2 + k, none⟩ = some (.int .i64 y) := by rw [← hy]; exact (World.cell?_of_block (a := ⟨b2, o2 + k, none⟩) (HG.out.block b2 (by omega) (fun e => by cases e; omega))).trans (HK2'.out k hlt2)
      obtain ⟨x0, x1, -, -⟩ := cells2 (gheap HG.out bA (by omega))
      obtain ⟨y0, y1, -, -⟩ := cells2 (gheap HG.out bB (by omega))
      obtain ⟨p0, p1, -, -⟩ := cells2 (gheap HG.out bO (by omega))
      have HX := Lib.hid hx
      have HY := Lib.hid hy
      have hi0 : (0 : Int) ≤ (k : Int) := by omega
      have hi1 : (k : Int) < (l1.length : Int) := by omega
      have hi2 : (k : Int) < (l2.length : Int) := by omega
      clear hx hy
      go_wp2_with fail
      refine start_ (n := 17) (S := fun w' => w'.cell? ⟨q, 1, none⟩ = some (.slice (some ⟨g, 0, none⟩) l1.length cc) ∧ w'.cell? ⟨s, 1, none⟩ = some (.slice (some ⟨b1, o1, none⟩) l1.length c) ∧ w'.cell? ⟨s + 1, 1, none⟩ = some (.slice (some ⟨b2, o2, none⟩) l2.length d) ∧ w'.cell? ⟨b1, o1 + k, none⟩ = some (.int .i64 x) ∧ w'.cell? ⟨b2, o2 + k, none⟩ = some (.int .i64 y)) (ds := [16]) #[false, false, false, false, false, false, false, false, false, false, false, false, false, false, false, false, false] (by kernel_rfl) rfl rfl ⟨cell_below ((Below.refl wr.heap.size wr).drew) p1, cell_below ((Below.refl wr.heap.size wr).drew) x1, cell_below ((Below.refl wr.heap.size wr).drew) y1, cell_below ((Below.refl wr.heap.size wr).drew) q1, cell_below ((Below.refl wr.heap.size wr).drew) q2⟩ (fun hHeld => ?_)
      refine pure_ (i := 0) (N := some 17) (v := ?_) (a' := ?_) #[true, false, false, false, false, false, false, false, false, false, false, false, false, false, false, false, false] rfl rfl (by kernel_rfl) (fun _ _ _ h => h) (Or.inl ⟨by rfl, ?_⟩) ?_ ?_
      rotate_left
      · intro w'
        go_simp
        with_reducible rfl
      rotate_left
      · simp only [Act.put, List.setIfInBounds_toArray, List.set_cons_zero, List.set_cons_succ, i64_w, i32_w]
        rfl
      refine pure_ (i := 2) (N := some 19) (v := ?_) (a' := ?_) #[true, false, true, false, false, false, false, false, false, false, false, false, false, false, false, false, false] rfl rfl (by kernel_rfl) (fun _ _ _ h => h) (Or.inl ⟨by rfl, ?_⟩) ?_ ?_
      rotate_left
      · intro w'
        go_simp
        with_reducible rfl
      rotate_left
      · simp only [Act.put, List.setIfInBounds_toArray, List.set_cons_zero, List.set_cons_succ, i64_w, i32_w]
        rfl
      refine pure_ (i := 3) (N := some 20) (v := ?_) (a' := ?_) #[true, false, true, true, false, false, false, false, false, false, false, false, false, false, false, false, false] rfl rfl (by kernel_rfl) (fun _ _ _ h => h) (Or.inl ⟨by rfl, ?_⟩) ?_ ?_
      rotate_left
      · intro w'
        go_simp
        with_reducible rfl
      rotate_left
      · simp only [Act.put, List.setIfInBounds_toArray, List.set_cons_zero, List.set_cons_succ, i64_w, i32_w]
        rfl
      refine pure_ (i := 4) (N := some 21) (v := ?_) (a' := ?_) #[true, false, true, true, true, false, false, false, false, false, false, false, false, false, false, false, false] rfl rfl (by kernel_rfl) (fun _ _ _ h => h) (Or.inl ⟨by rfl, ?_⟩) ?_ ?_
      rotate_left
      · intro w'
        go_simp
        with_reducible rfl
      rotate_left
      · simp only [Act.put, List.setIfInBounds_toArray, List.set_cons_zero, List.set_cons_succ, i64_w, i32_w]
        rfl
      refine pure_ (i := 6) (N := some 23) (v := ?_) (a' := ?_) #[true, false, true, true, true, false, true, false, false, false, false, false, false, false, false, false, false] rfl rfl (by kernel_rfl) (fun _ _ _ h => h) (Or.inl ⟨by rfl, ?_⟩) ?_ ?_
      rotate_left
      · intro w'
        go_simp
        with_reducible rfl
      rotate_left
      · simp only [Act.put, List.setIfInBounds_toArray, List.set_cons_zero, List.set_cons_succ, i64_w, i32_w]
        rfl
      refine pure_ (i := 9) (N := some 26) (v := ?_) (a' := ?_) #[true, false, true, true, true, false, true, false, false, true, false, false, false, false, false, false, false] rfl rfl (by kernel_rfl) (fun _ _ _ h => h) (Or.inl ⟨by rfl, ?_⟩) ?_ ?_
      rotate_left
      · intro w'
        go_simp
        with_reducible rfl
      rotate_left
      · simp only [Act.put, List.setIfInBounds_toArray, List.set_cons_zero, List.set_cons_succ, i64_w, i32_w]
        rfl
      refine pure_ (i := 11) (N := some 28) (v := ?_) (a' := ?_) #[true, false, true, true, true, false, true, false, false, true, false, true, false, false, false, false, false] rfl rfl (by kernel_rfl) (fun _ _ _ h => h) (Or.inl ⟨by rfl, ?_⟩) ?_ ?_
      rotate_left
      · intro w'
        go_simp
        with_reducible rfl
      rotate_left
      · simp only [Act.put, List.setIfInBounds_toArray, List.set_cons_zero, List.set_cons_succ, i64_w, i32_w]
        rfl
      refine take_ (i := 1) (N := some 18) (v := ?_) (a' := ?_) #[true, true, true, true, true, false, true, false, false, true, false, true, false, false, false, false, false] rfl rfl (by kernel_rfl) (fun _ _ _ h => h) (Or.inl ⟨by rfl, ?_⟩) hHeld ?_ ?_
      rotate_left
      · rintro w' ⟨s0, s1, s2, s3, s4⟩
        go_simp
        with_reducible rfl
      rotate_left
      · simp only [Act.put, List.setIfInBounds_toArray, List.set_cons_zero, List.set_cons_succ, i64_w, i32_w]
        rfl
      refine take_ (i := 5) (N := some 22) (v := ?_) (a' := ?_) #[true, true, true, true, true, true, true, false, false, true, false, true, false, false, false, false, false] rfl rfl (by kernel_rfl) (fun _ _ _ h => h) (Or.inl ⟨by rfl, ?_⟩) hHeld ?_ ?_
      rotate_left
      · rintro w' ⟨s0, s1, s2, s3, s4⟩
        go_simp
        with_reducible rfl
      rotate_left
      · simp only [Act.put, List.setIfInBounds_toArray, List.set_cons_zero, List.set_cons_succ, i64_w, i32_w]
        rfl
      refine pure_ (i := 7) (N := some 24) (v := ?_) (a' := ?_) #[true, true, true, true, true, true, true, true, false, true, false, true, false, false, false, false, false] rfl rfl (by kernel_rfl) (fun _ _ _ h => h) (Or.inl ⟨by rfl, ?_⟩) ?_ ?_
      rotate_left
      · intro w'
        go_simp
        with_reducible rfl
      rotate_left
      · simp only [Act.put, List.setIfInBounds_toArray, List.set_cons_zero, List.set_cons_succ, i64_w, i32_w]
        rfl
      refine take_ (i := 8) (N := some 25) (v := ?_) (a' := ?_) #[true, true, true, true, true, true, true, true, true, true, false, true, false, false, false, false, false] rfl rfl (by kernel_rfl) (fun _ _ _ h => h) (Or.inl ⟨by rfl, ?_⟩) hHeld ?_ ?_
      rotate_left
      · rintro w' ⟨s0, s1, s2, s3, s4⟩
        go_simp
        with_reducible rfl
      rotate_left
      · simp only [Act.put, List.setIfInBounds_toArray, List.set_cons_zero, List.set_cons_succ, i64_w, i32_w]
        rfl
      refine take_ (i := 10) (N := some 27) (v := ?_) (a' := ?_) #[true, true, true, true, true, true, true, true, true, true, true, true, false, false, false, false, false] rfl rfl (by kernel_rfl) (fun _ _ _ h => h) (Or.inl ⟨by rfl, ?_⟩) hHeld ?_ ?_
      rotate_left
      · rintro w' ⟨s0, s1, s2, s3, s4⟩
        go_simp
        with_reducible rfl
      rotate_left
      · simp only [Act.put, List.setIfInBounds_toArray, List.set_cons_zero, List.set_cons_succ, i64_w, i32_w]
        rfl
      refine pure_ (i := 12) (N := some 29) (v := ?_) (a' := ?_) #[true, true, true, true, true, true, true, true, true, true, true, true, true, false, false, false, false] rfl rfl (by kernel_rfl) (fun _ _ _ h => h) (Or.inl ⟨by rfl, ?_⟩) ?_ ?_
      rotate_left
      · intro w'
        go_simp
        with_reducible rfl
      rotate_left
      · simp only [Act.put, List.setIfInBounds_toArray, List.set_cons_zero, List.set_cons_succ, i64_w, i32_w]
        rfl
      refine take_ (i := 13) (N := some 30) (v := ?_) (a' := ?_) #[true, true, true, true, true, true, true, true, true, true, true, true, true, true, false, false, false] rfl rfl (by kernel_rfl) (fun _ _ _ h => h) (Or.inl ⟨by rfl, ?_⟩) hHeld ?_ ?_
      rotate_left
      · rintro w' ⟨s0, s1, s2, s3, s4⟩
        go_simp
        with_reducible rfl
      rotate_left
      · simp only [Act.put, List.setIfInBounds_toArray, List.set_cons_zero, List.set_cons_succ, i64_w, i32_w]
        rfl
      refine one_ (i := 14) (N := some 31) #[true, true, true, true, true, true, true, true, true, true, true, true, true, true, true, false, false] rfl rfl (by kernel_rfl) (by decide) (fun K hK => ?_)
      go_simp
      with_reducible refine (clo_max x y _).mono ?_
      rintro e w3 ⟨rfl, hb⟩
      (try dsimp only)
      have cur4 := seq ((Below.refl wr.heap.size wr).drew) hb
      clear hb
      refine hK.out _ _ ⟨cell_below cur4 p1, cell_below cur4 x1, cell_below cur4 y1, cell_below cur4 q1, cell_below cur4 q2⟩ (fun hHeld => ?_)
      clear hK K
      refine pure_ (i := 15) (N := some 32) (v := ?_) (a' := ?_) #[true, true, true, true, true, true, true, true, true, true, true, true, true, true, true, true, false] rfl rfl (by kernel_rfl) (fun _ _ _ h => h) (Or.inl ⟨by rfl, ?_⟩) ?_ ?_
      rotate_left
      · intro w'
        go_simp
        with_reducible rfl
      rotate_left
      · simp only [Act.put, List.setIfInBounds_toArray, List.set_cons_zero, List.set_cons_succ, i64_w, i32_w]
        rfl
      refine last_ (i := 16) (N := none) #[true, true, true, true, true, true, true, true, true, true, true, true, true, true, true, true, true] rfl rfl (by kernel_rfl) (by decide) (fun K hK => ?_)
      have RC := HR.out.below cur4
      have RC0 := RC.cell k hlt
      have RC1 := RC.free k
      refine skip_ (w1 := ?_) (by rfl) rfl ?_ ?_
      rotate_left
      · go_simp
        rfl
      refine hK.out _ _ ?_
      clear hK K
      refine done_ (by kernel_rfl) ?_
      have HG2 := Lib.hid (gtrans HG.out (gtrans (grown_of_below cur4 (some g)) (gset w3 g k (.int .i64 (max x y)))))
      have HR2 := Lib.hid ((RC.store k (max x y)).ext (E' := fun j => if j < k + 1 then max (l1.getD j 0) (l2.getD j 0) else l1.getD j 0) (fun j _ => by
        unfold upd
        by_cases e : j = k
        · rw [if_pos e, if_pos (by omega), e, HX.out, HY.out]
        · rw [if_neg e]
          dsimp only
          by_cases e2 : j < k
          · rw [if_pos e2, if_pos (by omega)]
          · rw [if_neg e2, if_neg (by omega)]))
      clear hHeld RC RC0 RC1 cur4 HG HR x0 x1 y0 y1 p0 p1 q1 q2
      generalize w3.setCell ⟨g, k, none⟩ (.int .i64 (max x y)) = W9 at HG2 HR2 ⊢
      go_wp2_with fail
      go_roundg (gk - 1)
      case measure => omega
      case rel => exact ⟨k + 1, by go_num, by omega, HG2, HR2⟩
    · obtain rfl : k = l1.length := by omega
      have HR2 := Lib.hid (HR.out.ext (E' := fun j => max (l1.getD j 0) (l2.getD j 0)) (fun j hj => by rw [if_pos hj]))
      have hcs := cur.size
      have cur5 := gbelow cur HG.out (by omega) (by omega)
      have bO5 := gheap HG.out bO (by omega)
      have bR5 := gheap HG.out bR (by omega)
      obtain ⟨p0, p1, -, -⟩ := cells2 bO5
      obtain ⟨r0, r1, r2, r3⟩ := cells2 bR5
      have hI := HR2.out.ints hcc (by omega)
      have hml := Zn.mapL_length l1.length (fun j => max (l1.getD j 0) (l2.getD j 0))
      have HZ : Hid (ZNew (s + 3) wr (.agg #[.int .i64 N, .slice (some ⟨g, 0, none⟩) l1.length cc]) N (Zn.mapL l1.length fun j => max (l1.getD j 0) (l2.getD j 0))) := Lib.hid ⟨some ⟨g, 0, none⟩, cc, by rw [hml], by rw [hml]; exact hI, fun a e _ => by cases e; show s + 3 ≤ g; omega⟩
      have HML := Lib.hid hml
      clear hI hml HR2 HR
      go_wp2_with fail
      obtain ⟨q1, q2, q3⟩ := zfin_n (s := s) (b := s + 2) HML.out bR5 HZ.out cur5 (by omega) (by omega) (by omega)
      exact bodyPost_ret (zret rfl _ _ (s + 2) q1 rfl) rfl ⟨_, rfl, by first | exact q2.lower (by omega) | (rw [hs]; exact q2.lower (by omega)), by first | exact q3 | (rw [hs]; exact q3)⟩
set_option maxRecDepth 100000 in
set_option maxHeartbeats 4000000 in
theorem each_min {va vb : Value} {N M : Int} {l1 l2 : List Int} (ha : ZAt w va N l1) (hb : ZAt w vb M l2) (h1 : l1 ≠ []) (hle : l1.length = l2.length) (h49 : l1.length ≤ 49) :
    Calls Tryd.prog 77 #[va, vb, .func (.func 79) #[] #[]] w (ZPost w (N, Zn.mapL l1.length fun j => min (l1.getD j 0) (l2.getD j 0))) := by
  have h2 : l2 ≠ [] := fun e => by rw [e] at hle; exact h1 (List.length_eq_zero_iff.1 hle)
  have OW : ∀ W', Below w.heap.size w W' → Calls Tryd.prog 55 #[va] W' fun e w' => ∃ g cc, e = .returned (.agg #[.int .i64 N, .slice (some ⟨g, 0, none⟩) l1.length cc]) ∧ l1.length ≤ cc ∧ W'.heap.size + 2 ≤ g ∧ RowB w' g l1.length (fun j => l1.getD j 0) ∧ Below W'.heap.size W' w' := fun W' hbw => own_any (ha.below hbw) h1 (by omega)
  obtain ⟨_, rfl, A, c, rfl, hc1, -, hx⟩ := ha
  obtain ⟨_, rfl, B, d, rfl, hc2, -, hy⟩ := hb
  obtain ⟨b1, o1, rfl, hb1, hk1⟩ := hx h1
  obtain ⟨b2, o2, rfl, hb2, hk2⟩ := hy h2
  have HO := Lib.hid OW
  have HK1 := Lib.hid hk1
  have HK2 := Lib.hid hk2
  have HLE := Lib.hid hle
  clear OW hk1 hk2 hx hy hle
  go_enter Tryd.func77, Tryd.ntmps77
  go_wp2_with fail
  have bA := blk_alloc (blk_alloc (blk_new w (.cells #[.int .i64 N, .slice (some ⟨b1, o1, none⟩) l1.length c] 27)) (.cells #[.int .i64 M, .slice (some ⟨b2, o2, none⟩) l2.length d] 27)) (.cells #[.int .i64 0, .slice none 0 0] 27)
  have bB := blk_alloc (blk_new (w.alloc (.cells #[.int .i64 N, .slice (some ⟨b1, o1, none⟩) l1.length c] 27)) (.cells #[.int .i64 M, .slice (some ⟨b2, o2, none⟩) l2.length d] 27)) (.cells #[.int .i64 0, .slice none 0 0] 27)
  have bR := blk_new ((w.alloc (.cells #[.int .i64 N, .slice (some ⟨b1, o1, none⟩) l1.length c] 27)).alloc (.cells #[.int .i64 M, .slice (some ⟨b2, o2, none⟩) l2.length d] 27)) (.cells #[.int .i64 0, .slice none 0 0] 27)
  have cur : Below w.heap.size w (((w.alloc (.cells #[.int .i64 N, .slice (some ⟨b1, o1, none⟩) l1.length c] 27)).alloc (.cells #[.int .i64 M, .slice (some ⟨b2, o2, none⟩) l2.length d] 27)).alloc (.cells #[.int .i64 0, .slice none 0 0] 27)) := psh (psh (psh (Below.refl _ _) (Nat.le_refl _) (.cells #[.int .i64 N, .slice (some ⟨b1, o1, none⟩) l1.length c] 27)) (Nat.le_refl _) (.cells #[.int .i64 M, .slice (some ⟨b2, o2, none⟩) l2.length d] 27)) (Nat.le_refl _) (.cells #[.int .i64 0, .slice none 0 0] 27)
  have hsz : (((w.alloc (.cells #[.int .i64 N, .slice (some ⟨b1, o1, none⟩) l1.length c] 27)).alloc (.cells #[.int .i64 M, .slice (some ⟨b2, o2, none⟩) l2.length d] 27)).alloc (.cells #[.int .i64 0, .slice none 0 0] 27)).heap.size = w.heap.size + 3 := by simp
  simp only [World.size_alloc] at bB bR
  obtain ⟨W0, hW0⟩ : ∃ W0, (((w.alloc (.cells #[.int .i64 N, .slice (some ⟨b1, o1, none⟩) l1.length c] 27)).alloc (.cells #[.int .i64 M, .slice (some ⟨b2, o2, none⟩) l2.length d] 27)).alloc (.cells #[.int .i64 0, .slice none 0 0] 27)) = W0 := ⟨_, rfl⟩
  rw [hW0] at bA bB bR cur hsz ⊢
  clear hW0
  obtain ⟨s, hs⟩ : ∃ s, w.heap.size = s := ⟨_, rfl⟩
  rw [hs] at bA bB bR cur hsz
  simp only [hs]
  obtain ⟨x0, x1, -, -⟩ := cells2 bA
  obtain ⟨y0, y1, -, -⟩ := cells2 bB
  try go_wp2_with fail
  go_at_call 55
  refine (HO.out _ (by rw [hs]; exact cur)).mono ?_
  rintro e w1 ⟨g, cc, rfl, hcc, hgs, hrow, hb⟩
  replace bA := blk_below bA hb
  replace bB := blk_below bB hb
  replace bR := blk_below bR hb
  replace cur := cur.trans (hb.mono (by omega))
  have HR := Lib.hid hrow
  have ZO : Obj := .cells #[.int .i64 N, .slice (some ⟨g, 0, none⟩) l1.length cc] 27
  replace bA := blk_alloc bA (.cells #[.int .i64 N, .slice (some ⟨g, 0, none⟩) l1.length cc] 27)
  replace bB := blk_alloc bB (.cells #[.int .i64 N, .slice (some ⟨g, 0, none⟩) l1.length cc] 27)
  replace bR := blk_alloc bR (.cells #[.int .i64 N, .slice (some ⟨g, 0, none⟩) l1.length cc] 27)
  have bO := blk_new w1 (.cells #[.int .i64 N, .slice (some ⟨g, 0, none⟩) l1.length cc] 27)
  obtain ⟨p0, p1, -, -⟩ := cells2 bO
  go_wp2_with fail
  have hbp := psh (Below.refl w1.heap.size w1) (Nat.le_refl _) (.cells #[.int .i64 N, .slice (some ⟨g, 0, none⟩) l1.length cc] 27)
  have HR1 := Lib.hid (HR.out.below hbp)
  have hg1 := HR.out.lt
  have hgs' : s + 3 + 2 ≤ g := by omega
  have hk1' : ∀ k, k < l1.length → (w1.alloc (.cells #[.int .i64 N, .slice (some ⟨g, 0, none⟩) l1.length cc] 27)).cell? ⟨b1, o1 + k, none⟩ = some (.int .i64 (l1.getD k 0)) := fun k hk => (hbp.cell (p := ⟨b1, o1 + k, none⟩) (by show b1 < w1.heap.size; omega)).trans (((cur.cell (p := ⟨b1, o1 + k, none⟩) (by show b1 < s; omega)).trans (HK1.out k hk)))
  have hk2' : ∀ k, k < l2.length → (w1.alloc (.cells #[.int .i64 N, .slice (some ⟨g, 0, none⟩) l1.length cc] 27)).cell? ⟨b2, o2 + k, none⟩ = some (.int .i64 (l2.getD k 0)) := fun k hk => (hbp.cell (p := ⟨b2, o2 + k, none⟩) (by show b2 < w1.heap.size; omega)).trans (((cur.cell (p := ⟨b2, o2 + k, none⟩) (by show b2 < s; omega)).trans (HK2.out k hk)))
  replace cur := psh cur (by omega) (.cells #[.int .i64 N, .slice (some ⟨g, 0, none⟩) l1.length cc] 27)
  have hsz1 : (w1.alloc (.cells #[.int .i64 N, .slice (some ⟨g, 0, none⟩) l1.length cc] 27)).heap.size = w1.heap.size + 1 := by simp
  obtain ⟨W1, hW1⟩ : ∃ W1, w1.alloc (.cells #[.int .i64 N, .slice (some ⟨g, 0, none⟩) l1.length cc] 27) = W1 := ⟨_, rfl⟩
  obtain ⟨q, hq⟩ : ∃ q, w1.heap.size = q := ⟨_, rfl⟩
  simp only [hW1, hq] at bA bB bR bO HR1 cur hg1 hsz1 hk1' hk2' ⊢
  have HK1' := Lib.hid hk1'
  have HK2' := Lib.hid hk2'
  clear hW1 hbp x0 x1 y0 y1 p0 p1 hk1' hk2' HR hrow
  go_loopg [14] l1.length (fun gk i wr => ∃ k : Nat, i = .int .i64 k ∧ k + gk = l1.length ∧ Hid (W1.grownBy wr (some g)) ∧ Hid (RowB wr g l1.length (fun j => if j < k then min (l1.getD j 0) (l2.getD j 0) else l1.getD j 0)))
  case atStart => exact ⟨0, rfl, by omega, Lib.hid ⟨rfl, rfl, rfl, Nat.le_refl _, fun _ _ _ => rfl⟩, Lib.hid (HR1.out.ext (fun j _ => by simp))⟩
  case round =>
    obtain ⟨k, rfl, hk, HG, HR⟩ := hrel
    by_cases hlt : k < l1.length
    · have hlt2 : k < l2.length := by have := HLE.out; omega
      obtain ⟨x, hx⟩ : ∃ x, l1.getD k 0 = x := ⟨_, rfl⟩
      obtain ⟨y, hy⟩ : ∃ y, l2.getD k 0 = y := ⟨_, rfl⟩
      have q1 : wr.cell? ⟨b1, o1 + k, none⟩ = some (.int .i64 x) := by rw [← hx]; exact (World.cell?_of_block (a := ⟨b1, o1 + k, none⟩) (HG.out.block b1 (by omega) (fun e => by cases e; omega))).trans (HK1'.out k hlt)
      have q2 : wr.cell? ⟨b2, o2 + k, none⟩ = some (.int .i64 y) := by rw [← hy]; exact (World.cell?_of_block (a := ⟨b2, o2 + k, none⟩) (HG.out.block b2 (by omega) (fun e => by cases e; omega))).trans (HK2'.out k hlt2)
      obtain ⟨x0, x1, -, -⟩ := cells2 (gheap HG.out bA (by omega))
      obtain ⟨y0, y1, -, -⟩ := cells2 (gheap HG.out bB (by omega))
      obtain ⟨p0, p1, -, -⟩ := cells2 (gheap HG.out bO (by omega))
      have HX := Lib.hid hx
      have HY := Lib.hid hy
      have hi0 : (0 : Int) ≤ (k : Int) := by omega
      have hi1 : (k : Int) < (l1.length : Int) := by omega
      have hi2 : (k : Int) < (l2.length : Int) := by omega
      clear hx hy
      go_wp2_with fail
      refine start_ (n := 17) (S := fun w' => w'.cell? ⟨q, 1, none⟩ = some (.slice (some ⟨g, 0, none⟩) l1.length cc) ∧ w'.cell? ⟨s, 1, none⟩ = some (.slice (some ⟨b1, o1, none⟩) l1.length c) ∧ w'.cell? ⟨s + 1, 1, none⟩ = some (.slice (some ⟨b2, o2, none⟩) l2.length d) ∧ w'.cell? ⟨b1, o1 + k, none⟩ = some (.int .i64 x) ∧ w'.cell? ⟨b2, o2 + k, none⟩ = some (.int .i64 y)) (ds := [16]) #[false, false, false, false, false, false, false, false, false, false, false, false, false, false, false, false, false] (by kernel_rfl) rfl rfl ⟨cell_below ((Below.refl wr.heap.size wr).drew) p1, cell_below ((Below.refl wr.heap.size wr).drew) x1, cell_below ((Below.refl wr.heap.size wr).drew) y1, cell_below ((Below.refl wr.heap.size wr).drew) q1, cell_below ((Below.refl wr.heap.size wr).drew) q2⟩ (fun hHeld => ?_)
      refine pure_ (i := 0) (N := some 17) (v := ?_) (a' := ?_) #[true, false, false, false, false, false, false, false, false, false, false, false, false, false, false, false, false] rfl rfl (by kernel_rfl) (fun _ _ _ h => h) (Or.inl ⟨by rfl, ?_⟩) ?_ ?_
      rotate_left
      · intro w'
        go_simp
        with_reducible rfl
      rotate_left
      · simp only [Act.put, List.setIfInBounds_toArray, List.set_cons_zero, List.set_cons_succ, i64_w, i32_w]
        rfl
      refine pure_ (i := 2) (N := some 19) (v := ?_) (a' := ?_) #[true, false, true, false, false, false, false, false, false, false, false, false, false, false, false, false, false] rfl rfl (by kernel_rfl) (fun _ _ _ h => h) (Or.inl ⟨by rfl, ?_⟩) ?_ ?_
      rotate_left
      · intro w'
        go_simp
        with_reducible rfl
      rotate_left
      · simp only [Act.put, List.setIfInBounds_toArray, List.set_cons_zero, List.set_cons_succ, i64_w, i32_w]
        rfl
      refine pure_ (i := 3) (N := some 20) (v := ?_) (a' := ?_) #[true, false, true, true, false, false, false, false, false, false, false, false, false, false, false, false, false] rfl rfl (by kernel_rfl) (fun _ _ _ h => h) (Or.inl ⟨by rfl, ?_⟩) ?_ ?_
      rotate_left
      · intro w'
        go_simp
        with_reducible rfl
      rotate_left
      · simp only [Act.put, List.setIfInBounds_toArray, List.set_cons_zero, List.set_cons_succ, i64_w, i32_w]
        rfl
      refine pure_ (i := 4) (N := some 21) (v := ?_) (a' := ?_) #[true, false, true, true, true, false, false, false, false, false, false, false, false, false, false, false, false] rfl rfl (by kernel_rfl) (fun _ _ _ h => h) (Or.inl ⟨by rfl, ?_⟩) ?_ ?_
      rotate_left
      · intro w'
        go_simp
        with_reducible rfl
      rotate_left
      · simp only [Act.put, List.setIfInBounds_toArray, List.set_cons_zero, List.set_cons_succ, i64_w, i32_w]
        rfl
      refine pure_ (i := 6) (N := some 23) (v := ?_) (a' := ?_) #[true, false, true, true, true, false, true, false, false, false, false, false, false, false, false, false, false] rfl rfl (by kernel_rfl) (fun _ _ _ h => h) (Or.inl ⟨by rfl, ?_⟩) ?_ ?_
      rotate_left
      · intro w'
        go_simp
        with_reducible rfl
      rotate_left
      · simp only [Act.put, List.setIfInBounds_toArray, List.set_cons_zero, List.set_cons_succ, i64_w, i32_w]
        rfl
      refine pure_ (i := 9) (N := some 26) (v := ?_) (a' := ?_) #[true, false, true, true, true, false, true, false, false, true, false, false, false, false, false, false, false] rfl rfl (by kernel_rfl) (fun _ _ _ h => h) (Or.inl ⟨by rfl, ?_⟩) ?_ ?_
      rotate_left
      · intro w'
        go_simp
        with_reducible rfl
      rotate_left
      · simp only [Act.put, List.setIfInBounds_toArray, List.set_cons_zero, List.set_cons_succ, i64_w, i32_w]
        rfl
      refine pure_ (i := 11) (N := some 28) (v := ?_) (a' := ?_) #[true, false, true, true, true, false, true, false, false, true, false, true, false, false, false, false, false] rfl rfl (by kernel_rfl) (fun _ _ _ h => h) (Or.inl ⟨by rfl, ?_⟩) ?_ ?_
      rotate_left
      · intro w'
        go_simp
        with_reducible rfl
      rotate_left
      · simp only [Act.put, List.setIfInBounds_toArray, List.set_cons_zero, List.set_cons_succ, i64_w, i32_w]
        rfl
      refine take_ (i := 1) (N := some 18) (v := ?_) (a' := ?_) #[true, true, true, true, true, false, true, false, false, true, false, true, false, false, false, false, false] rfl rfl (by kernel_rfl) (fun _ _ _ h => h) (Or.inl ⟨by rfl, ?_⟩) hHeld ?_ ?_
      rotate_left
      · rintro w' ⟨s0, s1, s2, s3, s4⟩
        go_simp
        with_reducible rfl
      rotate_left
      · simp only [Act.put, List.setIfInBounds_toArray, List.set_cons_zero, List.set_cons_succ, i64_w, i32_w]
        rfl
      refine take_ (i := 5) (N := some 22) (v := ?_) (a' := ?_) #[true, true, true, true, true, true, true, false, false, true, false, true, false, false, false, false, false] rfl rfl (by kernel_rfl) (fun _ _ _ h => h) (Or.inl ⟨by rfl, ?_⟩) hHeld ?_ ?_
      rotate_left
      · rintro w' ⟨s0, s1, s2, s3, s4⟩
        go_simp
        with_reducible rfl
      rotate_left
      · simp only [Act.put, List.setIfInBounds_toArray, List.set_cons_zero, List.set_cons_succ, i64_w, i32_w]
        rfl
      refine pure_ (i := 7) (N := some 24) (v := ?_) (a' := ?_) #[true, true, true, true, true, true, true, true, false, true, false, true, false, false, false, false, false] rfl rfl (by kernel_rfl) (fun _ _ _ h => h) (Or.inl ⟨by rfl, ?_⟩) ?_ ?_
      rotate_left
      · intro w'
        go_simp
        with_reducible rfl
      rotate_left
      · simp only [Act.put, List.setIfInBounds_toArray, List.set_cons_zero, List.set_cons_succ, i64_w, i32_w]
        rfl
      refine take_ (i := 8) (N := some 25) (v := ?_) (a' := ?_) #[true, true, true, true, true, true, true, true, true, true, false, true, false, false, false, false, false] rfl rfl (by kernel_rfl) (fun _ _ _ h => h) (Or.inl ⟨by rfl, ?_⟩) hHeld ?_ ?_
      rotate_left
      · rintro w' ⟨s0, s1, s2, s3, s4⟩
        go_simp
        with_reducible rfl
      rotate_left
      · simp only [Act.put, List.setIfInBounds_toArray, List.set_cons_zero, List.set_cons_succ, i64_w, i32_w]
        rfl
      refine take_ (i := 10) (N := some 27) (v := ?_) (a' := ?_) #[true, true, true, true, true, true, true, true, true, true, true, true, false, false, false, false, false] rfl rfl (by kernel_rfl) (fun _ _ _ h => h) (Or.inl ⟨by rfl, ?_⟩) hHeld ?_ ?_
      rotate_left
      · rintro w' ⟨s0, s1, s2, s3, s4⟩
        go_simp
        with_reducible rfl
      rotate_left
      · simp only [Act.put, List.setIfInBounds_toArray, List.set_cons_zero, List.set_cons_succ, i64_w, i32_w]
        rfl
      refine pure_ (i := 12) (N := some 29) (v := ?_) (a' := ?_) #[true, true, true, true, true, true, true, true, true, true, true, true, true, false, false, false, false] rfl rfl (by kernel_rfl) (fun _ _ _ h => h) (Or.inl ⟨by rfl, ?_⟩) ?_ ?_
      rotate_left
      · intro w'
        go_simp
        with_reducible rfl
      rotate_left
      · simp only [Act.put, List.setIfInBounds_toArray, List.set_cons_zero, List.set_cons_succ, i64_w, i32_w]
        rfl
      refine take_ (i := 13) (N := some 30) (v := ?_) (a' := ?_) #[true, true, true, true, true, true, true, true, true, true, true, true, true, true, false, false, false] rfl rfl (by kernel_rfl) (fun _ _ _ h => h) (Or.inl ⟨by rfl, ?_⟩) hHeld ?_ ?_
      rotate_left
      · rintro w' ⟨s0, s1, s2, s3, s4⟩
        go_simp
        with_reducible rfl
      rotate_left
      · simp only [Act.put, List.setIfInBounds_toArray, List.set_cons_zero, List.set_cons_succ, i64_w, i32_w]
        rfl
      refine one_ (i := 14) (N := some 31) #[true, true, true, true, true, true, true, true, true, true, true, true, true, true, true, false, false] rfl rfl (by kernel_rfl) (by decide) (fun K hK => ?_)
      go_simp
      with_reducible refine (clo_min x y _).mono ?_
      rintro e w3 ⟨rfl, hb⟩
      (try dsimp only)
      have cur4 := seq ((Below.refl wr.heap.size wr).drew) hb
      clear hb
      refine hK.out _ _ ⟨cell_below cur4 p1, cell_below cur4 x1, cell_below cur4 y1, cell_below cur4 q1, cell_below cur4 q2⟩ (fun hHeld => ?_)
      clear hK K
      refine pure_ (i := 15) (N := some 32) (v := ?_) (a' := ?_) #[true, true, true, true, true, true, true, true, true, true, true, true, true, true, true, true, false] rfl rfl (by kernel_rfl) (fun _ _ _ h => h) (Or.inl ⟨by rfl, ?_⟩) ?_ ?_
      rotate_left
      · intro w'
        go_simp
        with_reducible rfl
      rotate_left
      · simp only [Act.put, List.setIfInBounds_toArray, List.set_cons_zero, List.set_cons_succ, i64_w, i32_w]
        rfl
      refine last_ (i := 16) (N := none) #[true, true, true, true, true, true, true, true, true, true, true, true, true, true, true, true, true] rfl rfl (by kernel_rfl) (by decide) (fun K hK => ?_)
      have RC := HR.out.below cur4
      have RC0 := RC.cell k hlt
      have RC1 := RC.free k
      refine skip_ (w1 := ?_) (by rfl) rfl ?_ ?_
      rotate_left
      · go_simp
        rfl
      refine hK.out _ _ ?_
      clear hK K
      refine done_ (by kernel_rfl) ?_
      have HG2 := Lib.hid (gtrans HG.out (gtrans (grown_of_below cur4 (some g)) (gset w3 g k (.int .i64 (min x y)))))
      have HR2 := Lib.hid ((RC.store k (min x y)).ext (E' := fun j => if j < k + 1 then min (l1.getD j 0) (l2.getD j 0) else l1.getD j 0) (fun j _ => by
        unfold upd
        by_cases e : j = k
        · rw [if_pos e, if_pos (by omega), e, HX.out, HY.out]
        · rw [if_neg e]
          dsimp only
          by_cases e2 : j < k
          · rw [if_pos e2, if_pos (by omega)]
          · rw [if_neg e2, if_neg (by omega)]))
      clear hHeld RC RC0 RC1 cur4 HG HR x0 x1 y0 y1 p0 p1 q1 q2
      generalize w3.setCell ⟨g, k, none⟩ (.int .i64 (min x y)) = W9 at HG2 HR2 ⊢
      go_wp2_with fail
      go_roundg (gk - 1)
      case measure => omega
      case rel => exact ⟨k + 1, by go_num, by omega, HG2, HR2⟩
    · obtain rfl : k = l1.length := by omega
      have HR2 := Lib.hid (HR.out.ext (E' := fun j => min (l1.getD j 0) (l2.getD j 0)) (fun j hj => by rw [if_pos hj]))
      have hcs := cur.size
      have cur5 := gbelow cur HG.out (by omega) (by omega)
      have bO5 := gheap HG.out bO (by omega)
      have bR5 := gheap HG.out bR (by omega)
      obtain ⟨p0, p1, -, -⟩ := cells2 bO5
      obtain ⟨r0, r1, r2, r3⟩ := cells2 bR5
      have hI := HR2.out.ints hcc (by omega)
      have hml := Zn.mapL_length l1.length (fun j => min (l1.getD j 0) (l2.getD j 0))
      have HZ : Hid (ZNew (s + 3) wr (.agg #[.int .i64 N, .slice (some ⟨g, 0, none⟩) l1.length cc]) N (Zn.mapL l1.length fun j => min (l1.getD j 0) (l2.getD j 0))) := Lib.hid ⟨some ⟨g, 0, none⟩, cc, by rw [hml], by rw [hml]; exact hI, fun a e _ => by cases e; show s + 3 ≤ g; omega⟩
      have HML := Lib.hid hml
      clear hI hml HR2 HR
      go_wp2_with fail
      obtain ⟨q1, q2, q3⟩ := zfin_n (s := s) (b := s + 2) HML.out bR5 HZ.out cur5 (by omega) (by omega) (by omega)
      exact bodyPost_ret (zret rfl _ _ (s + 2) q1 rfl) rfl ⟨_, rfl, by first | exact q2.lower (by omega) | (rw [hs]; exact q2.lower (by omega)), by first | exact q3 | (rw [hs]; exact q3)⟩
end Go.Proofs.YtjhccmjgfngkcaaDoor.PZoneSame
