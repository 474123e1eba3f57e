/- Walk of the law ZoneSame: it answers true. -/
import Derived.Test.YtjhccmjgfngkcaaDoorZoneSameZn
import Derived.Test.YtjhccmjgfngkcaaDoorPm
import Derived.Test.YtjhccmjgfngkcaaDoorPZoneSamex1
set_option linter.unusedVariables false
set_option linter.unusedSimpArgs false
namespace Go.Proofs.YtjhccmjgfngkcaaDoor.PZoneSame
open Go Go.RowKit Go.Shelf Go.Deep Go.Proofs.YtjhccmjgfngkcaaDoorW.PrintWords Go.Proofs.YtjhccmjgfngkcaaDoorW.PrintLast Go.Proofs.YtjhccmjgfngkcaaDoorW.PrintMore
variable {w : World}
attribute [local go_sem] Oper.semAt_some
theorem few_any {v : Value} {N : Int} {L : List Int} (h : ZAt w v N L) : Calls Tryd.prog 13 #[v] w fun e w' => e = .returned (.bool (decide ((L.length : Int) ≤ 100))) ∧ Below w.heap.size w w' := by
  obtain ⟨A, c, rfl, hc, hr⟩ := h.row
  exact helmsmanlaw03_few.calls N A c L _ w hr hc rfl
set_option maxHeartbeats 2000000 in
theorem of_any {v : Value} {N : Int} {L : List Int} (h : ZAt w v N L) : Calls Tryd.prog 16 #[v] w fun e w' => e = .returned v ∧ Below w.heap.size w w' := by
  obtain ⟨A, c, rfl⟩ := h.form
  clear h
  go_enter Tryd.func16, Tryd.ntmps16
  go_wp2_with fail
  have h := blk_new (w.alloc (.cells #[.int .i64 N, .slice A L.length c] 24)) (.cells #[.int .i64 N, .slice A L.length c] 27)
  simp only [World.size_alloc] at h
  refine bodyPost_ret (zret rfl _ _ (w.heap.size + 1) h rfl) rfl ⟨rfl, psh (psh (Below.refl _ _) (Nat.le_refl _) _) (Nat.le_refl _) _⟩
/-- The row of a zone lies elsewhere. -/
def ZOff (v : Value) (L : List Int) (g : Nat) : Prop := ∀ x a n c, v = .agg #[x, .slice (some a) n c] → L ≠ [] → a.block ≠ g
theorem zoff_new {B : Nat} {v : Value} {N : Int} {L : List Int} (h : ZNew B w v N L) : ZOff v L w.heap.size := by
  intro x a n c e hn
  obtain ⟨A', c', e', ⟨ao, c2, e2, h0, h1, h2⟩, _⟩ := h
  obtain ⟨b, o, h3, h4, _⟩ := h2 hn
  rw [e'] at e
  injection e with e
  injection e2 with e2
  simp at e
  subst h3
  rw [e2] at e
  simp at e
  rw [← e.2.1]
  exact Nat.ne_of_lt h4
theorem zoff_old {B : Nat} {v : Value} {N : Int} {L : List Int} {g : Nat} (h : ZNew B w v N L) (hg : g < B) : ZOff v L g := by
  intro x a n c e hn
  obtain ⟨A', c', e', _, h2⟩ := h
  rw [e'] at e
  injection e with e
  simp at e
  have := h2 a e.2.1 hn
  omega
theorem ZAt.set {v : Value} {N : Int} {L : List Int} {p : Addr} (h : ZAt w v N L) (ho : ZOff v L p.block) (u : Value) : ZAt (w.setCell p u) v N L := by
  obtain ⟨A, c, rfl⟩ := h.form
  obtain ⟨s, e, h⟩ := h
  injection e with e
  simp at e
  subst e
  exact ⟨_, rfl, h.set p u (fun a e hn => ho _ _ _ _ (by rw [e]) hn)⟩
theorem zat_put2 {v : Value} {N : Int} {L : List Int} {ga gb : Nat} (x0 x1 y0 y1 : Value) (h : ZAt w v N L) (h1 : ZOff v L ga) (h2 : ZOff v L gb) : ZAt (put2 w ga gb x0 x1 y0 y1) v N L :=
  (((h.set (p := ⟨ga, 0, none⟩) h1 x0).set (p := ⟨ga, 1, none⟩) h1 x1).set (p := ⟨gb, 0, none⟩) h2 y0).set (p := ⟨gb, 1, none⟩) h2 y1
set_option maxRecDepth 100000 in
set_option maxHeartbeats 16000000 in
theorem ZoneSame_walk {va vb : Value} {N M : Int} {L L2 : List Int} (ha : ZAt w va N L) (hb : ZAt w vb M L2) : Calls Tryd.prog 7 #[va, vb] w fun e w' => e = .returned (.bool true) ∧ Below w.heap.size w w' := by
  obtain ⟨A, c, rfl⟩ := ha.form
  obtain ⟨B, d, rfl⟩ := hb.form
  have fa := fun W (h : Below w.heap.size w W) => few_any (ha.below h)
  have fb := fun W (h : Below w.heap.size w W) => few_any (hb.below h)
  have oa := fun W (h : Below w.heap.size w W) => of_any (ha.below h)
  have ob := fun W (h : Below w.heap.size w W) => of_any (hb.below h)
  have ma := fun W (h : Below w.heap.size w W) => meet_any (ha.below h) (ha.below h)
  have mb := fun W (h : Below w.heap.size w W) => meet_any (hb.below h) (hb.below h)
  have hx := Zn.clo_meet (N, L) (N, L)
  have hy := Zn.clo_meet (M, L2) (M, L2)
  obtain ⟨x, ex⟩ : ∃ z, Zn.meetP (N, L) (N, L) = z := ⟨_, rfl⟩
  obtain ⟨y, ey⟩ : ∃ z, Zn.meetP (M, L2) (M, L2) = z := ⟨_, rfl⟩
  rw [ex] at ma hx
  rw [ey] at mb hy
  clear ex ey
  have hsame := Zn.same_iff hx hy
  have hxs := hx.small
  have hjs := Zn.joinP_small x y
  have hjc := Zn.join_comm x y
  clear hx hy ha hb
  obtain ⟨n1, l1⟩ := x
  obtain ⟨n2, l2⟩ := y
  obtain ⟨⟨jn, jl⟩, hj⟩ : ∃ z, Zn.joinP (n1, l1) (n2, l2) = z := ⟨_, rfl⟩
  rw [hj] at hjc hjs
  dsimp only at hsame hxs hjs
  have j1 : ∀ (W : World) (v u : Value), ZAt W v n1 l1 → ZAt W u n2 l2 → Calls Tryd.prog 33 #[v, u] W (ZPost W (jn, jl)) := fun W v u h k => by have := join_any h k; rw [hj] at this; exact this
  have j2 : ∀ (W : World) (v u : Value), ZAt W v n2 l2 → ZAt W u n1 l1 → Calls Tryd.prog 33 #[v, u] W (ZPost W (jn, jl)) := fun W v u h k => by have := join_any h k; rw [← hjc] at this; exact this
  have s3 : ∀ (W : World) (v u : Value), ZAt W v jn jl → ZAt W u jn jl → Calls Tryd.prog 24 #[v, u] W fun e w' => e = .returned (.bool true) ∧ Below W.heap.size W w' := fun W v u h k => by have := Same_any h k (by omega); simpa using this
  have s1 : ∀ (W : World) (v u : Value), ZAt W v n1 l1 → ZAt W u n2 l2 → Calls Tryd.prog 24 #[v, u] W fun e w' => e = .returned (.bool (decide (((n1, l1) : Int × List Int) = (n2, l2)))) ∧ Below W.heap.size W w' := fun W v u h k => Same_any h k (by omega)
  have q1 : ∀ (W : World) (v u : Value), ZAt W v n1 l1 → ZAt W u n2 l2 → Calls Tryd.prog 35 #[v, u] W fun e w' => e = .returned (.bool (Zn.leqP (n1, l1) (n2, l2))) ∧ Below W.heap.size W w' := fun W v u h k => Leq_any h k
  have q2 : ∀ (W : World) (v u : Value), ZAt W v n2 l2 → ZAt W u n1 l1 → Calls Tryd.prog 35 #[v, u] W fun e w' => e = .returned (.bool (Zn.leqP (n2, l2) (n1, l1))) ∧ Below W.heap.size W w' := fun W v u h k => Leq_any h k
  obtain ⟨ba, eba⟩ : ∃ b, decide ((L.length : Int) ≤ 100) = b := ⟨_, rfl⟩
  obtain ⟨bb, ebb⟩ : ∃ b, decide ((L2.length : Int) ≤ 100) = b := ⟨_, rfl⟩
  rw [eba] at fa
  rw [ebb] at fb
  obtain ⟨k1, ek1⟩ : ∃ b, Zn.leqP (n1, l1) (n2, l2) = b := ⟨_, rfl⟩
  obtain ⟨k2, ek2⟩ : ∃ b, Zn.leqP (n2, l2) (n1, l1) = b := ⟨_, rfl⟩
  rw [ek1] at q1 hsame
  rw [ek2] at q2 hsame
  rw [hsame] at s1
  clear hsame eba ebb ek1 ek2 hj hjc hjs hxs
  have FA := Lib.hid fa
  have FB := Lib.hid fb
  have OA := Lib.hid oa
  have OB := Lib.hid ob
  have MA := Lib.hid ma
  have MB := Lib.hid mb
  have J1 := Lib.hid j1
  have J2 := Lib.hid j2
  have S3 := Lib.hid s3
  have S1 := Lib.hid s1
  have Q1 := Lib.hid q1
  have Q2 := Lib.hid q2
  clear fa fb oa ob ma mb j1 j2 s3 s1 q1 q2
  go_enter Tryd.func7, Tryd.ntmps7
  go_wp2_with fail
  have bA := blk_alloc (blk_new w (.cells #[.int .i64 N, .slice A L.length c] 24)) (.cells #[.int .i64 M, .slice B L2.length d] 24)
  have bB := blk_new (w.alloc (.cells #[.int .i64 N, .slice A L.length c] 24)) (.cells #[.int .i64 M, .slice B L2.length d] 24)
  have cur : Below w.heap.size w ((w.alloc (.cells #[.int .i64 N, .slice A L.length c] 24)).alloc (.cells #[.int .i64 M, .slice B L2.length d] 24)) := psh (psh (Below.refl _ _) (Nat.le_refl _) (.cells #[.int .i64 N, .slice A L.length c] 24)) (Nat.le_refl _) (.cells #[.int .i64 M, .slice B L2.length d] 24)
  have hsz : ((w.alloc (.cells #[.int .i64 N, .slice A L.length c] 24)).alloc (.cells #[.int .i64 M, .slice B L2.length d] 24)).heap.size = w.heap.size + 2 := by simp
  simp only [World.size_alloc] at bB
  obtain ⟨W0, hW0⟩ : ∃ W0, ((w.alloc (.cells #[.int .i64 N, .slice A L.length c] 24)).alloc (.cells #[.int .i64 M, .slice B L2.length d] 24)) = W0 := ⟨_, rfl⟩
  rw [hW0] at bA bB cur hsz ⊢
  clear hW0
  obtain ⟨s, hs⟩ : ∃ s, w.heap.size = s := ⟨_, rfl⟩
  rw [hs] at bA bB cur hsz
  simp only [hs]
  go_at_call 13
  refine (FA.out _ (by rw [hs]; exact cur)).mono ?_
  rintro e w1 ⟨rfl, hb1⟩
  have k1' := blk_below bA hb1
  have k2' := blk_below bB hb1
  have cur1 := cur.trans (hb1.mono (by omega))
  obtain ⟨x0, x1, -, -⟩ := cells2 k1'
  obtain ⟨y0, y1, -, -⟩ := cells2 k2'
  clear cur bA bB
  cases ba
  · have HC := Lib.hid cur1
    clear cur1
    go_wp2_with fail
    go_at_call 14
    refine (alive_any _).mono ?_
    rintro e w2 ⟨rfl, hb2⟩
    go_wp2_with fail
    go_ret
    exact ⟨rfl, by rw [hs]; exact HC.out.trans (hb2.mono (by have := HC.out.size; omega))⟩
  have HC := Lib.hid cur1
  clear cur1
  go_wp2_with fail
  go_at_call 13
  refine (FB.out _ (by rw [hs]; exact HC.out)).mono ?_
  rintro e W2 ⟨rfl, hb2⟩
  have g1 := blk_below k1' hb2
  have g2 := blk_below k2' hb2
  have HC2 := Lib.hid (HC.out.trans (hb2.mono (by have := HC.out.size; omega)))
  clear x0 x1 y0 y1
  obtain ⟨x0, x1, -, -⟩ := cells2 g1
  obtain ⟨y0, y1, -, -⟩ := cells2 g2
  have HC3 : Hid (Below w.heap.size w W2) := Lib.hid (by rw [hs]; exact HC2.out)
  clear k1' k2' hb1 hb2 HC FA FB
  cases bb
  · go_wp2_with fail
    go_at_call 14
    refine (alive_any _).mono ?_
    rintro e w2 ⟨rfl, hb2⟩
    go_wp2_with fail
    go_ret
    exact ⟨rfl, by rw [hs]; exact HC2.out.trans (hb2.mono (by have := HC2.out.size; omega))⟩
  go_wp2_with fail
  refine start_ (n := 14) (S := fun w' => w'.cell? ⟨s, 0, none⟩ = some (.int .i64 N) ∧ w'.cell? ⟨s, 1, none⟩ = some (.slice A L.length c) ∧ w'.cell? ⟨s + 1, 0, none⟩ = some (.int .i64 M) ∧ w'.cell? ⟨s + 1, 1, none⟩ = some (.slice B L2.length d)) (ds := [12, 13]) #[false, false, false, false, false, false, false, false, false, false, false, false, false, false] (by kernel_rfl) rfl rfl ⟨cell_below ((Below.refl W2.heap.size W2).drew) x0, cell_below ((Below.refl W2.heap.size W2).drew) x1, cell_below ((Below.refl W2.heap.size W2).drew) y0, cell_below ((Below.refl W2.heap.size W2).drew) y1⟩ (fun hHeld => ?_)
  refine take_ (i := 0) (N := some 16) (v := ?_) (a' := ?_) #[true, false, false, false, false, false, false, false, false, false, false, false, false, false] rfl rfl (by kernel_rfl) (fun _ _ _ h => h) (Or.inl ⟨by rfl, ?_⟩) hHeld ?_ ?_
  rotate_left
  · rintro w' ⟨s0, s1, s2, s3⟩
    go_simp
    with_reducible rfl
  rotate_left
  · simp only [Act.put, List.setIfInBounds_toArray, List.set_cons_zero, List.set_cons_succ, i64_w, i32_w]
    rfl
  refine take_ (i := 2) (N := some 18) (v := ?_) (a' := ?_) #[true, false, true, false, false, false, false, false, false, false, false, false, false, false] rfl rfl (by kernel_rfl) (fun _ _ _ h => h) (Or.inl ⟨by rfl, ?_⟩) hHeld ?_ ?_
  rotate_left
  · rintro w' ⟨s0, s1, s2, s3⟩
    go_simp
    with_reducible rfl
  rotate_left
  · simp only [Act.put, List.setIfInBounds_toArray, List.set_cons_zero, List.set_cons_succ, i64_w, i32_w]
    rfl
  refine take_ (i := 5) (N := some 21) (v := ?_) (a' := ?_) #[true, false, true, false, false, true, false, false, false, false, false, false, false, false] rfl rfl (by kernel_rfl) (fun _ _ _ h => h) (Or.inl ⟨by rfl, ?_⟩) hHeld ?_ ?_
  rotate_left
  · rintro w' ⟨s0, s1, s2, s3⟩
    go_simp
    with_reducible rfl
  rotate_left
  · simp only [Act.put, List.setIfInBounds_toArray, List.set_cons_zero, List.set_cons_succ, i64_w, i32_w]
    rfl
  refine take_ (i := 7) (N := some 23) (v := ?_) (a' := ?_) #[true, false, true, false, false, true, false, true, false, false, false, false, false, false] rfl rfl (by kernel_rfl) (fun _ _ _ h => h) (Or.inl ⟨by rfl, ?_⟩) hHeld ?_ ?_
  rotate_left
  · rintro w' ⟨s0, s1, s2, s3⟩
    go_simp
    with_reducible rfl
  rotate_left
  · simp only [Act.put, List.setIfInBounds_toArray, List.set_cons_zero, List.set_cons_succ, i64_w, i32_w]
    rfl
  refine join_ (σ := Nat × Nat × Value × Value) 2 #[true, true, true, true, true, true, true, true, true, true, true, true, false, false] (fun zz => [(17, .agg #[.int .i64 N, .slice A L.length c]), (19, .agg #[.int .i64 N, .slice A L.length c]), (22, .agg #[.int .i64 M, .slice B L2.length d]), (24, .agg #[.int .i64 M, .slice B L2.length d]), (20, zz.2.2.1), (25, zz.2.2.2), (5, .pointer (some ⟨zz.1, 0, none⟩)), (6, .pointer (some ⟨zz.2.1, 0, none⟩))]) (fun zz w' => Below W2.heap.size W2 w' ∧ w'.heap[zz.1]? = some (.cells #[.int .i64 0, .slice none 0 0] 27 (0, 0)) ∧ W2.heap.size ≤ zz.1 ∧ w'.heap[zz.2.1]? = some (.cells #[.int .i64 0, .slice none 0 0] 27 (0, 0)) ∧ W2.heap.size ≤ zz.2.1 ∧ zz.1 ≠ zz.2.1 ∧ ZNew W2.heap.size w' zz.2.2.1 n1 l1 ∧ ZNew W2.heap.size w' zz.2.2.2 n2 l2 ∧ ZOff zz.2.2.1 l1 zz.1 ∧ ZOff zz.2.2.1 l1 zz.2.1 ∧ ZOff zz.2.2.2 l2 zz.1 ∧ ZOff zz.2.2.2 l2 zz.2.1) ?_ ?_
  rotate_left
  · intro hJ1_3_4_6_8_9_10_11
    refine join_ (σ := Nat × Value × Value) 3 #[true, true, true, true, true, true, true, true, true, true, true, false, false, false] (fun zz => [(17, .agg #[.int .i64 N, .slice A L.length c]), (19, .agg #[.int .i64 N, .slice A L.length c]), (22, .agg #[.int .i64 M, .slice B L2.length d]), (24, .agg #[.int .i64 M, .slice B L2.length d]), (20, zz.2.1), (25, zz.2.2), (5, .pointer (some ⟨zz.1, 0, none⟩))]) (fun zz w' => Below W2.heap.size W2 w' ∧ w'.heap[zz.1]? = some (.cells #[.int .i64 0, .slice none 0 0] 27 (0, 0)) ∧ W2.heap.size ≤ zz.1 ∧ ZNew W2.heap.size w' zz.2.1 n1 l1 ∧ ZNew W2.heap.size w' zz.2.2 n2 l2 ∧ ZOff zz.2.1 l1 zz.1 ∧ ZOff zz.2.2 l2 zz.1) ?_ ?_
    rotate_left
    · intro hJ1_3_4_6_8_9_10
      refine join_ (σ := Nat × Value × Value) 3 #[true, true, true, true, true, true, true, true, true, true, false, true, false, false] (fun zz => [(17, .agg #[.int .i64 N, .slice A L.length c]), (19, .agg #[.int .i64 N, .slice A L.length c]), (22, .agg #[.int .i64 M, .slice B L2.length d]), (24, .agg #[.int .i64 M, .slice B L2.length d]), (20, zz.2.1), (25, zz.2.2), (6, .pointer (some ⟨zz.1, 0, none⟩))]) (fun zz w' => Below W2.heap.size W2 w' ∧ w'.heap[zz.1]? = some (.cells #[.int .i64 0, .slice none 0 0] 27 (0, 0)) ∧ W2.heap.size ≤ zz.1 ∧ ZNew W2.heap.size w' zz.2.1 n1 l1 ∧ ZNew W2.heap.size w' zz.2.2 n2 l2 ∧ ZOff zz.2.1 l1 zz.1 ∧ ZOff zz.2.2 l2 zz.1) ?_ ?_
      rotate_left
      · intro hJ1_3_4_6_8_9_11
        refine join_ (σ := Nat × Nat × Value) 3 #[true, true, true, true, true, true, true, true, true, false, true, true, false, false] (fun zz => [(17, .agg #[.int .i64 N, .slice A L.length c]), (19, .agg #[.int .i64 N, .slice A L.length c]), (22, .agg #[.int .i64 M, .slice B L2.length d]), (24, .agg #[.int .i64 M, .slice B L2.length d]), (20, zz.2.2), (5, .pointer (some ⟨zz.1, 0, none⟩)), (6, .pointer (some ⟨zz.2.1, 0, none⟩))]) (fun zz w' => Below W2.heap.size W2 w' ∧ w'.heap[zz.1]? = some (.cells #[.int .i64 0, .slice none 0 0] 27 (0, 0)) ∧ W2.heap.size ≤ zz.1 ∧ w'.heap[zz.2.1]? = some (.cells #[.int .i64 0, .slice none 0 0] 27 (0, 0)) ∧ W2.heap.size ≤ zz.2.1 ∧ zz.1 ≠ zz.2.1 ∧ ZNew W2.heap.size w' zz.2.2 n1 l1 ∧ ZOff zz.2.2 l1 zz.1 ∧ ZOff zz.2.2 l1 zz.2.1) ?_ ?_
        rotate_left
        · intro hJ1_3_4_6_8_10_11
          refine join_ (σ := Value × Value) 4 #[true, true, true, true, true, true, true, true, true, true, false, false, false, false] (fun zz => [(17, .agg #[.int .i64 N, .slice A L.length c]), (19, .agg #[.int .i64 N, .slice A L.length c]), (22, .agg #[.int .i64 M, .slice B L2.length d]), (24, .agg #[.int .i64 M, .slice B L2.length d]), (20, zz.1), (25, zz.2)]) (fun zz w' => Below W2.heap.size W2 w' ∧ ZNew W2.heap.size w' zz.1 n1 l1 ∧ ZNew W2.heap.size w' zz.2 n2 l2) ?_ ?_
          rotate_left
          · intro hJ1_3_4_6_8_9
            refine join_ (σ := Nat × Value) 4 #[true, true, true, true, true, true, true, true, true, false, true, false, false, false] (fun zz => [(17, .agg #[.int .i64 N, .slice A L.length c]), (19, .agg #[.int .i64 N, .slice A L.length c]), (22, .agg #[.int .i64 M, .slice B L2.length d]), (24, .agg #[.int .i64 M, .slice B L2.length d]), (20, zz.2), (5, .pointer (some ⟨zz.1, 0, none⟩))]) (fun zz w' => Below W2.heap.size W2 w' ∧ w'.heap[zz.1]? = some (.cells #[.int .i64 0, .slice none 0 0] 27 (0, 0)) ∧ W2.heap.size ≤ zz.1 ∧ ZNew W2.heap.size w' zz.2 n1 l1 ∧ ZOff zz.2 l1 zz.1) ?_ ?_
            rotate_left
            · intro hJ1_3_4_6_8_10
              refine join_ (σ := Nat × Value) 4 #[true, true, true, true, true, true, true, true, true, false, false, true, false, false] (fun zz => [(17, .agg #[.int .i64 N, .slice A L.length c]), (19, .agg #[.int .i64 N, .slice A L.length c]), (22, .agg #[.int .i64 M, .slice B L2.length d]), (24, .agg #[.int .i64 M, .slice B L2.length d]), (20, zz.2), (6, .pointer (some ⟨zz.1, 0, none⟩))]) (fun zz w' => Below W2.heap.size W2 w' ∧ w'.heap[zz.1]? = some (.cells #[.int .i64 0, .slice none 0 0] 27 (0, 0)) ∧ W2.heap.size ≤ zz.1 ∧ ZNew W2.heap.size w' zz.2 n1 l1 ∧ ZOff zz.2 l1 zz.1) ?_ ?_
              rotate_left
              · intro hJ1_3_4_6_8_11
                refine join_ (σ := Nat × Nat × Value) 4 #[true, true, true, true, true, true, true, true, false, false, true, true, false, false] (fun zz => [(17, .agg #[.int .i64 N, .slice A L.length c]), (19, .agg #[.int .i64 N, .slice A L.length c]), (22, .agg #[.int .i64 M, .slice B L2.length d]), (20, zz.2.2), (5, .pointer (some ⟨zz.1, 0, none⟩)), (6, .pointer (some ⟨zz.2.1, 0, none⟩))]) (fun zz w' => Below W2.heap.size W2 w' ∧ w'.heap[zz.1]? = some (.cells #[.int .i64 0, .slice none 0 0] 27 (0, 0)) ∧ W2.heap.size ≤ zz.1 ∧ w'.heap[zz.2.1]? = some (.cells #[.int .i64 0, .slice none 0 0] 27 (0, 0)) ∧ W2.heap.size ≤ zz.2.1 ∧ zz.1 ≠ zz.2.1 ∧ ZNew W2.heap.size w' zz.2.2 n1 l1 ∧ ZOff zz.2.2 l1 zz.1 ∧ ZOff zz.2.2 l1 zz.2.1) ?_ ?_
                rotate_left
                · intro hJ1_3_4_6_10_11
                  refine join_ (σ := Value) 5 #[true, true, true, true, true, true, true, true, true, false, false, false, false, false] (fun zz => [(17, .agg #[.int .i64 N, .slice A L.length c]), (19, .agg #[.int .i64 N, .slice A L.length c]), (22, .agg #[.int .i64 M, .slice B L2.length d]), (24, .agg #[.int .i64 M, .slice B L2.length d]), (20, zz)]) (fun zz w' => Below W2.heap.size W2 w' ∧ ZNew W2.heap.size w' zz n1 l1) ?_ ?_
                  rotate_left
                  · intro hJ1_3_4_6_8
                    refine join_ (σ := Nat × Value) 5 #[true, true, true, true, true, true, true, true, false, false, true, false, false, false] (fun zz => [(17, .agg #[.int .i64 N, .slice A L.length c]), (19, .agg #[.int .i64 N, .slice A L.length c]), (22, .agg #[.int .i64 M, .slice B L2.length d]), (20, zz.2), (5, .pointer (some ⟨zz.1, 0, none⟩))]) (fun zz w' => Below W2.heap.size W2 w' ∧ w'.heap[zz.1]? = some (.cells #[.int .i64 0, .slice none 0 0] 27 (0, 0)) ∧ W2.heap.size ≤ zz.1 ∧ ZNew W2.heap.size w' zz.2 n1 l1 ∧ ZOff zz.2 l1 zz.1) ?_ ?_
                    rotate_left
                    · intro hJ1_3_4_6_10
                      refine join_ (σ := Nat × Value) 5 #[true, true, true, true, true, true, true, true, false, false, false, true, false, false] (fun zz => [(17, .agg #[.int .i64 N, .slice A L.length c]), (19, .agg #[.int .i64 N, .slice A L.length c]), (22, .agg #[.int .i64 M, .slice B L2.length d]), (20, zz.2), (6, .pointer (some ⟨zz.1, 0, none⟩))]) (fun zz w' => Below W2.heap.size W2 w' ∧ w'.heap[zz.1]? = some (.cells #[.int .i64 0, .slice none 0 0] 27 (0, 0)) ∧ W2.heap.size ≤ zz.1 ∧ ZNew W2.heap.size w' zz.2 n1 l1 ∧ ZOff zz.2 l1 zz.1) ?_ ?_
                      rotate_left
                      · intro hJ1_3_4_6_11
                        refine join_ (σ := Nat × Nat × Value) 5 #[true, true, true, true, true, true, false, true, false, false, true, true, false, false] (fun zz => [(17, .agg #[.int .i64 N, .slice A L.length c]), (19, .agg #[.int .i64 N, .slice A L.length c]), (20, zz.2.2), (5, .pointer (some ⟨zz.1, 0, none⟩)), (6, .pointer (some ⟨zz.2.1, 0, none⟩))]) (fun zz w' => Below W2.heap.size W2 w' ∧ w'.heap[zz.1]? = some (.cells #[.int .i64 0, .slice none 0 0] 27 (0, 0)) ∧ W2.heap.size ≤ zz.1 ∧ w'.heap[zz.2.1]? = some (.cells #[.int .i64 0, .slice none 0 0] 27 (0, 0)) ∧ W2.heap.size ≤ zz.2.1 ∧ zz.1 ≠ zz.2.1 ∧ ZNew W2.heap.size w' zz.2.2 n1 l1 ∧ ZOff zz.2.2 l1 zz.1 ∧ ZOff zz.2.2 l1 zz.2.1) ?_ ?_
                        rotate_left
                        · intro hJ1_3_4_10_11
                          refine join_ (σ := Value) 6 #[true, true, true, true, true, true, true, true, false, false, false, false, false, false] (fun zz => [(17, .agg #[.int .i64 N, .slice A L.length c]), (19, .agg #[.int .i64 N, .slice A L.length c]), (22, .agg #[.int .i64 M, .slice B L2.length d]), (20, zz)]) (fun zz w' => Below W2.heap.size W2 w' ∧ ZNew W2.heap.size w' zz n1 l1) ?_ ?_
                          rotate_left
                          · intro hJ1_3_4_6
                            refine join_ (σ := Nat × Value) 6 #[true, true, true, true, true, true, false, true, false, false, true, false, false, false] (fun zz => [(17, .agg #[.int .i64 N, .slice A L.length c]), (19, .agg #[.int .i64 N, .slice A L.length c]), (20, zz.2), (5, .pointer (some ⟨zz.1, 0, none⟩))]) (fun zz w' => Below W2.heap.size W2 w' ∧ w'.heap[zz.1]? = some (.cells #[.int .i64 0, .slice none 0 0] 27 (0, 0)) ∧ W2.heap.size ≤ zz.1 ∧ ZNew W2.heap.size w' zz.2 n1 l1 ∧ ZOff zz.2 l1 zz.1) ?_ ?_
                            rotate_left
                            · intro hJ1_3_4_10
                              refine join_ (σ := Nat × Value) 6 #[true, true, true, true, true, true, false, true, false, false, false, true, false, false] (fun zz => [(17, .agg #[.int .i64 N, .slice A L.length c]), (19, .agg #[.int .i64 N, .slice A L.length c]), (20, zz.2), (6, .pointer (some ⟨zz.1, 0, none⟩))]) (fun zz w' => Below W2.heap.size W2 w' ∧ w'.heap[zz.1]? = some (.cells #[.int .i64 0, .slice none 0 0] 27 (0, 0)) ∧ W2.heap.size ≤ zz.1 ∧ ZNew W2.heap.size w' zz.2 n1 l1 ∧ ZOff zz.2 l1 zz.1) ?_ ?_
                              rotate_left
                              · intro hJ1_3_4_11
                                refine join_ (σ := Nat × Nat) 6 #[true, true, true, true, false, true, false, true, false, false, true, true, false, false] (fun zz => [(17, .agg #[.int .i64 N, .slice A L.length c]), (19, .agg #[.int .i64 N, .slice A L.length c]), (5, .pointer (some ⟨zz.1, 0, none⟩)), (6, .pointer (some ⟨zz.2, 0, none⟩))]) (fun zz w' => Below W2.heap.size W2 w' ∧ w'.heap[zz.1]? = some (.cells #[.int .i64 0, .slice none 0 0] 27 (0, 0)) ∧ W2.heap.size ≤ zz.1 ∧ w'.heap[zz.2]? = some (.cells #[.int .i64 0, .slice none 0 0] 27 (0, 0)) ∧ W2.heap.size ≤ zz.2 ∧ zz.1 ≠ zz.2) ?_ ?_
                                rotate_left
                                · intro hJ1_3_10_11
                                  refine join_ (σ := Value) 7 #[true, true, true, true, true, true, false, true, false, false, false, false, false, false] (fun zz => [(17, .agg #[.int .i64 N, .slice A L.length c]), (19, .agg #[.int .i64 N, .slice A L.length c]), (20, zz)]) (fun zz w' => Below W2.heap.size W2 w' ∧ ZNew W2.heap.size w' zz n1 l1) ?_ ?_
                                  rotate_left
                                  · intro hJ1_3_4
                                    refine join_ (σ := Nat) 7 #[true, true, true, true, false, true, false, true, false, false, true, false, false, false] (fun zz => [(17, .agg #[.int .i64 N, .slice A L.length c]), (19, .agg #[.int .i64 N, .slice A L.length c]), (5, .pointer (some ⟨zz, 0, none⟩))]) (fun zz w' => Below W2.heap.size W2 w' ∧ w'.heap[zz]? = some (.cells #[.int .i64 0, .slice none 0 0] 27 (0, 0)) ∧ W2.heap.size ≤ zz) ?_ ?_
                                    rotate_left
                                    · intro hJ1_3_10
                                      refine join_ (σ := Nat) 7 #[true, true, true, true, false, true, false, true, false, false, false, true, false, false] (fun zz => [(17, .agg #[.int .i64 N, .slice A L.length c]), (19, .agg #[.int .i64 N, .slice A L.length c]), (6, .pointer (some ⟨zz, 0, none⟩))]) (fun zz w' => Below W2.heap.size W2 w' ∧ w'.heap[zz]? = some (.cells #[.int .i64 0, .slice none 0 0] 27 (0, 0)) ∧ W2.heap.size ≤ zz) ?_ ?_
                                      rotate_left
                                      · intro hJ1_3_11
                                        refine join_ (σ := Nat × Nat) 7 #[true, true, true, false, false, true, false, true, false, false, true, true, false, false] (fun zz => [(17, .agg #[.int .i64 N, .slice A L.length c]), (5, .pointer (some ⟨zz.1, 0, none⟩)), (6, .pointer (some ⟨zz.2, 0, none⟩))]) (fun zz w' => Below W2.heap.size W2 w' ∧ w'.heap[zz.1]? = some (.cells #[.int .i64 0, .slice none 0 0] 27 (0, 0)) ∧ W2.heap.size ≤ zz.1 ∧ w'.heap[zz.2]? = some (.cells #[.int .i64 0, .slice none 0 0] 27 (0, 0)) ∧ W2.heap.size ≤ zz.2 ∧ zz.1 ≠ zz.2) ?_ ?_
                                        rotate_left
                                        · intro hJ1_10_11
                                          refine join_ (σ := Unit) 8 #[true, true, true, true, false, true, false, true, false, false, false, false, false, false] (fun zz => [(17, .agg #[.int .i64 N, .slice A L.length c]), (19, .agg #[.int .i64 N, .slice A L.length c])]) (fun zz w' => Below W2.heap.size W2 w') ?_ ?_
                                          rotate_left
                                          · intro hJ1_3
                                            refine join_ (σ := Nat) 8 #[true, true, true, false, false, true, false, true, false, false, true, false, false, false] (fun zz => [(17, .agg #[.int .i64 N, .slice A L.length c]), (5, .pointer (some ⟨zz, 0, none⟩))]) (fun zz w' => Below W2.heap.size W2 w' ∧ w'.heap[zz]? = some (.cells #[.int .i64 0, .slice none 0 0] 27 (0, 0)) ∧ W2.heap.size ≤ zz) ?_ ?_
                                            rotate_left
                                            · intro hJ1_10
                                              refine join_ (σ := Nat) 8 #[true, true, true, false, false, true, false, true, false, false, false, true, false, false] (fun zz => [(17, .agg #[.int .i64 N, .slice A L.length c]), (6, .pointer (some ⟨zz, 0, none⟩))]) (fun zz w' => Below W2.heap.size W2 w' ∧ w'.heap[zz]? = some (.cells #[.int .i64 0, .slice none 0 0] 27 (0, 0)) ∧ W2.heap.size ≤ zz) ?_ ?_
                                              rotate_left
                                              · intro hJ1_11
                                                refine join_ (σ := Nat × Nat) 8 #[true, false, true, false, false, true, false, true, false, false, true, true, false, false] (fun zz => [(5, .pointer (some ⟨zz.1, 0, none⟩)), (6, .pointer (some ⟨zz.2, 0, none⟩))]) (fun zz w' => Below W2.heap.size W2 w' ∧ w'.heap[zz.1]? = some (.cells #[.int .i64 0, .slice none 0 0] 27 (0, 0)) ∧ W2.heap.size ≤ zz.1 ∧ w'.heap[zz.2]? = some (.cells #[.int .i64 0, .slice none 0 0] 27 (0, 0)) ∧ W2.heap.size ≤ zz.2 ∧ zz.1 ≠ zz.2) ?_ ?_
                                                rotate_left
                                                · intro hJ10_11
                                                  refine join_ (σ := Unit) 9 #[true, true, true, false, false, true, false, true, false, false, false, false, false, false] (fun zz => [(17, .agg #[.int .i64 N, .slice A L.length c])]) (fun zz w' => Below W2.heap.size W2 w') ?_ ?_
                                                  rotate_left
                                                  · intro hJ1
                                                    refine join_ (σ := Nat) 9 #[true, false, true, false, false, true, false, true, false, false, true, false, false, false] (fun zz => [(5, .pointer (some ⟨zz, 0, none⟩))]) (fun zz w' => Below W2.heap.size W2 w' ∧ w'.heap[zz]? = some (.cells #[.int .i64 0, .slice none 0 0] 27 (0, 0)) ∧ W2.heap.size ≤ zz) ?_ ?_
                                                    rotate_left
                                                    · intro hJ10
                                                      refine join_ (σ := Nat) 9 #[true, false, true, false, false, true, false, true, false, false, false, true, false, false] (fun zz => [(6, .pointer (some ⟨zz, 0, none⟩))]) (fun zz w' => Below W2.heap.size W2 w' ∧ w'.heap[zz]? = some (.cells #[.int .i64 0, .slice none 0 0] 27 (0, 0)) ∧ W2.heap.size ≤ zz) ?_ ?_
                                                      rotate_left
                                                      · intro hJ11
                                                        refine three_ (i := 1) (j := 10) (k := 11) (Ni := some 17) (Nj := some 5) (Nk := some 6) #[true, true, true, false, false, true, false, true, false, false, false, false, false, false] #[true, false, true, false, false, true, false, true, false, false, true, false, false, false] #[true, false, true, false, false, true, false, true, false, false, false, true, false, false] rfl rfl rfl rfl rfl rfl (by kernel_rfl) (by decide) (by decide) (by decide) (fun K hK => ?_) (fun K hK => ?_) (fun K hK => ?_)
                                                        · skip
                                                          refine goes_ Tryd.func16 (by kernel_rfl) rfl #[.agg #[.int .i64 N, .slice A L.length c]] (by rfl) rfl rfl (by simp only [List.map_toArray, List.map_cons, List.map_nil]; rfl) ?_
                                                          with_reducible refine (OA.out _ (seq HC3.out ((Below.refl W2.heap.size W2).drew))).mono ?_
                                                          rintro e w3 ⟨rfl, hb⟩
                                                          refine ⟨_, rfl, ?_⟩
                                                          have cur3 := seq ((Below.refl W2.heap.size W2).drew) hb
                                                          refine hK.out _ _ ⟨cell_below (cur3) x0, cell_below (cur3) x1, cell_below (cur3) y0, cell_below (cur3) y1⟩ (fun hHeld => ?_)
                                                          clear hK K
                                                          refine norm_ (a' := ?_) ?_ ?_
                                                          rotate_left
                                                          · show Act.put _ (some 17) _ = _
                                                            simp only [Act.put, List.setIfInBounds_toArray, List.set_cons_zero, List.set_cons_succ, i64_w, i32_w]
                                                            rfl
                                                          exact norm_ (by first | (simp only [putAll, Act.put, List.setIfInBounds_toArray, List.set_cons_zero, List.set_cons_succ]; done) | (simp only [putAll, Act.put, List.setIfInBounds_toArray, List.set_cons_zero, List.set_cons_succ]; rfl)) (hJ1 () _ cur3)
                                                        · skip
                                                          refine value_ (w1 := ?_) (v := ?_) (by rfl) rfl ?_ ?_
                                                          rotate_left 2
                                                          · go_simp
                                                            constructor
                                                            · rfl
                                                            · rfl
                                                          have cur3 := psh ((Below.refl W2.heap.size W2).drew) (Nat.le_refl _) (.cells #[.int .i64 0, .slice none 0 0] 27)
                                                          refine hK.out _ _ ⟨cell_below (cur3) x0, cell_below (cur3) x1, cell_below (cur3) y0, cell_below (cur3) y1⟩ (fun hHeld => ?_)
                                                          clear hK K
                                                          refine norm_ (a' := ?_) ?_ ?_
                                                          rotate_left
                                                          · show Act.put _ (some 5) _ = _
                                                            simp only [Act.put, List.setIfInBounds_toArray, List.set_cons_zero, List.set_cons_succ, i64_w, i32_w]
                                                            rfl
                                                          exact norm_ (by first | (simp only [putAll, Act.put, List.setIfInBounds_toArray, List.set_cons_zero, List.set_cons_succ]; done) | (simp only [putAll, Act.put, List.setIfInBounds_toArray, List.set_cons_zero, List.set_cons_succ]; rfl)) (hJ10 (W2.drew.heap.size) _ ⟨cur3, blk_new _ _, ((Below.refl W2.heap.size W2).drew).size⟩)
                                                        · skip
                                                          refine value_ (w1 := ?_) (v := ?_) (by rfl) rfl ?_ ?_
                                                          rotate_left 2
                                                          · go_simp
                                                            constructor
                                                            · rfl
                                                            · rfl
                                                          have cur3 := psh ((Below.refl W2.heap.size W2).drew) (Nat.le_refl _) (.cells #[.int .i64 0, .slice none 0 0] 27)
                                                          refine hK.out _ _ ⟨cell_below (cur3) x0, cell_below (cur3) x1, cell_below (cur3) y0, cell_below (cur3) y1⟩ (fun hHeld => ?_)
                                                          clear hK K
                                                          refine norm_ (a' := ?_) ?_ ?_
                                                          rotate_left
                                                          · show Act.put _ (some 6) _ = _
                                                            simp only [Act.put, List.setIfInBounds_toArray, List.set_cons_zero, List.set_cons_succ, i64_w, i32_w]
                                                            rfl
                                                          exact norm_ (by first | (simp only [putAll, Act.put, List.setIfInBounds_toArray, List.set_cons_zero, List.set_cons_succ]; done) | (simp only [putAll, Act.put, List.setIfInBounds_toArray, List.set_cons_zero, List.set_cons_succ]; rfl)) (hJ11 (W2.drew.heap.size) _ ⟨cur3, blk_new _ _, ((Below.refl W2.heap.size W2).drew).size⟩)
                                                      · skip
                                                        rintro ga11 w1 ⟨cur, p11, q11⟩
                                                        have hHeld : w1.cell? ⟨s, 0, none⟩ = some (.int .i64 N) ∧ w1.cell? ⟨s, 1, none⟩ = some (.slice A L.length c) ∧ w1.cell? ⟨s + 1, 0, none⟩ = some (.int .i64 M) ∧ w1.cell? ⟨s + 1, 1, none⟩ = some (.slice B L2.length d) := ⟨cell_below (cur) x0, cell_below (cur) x1, cell_below (cur) y0, cell_below (cur) y1⟩
                                                        refine norm_ (a' := ?_) ?_ ?_
                                                        rotate_left
                                                        · simp only [putAll, Act.put, List.setIfInBounds_toArray, List.set_cons_zero, List.set_cons_succ]
                                                          rfl
                                                        refine two_ (i := 1) (j := 10) (Ni := some 17) (Nj := some 5) #[true, true, true, false, false, true, false, true, false, false, false, true, false, false] #[true, false, true, false, false, true, false, true, false, false, true, true, false, false] rfl rfl rfl rfl (by kernel_rfl) (by decide) (by decide) (fun K hK => ?_) (fun K hK => ?_)
                                                        · skip
                                                          refine goes_ Tryd.func16 (by kernel_rfl) rfl #[.agg #[.int .i64 N, .slice A L.length c]] (by rfl) rfl rfl (by simp only [List.map_toArray, List.map_cons, List.map_nil]; rfl) ?_
                                                          with_reducible refine (OA.out _ (seq HC3.out (cur))).mono ?_
                                                          rintro e w3 ⟨rfl, hb⟩
                                                          refine ⟨_, rfl, ?_⟩
                                                          have cur3 := seq (cur) hb
                                                          have p3_11 := blk_below p11 hb
                                                          refine hK.out _ _ ⟨cell_below (cur3) x0, cell_below (cur3) x1, cell_below (cur3) y0, cell_below (cur3) y1⟩ (fun hHeld => ?_)
                                                          clear hK K
                                                          refine norm_ (a' := ?_) ?_ ?_
                                                          rotate_left
                                                          · show Act.put _ (some 17) _ = _
                                                            simp only [Act.put, List.setIfInBounds_toArray, List.set_cons_zero, List.set_cons_succ, i64_w, i32_w]
                                                            rfl
                                                          exact norm_ (by first | (simp only [putAll, Act.put, List.setIfInBounds_toArray, List.set_cons_zero, List.set_cons_succ]; done) | (simp only [putAll, Act.put, List.setIfInBounds_toArray, List.set_cons_zero, List.set_cons_succ]; rfl)) (hJ1_11 ga11 _ ⟨cur3, p3_11, q11⟩)
                                                        · skip
                                                          refine value_ (w1 := ?_) (v := ?_) (by rfl) rfl ?_ ?_
                                                          rotate_left 2
                                                          · go_simp
                                                            constructor
                                                            · rfl
                                                            · rfl
                                                          have cur3 := psh (cur) (Nat.le_refl _) (.cells #[.int .i64 0, .slice none 0 0] 27)
                                                          have p3_11 := blk_alloc p11 (.cells #[.int .i64 0, .slice none 0 0] 27)
                                                          refine hK.out _ _ ⟨cell_below (cur3) x0, cell_below (cur3) x1, cell_below (cur3) y0, cell_below (cur3) y1⟩ (fun hHeld => ?_)
                                                          clear hK K
                                                          refine norm_ (a' := ?_) ?_ ?_
                                                          rotate_left
                                                          · show Act.put _ (some 5) _ = _
                                                            simp only [Act.put, List.setIfInBounds_toArray, List.set_cons_zero, List.set_cons_succ, i64_w, i32_w]
                                                            rfl
                                                          exact norm_ (by first | (simp only [putAll, Act.put, List.setIfInBounds_toArray, List.set_cons_zero, List.set_cons_succ]; done) | (simp only [putAll, Act.put, List.setIfInBounds_toArray, List.set_cons_zero, List.set_cons_succ]; rfl)) (hJ10_11 (w1.heap.size, ga11) _ ⟨cur3, blk_new _ _, (cur).size, p3_11, q11, (Nat.ne_of_gt (blk_lt p11))⟩)
                                                    · skip
                                                      rintro ga10 w1 ⟨cur, p10, q10⟩
                                                      have hHeld : w1.cell? ⟨s, 0, none⟩ = some (.int .i64 N) ∧ w1.cell? ⟨s, 1, none⟩ = some (.slice A L.length c) ∧ w1.cell? ⟨s + 1, 0, none⟩ = some (.int .i64 M) ∧ w1.cell? ⟨s + 1, 1, none⟩ = some (.slice B L2.length d) := ⟨cell_below (cur) x0, cell_below (cur) x1, cell_below (cur) y0, cell_below (cur) y1⟩
                                                      refine norm_ (a' := ?_) ?_ ?_
                                                      rotate_left
                                                      · simp only [putAll, Act.put, List.setIfInBounds_toArray, List.set_cons_zero, List.set_cons_succ]
                                                        rfl
                                                      refine two_ (i := 1) (j := 11) (Ni := some 17) (Nj := some 6) #[true, true, true, false, false, true, false, true, false, false, true, false, false, false] #[true, false, true, false, false, true, false, true, false, false, true, true, false, false] rfl rfl rfl rfl (by kernel_rfl) (by decide) (by decide) (fun K hK => ?_) (fun K hK => ?_)
                                                      · skip
                                                        refine goes_ Tryd.func16 (by kernel_rfl) rfl #[.agg #[.int .i64 N, .slice A L.length c]] (by rfl) rfl rfl (by simp only [List.map_toArray, List.map_cons, List.map_nil]; rfl) ?_
                                                        with_reducible refine (OA.out _ (seq HC3.out (cur))).mono ?_
                                                        rintro e w3 ⟨rfl, hb⟩
                                                        refine ⟨_, rfl, ?_⟩
                                                        have cur3 := seq (cur) hb
                                                        have p3_10 := blk_below p10 hb
                                                        refine hK.out _ _ ⟨cell_below (cur3) x0, cell_below (cur3) x1, cell_below (cur3) y0, cell_below (cur3) y1⟩ (fun hHeld => ?_)
                                                        clear hK K
                                                        refine norm_ (a' := ?_) ?_ ?_
                                                        rotate_left
                                                        · show Act.put _ (some 17) _ = _
                                                          simp only [Act.put, List.setIfInBounds_toArray, List.set_cons_zero, List.set_cons_succ, i64_w, i32_w]
                                                          rfl
                                                        exact norm_ (by first | (simp only [putAll, Act.put, List.setIfInBounds_toArray, List.set_cons_zero, List.set_cons_succ]; done) | (simp only [putAll, Act.put, List.setIfInBounds_toArray, List.set_cons_zero, List.set_cons_succ]; rfl)) (hJ1_10 ga10 _ ⟨cur3, p3_10, q10⟩)
                                                      · skip
                                                        refine value_ (w1 := ?_) (v := ?_) (by rfl) rfl ?_ ?_
                                                        rotate_left 2
                                                        · go_simp
                                                          constructor
                                                          · rfl
                                                          · rfl
                                                        have cur3 := psh (cur) (Nat.le_refl _) (.cells #[.int .i64 0, .slice none 0 0] 27)
                                                        have p3_10 := blk_alloc p10 (.cells #[.int .i64 0, .slice none 0 0] 27)
                                                        refine hK.out _ _ ⟨cell_below (cur3) x0, cell_below (cur3) x1, cell_below (cur3) y0, cell_below (cur3) y1⟩ (fun hHeld => ?_)
                                                        clear hK K
                                                        refine norm_ (a' := ?_) ?_ ?_
                                                        rotate_left
                                                        · show Act.put _ (some 6) _ = _
                                                          simp only [Act.put, List.setIfInBounds_toArray, List.set_cons_zero, List.set_cons_succ, i64_w, i32_w]
                                                          rfl
                                                        exact norm_ (by first | (simp only [putAll, Act.put, List.setIfInBounds_toArray, List.set_cons_zero, List.set_cons_succ]; done) | (simp only [putAll, Act.put, List.setIfInBounds_toArray, List.set_cons_zero, List.set_cons_succ]; rfl)) (hJ10_11 (ga10, w1.heap.size) _ ⟨cur3, p3_10, q10, blk_new _ _, (cur).size, (Nat.ne_of_lt (blk_lt p10))⟩)
                                                  · skip
                                                    rintro ⟨⟩ w1 cur
                                                    have hHeld : w1.cell? ⟨s, 0, none⟩ = some (.int .i64 N) ∧ w1.cell? ⟨s, 1, none⟩ = some (.slice A L.length c) ∧ w1.cell? ⟨s + 1, 0, none⟩ = some (.int .i64 M) ∧ w1.cell? ⟨s + 1, 1, none⟩ = some (.slice B L2.length d) := ⟨cell_below (cur) x0, cell_below (cur) x1, cell_below (cur) y0, cell_below (cur) y1⟩
                                                    refine norm_ (a' := ?_) ?_ ?_
                                                    rotate_left
                                                    · simp only [putAll, Act.put, List.setIfInBounds_toArray, List.set_cons_zero, List.set_cons_succ]
                                                      rfl
                                                    refine three_ (i := 3) (j := 10) (k := 11) (Ni := some 19) (Nj := some 5) (Nk := some 6) #[true, true, true, true, false, true, false, true, false, false, false, false, false, false] #[true, true, true, false, false, true, false, true, false, false, true, false, false, false] #[true, true, true, false, false, true, false, true, false, false, false, true, false, false] rfl rfl rfl rfl rfl rfl (by kernel_rfl) (by decide) (by decide) (by decide) (fun K hK => ?_) (fun K hK => ?_) (fun K hK => ?_)
                                                    · skip
                                                      refine goes_ Tryd.func16 (by kernel_rfl) rfl #[.agg #[.int .i64 N, .slice A L.length c]] (by rfl) rfl rfl (by simp only [List.map_toArray, List.map_cons, List.map_nil]; rfl) ?_
                                                      with_reducible refine (OA.out _ (seq HC3.out (cur))).mono ?_
                                                      rintro e w3 ⟨rfl, hb⟩
                                                      refine ⟨_, rfl, ?_⟩
                                                      have cur3 := seq (cur) hb
                                                      refine hK.out _ _ ⟨cell_below (cur3) x0, cell_below (cur3) x1, cell_below (cur3) y0, cell_below (cur3) y1⟩ (fun hHeld => ?_)
                                                      clear hK K
                                                      refine norm_ (a' := ?_) ?_ ?_
                                                      rotate_left
                                                      · show Act.put _ (some 19) _ = _
                                                        simp only [Act.put, List.setIfInBounds_toArray, List.set_cons_zero, List.set_cons_succ, i64_w, i32_w]
                                                        rfl
                                                      exact norm_ (by first | (simp only [putAll, Act.put, List.setIfInBounds_toArray, List.set_cons_zero, List.set_cons_succ]; done) | (simp only [putAll, Act.put, List.setIfInBounds_toArray, List.set_cons_zero, List.set_cons_succ]; rfl)) (hJ1_3 () _ cur3)
                                                    · skip
                                                      refine value_ (w1 := ?_) (v := ?_) (by rfl) rfl ?_ ?_
                                                      rotate_left 2
                                                      · go_simp
                                                        constructor
                                                        · rfl
                                                        · rfl
                                                      have cur3 := psh (cur) (Nat.le_refl _) (.cells #[.int .i64 0, .slice none 0 0] 27)
                                                      refine hK.out _ _ ⟨cell_below (cur3) x0, cell_below (cur3) x1, cell_below (cur3) y0, cell_below (cur3) y1⟩ (fun hHeld => ?_)
                                                      clear hK K
                                                      refine norm_ (a' := ?_) ?_ ?_
                                                      rotate_left
                                                      · show Act.put _ (some 5) _ = _
                                                        simp only [Act.put, List.setIfInBounds_toArray, List.set_cons_zero, List.set_cons_succ, i64_w, i32_w]
                                                        rfl
                                                      exact norm_ (by first | (simp only [putAll, Act.put, List.setIfInBounds_toArray, List.set_cons_zero, List.set_cons_succ]; done) | (simp only [putAll, Act.put, List.setIfInBounds_toArray, List.set_cons_zero, List.set_cons_succ]; rfl)) (hJ1_10 (w1.heap.size) _ ⟨cur3, blk_new _ _, (cur).size⟩)
                                                    · skip
                                                      refine value_ (w1 := ?_) (v := ?_) (by rfl) rfl ?_ ?_
                                                      rotate_left 2
                                                      · go_simp
                                                        constructor
                                                        · rfl
                                                        · rfl
                                                      have cur3 := psh (cur) (Nat.le_refl _) (.cells #[.int .i64 0, .slice none 0 0] 27)
                                                      refine hK.out _ _ ⟨cell_below (cur3) x0, cell_below (cur3) x1, cell_below (cur3) y0, cell_below (cur3) y1⟩ (fun hHeld => ?_)
                                                      clear hK K
                                                      refine norm_ (a' := ?_) ?_ ?_
                                                      rotate_left
                                                      · show Act.put _ (some 6) _ = _
                                                        simp only [Act.put, List.setIfInBounds_toArray, List.set_cons_zero, List.set_cons_succ, i64_w, i32_w]
                                                        rfl
                                                      exact norm_ (by first | (simp only [putAll, Act.put, List.setIfInBounds_toArray, List.set_cons_zero, List.set_cons_succ]; done) | (simp only [putAll, Act.put, List.setIfInBounds_toArray, List.set_cons_zero, List.set_cons_succ]; rfl)) (hJ1_11 (w1.heap.size) _ ⟨cur3, blk_new _ _, (cur).size⟩)
                                                · skip
                                                  rintro ⟨ga10, ga11⟩ w1 ⟨cur, p10, q10, p11, q11, ne10_11⟩
                                                  dsimp only at p10 q10 p11 q11 ne10_11
                                                  have hHeld : w1.cell? ⟨s, 0, none⟩ = some (.int .i64 N) ∧ w1.cell? ⟨s, 1, none⟩ = some (.slice A L.length c) ∧ w1.cell? ⟨s + 1, 0, none⟩ = some (.int .i64 M) ∧ w1.cell? ⟨s + 1, 1, none⟩ = some (.slice B L2.length d) := ⟨cell_below (cur) x0, cell_below (cur) x1, cell_below (cur) y0, cell_below (cur) y1⟩
                                                  refine norm_ (a' := ?_) ?_ ?_
                                                  rotate_left
                                                  · simp only [putAll, Act.put, List.setIfInBounds_toArray, List.set_cons_zero, List.set_cons_succ]
                                                    rfl
                                                  refine one_ (i := 1) (N := some 17) #[true, true, true, false, false, true, false, true, false, false, true, true, false, false] rfl rfl (by kernel_rfl) (by decide) (fun K hK => ?_)
                                                  refine goes_ Tryd.func16 (by kernel_rfl) rfl #[.agg #[.int .i64 N, .slice A L.length c]] (by rfl) rfl rfl (by simp only [List.map_toArray, List.map_cons, List.map_nil]; rfl) ?_
                                                  with_reducible refine (OA.out _ (seq HC3.out (cur))).mono ?_
                                                  rintro e w3 ⟨rfl, hb⟩
                                                  refine ⟨_, rfl, ?_⟩
                                                  have cur3 := seq (cur) hb
                                                  have p3_10 := blk_below p10 hb
                                                  have p3_11 := blk_below p11 hb
                                                  refine hK.out _ _ ⟨cell_below (cur3) x0, cell_below (cur3) x1, cell_below (cur3) y0, cell_below (cur3) y1⟩ (fun hHeld => ?_)
                                                  clear hK K
                                                  refine norm_ (a' := ?_) ?_ ?_
                                                  rotate_left
                                                  · show Act.put _ (some 17) _ = _
                                                    simp only [Act.put, List.setIfInBounds_toArray, List.set_cons_zero, List.set_cons_succ, i64_w, i32_w]
                                                    rfl
                                                  exact norm_ (by first | (simp only [putAll, Act.put, List.setIfInBounds_toArray, List.set_cons_zero, List.set_cons_succ]; done) | (simp only [putAll, Act.put, List.setIfInBounds_toArray, List.set_cons_zero, List.set_cons_succ]; rfl)) (hJ1_10_11 (ga10, ga11) _ ⟨cur3, p3_10, q10, p3_11, q11, ne10_11⟩)
                                              · skip
                                                rintro ga11 w1 ⟨cur, p11, q11⟩
                                                have hHeld : w1.cell? ⟨s, 0, none⟩ = some (.int .i64 N) ∧ w1.cell? ⟨s, 1, none⟩ = some (.slice A L.length c) ∧ w1.cell? ⟨s + 1, 0, none⟩ = some (.int .i64 M) ∧ w1.cell? ⟨s + 1, 1, none⟩ = some (.slice B L2.length d) := ⟨cell_below (cur) x0, cell_below (cur) x1, cell_below (cur) y0, cell_below (cur) y1⟩
                                                refine norm_ (a' := ?_) ?_ ?_
                                                rotate_left
                                                · simp only [putAll, Act.put, List.setIfInBounds_toArray, List.set_cons_zero, List.set_cons_succ]
                                                  rfl
                                                refine two_ (i := 3) (j := 10) (Ni := some 19) (Nj := some 5) #[true, true, true, true, false, true, false, true, false, false, false, true, false, false] #[true, true, true, false, false, true, false, true, false, false, true, true, false, false] rfl rfl rfl rfl (by kernel_rfl) (by decide) (by decide) (fun K hK => ?_) (fun K hK => ?_)
                                                · skip
                                                  refine goes_ Tryd.func16 (by kernel_rfl) rfl #[.agg #[.int .i64 N, .slice A L.length c]] (by rfl) rfl rfl (by simp only [List.map_toArray, List.map_cons, List.map_nil]; rfl) ?_
                                                  with_reducible refine (OA.out _ (seq HC3.out (cur))).mono ?_
                                                  rintro e w3 ⟨rfl, hb⟩
                                                  refine ⟨_, rfl, ?_⟩
                                                  have cur3 := seq (cur) hb
                                                  have p3_11 := blk_below p11 hb
                                                  refine hK.out _ _ ⟨cell_below (cur3) x0, cell_below (cur3) x1, cell_below (cur3) y0, cell_below (cur3) y1⟩ (fun hHeld => ?_)
                                                  clear hK K
                                                  refine norm_ (a' := ?_) ?_ ?_
                                                  rotate_left
                                                  · show Act.put _ (some 19) _ = _
                                                    simp only [Act.put, List.setIfInBounds_toArray, List.set_cons_zero, List.set_cons_succ, i64_w, i32_w]
                                                    rfl
                                                  exact norm_ (by first | (simp only [putAll, Act.put, List.setIfInBounds_toArray, List.set_cons_zero, List.set_cons_succ]; done) | (simp only [putAll, Act.put, List.setIfInBounds_toArray, List.set_cons_zero, List.set_cons_succ]; rfl)) (hJ1_3_11 ga11 _ ⟨cur3, p3_11, q11⟩)
                                                · skip
                                                  refine value_ (w1 := ?_) (v := ?_) (by rfl) rfl ?_ ?_
                                                  rotate_left 2
                                                  · go_simp
                                                    constructor
                                                    · rfl
                                                    · rfl
                                                  have cur3 := psh (cur) (Nat.le_refl _) (.cells #[.int .i64 0, .slice none 0 0] 27)
                                                  have p3_11 := blk_alloc p11 (.cells #[.int .i64 0, .slice none 0 0] 27)
                                                  refine hK.out _ _ ⟨cell_below (cur3) x0, cell_below (cur3) x1, cell_below (cur3) y0, cell_below (cur3) y1⟩ (fun hHeld => ?_)
                                                  clear hK K
                                                  refine norm_ (a' := ?_) ?_ ?_
                                                  rotate_left
                                                  · show Act.put _ (some 5) _ = _
                                                    simp only [Act.put, List.setIfInBounds_toArray, List.set_cons_zero, List.set_cons_succ, i64_w, i32_w]
                                                    rfl
                                                  exact norm_ (by first | (simp only [putAll, Act.put, List.setIfInBounds_toArray, List.set_cons_zero, List.set_cons_succ]; done) | (simp only [putAll, Act.put, List.setIfInBounds_toArray, List.set_cons_zero, List.set_cons_succ]; rfl)) (hJ1_10_11 (w1.heap.size, ga11) _ ⟨cur3, blk_new _ _, (cur).size, p3_11, q11, (Nat.ne_of_gt (blk_lt p11))⟩)
                                            · skip
                                              rintro ga10 w1 ⟨cur, p10, q10⟩
                                              have hHeld : w1.cell? ⟨s, 0, none⟩ = some (.int .i64 N) ∧ w1.cell? ⟨s, 1, none⟩ = some (.slice A L.length c) ∧ w1.cell? ⟨s + 1, 0, none⟩ = some (.int .i64 M) ∧ w1.cell? ⟨s + 1, 1, none⟩ = some (.slice B L2.length d) := ⟨cell_below (cur) x0, cell_below (cur) x1, cell_below (cur) y0, cell_below (cur) y1⟩
                                              refine norm_ (a' := ?_) ?_ ?_
                                              rotate_left
                                              · simp only [putAll, Act.put, List.setIfInBounds_toArray, List.set_cons_zero, List.set_cons_succ]
                                                rfl
                                              refine two_ (i := 3) (j := 11) (Ni := some 19) (Nj := some 6) #[true, true, true, true, false, true, false, true, false, false, true, false, false, false] #[true, true, true, false, false, true, false, true, false, false, true, true, false, false] rfl rfl rfl rfl (by kernel_rfl) (by decide) (by decide) (fun K hK => ?_) (fun K hK => ?_)
                                              · skip
                                                refine goes_ Tryd.func16 (by kernel_rfl) rfl #[.agg #[.int .i64 N, .slice A L.length c]] (by rfl) rfl rfl (by simp only [List.map_toArray, List.map_cons, List.map_nil]; rfl) ?_
                                                with_reducible refine (OA.out _ (seq HC3.out (cur))).mono ?_
                                                rintro e w3 ⟨rfl, hb⟩
                                                refine ⟨_, rfl, ?_⟩
                                                have cur3 := seq (cur) hb
                                                have p3_10 := blk_below p10 hb
                                                refine hK.out _ _ ⟨cell_below (cur3) x0, cell_below (cur3) x1, cell_below (cur3) y0, cell_below (cur3) y1⟩ (fun hHeld => ?_)
                                                clear hK K
                                                refine norm_ (a' := ?_) ?_ ?_
                                                rotate_left
                                                · show Act.put _ (some 19) _ = _
                                                  simp only [Act.put, List.setIfInBounds_toArray, List.set_cons_zero, List.set_cons_succ, i64_w, i32_w]
                                                  rfl
                                                exact norm_ (by first | (simp only [putAll, Act.put, List.setIfInBounds_toArray, List.set_cons_zero, List.set_cons_succ]; done) | (simp only [putAll, Act.put, List.setIfInBounds_toArray, List.set_cons_zero, List.set_cons_succ]; rfl)) (hJ1_3_10 ga10 _ ⟨cur3, p3_10, q10⟩)
                                              · skip
                                                refine value_ (w1 := ?_) (v := ?_) (by rfl) rfl ?_ ?_
                                                rotate_left 2
                                                · go_simp
                                                  constructor
                                                  · rfl
                                                  · rfl
                                                have cur3 := psh (cur) (Nat.le_refl _) (.cells #[.int .i64 0, .slice none 0 0] 27)
                                                have p3_10 := blk_alloc p10 (.cells #[.int .i64 0, .slice none 0 0] 27)
                                                refine hK.out _ _ ⟨cell_below (cur3) x0, cell_below (cur3) x1, cell_below (cur3) y0, cell_below (cur3) y1⟩ (fun hHeld => ?_)
                                                clear hK K
                                                refine norm_ (a' := ?_) ?_ ?_
                                                rotate_left
                                                · show Act.put _ (some 6) _ = _
                                                  simp only [Act.put, List.setIfInBounds_toArray, List.set_cons_zero, List.set_cons_succ, i64_w, i32_w]
                                                  rfl
                                                exact norm_ (by first | (simp only [putAll, Act.put, List.setIfInBounds_toArray, List.set_cons_zero, List.set_cons_succ]; done) | (simp only [putAll, Act.put, List.setIfInBounds_toArray, List.set_cons_zero, List.set_cons_succ]; rfl)) (hJ1_10_11 (ga10, w1.heap.size) _ ⟨cur3, p3_10, q10, blk_new _ _, (cur).size, (Nat.ne_of_lt (blk_lt p10))⟩)
                                          · skip
                                            rintro ⟨⟩ w1 cur
                                            have hHeld : w1.cell? ⟨s, 0, none⟩ = some (.int .i64 N) ∧ w1.cell? ⟨s, 1, none⟩ = some (.slice A L.length c) ∧ w1.cell? ⟨s + 1, 0, none⟩ = some (.int .i64 M) ∧ w1.cell? ⟨s + 1, 1, none⟩ = some (.slice B L2.length d) := ⟨cell_below (cur) x0, cell_below (cur) x1, cell_below (cur) y0, cell_below (cur) y1⟩
                                            refine norm_ (a' := ?_) ?_ ?_
                                            rotate_left
                                            · simp only [putAll, Act.put, List.setIfInBounds_toArray, List.set_cons_zero, List.set_cons_succ]
                                              rfl
                                            refine three_ (i := 4) (j := 10) (k := 11) (Ni := some 20) (Nj := some 5) (Nk := some 6) #[true, true, true, true, true, true, false, true, false, false, false, false, false, false] #[true, true, true, true, false, true, false, true, false, false, true, false, false, false] #[true, true, true, true, false, true, false, true, false, false, false, true, false, false] rfl rfl rfl rfl rfl rfl (by kernel_rfl) (by decide) (by decide) (by decide) (fun K hK => ?_) (fun K hK => ?_) (fun K hK => ?_)
                                            · skip
                                              refine goes_ Tryd.func34 (by kernel_rfl) rfl #[.agg #[.int .i64 N, .slice A L.length c], .agg #[.int .i64 N, .slice A L.length c]] (by rfl) rfl rfl (by simp only [List.map_toArray, List.map_cons, List.map_nil]; rfl) ?_
                                              with_reducible refine (MA.out _ (seq HC3.out (cur))).mono ?_
                                              rintro e w3 ⟨gv4, rfl, hz3n, hb⟩
                                              refine ⟨_, rfl, ?_⟩
                                              have cur3 := seq (cur) hb
                                              have hz3_4 := hz3n.lower (cur).size
                                              refine hK.out _ _ ⟨cell_below (cur3) x0, cell_below (cur3) x1, cell_below (cur3) y0, cell_below (cur3) y1⟩ (fun hHeld => ?_)
                                              clear hK K
                                              refine norm_ (a' := ?_) ?_ ?_
                                              rotate_left
                                              · show Act.put _ (some 20) _ = _
                                                simp only [Act.put, List.setIfInBounds_toArray, List.set_cons_zero, List.set_cons_succ, i64_w, i32_w]
                                                rfl
                                              exact norm_ (by first | (simp only [putAll, Act.put, List.setIfInBounds_toArray, List.set_cons_zero, List.set_cons_succ]; done) | (simp only [putAll, Act.put, List.setIfInBounds_toArray, List.set_cons_zero, List.set_cons_succ]; rfl)) (hJ1_3_4 gv4 _ ⟨cur3, hz3_4⟩)
                                            · skip
                                              refine value_ (w1 := ?_) (v := ?_) (by rfl) rfl ?_ ?_
                                              rotate_left 2
                                              · go_simp
                                                constructor
                                                · rfl
                                                · rfl
                                              have cur3 := psh (cur) (Nat.le_refl _) (.cells #[.int .i64 0, .slice none 0 0] 27)
                                              refine hK.out _ _ ⟨cell_below (cur3) x0, cell_below (cur3) x1, cell_below (cur3) y0, cell_below (cur3) y1⟩ (fun hHeld => ?_)
                                              clear hK K
                                              refine norm_ (a' := ?_) ?_ ?_
                                              rotate_left
                                              · show Act.put _ (some 5) _ = _
                                                simp only [Act.put, List.setIfInBounds_toArray, List.set_cons_zero, List.set_cons_succ, i64_w, i32_w]
                                                rfl
                                              exact norm_ (by first | (simp only [putAll, Act.put, List.setIfInBounds_toArray, List.set_cons_zero, List.set_cons_succ]; done) | (simp only [putAll, Act.put, List.setIfInBounds_toArray, List.set_cons_zero, List.set_cons_succ]; rfl)) (hJ1_3_10 (w1.heap.size) _ ⟨cur3, blk_new _ _, (cur).size⟩)
                                            · skip
                                              refine value_ (w1 := ?_) (v := ?_) (by rfl) rfl ?_ ?_
                                              rotate_left 2
                                              · go_simp
                                                constructor
                                                · rfl
                                                · rfl
                                              have cur3 := psh (cur) (Nat.le_refl _) (.cells #[.int .i64 0, .slice none 0 0] 27)
                                              refine hK.out _ _ ⟨cell_below (cur3) x0, cell_below (cur3) x1, cell_below (cur3) y0, cell_below (cur3) y1⟩ (fun hHeld => ?_)
                                              clear hK K
                                              refine norm_ (a' := ?_) ?_ ?_
                                              rotate_left
                                              · show Act.put _ (some 6) _ = _
                                                simp only [Act.put, List.setIfInBounds_toArray, List.set_cons_zero, List.set_cons_succ, i64_w, i32_w]
                                                rfl
                                              exact norm_ (by first | (simp only [putAll, Act.put, List.setIfInBounds_toArray, List.set_cons_zero, List.set_cons_succ]; done) | (simp only [putAll, Act.put, List.setIfInBounds_toArray, List.set_cons_zero, List.set_cons_succ]; rfl)) (hJ1_3_11 (w1.heap.size) _ ⟨cur3, blk_new _ _, (cur).size⟩)
                                        · skip
                                          rintro ⟨ga10, ga11⟩ w1 ⟨cur, p10, q10, p11, q11, ne10_11⟩
                                          dsimp only at p10 q10 p11 q11 ne10_11
                                          have hHeld : w1.cell? ⟨s, 0, none⟩ = some (.int .i64 N) ∧ w1.cell? ⟨s, 1, none⟩ = some (.slice A L.length c) ∧ w1.cell? ⟨s + 1, 0, none⟩ = some (.int .i64 M) ∧ w1.cell? ⟨s + 1, 1, none⟩ = some (.slice B L2.length d) := ⟨cell_below (cur) x0, cell_below (cur) x1, cell_below (cur) y0, cell_below (cur) y1⟩
                                          refine norm_ (a' := ?_) ?_ ?_
                                          rotate_left
                                          · simp only [putAll, Act.put, List.setIfInBounds_toArray, List.set_cons_zero, List.set_cons_succ]
                                            rfl
                                          refine one_ (i := 3) (N := some 19) #[true, true, true, true, false, true, false, true, false, false, true, true, false, false] rfl rfl (by kernel_rfl) (by decide) (fun K hK => ?_)
                                          refine goes_ Tryd.func16 (by kernel_rfl) rfl #[.agg #[.int .i64 N, .slice A L.length c]] (by rfl) rfl rfl (by simp only [List.map_toArray, List.map_cons, List.map_nil]; rfl) ?_
                                          with_reducible refine (OA.out _ (seq HC3.out (cur))).mono ?_
                                          rintro e w3 ⟨rfl, hb⟩
                                          refine ⟨_, rfl, ?_⟩
                                          have cur3 := seq (cur) hb
                                          have p3_10 := blk_below p10 hb
                                          have p3_11 := blk_below p11 hb
                                          refine hK.out _ _ ⟨cell_below (cur3) x0, cell_below (cur3) x1, cell_below (cur3) y0, cell_below (cur3) y1⟩ (fun hHeld => ?_)
                                          clear hK K
                                          refine norm_ (a' := ?_) ?_ ?_
                                          rotate_left
                                          · show Act.put _ (some 19) _ = _
                                            simp only [Act.put, List.setIfInBounds_toArray, List.set_cons_zero, List.set_cons_succ, i64_w, i32_w]
                                            rfl
                                          exact norm_ (by first | (simp only [putAll, Act.put, List.setIfInBounds_toArray, List.set_cons_zero, List.set_cons_succ]; done) | (simp only [putAll, Act.put, List.setIfInBounds_toArray, List.set_cons_zero, List.set_cons_succ]; rfl)) (hJ1_3_10_11 (ga10, ga11) _ ⟨cur3, p3_10, q10, p3_11, q11, ne10_11⟩)
                                      · skip
                                        rintro ga11 w1 ⟨cur, p11, q11⟩
                                        have hHeld : w1.cell? ⟨s, 0, none⟩ = some (.int .i64 N) ∧ w1.cell? ⟨s, 1, none⟩ = some (.slice A L.length c) ∧ w1.cell? ⟨s + 1, 0, none⟩ = some (.int .i64 M) ∧ w1.cell? ⟨s + 1, 1, none⟩ = some (.slice B L2.length d) := ⟨cell_below (cur) x0, cell_below (cur) x1, cell_below (cur) y0, cell_below (cur) y1⟩
                                        refine norm_ (a' := ?_) ?_ ?_
                                        rotate_left
                                        · simp only [putAll, Act.put, List.setIfInBounds_toArray, List.set_cons_zero, List.set_cons_succ]
                                          rfl
                                        refine two_ (i := 4) (j := 10) (Ni := some 20) (Nj := some 5) #[true, true, true, true, true, true, false, true, false, false, false, true, false, false] #[true, true, true, true, false, true, false, true, false, false, true, true, false, false] rfl rfl rfl rfl (by kernel_rfl) (by decide) (by decide) (fun K hK => ?_) (fun K hK => ?_)
                                        · skip
                                          refine goes_ Tryd.func34 (by kernel_rfl) rfl #[.agg #[.int .i64 N, .slice A L.length c], .agg #[.int .i64 N, .slice A L.length c]] (by rfl) rfl rfl (by simp only [List.map_toArray, List.map_cons, List.map_nil]; rfl) ?_
                                          with_reducible refine (MA.out _ (seq HC3.out (cur))).mono ?_
                                          rintro e w3 ⟨gv4, rfl, hz3n, hb⟩
                                          refine ⟨_, rfl, ?_⟩
                                          have cur3 := seq (cur) hb
                                          have p3_11 := blk_below p11 hb
                                          have hz3_4 := hz3n.lower (cur).size
                                          refine hK.out _ _ ⟨cell_below (cur3) x0, cell_below (cur3) x1, cell_below (cur3) y0, cell_below (cur3) y1⟩ (fun hHeld => ?_)
                                          clear hK K
                                          refine norm_ (a' := ?_) ?_ ?_
                                          rotate_left
                                          · show Act.put _ (some 20) _ = _
                                            simp only [Act.put, List.setIfInBounds_toArray, List.set_cons_zero, List.set_cons_succ, i64_w, i32_w]
                                            rfl
                                          exact norm_ (by first | (simp only [putAll, Act.put, List.setIfInBounds_toArray, List.set_cons_zero, List.set_cons_succ]; done) | (simp only [putAll, Act.put, List.setIfInBounds_toArray, List.set_cons_zero, List.set_cons_succ]; rfl)) (hJ1_3_4_11 (ga11, gv4) _ ⟨cur3, p3_11, q11, hz3_4, zoff_old hz3n (blk_lt p11)⟩)
                                        · skip
                                          refine value_ (w1 := ?_) (v := ?_) (by rfl) rfl ?_ ?_
                                          rotate_left 2
                                          · go_simp
                                            constructor
                                            · rfl
                                            · rfl
                                          have cur3 := psh (cur) (Nat.le_refl _) (.cells #[.int .i64 0, .slice none 0 0] 27)
                                          have p3_11 := blk_alloc p11 (.cells #[.int .i64 0, .slice none 0 0] 27)
                                          refine hK.out _ _ ⟨cell_below (cur3) x0, cell_below (cur3) x1, cell_below (cur3) y0, cell_below (cur3) y1⟩ (fun hHeld => ?_)
                                          clear hK K
                                          refine norm_ (a' := ?_) ?_ ?_
                                          rotate_left
                                          · show Act.put _ (some 5) _ = _
                                            simp only [Act.put, List.setIfInBounds_toArray, List.set_cons_zero, List.set_cons_succ, i64_w, i32_w]
                                            rfl
                                          exact norm_ (by first | (simp only [putAll, Act.put, List.setIfInBounds_toArray, List.set_cons_zero, List.set_cons_succ]; done) | (simp only [putAll, Act.put, List.setIfInBounds_toArray, List.set_cons_zero, List.set_cons_succ]; rfl)) (hJ1_3_10_11 (w1.heap.size, ga11) _ ⟨cur3, blk_new _ _, (cur).size, p3_11, q11, (Nat.ne_of_gt (blk_lt p11))⟩)
                                    · skip
                                      rintro ga10 w1 ⟨cur, p10, q10⟩
                                      have hHeld : w1.cell? ⟨s, 0, none⟩ = some (.int .i64 N) ∧ w1.cell? ⟨s, 1, none⟩ = some (.slice A L.length c) ∧ w1.cell? ⟨s + 1, 0, none⟩ = some (.int .i64 M) ∧ w1.cell? ⟨s + 1, 1, none⟩ = some (.slice B L2.length d) := ⟨cell_below (cur) x0, cell_below (cur) x1, cell_below (cur) y0, cell_below (cur) y1⟩
                                      refine norm_ (a' := ?_) ?_ ?_
                                      rotate_left
                                      · simp only [putAll, Act.put, List.setIfInBounds_toArray, List.set_cons_zero, List.set_cons_succ]
                                        rfl
                                      refine two_ (i := 4) (j := 11) (Ni := some 20) (Nj := some 6) #[true, true, true, true, true, true, false, true, false, false, true, false, false, false] #[true, true, true, true, false, true, false, true, false, false, true, true, false, false] rfl rfl rfl rfl (by kernel_rfl) (by decide) (by decide) (fun K hK => ?_) (fun K hK => ?_)
                                      · skip
                                        refine goes_ Tryd.func34 (by kernel_rfl) rfl #[.agg #[.int .i64 N, .slice A L.length c], .agg #[.int .i64 N, .slice A L.length c]] (by rfl) rfl rfl (by simp only [List.map_toArray, List.map_cons, List.map_nil]; rfl) ?_
                                        with_reducible refine (MA.out _ (seq HC3.out (cur))).mono ?_
                                        rintro e w3 ⟨gv4, rfl, hz3n, hb⟩
                                        refine ⟨_, rfl, ?_⟩
                                        have cur3 := seq (cur) hb
                                        have p3_10 := blk_below p10 hb
                                        have hz3_4 := hz3n.lower (cur).size
                                        refine hK.out _ _ ⟨cell_below (cur3) x0, cell_below (cur3) x1, cell_below (cur3) y0, cell_below (cur3) y1⟩ (fun hHeld => ?_)
                                        clear hK K
                                        refine norm_ (a' := ?_) ?_ ?_
                                        rotate_left
                                        · show Act.put _ (some 20) _ = _
                                          simp only [Act.put, List.setIfInBounds_toArray, List.set_cons_zero, List.set_cons_succ, i64_w, i32_w]
                                          rfl
                                        exact norm_ (by first | (simp only [putAll, Act.put, List.setIfInBounds_toArray, List.set_cons_zero, List.set_cons_succ]; done) | (simp only [putAll, Act.put, List.setIfInBounds_toArray, List.set_cons_zero, List.set_cons_succ]; rfl)) (hJ1_3_4_10 (ga10, gv4) _ ⟨cur3, p3_10, q10, hz3_4, zoff_old hz3n (blk_lt p10)⟩)
                                      · skip
                                        refine value_ (w1 := ?_) (v := ?_) (by rfl) rfl ?_ ?_
                                        rotate_left 2
                                        · go_simp
                                          constructor
                                          · rfl
                                          · rfl
                                        have cur3 := psh (cur) (Nat.le_refl _) (.cells #[.int .i64 0, .slice none 0 0] 27)
                                        have p3_10 := blk_alloc p10 (.cells #[.int .i64 0, .slice none 0 0] 27)
                                        refine hK.out _ _ ⟨cell_below (cur3) x0, cell_below (cur3) x1, cell_below (cur3) y0, cell_below (cur3) y1⟩ (fun hHeld => ?_)
                                        clear hK K
                                        refine norm_ (a' := ?_) ?_ ?_
                                        rotate_left
                                        · show Act.put _ (some 6) _ = _
                                          simp only [Act.put, List.setIfInBounds_toArray, List.set_cons_zero, List.set_cons_succ, i64_w, i32_w]
                                          rfl
                                        exact norm_ (by first | (simp only [putAll, Act.put, List.setIfInBounds_toArray, List.set_cons_zero, List.set_cons_succ]; done) | (simp only [putAll, Act.put, List.setIfInBounds_toArray, List.set_cons_zero, List.set_cons_succ]; rfl)) (hJ1_3_10_11 (ga10, w1.heap.size) _ ⟨cur3, p3_10, q10, blk_new _ _, (cur).size, (Nat.ne_of_lt (blk_lt p10))⟩)
                                  · skip
                                    rintro gv4 w1 ⟨cur, hz4⟩
                                    have hHeld : w1.cell? ⟨s, 0, none⟩ = some (.int .i64 N) ∧ w1.cell? ⟨s, 1, none⟩ = some (.slice A L.length c) ∧ w1.cell? ⟨s + 1, 0, none⟩ = some (.int .i64 M) ∧ w1.cell? ⟨s + 1, 1, none⟩ = some (.slice B L2.length d) := ⟨cell_below (cur) x0, cell_below (cur) x1, cell_below (cur) y0, cell_below (cur) y1⟩
                                    refine norm_ (a' := ?_) ?_ ?_
                                    rotate_left
                                    · simp only [putAll, Act.put, List.setIfInBounds_toArray, List.set_cons_zero, List.set_cons_succ]
                                      rfl
                                    refine three_ (i := 6) (j := 10) (k := 11) (Ni := some 22) (Nj := some 5) (Nk := some 6) #[true, true, true, true, true, true, true, true, false, false, false, false, false, false] #[true, true, true, true, true, true, false, true, false, false, true, false, false, false] #[true, true, true, true, true, true, false, true, false, false, false, true, false, false] rfl rfl rfl rfl rfl rfl (by kernel_rfl) (by decide) (by decide) (by decide) (fun K hK => ?_) (fun K hK => ?_) (fun K hK => ?_)
                                    · skip
                                      refine goes_ Tryd.func16 (by kernel_rfl) rfl #[.agg #[.int .i64 M, .slice B L2.length d]] (by rfl) rfl rfl (by simp only [List.map_toArray, List.map_cons, List.map_nil]; rfl) ?_
                                      with_reducible refine (OB.out _ (seq HC3.out (cur))).mono ?_
                                      rintro e w3 ⟨rfl, hb⟩
                                      refine ⟨_, rfl, ?_⟩
                                      have cur3 := seq (cur) hb
                                      have hz3_4 := hz4.below hb
                                      refine hK.out _ _ ⟨cell_below (cur3) x0, cell_below (cur3) x1, cell_below (cur3) y0, cell_below (cur3) y1⟩ (fun hHeld => ?_)
                                      clear hK K
                                      refine norm_ (a' := ?_) ?_ ?_
                                      rotate_left
                                      · show Act.put _ (some 22) _ = _
                                        simp only [Act.put, List.setIfInBounds_toArray, List.set_cons_zero, List.set_cons_succ, i64_w, i32_w]
                                        rfl
                                      exact norm_ (by first | (simp only [putAll, Act.put, List.setIfInBounds_toArray, List.set_cons_zero, List.set_cons_succ]; done) | (simp only [putAll, Act.put, List.setIfInBounds_toArray, List.set_cons_zero, List.set_cons_succ]; rfl)) (hJ1_3_4_6 gv4 _ ⟨cur3, hz3_4⟩)
                                    · skip
                                      refine value_ (w1 := ?_) (v := ?_) (by rfl) rfl ?_ ?_
                                      rotate_left 2
                                      · go_simp
                                        constructor
                                        · rfl
                                        · rfl
                                      have cur3 := psh (cur) (Nat.le_refl _) (.cells #[.int .i64 0, .slice none 0 0] 27)
                                      have hz3_4 := hz4.below (psh (Below.refl w1.heap.size w1) (Nat.le_refl _) (.cells #[.int .i64 0, .slice none 0 0] 27))
                                      refine hK.out _ _ ⟨cell_below (cur3) x0, cell_below (cur3) x1, cell_below (cur3) y0, cell_below (cur3) y1⟩ (fun hHeld => ?_)
                                      clear hK K
                                      refine norm_ (a' := ?_) ?_ ?_
                                      rotate_left
                                      · show Act.put _ (some 5) _ = _
                                        simp only [Act.put, List.setIfInBounds_toArray, List.set_cons_zero, List.set_cons_succ, i64_w, i32_w]
                                        rfl
                                      exact norm_ (by first | (simp only [putAll, Act.put, List.setIfInBounds_toArray, List.set_cons_zero, List.set_cons_succ]; done) | (simp only [putAll, Act.put, List.setIfInBounds_toArray, List.set_cons_zero, List.set_cons_succ]; rfl)) (hJ1_3_4_10 (w1.heap.size, gv4) _ ⟨cur3, blk_new _ _, (cur).size, hz3_4, zoff_new hz4⟩)
                                    · skip
                                      refine value_ (w1 := ?_) (v := ?_) (by rfl) rfl ?_ ?_
                                      rotate_left 2
                                      · go_simp
                                        constructor
                                        · rfl
                                        · rfl
                                      have cur3 := psh (cur) (Nat.le_refl _) (.cells #[.int .i64 0, .slice none 0 0] 27)
                                      have hz3_4 := hz4.below (psh (Below.refl w1.heap.size w1) (Nat.le_refl _) (.cells #[.int .i64 0, .slice none 0 0] 27))
                                      refine hK.out _ _ ⟨cell_below (cur3) x0, cell_below (cur3) x1, cell_below (cur3) y0, cell_below (cur3) y1⟩ (fun hHeld => ?_)
                                      clear hK K
                                      refine norm_ (a' := ?_) ?_ ?_
                                      rotate_left
                                      · show Act.put _ (some 6) _ = _
                                        simp only [Act.put, List.setIfInBounds_toArray, List.set_cons_zero, List.set_cons_succ, i64_w, i32_w]
                                        rfl
                                      exact norm_ (by first | (simp only [putAll, Act.put, List.setIfInBounds_toArray, List.set_cons_zero, List.set_cons_succ]; done) | (simp only [putAll, Act.put, List.setIfInBounds_toArray, List.set_cons_zero, List.set_cons_succ]; rfl)) (hJ1_3_4_11 (w1.heap.size, gv4) _ ⟨cur3, blk_new _ _, (cur).size, hz3_4, zoff_new hz4⟩)
                                · skip
                                  rintro ⟨ga10, ga11⟩ w1 ⟨cur, p10, q10, p11, q11, ne10_11⟩
                                  dsimp only at p10 q10 p11 q11 ne10_11
                                  have hHeld : w1.cell? ⟨s, 0, none⟩ = some (.int .i64 N) ∧ w1.cell? ⟨s, 1, none⟩ = some (.slice A L.length c) ∧ w1.cell? ⟨s + 1, 0, none⟩ = some (.int .i64 M) ∧ w1.cell? ⟨s + 1, 1, none⟩ = some (.slice B L2.length d) := ⟨cell_below (cur) x0, cell_below (cur) x1, cell_below (cur) y0, cell_below (cur) y1⟩
                                  refine norm_ (a' := ?_) ?_ ?_
                                  rotate_left
                                  · simp only [putAll, Act.put, List.setIfInBounds_toArray, List.set_cons_zero, List.set_cons_succ]
                                    rfl
                                  refine one_ (i := 4) (N := some 20) #[true, true, true, true, true, true, false, true, false, false, true, true, false, false] rfl rfl (by kernel_rfl) (by decide) (fun K hK => ?_)
                                  refine goes_ Tryd.func34 (by kernel_rfl) rfl #[.agg #[.int .i64 N, .slice A L.length c], .agg #[.int .i64 N, .slice A L.length c]] (by rfl) rfl rfl (by simp only [List.map_toArray, List.map_cons, List.map_nil]; rfl) ?_
                                  with_reducible refine (MA.out _ (seq HC3.out (cur))).mono ?_
                                  rintro e w3 ⟨gv4, rfl, hz3n, hb⟩
                                  refine ⟨_, rfl, ?_⟩
                                  have cur3 := seq (cur) hb
                                  have p3_10 := blk_below p10 hb
                                  have p3_11 := blk_below p11 hb
                                  have hz3_4 := hz3n.lower (cur).size
                                  refine hK.out _ _ ⟨cell_below (cur3) x0, cell_below (cur3) x1, cell_below (cur3) y0, cell_below (cur3) y1⟩ (fun hHeld => ?_)
                                  clear hK K
                                  refine norm_ (a' := ?_) ?_ ?_
                                  rotate_left
                                  · show Act.put _ (some 20) _ = _
                                    simp only [Act.put, List.setIfInBounds_toArray, List.set_cons_zero, List.set_cons_succ, i64_w, i32_w]
                                    rfl
                                  exact norm_ (by first | (simp only [putAll, Act.put, List.setIfInBounds_toArray, List.set_cons_zero, List.set_cons_succ]; done) | (simp only [putAll, Act.put, List.setIfInBounds_toArray, List.set_cons_zero, List.set_cons_succ]; rfl)) (hJ1_3_4_10_11 (ga10, ga11, gv4) _ ⟨cur3, p3_10, q10, p3_11, q11, ne10_11, hz3_4, zoff_old hz3n (blk_lt p10), zoff_old hz3n (blk_lt p11)⟩)
                              · skip
                                rintro ⟨ga11, gv4⟩ w1 ⟨cur, p11, q11, hz4, zo4_11⟩
                                dsimp only at p11 q11 hz4 zo4_11
                                have hHeld : w1.cell? ⟨s, 0, none⟩ = some (.int .i64 N) ∧ w1.cell? ⟨s, 1, none⟩ = some (.slice A L.length c) ∧ w1.cell? ⟨s + 1, 0, none⟩ = some (.int .i64 M) ∧ w1.cell? ⟨s + 1, 1, none⟩ = some (.slice B L2.length d) := ⟨cell_below (cur) x0, cell_below (cur) x1, cell_below (cur) y0, cell_below (cur) y1⟩
                                refine norm_ (a' := ?_) ?_ ?_
                                rotate_left
                                · simp only [putAll, Act.put, List.setIfInBounds_toArray, List.set_cons_zero, List.set_cons_succ]
                                  rfl
                                refine two_ (i := 6) (j := 10) (Ni := some 22) (Nj := some 5) #[true, true, true, true, true, true, true, true, false, false, false, true, false, false] #[true, true, true, true, true, true, false, true, false, false, true, true, false, false] rfl rfl rfl rfl (by kernel_rfl) (by decide) (by decide) (fun K hK => ?_) (fun K hK => ?_)
                                · skip
                                  refine goes_ Tryd.func16 (by kernel_rfl) rfl #[.agg #[.int .i64 M, .slice B L2.length d]] (by rfl) rfl rfl (by simp only [List.map_toArray, List.map_cons, List.map_nil]; rfl) ?_
                                  with_reducible refine (OB.out _ (seq HC3.out (cur))).mono ?_
                                  rintro e w3 ⟨rfl, hb⟩
                                  refine ⟨_, rfl, ?_⟩
                                  have cur3 := seq (cur) hb
                                  have p3_11 := blk_below p11 hb
                                  have hz3_4 := hz4.below hb
                                  refine hK.out _ _ ⟨cell_below (cur3) x0, cell_below (cur3) x1, cell_below (cur3) y0, cell_below (cur3) y1⟩ (fun hHeld => ?_)
                                  clear hK K
                                  refine norm_ (a' := ?_) ?_ ?_
                                  rotate_left
                                  · show Act.put _ (some 22) _ = _
                                    simp only [Act.put, List.setIfInBounds_toArray, List.set_cons_zero, List.set_cons_succ, i64_w, i32_w]
                                    rfl
                                  exact norm_ (by first | (simp only [putAll, Act.put, List.setIfInBounds_toArray, List.set_cons_zero, List.set_cons_succ]; done) | (simp only [putAll, Act.put, List.setIfInBounds_toArray, List.set_cons_zero, List.set_cons_succ]; rfl)) (hJ1_3_4_6_11 (ga11, gv4) _ ⟨cur3, p3_11, q11, hz3_4, zo4_11⟩)
                                · skip
                                  refine value_ (w1 := ?_) (v := ?_) (by rfl) rfl ?_ ?_
                                  rotate_left 2
                                  · go_simp
                                    constructor
                                    · rfl
                                    · rfl
                                  have cur3 := psh (cur) (Nat.le_refl _) (.cells #[.int .i64 0, .slice none 0 0] 27)
                                  have p3_11 := blk_alloc p11 (.cells #[.int .i64 0, .slice none 0 0] 27)
                                  have hz3_4 := hz4.below (psh (Below.refl w1.heap.size w1) (Nat.le_refl _) (.cells #[.int .i64 0, .slice none 0 0] 27))
                                  refine hK.out _ _ ⟨cell_below (cur3) x0, cell_below (cur3) x1, cell_below (cur3) y0, cell_below (cur3) y1⟩ (fun hHeld => ?_)
                                  clear hK K
                                  refine norm_ (a' := ?_) ?_ ?_
                                  rotate_left
                                  · show Act.put _ (some 5) _ = _
                                    simp only [Act.put, List.setIfInBounds_toArray, List.set_cons_zero, List.set_cons_succ, i64_w, i32_w]
                                    rfl
                                  exact norm_ (by first | (simp only [putAll, Act.put, List.setIfInBounds_toArray, List.set_cons_zero, List.set_cons_succ]; done) | (simp only [putAll, Act.put, List.setIfInBounds_toArray, List.set_cons_zero, List.set_cons_succ]; rfl)) (hJ1_3_4_10_11 (w1.heap.size, ga11, gv4) _ ⟨cur3, blk_new _ _, (cur).size, p3_11, q11, (Nat.ne_of_gt (blk_lt p11)), hz3_4, zoff_new hz4, zo4_11⟩)
                            · skip
                              rintro ⟨ga10, gv4⟩ w1 ⟨cur, p10, q10, hz4, zo4_10⟩
                              dsimp only at p10 q10 hz4 zo4_10
                              have hHeld : w1.cell? ⟨s, 0, none⟩ = some (.int .i64 N) ∧ w1.cell? ⟨s, 1, none⟩ = some (.slice A L.length c) ∧ w1.cell? ⟨s + 1, 0, none⟩ = some (.int .i64 M) ∧ w1.cell? ⟨s + 1, 1, none⟩ = some (.slice B L2.length d) := ⟨cell_below (cur) x0, cell_below (cur) x1, cell_below (cur) y0, cell_below (cur) y1⟩
                              refine norm_ (a' := ?_) ?_ ?_
                              rotate_left
                              · simp only [putAll, Act.put, List.setIfInBounds_toArray, List.set_cons_zero, List.set_cons_succ]
                                rfl
                              refine two_ (i := 6) (j := 11) (Ni := some 22) (Nj := some 6) #[true, true, true, true, true, true, true, true, false, false, true, false, false, false] #[true, true, true, true, true, true, false, true, false, false, true, true, false, false] rfl rfl rfl rfl (by kernel_rfl) (by decide) (by decide) (fun K hK => ?_) (fun K hK => ?_)
                              · skip
                                refine goes_ Tryd.func16 (by kernel_rfl) rfl #[.agg #[.int .i64 M, .slice B L2.length d]] (by rfl) rfl rfl (by simp only [List.map_toArray, List.map_cons, List.map_nil]; rfl) ?_
                                with_reducible refine (OB.out _ (seq HC3.out (cur))).mono ?_
                                rintro e w3 ⟨rfl, hb⟩
                                refine ⟨_, rfl, ?_⟩
                                have cur3 := seq (cur) hb
                                have p3_10 := blk_below p10 hb
                                have hz3_4 := hz4.below hb
                                refine hK.out _ _ ⟨cell_below (cur3) x0, cell_below (cur3) x1, cell_below (cur3) y0, cell_below (cur3) y1⟩ (fun hHeld => ?_)
                                clear hK K
                                refine norm_ (a' := ?_) ?_ ?_
                                rotate_left
                                · show Act.put _ (some 22) _ = _
                                  simp only [Act.put, List.setIfInBounds_toArray, List.set_cons_zero, List.set_cons_succ, i64_w, i32_w]
                                  rfl
                                exact norm_ (by first | (simp only [putAll, Act.put, List.setIfInBounds_toArray, List.set_cons_zero, List.set_cons_succ]; done) | (simp only [putAll, Act.put, List.setIfInBounds_toArray, List.set_cons_zero, List.set_cons_succ]; rfl)) (hJ1_3_4_6_10 (ga10, gv4) _ ⟨cur3, p3_10, q10, hz3_4, zo4_10⟩)
                              · skip
                                refine value_ (w1 := ?_) (v := ?_) (by rfl) rfl ?_ ?_
                                rotate_left 2
                                · go_simp
                                  constructor
                                  · rfl
                                  · rfl
                                have cur3 := psh (cur) (Nat.le_refl _) (.cells #[.int .i64 0, .slice none 0 0] 27)
                                have p3_10 := blk_alloc p10 (.cells #[.int .i64 0, .slice none 0 0] 27)
                                have hz3_4 := hz4.below (psh (Below.refl w1.heap.size w1) (Nat.le_refl _) (.cells #[.int .i64 0, .slice none 0 0] 27))
                                refine hK.out _ _ ⟨cell_below (cur3) x0, cell_below (cur3) x1, cell_below (cur3) y0, cell_below (cur3) y1⟩ (fun hHeld => ?_)
                                clear hK K
                                refine norm_ (a' := ?_) ?_ ?_
                                rotate_left
                                · show Act.put _ (some 6) _ = _
                                  simp only [Act.put, List.setIfInBounds_toArray, List.set_cons_zero, List.set_cons_succ, i64_w, i32_w]
                                  rfl
                                exact norm_ (by first | (simp only [putAll, Act.put, List.setIfInBounds_toArray, List.set_cons_zero, List.set_cons_succ]; done) | (simp only [putAll, Act.put, List.setIfInBounds_toArray, List.set_cons_zero, List.set_cons_succ]; rfl)) (hJ1_3_4_10_11 (ga10, w1.heap.size, gv4) _ ⟨cur3, p3_10, q10, blk_new _ _, (cur).size, (Nat.ne_of_lt (blk_lt p10)), hz3_4, zo4_10, zoff_new hz4⟩)
                          · skip
                            rintro gv4 w1 ⟨cur, hz4⟩
                            have hHeld : w1.cell? ⟨s, 0, none⟩ = some (.int .i64 N) ∧ w1.cell? ⟨s, 1, none⟩ = some (.slice A L.length c) ∧ w1.cell? ⟨s + 1, 0, none⟩ = some (.int .i64 M) ∧ w1.cell? ⟨s + 1, 1, none⟩ = some (.slice B L2.length d) := ⟨cell_below (cur) x0, cell_below (cur) x1, cell_below (cur) y0, cell_below (cur) y1⟩
                            refine norm_ (a' := ?_) ?_ ?_
                            rotate_left
                            · simp only [putAll, Act.put, List.setIfInBounds_toArray, List.set_cons_zero, List.set_cons_succ]
                              rfl
                            refine three_ (i := 8) (j := 10) (k := 11) (Ni := some 24) (Nj := some 5) (Nk := some 6) #[true, true, true, true, true, true, true, true, true, false, false, false, false, false] #[true, true, true, true, true, true, true, true, false, false, true, false, false, false] #[true, true, true, true, true, true, true, true, false, false, false, true, false, false] rfl rfl rfl rfl rfl rfl (by kernel_rfl) (by decide) (by decide) (by decide) (fun K hK => ?_) (fun K hK => ?_) (fun K hK => ?_)
                            · skip
                              refine goes_ Tryd.func16 (by kernel_rfl) rfl #[.agg #[.int .i64 M, .slice B L2.length d]] (by rfl) rfl rfl (by simp only [List.map_toArray, List.map_cons, List.map_nil]; rfl) ?_
                              with_reducible refine (OB.out _ (seq HC3.out (cur))).mono ?_
                              rintro e w3 ⟨rfl, hb⟩
                              refine ⟨_, rfl, ?_⟩
                              have cur3 := seq (cur) hb
                              have hz3_4 := hz4.below hb
                              refine hK.out _ _ ⟨cell_below (cur3) x0, cell_below (cur3) x1, cell_below (cur3) y0, cell_below (cur3) y1⟩ (fun hHeld => ?_)
                              clear hK K
                              refine norm_ (a' := ?_) ?_ ?_
                              rotate_left
                              · show Act.put _ (some 24) _ = _
                                simp only [Act.put, List.setIfInBounds_toArray, List.set_cons_zero, List.set_cons_succ, i64_w, i32_w]
                                rfl
                              exact norm_ (by first | (simp only [putAll, Act.put, List.setIfInBounds_toArray, List.set_cons_zero, List.set_cons_succ]; done) | (simp only [putAll, Act.put, List.setIfInBounds_toArray, List.set_cons_zero, List.set_cons_succ]; rfl)) (hJ1_3_4_6_8 gv4 _ ⟨cur3, hz3_4⟩)
                            · skip
                              refine value_ (w1 := ?_) (v := ?_) (by rfl) rfl ?_ ?_
                              rotate_left 2
                              · go_simp
                                constructor
                                · rfl
                                · rfl
                              have cur3 := psh (cur) (Nat.le_refl _) (.cells #[.int .i64 0, .slice none 0 0] 27)
                              have hz3_4 := hz4.below (psh (Below.refl w1.heap.size w1) (Nat.le_refl _) (.cells #[.int .i64 0, .slice none 0 0] 27))
                              refine hK.out _ _ ⟨cell_below (cur3) x0, cell_below (cur3) x1, cell_below (cur3) y0, cell_below (cur3) y1⟩ (fun hHeld => ?_)
                              clear hK K
                              refine norm_ (a' := ?_) ?_ ?_
                              rotate_left
                              · show Act.put _ (some 5) _ = _
                                simp only [Act.put, List.setIfInBounds_toArray, List.set_cons_zero, List.set_cons_succ, i64_w, i32_w]
                                rfl
                              exact norm_ (by first | (simp only [putAll, Act.put, List.setIfInBounds_toArray, List.set_cons_zero, List.set_cons_succ]; done) | (simp only [putAll, Act.put, List.setIfInBounds_toArray, List.set_cons_zero, List.set_cons_succ]; rfl)) (hJ1_3_4_6_10 (w1.heap.size, gv4) _ ⟨cur3, blk_new _ _, (cur).size, hz3_4, zoff_new hz4⟩)
                            · skip
                              refine value_ (w1 := ?_) (v := ?_) (by rfl) rfl ?_ ?_
                              rotate_left 2
                              · go_simp
                                constructor
                                · rfl
                                · rfl
                              have cur3 := psh (cur) (Nat.le_refl _) (.cells #[.int .i64 0, .slice none 0 0] 27)
                              have hz3_4 := hz4.below (psh (Below.refl w1.heap.size w1) (Nat.le_refl _) (.cells #[.int .i64 0, .slice none 0 0] 27))
                              refine hK.out _ _ ⟨cell_below (cur3) x0, cell_below (cur3) x1, cell_below (cur3) y0, cell_below (cur3) y1⟩ (fun hHeld => ?_)
                              clear hK K
                              refine norm_ (a' := ?_) ?_ ?_
                              rotate_left
                              · show Act.put _ (some 6) _ = _
                                simp only [Act.put, List.setIfInBounds_toArray, List.set_cons_zero, List.set_cons_succ, i64_w, i32_w]
                                rfl
                              exact norm_ (by first | (simp only [putAll, Act.put, List.setIfInBounds_toArray, List.set_cons_zero, List.set_cons_succ]; done) | (simp only [putAll, Act.put, List.setIfInBounds_toArray, List.set_cons_zero, List.set_cons_succ]; rfl)) (hJ1_3_4_6_11 (w1.heap.size, gv4) _ ⟨cur3, blk_new _ _, (cur).size, hz3_4, zoff_new hz4⟩)
                        · skip
                          rintro ⟨ga10, ga11, gv4⟩ w1 ⟨cur, p10, q10, p11, q11, ne10_11, hz4, zo4_10, zo4_11⟩
                          dsimp only at p10 q10 p11 q11 ne10_11 hz4 zo4_10 zo4_11
                          have hHeld : w1.cell? ⟨s, 0, none⟩ = some (.int .i64 N) ∧ w1.cell? ⟨s, 1, none⟩ = some (.slice A L.length c) ∧ w1.cell? ⟨s + 1, 0, none⟩ = some (.int .i64 M) ∧ w1.cell? ⟨s + 1, 1, none⟩ = some (.slice B L2.length d) := ⟨cell_below (cur) x0, cell_below (cur) x1, cell_below (cur) y0, cell_below (cur) y1⟩
                          refine norm_ (a' := ?_) ?_ ?_
                          rotate_left
                          · simp only [putAll, Act.put, List.setIfInBounds_toArray, List.set_cons_zero, List.set_cons_succ]
                            rfl
                          refine one_ (i := 6) (N := some 22) #[true, true, true, true, true, true, true, true, false, false, true, true, false, false] rfl rfl (by kernel_rfl) (by decide) (fun K hK => ?_)
                          refine goes_ Tryd.func16 (by kernel_rfl) rfl #[.agg #[.int .i64 M, .slice B L2.length d]] (by rfl) rfl rfl (by simp only [List.map_toArray, List.map_cons, List.map_nil]; rfl) ?_
                          with_reducible refine (OB.out _ (seq HC3.out (cur))).mono ?_
                          rintro e w3 ⟨rfl, hb⟩
                          refine ⟨_, rfl, ?_⟩
                          have cur3 := seq (cur) hb
                          have p3_10 := blk_below p10 hb
                          have p3_11 := blk_below p11 hb
                          have hz3_4 := hz4.below hb
                          refine hK.out _ _ ⟨cell_below (cur3) x0, cell_below (cur3) x1, cell_below (cur3) y0, cell_below (cur3) y1⟩ (fun hHeld => ?_)
                          clear hK K
                          refine norm_ (a' := ?_) ?_ ?_
                          rotate_left
                          · show Act.put _ (some 22) _ = _
                            simp only [Act.put, List.setIfInBounds_toArray, List.set_cons_zero, List.set_cons_succ, i64_w, i32_w]
                            rfl
                          exact norm_ (by first | (simp only [putAll, Act.put, List.setIfInBounds_toArray, List.set_cons_zero, List.set_cons_succ]; done) | (simp only [putAll, Act.put, List.setIfInBounds_toArray, List.set_cons_zero, List.set_cons_succ]; rfl)) (hJ1_3_4_6_10_11 (ga10, ga11, gv4) _ ⟨cur3, p3_10, q10, p3_11, q11, ne10_11, hz3_4, zo4_10, zo4_11⟩)
                      · skip
                        rintro ⟨ga11, gv4⟩ w1 ⟨cur, p11, q11, hz4, zo4_11⟩
                        dsimp only at p11 q11 hz4 zo4_11
                        have hHeld : w1.cell? ⟨s, 0, none⟩ = some (.int .i64 N) ∧ w1.cell? ⟨s, 1, none⟩ = some (.slice A L.length c) ∧ w1.cell? ⟨s + 1, 0, none⟩ = some (.int .i64 M) ∧ w1.cell? ⟨s + 1, 1, none⟩ = some (.slice B L2.length d) := ⟨cell_below (cur) x0, cell_below (cur) x1, cell_below (cur) y0, cell_below (cur) y1⟩
                        refine norm_ (a' := ?_) ?_ ?_
                        rotate_left
                        · simp only [putAll, Act.put, List.setIfInBounds_toArray, List.set_cons_zero, List.set_cons_succ]
                          rfl
                        refine two_ (i := 8) (j := 10) (Ni := some 24) (Nj := some 5) #[true, true, true, true, true, true, true, true, true, false, false, true, false, false] #[true, true, true, true, true, true, true, true, false, false, true, true, false, false] rfl rfl rfl rfl (by kernel_rfl) (by decide) (by decide) (fun K hK => ?_) (fun K hK => ?_)
                        · skip
                          refine goes_ Tryd.func16 (by kernel_rfl) rfl #[.agg #[.int .i64 M, .slice B L2.length d]] (by rfl) rfl rfl (by simp only [List.map_toArray, List.map_cons, List.map_nil]; rfl) ?_
                          with_reducible refine (OB.out _ (seq HC3.out (cur))).mono ?_
                          rintro e w3 ⟨rfl, hb⟩
                          refine ⟨_, rfl, ?_⟩
                          have cur3 := seq (cur) hb
                          have p3_11 := blk_below p11 hb
                          have hz3_4 := hz4.below hb
                          refine hK.out _ _ ⟨cell_below (cur3) x0, cell_below (cur3) x1, cell_below (cur3) y0, cell_below (cur3) y1⟩ (fun hHeld => ?_)
                          clear hK K
                          refine norm_ (a' := ?_) ?_ ?_
                          rotate_left
                          · show Act.put _ (some 24) _ = _
                            simp only [Act.put, List.setIfInBounds_toArray, List.set_cons_zero, List.set_cons_succ, i64_w, i32_w]
                            rfl
                          exact norm_ (by first | (simp only [putAll, Act.put, List.setIfInBounds_toArray, List.set_cons_zero, List.set_cons_succ]; done) | (simp only [putAll, Act.put, List.setIfInBounds_toArray, List.set_cons_zero, List.set_cons_succ]; rfl)) (hJ1_3_4_6_8_11 (ga11, gv4) _ ⟨cur3, p3_11, q11, hz3_4, zo4_11⟩)
                        · skip
                          refine value_ (w1 := ?_) (v := ?_) (by rfl) rfl ?_ ?_
                          rotate_left 2
                          · go_simp
                            constructor
                            · rfl
                            · rfl
                          have cur3 := psh (cur) (Nat.le_refl _) (.cells #[.int .i64 0, .slice none 0 0] 27)
                          have p3_11 := blk_alloc p11 (.cells #[.int .i64 0, .slice none 0 0] 27)
                          have hz3_4 := hz4.below (psh (Below.refl w1.heap.size w1) (Nat.le_refl _) (.cells #[.int .i64 0, .slice none 0 0] 27))
                          refine hK.out _ _ ⟨cell_below (cur3) x0, cell_below (cur3) x1, cell_below (cur3) y0, cell_below (cur3) y1⟩ (fun hHeld => ?_)
                          clear hK K
                          refine norm_ (a' := ?_) ?_ ?_
                          rotate_left
                          · show Act.put _ (some 5) _ = _
                            simp only [Act.put, List.setIfInBounds_toArray, List.set_cons_zero, List.set_cons_succ, i64_w, i32_w]
                            rfl
                          exact norm_ (by first | (simp only [putAll, Act.put, List.setIfInBounds_toArray, List.set_cons_zero, List.set_cons_succ]; done) | (simp only [putAll, Act.put, List.setIfInBounds_toArray, List.set_cons_zero, List.set_cons_succ]; rfl)) (hJ1_3_4_6_10_11 (w1.heap.size, ga11, gv4) _ ⟨cur3, blk_new _ _, (cur).size, p3_11, q11, (Nat.ne_of_gt (blk_lt p11)), hz3_4, zoff_new hz4, zo4_11⟩)
                    · skip
                      rintro ⟨ga10, gv4⟩ w1 ⟨cur, p10, q10, hz4, zo4_10⟩
                      dsimp only at p10 q10 hz4 zo4_10
                      have hHeld : w1.cell? ⟨s, 0, none⟩ = some (.int .i64 N) ∧ w1.cell? ⟨s, 1, none⟩ = some (.slice A L.length c) ∧ w1.cell? ⟨s + 1, 0, none⟩ = some (.int .i64 M) ∧ w1.cell? ⟨s + 1, 1, none⟩ = some (.slice B L2.length d) := ⟨cell_below (cur) x0, cell_below (cur) x1, cell_below (cur) y0, cell_below (cur) y1⟩
                      refine norm_ (a' := ?_) ?_ ?_
                      rotate_left
                      · simp only [putAll, Act.put, List.setIfInBounds_toArray, List.set_cons_zero, List.set_cons_succ]
                        rfl
                      refine two_ (i := 8) (j := 11) (Ni := some 24) (Nj := some 6) #[true, true, true, true, true, true, true, true, true, false, true, false, false, false] #[true, true, true, true, true, true, true, true, false, false, true, true, false, false] rfl rfl rfl rfl (by kernel_rfl) (by decide) (by decide) (fun K hK => ?_) (fun K hK => ?_)
                      · skip
                        refine goes_ Tryd.func16 (by kernel_rfl) rfl #[.agg #[.int .i64 M, .slice B L2.length d]] (by rfl) rfl rfl (by simp only [List.map_toArray, List.map_cons, List.map_nil]; rfl) ?_
                        with_reducible refine (OB.out _ (seq HC3.out (cur))).mono ?_
                        rintro e w3 ⟨rfl, hb⟩
                        refine ⟨_, rfl, ?_⟩
                        have cur3 := seq (cur) hb
                        have p3_10 := blk_below p10 hb
                        have hz3_4 := hz4.below hb
                        refine hK.out _ _ ⟨cell_below (cur3) x0, cell_below (cur3) x1, cell_below (cur3) y0, cell_below (cur3) y1⟩ (fun hHeld => ?_)
                        clear hK K
                        refine norm_ (a' := ?_) ?_ ?_
                        rotate_left
                        · show Act.put _ (some 24) _ = _
                          simp only [Act.put, List.setIfInBounds_toArray, List.set_cons_zero, List.set_cons_succ, i64_w, i32_w]
                          rfl
                        exact norm_ (by first | (simp only [putAll, Act.put, List.setIfInBounds_toArray, List.set_cons_zero, List.set_cons_succ]; done) | (simp only [putAll, Act.put, List.setIfInBounds_toArray, List.set_cons_zero, List.set_cons_succ]; rfl)) (hJ1_3_4_6_8_10 (ga10, gv4) _ ⟨cur3, p3_10, q10, hz3_4, zo4_10⟩)
                      · skip
                        refine value_ (w1 := ?_) (v := ?_) (by rfl) rfl ?_ ?_
                        rotate_left 2
                        · go_simp
                          constructor
                          · rfl
                          · rfl
                        have cur3 := psh (cur) (Nat.le_refl _) (.cells #[.int .i64 0, .slice none 0 0] 27)
                        have p3_10 := blk_alloc p10 (.cells #[.int .i64 0, .slice none 0 0] 27)
                        have hz3_4 := hz4.below (psh (Below.refl w1.heap.size w1) (Nat.le_refl _) (.cells #[.int .i64 0, .slice none 0 0] 27))
                        refine hK.out _ _ ⟨cell_below (cur3) x0, cell_below (cur3) x1, cell_below (cur3) y0, cell_below (cur3) y1⟩ (fun hHeld => ?_)
                        clear hK K
                        refine norm_ (a' := ?_) ?_ ?_
                        rotate_left
                        · show Act.put _ (some 6) _ = _
                          simp only [Act.put, List.setIfInBounds_toArray, List.set_cons_zero, List.set_cons_succ, i64_w, i32_w]
                          rfl
                        exact norm_ (by first | (simp only [putAll, Act.put, List.setIfInBounds_toArray, List.set_cons_zero, List.set_cons_succ]; done) | (simp only [putAll, Act.put, List.setIfInBounds_toArray, List.set_cons_zero, List.set_cons_succ]; rfl)) (hJ1_3_4_6_10_11 (ga10, w1.heap.size, gv4) _ ⟨cur3, p3_10, q10, blk_new _ _, (cur).size, (Nat.ne_of_lt (blk_lt p10)), hz3_4, zo4_10, zoff_new hz4⟩)
                  · skip
                    rintro gv4 w1 ⟨cur, hz4⟩
                    have hHeld : w1.cell? ⟨s, 0, none⟩ = some (.int .i64 N) ∧ w1.cell? ⟨s, 1, none⟩ = some (.slice A L.length c) ∧ w1.cell? ⟨s + 1, 0, none⟩ = some (.int .i64 M) ∧ w1.cell? ⟨s + 1, 1, none⟩ = some (.slice B L2.length d) := ⟨cell_below (cur) x0, cell_below (cur) x1, cell_below (cur) y0, cell_below (cur) y1⟩
                    refine norm_ (a' := ?_) ?_ ?_
                    rotate_left
                    · simp only [putAll, Act.put, List.setIfInBounds_toArray, List.set_cons_zero, List.set_cons_succ]
                      rfl
                    refine three_ (i := 9) (j := 10) (k := 11) (Ni := some 25) (Nj := some 5) (Nk := some 6) #[true, true, true, true, true, true, true, true, true, true, false, false, false, false] #[true, true, true, true, true, true, true, true, true, false, true, false, false, false] #[true, true, true, true, true, true, true, true, true, false, false, true, false, false] rfl rfl rfl rfl rfl rfl (by kernel_rfl) (by decide) (by decide) (by decide) (fun K hK => ?_) (fun K hK => ?_) (fun K hK => ?_)
                    · skip
                      refine goes_ Tryd.func34 (by kernel_rfl) rfl #[.agg #[.int .i64 M, .slice B L2.length d], .agg #[.int .i64 M, .slice B L2.length d]] (by rfl) rfl rfl (by simp only [List.map_toArray, List.map_cons, List.map_nil]; rfl) ?_
                      with_reducible refine (MB.out _ (seq HC3.out (cur))).mono ?_
                      rintro e w3 ⟨gv9, rfl, hz3n, hb⟩
                      refine ⟨_, rfl, ?_⟩
                      have cur3 := seq (cur) hb
                      have hz3_4 := hz4.below hb
                      have hz3_9 := hz3n.lower (cur).size
                      refine hK.out _ _ ⟨cell_below (cur3) x0, cell_below (cur3) x1, cell_below (cur3) y0, cell_below (cur3) y1⟩ (fun hHeld => ?_)
                      clear hK K
                      refine norm_ (a' := ?_) ?_ ?_
                      rotate_left
                      · show Act.put _ (some 25) _ = _
                        simp only [Act.put, List.setIfInBounds_toArray, List.set_cons_zero, List.set_cons_succ, i64_w, i32_w]
                        rfl
                      exact norm_ (by first | (simp only [putAll, Act.put, List.setIfInBounds_toArray, List.set_cons_zero, List.set_cons_succ]; done) | (simp only [putAll, Act.put, List.setIfInBounds_toArray, List.set_cons_zero, List.set_cons_succ]; rfl)) (hJ1_3_4_6_8_9 (gv4, gv9) _ ⟨cur3, hz3_4, hz3_9⟩)
                    · skip
                      refine value_ (w1 := ?_) (v := ?_) (by rfl) rfl ?_ ?_
                      rotate_left 2
                      · go_simp
                        constructor
                        · rfl
                        · rfl
                      have cur3 := psh (cur) (Nat.le_refl _) (.cells #[.int .i64 0, .slice none 0 0] 27)
                      have hz3_4 := hz4.below (psh (Below.refl w1.heap.size w1) (Nat.le_refl _) (.cells #[.int .i64 0, .slice none 0 0] 27))
                      refine hK.out _ _ ⟨cell_below (cur3) x0, cell_below (cur3) x1, cell_below (cur3) y0, cell_below (cur3) y1⟩ (fun hHeld => ?_)
                      clear hK K
                      refine norm_ (a' := ?_) ?_ ?_
                      rotate_left
                      · show Act.put _ (some 5) _ = _
                        simp only [Act.put, List.setIfInBounds_toArray, List.set_cons_zero, List.set_cons_succ, i64_w, i32_w]
                        rfl
                      exact norm_ (by first | (simp only [putAll, Act.put, List.setIfInBounds_toArray, List.set_cons_zero, List.set_cons_succ]; done) | (simp only [putAll, Act.put, List.setIfInBounds_toArray, List.set_cons_zero, List.set_cons_succ]; rfl)) (hJ1_3_4_6_8_10 (w1.heap.size, gv4) _ ⟨cur3, blk_new _ _, (cur).size, hz3_4, zoff_new hz4⟩)
                    · skip
                      refine value_ (w1 := ?_) (v := ?_) (by rfl) rfl ?_ ?_
                      rotate_left 2
                      · go_simp
                        constructor
                        · rfl
                        · rfl
                      have cur3 := psh (cur) (Nat.le_refl _) (.cells #[.int .i64 0, .slice none 0 0] 27)
                      have hz3_4 := hz4.below (psh (Below.refl w1.heap.size w1) (Nat.le_refl _) (.cells #[.int .i64 0, .slice none 0 0] 27))
                      refine hK.out _ _ ⟨cell_below (cur3) x0, cell_below (cur3) x1, cell_below (cur3) y0, cell_below (cur3) y1⟩ (fun hHeld => ?_)
                      clear hK K
                      refine norm_ (a' := ?_) ?_ ?_
                      rotate_left
                      · show Act.put _ (some 6) _ = _
                        simp only [Act.put, List.setIfInBounds_toArray, List.set_cons_zero, List.set_cons_succ, i64_w, i32_w]
                        rfl
                      exact norm_ (by first | (simp only [putAll, Act.put, List.setIfInBounds_toArray, List.set_cons_zero, List.set_cons_succ]; done) | (simp only [putAll, Act.put, List.setIfInBounds_toArray, List.set_cons_zero, List.set_cons_succ]; rfl)) (hJ1_3_4_6_8_11 (w1.heap.size, gv4) _ ⟨cur3, blk_new _ _, (cur).size, hz3_4, zoff_new hz4⟩)
                · skip
                  rintro ⟨ga10, ga11, gv4⟩ w1 ⟨cur, p10, q10, p11, q11, ne10_11, hz4, zo4_10, zo4_11⟩
                  dsimp only at p10 q10 p11 q11 ne10_11 hz4 zo4_10 zo4_11
                  have hHeld : w1.cell? ⟨s, 0, none⟩ = some (.int .i64 N) ∧ w1.cell? ⟨s, 1, none⟩ = some (.slice A L.length c) ∧ w1.cell? ⟨s + 1, 0, none⟩ = some (.int .i64 M) ∧ w1.cell? ⟨s + 1, 1, none⟩ = some (.slice B L2.length d) := ⟨cell_below (cur) x0, cell_below (cur) x1, cell_below (cur) y0, cell_below (cur) y1⟩
                  refine norm_ (a' := ?_) ?_ ?_
                  rotate_left
                  · simp only [putAll, Act.put, List.setIfInBounds_toArray, List.set_cons_zero, List.set_cons_succ]
                    rfl
                  refine one_ (i := 8) (N := some 24) #[true, true, true, true, true, true, true, true, true, false, true, true, false, false] rfl rfl (by kernel_rfl) (by decide) (fun K hK => ?_)
                  refine goes_ Tryd.func16 (by kernel_rfl) rfl #[.agg #[.int .i64 M, .slice B L2.length d]] (by rfl) rfl rfl (by simp only [List.map_toArray, List.map_cons, List.map_nil]; rfl) ?_
                  with_reducible refine (OB.out _ (seq HC3.out (cur))).mono ?_
                  rintro e w3 ⟨rfl, hb⟩
                  refine ⟨_, rfl, ?_⟩
                  have cur3 := seq (cur) hb
                  have p3_10 := blk_below p10 hb
                  have p3_11 := blk_below p11 hb
                  have hz3_4 := hz4.below hb
                  refine hK.out _ _ ⟨cell_below (cur3) x0, cell_below (cur3) x1, cell_below (cur3) y0, cell_below (cur3) y1⟩ (fun hHeld => ?_)
                  clear hK K
                  refine norm_ (a' := ?_) ?_ ?_
                  rotate_left
                  · show Act.put _ (some 24) _ = _
                    simp only [Act.put, List.setIfInBounds_toArray, List.set_cons_zero, List.set_cons_succ, i64_w, i32_w]
                    rfl
                  exact norm_ (by first | (simp only [putAll, Act.put, List.setIfInBounds_toArray, List.set_cons_zero, List.set_cons_succ]; done) | (simp only [putAll, Act.put, List.setIfInBounds_toArray, List.set_cons_zero, List.set_cons_succ]; rfl)) (hJ1_3_4_6_8_10_11 (ga10, ga11, gv4) _ ⟨cur3, p3_10, q10, p3_11, q11, ne10_11, hz3_4, zo4_10, zo4_11⟩)
              · skip
                rintro ⟨ga11, gv4⟩ w1 ⟨cur, p11, q11, hz4, zo4_11⟩
                dsimp only at p11 q11 hz4 zo4_11
                have hHeld : w1.cell? ⟨s, 0, none⟩ = some (.int .i64 N) ∧ w1.cell? ⟨s, 1, none⟩ = some (.slice A L.length c) ∧ w1.cell? ⟨s + 1, 0, none⟩ = some (.int .i64 M) ∧ w1.cell? ⟨s + 1, 1, none⟩ = some (.slice B L2.length d) := ⟨cell_below (cur) x0, cell_below (cur) x1, cell_below (cur) y0, cell_below (cur) y1⟩
                refine norm_ (a' := ?_) ?_ ?_
                rotate_left
                · simp only [putAll, Act.put, List.setIfInBounds_toArray, List.set_cons_zero, List.set_cons_succ]
                  rfl
                refine two_ (i := 9) (j := 10) (Ni := some 25) (Nj := some 5) #[true, true, true, true, true, true, true, true, true, true, false, true, false, false] #[true, true, true, true, true, true, true, true, true, false, true, true, false, false] rfl rfl rfl rfl (by kernel_rfl) (by decide) (by decide) (fun K hK => ?_) (fun K hK => ?_)
                · skip
                  refine goes_ Tryd.func34 (by kernel_rfl) rfl #[.agg #[.int .i64 M, .slice B L2.length d], .agg #[.int .i64 M, .slice B L2.length d]] (by rfl) rfl rfl (by simp only [List.map_toArray, List.map_cons, List.map_nil]; rfl) ?_
                  with_reducible refine (MB.out _ (seq HC3.out (cur))).mono ?_
                  rintro e w3 ⟨gv9, rfl, hz3n, hb⟩
                  refine ⟨_, rfl, ?_⟩
                  have cur3 := seq (cur) hb
                  have p3_11 := blk_below p11 hb
                  have hz3_4 := hz4.below hb
                  have hz3_9 := hz3n.lower (cur).size
                  refine hK.out _ _ ⟨cell_below (cur3) x0, cell_below (cur3) x1, cell_below (cur3) y0, cell_below (cur3) y1⟩ (fun hHeld => ?_)
                  clear hK K
                  refine norm_ (a' := ?_) ?_ ?_
                  rotate_left
                  · show Act.put _ (some 25) _ = _
                    simp only [Act.put, List.setIfInBounds_toArray, List.set_cons_zero, List.set_cons_succ, i64_w, i32_w]
                    rfl
                  exact norm_ (by first | (simp only [putAll, Act.put, List.setIfInBounds_toArray, List.set_cons_zero, List.set_cons_succ]; done) | (simp only [putAll, Act.put, List.setIfInBounds_toArray, List.set_cons_zero, List.set_cons_succ]; rfl)) (hJ1_3_4_6_8_9_11 (ga11, gv4, gv9) _ ⟨cur3, p3_11, q11, hz3_4, hz3_9, zo4_11, zoff_old hz3n (blk_lt p11)⟩)
                · skip
                  refine value_ (w1 := ?_) (v := ?_) (by rfl) rfl ?_ ?_
                  rotate_left 2
                  · go_simp
                    constructor
                    · rfl
                    · rfl
                  have cur3 := psh (cur) (Nat.le_refl _) (.cells #[.int .i64 0, .slice none 0 0] 27)
                  have p3_11 := blk_alloc p11 (.cells #[.int .i64 0, .slice none 0 0] 27)
                  have hz3_4 := hz4.below (psh (Below.refl w1.heap.size w1) (Nat.le_refl _) (.cells #[.int .i64 0, .slice none 0 0] 27))
                  refine hK.out _ _ ⟨cell_below (cur3) x0, cell_below (cur3) x1, cell_below (cur3) y0, cell_below (cur3) y1⟩ (fun hHeld => ?_)
                  clear hK K
                  refine norm_ (a' := ?_) ?_ ?_
                  rotate_left
                  · show Act.put _ (some 5) _ = _
                    simp only [Act.put, List.setIfInBounds_toArray, List.set_cons_zero, List.set_cons_succ, i64_w, i32_w]
                    rfl
                  exact norm_ (by first | (simp only [putAll, Act.put, List.setIfInBounds_toArray, List.set_cons_zero, List.set_cons_succ]; done) | (simp only [putAll, Act.put, List.setIfInBounds_toArray, List.set_cons_zero, List.set_cons_succ]; rfl)) (hJ1_3_4_6_8_10_11 (w1.heap.size, ga11, gv4) _ ⟨cur3, blk_new _ _, (cur).size, p3_11, q11, (Nat.ne_of_gt (blk_lt p11)), hz3_4, zoff_new hz4, zo4_11⟩)
            · skip
              rintro ⟨ga10, gv4⟩ w1 ⟨cur, p10, q10, hz4, zo4_10⟩
              dsimp only at p10 q10 hz4 zo4_10
              have hHeld : w1.cell? ⟨s, 0, none⟩ = some (.int .i64 N) ∧ w1.cell? ⟨s, 1, none⟩ = some (.slice A L.length c) ∧ w1.cell? ⟨s + 1, 0, none⟩ = some (.int .i64 M) ∧ w1.cell? ⟨s + 1, 1, none⟩ = some (.slice B L2.length d) := ⟨cell_below (cur) x0, cell_below (cur) x1, cell_below (cur) y0, cell_below (cur) y1⟩
              refine norm_ (a' := ?_) ?_ ?_
              rotate_left
              · simp only [putAll, Act.put, List.setIfInBounds_toArray, List.set_cons_zero, List.set_cons_succ]
                rfl
              refine two_ (i := 9) (j := 11) (Ni := some 25) (Nj := some 6) #[true, true, true, true, true, true, true, true, true, true, true, false, false, false] #[true, true, true, true, true, true, true, true, true, false, true, true, false, false] rfl rfl rfl rfl (by kernel_rfl) (by decide) (by decide) (fun K hK => ?_) (fun K hK => ?_)
              · skip
                refine goes_ Tryd.func34 (by kernel_rfl) rfl #[.agg #[.int .i64 M, .slice B L2.length d], .agg #[.int .i64 M, .slice B L2.length d]] (by rfl) rfl rfl (by simp only [List.map_toArray, List.map_cons, List.map_nil]; rfl) ?_
                with_reducible refine (MB.out _ (seq HC3.out (cur))).mono ?_
                rintro e w3 ⟨gv9, rfl, hz3n, hb⟩
                refine ⟨_, rfl, ?_⟩
                have cur3 := seq (cur) hb
                have p3_10 := blk_below p10 hb
                have hz3_4 := hz4.below hb
                have hz3_9 := hz3n.lower (cur).size
                refine hK.out _ _ ⟨cell_below (cur3) x0, cell_below (cur3) x1, cell_below (cur3) y0, cell_below (cur3) y1⟩ (fun hHeld => ?_)
                clear hK K
                refine norm_ (a' := ?_) ?_ ?_
                rotate_left
                · show Act.put _ (some 25) _ = _
                  simp only [Act.put, List.setIfInBounds_toArray, List.set_cons_zero, List.set_cons_succ, i64_w, i32_w]
                  rfl
                exact norm_ (by first | (simp only [putAll, Act.put, List.setIfInBounds_toArray, List.set_cons_zero, List.set_cons_succ]; done) | (simp only [putAll, Act.put, List.setIfInBounds_toArray, List.set_cons_zero, List.set_cons_succ]; rfl)) (hJ1_3_4_6_8_9_10 (ga10, gv4, gv9) _ ⟨cur3, p3_10, q10, hz3_4, hz3_9, zo4_10, zoff_old hz3n (blk_lt p10)⟩)
              · skip
                refine value_ (w1 := ?_) (v := ?_) (by rfl) rfl ?_ ?_
                rotate_left 2
                · go_simp
                  constructor
                  · rfl
                  · rfl
                have cur3 := psh (cur) (Nat.le_refl _) (.cells #[.int .i64 0, .slice none 0 0] 27)
                have p3_10 := blk_alloc p10 (.cells #[.int .i64 0, .slice none 0 0] 27)
                have hz3_4 := hz4.below (psh (Below.refl w1.heap.size w1) (Nat.le_refl _) (.cells #[.int .i64 0, .slice none 0 0] 27))
                refine hK.out _ _ ⟨cell_below (cur3) x0, cell_below (cur3) x1, cell_below (cur3) y0, cell_below (cur3) y1⟩ (fun hHeld => ?_)
                clear hK K
                refine norm_ (a' := ?_) ?_ ?_
                rotate_left
                · show Act.put _ (some 6) _ = _
                  simp only [Act.put, List.setIfInBounds_toArray, List.set_cons_zero, List.set_cons_succ, i64_w, i32_w]
                  rfl
                exact norm_ (by first | (simp only [putAll, Act.put, List.setIfInBounds_toArray, List.set_cons_zero, List.set_cons_succ]; done) | (simp only [putAll, Act.put, List.setIfInBounds_toArray, List.set_cons_zero, List.set_cons_succ]; rfl)) (hJ1_3_4_6_8_10_11 (ga10, w1.heap.size, gv4) _ ⟨cur3, p3_10, q10, blk_new _ _, (cur).size, (Nat.ne_of_lt (blk_lt p10)), hz3_4, zo4_10, zoff_new hz4⟩)
          · skip
            rintro ⟨gv4, gv9⟩ w1 ⟨cur, hz4, hz9⟩
            dsimp only at hz4 hz9
            have hHeld : w1.cell? ⟨s, 0, none⟩ = some (.int .i64 N) ∧ w1.cell? ⟨s, 1, none⟩ = some (.slice A L.length c) ∧ w1.cell? ⟨s + 1, 0, none⟩ = some (.int .i64 M) ∧ w1.cell? ⟨s + 1, 1, none⟩ = some (.slice B L2.length d) := ⟨cell_below (cur) x0, cell_below (cur) x1, cell_below (cur) y0, cell_below (cur) y1⟩
            refine norm_ (a' := ?_) ?_ ?_
            rotate_left
            · simp only [putAll, Act.put, List.setIfInBounds_toArray, List.set_cons_zero, List.set_cons_succ]
              rfl
            refine two_ (i := 10) (j := 11) (Ni := some 5) (Nj := some 6) #[true, true, true, true, true, true, true, true, true, true, true, false, false, false] #[true, true, true, true, true, true, true, true, true, true, false, true, false, false] rfl rfl rfl rfl (by kernel_rfl) (by decide) (by decide) (fun K hK => ?_) (fun K hK => ?_)
            · skip
              refine value_ (w1 := ?_) (v := ?_) (by rfl) rfl ?_ ?_
              rotate_left 2
              · go_simp
                constructor
                · rfl
                · rfl
              have cur3 := psh (cur) (Nat.le_refl _) (.cells #[.int .i64 0, .slice none 0 0] 27)
              have hz3_4 := hz4.below (psh (Below.refl w1.heap.size w1) (Nat.le_refl _) (.cells #[.int .i64 0, .slice none 0 0] 27))
              have hz3_9 := hz9.below (psh (Below.refl w1.heap.size w1) (Nat.le_refl _) (.cells #[.int .i64 0, .slice none 0 0] 27))
              refine hK.out _ _ ⟨cell_below (cur3) x0, cell_below (cur3) x1, cell_below (cur3) y0, cell_below (cur3) y1⟩ (fun hHeld => ?_)
              clear hK K
              refine norm_ (a' := ?_) ?_ ?_
              rotate_left
              · show Act.put _ (some 5) _ = _
                simp only [Act.put, List.setIfInBounds_toArray, List.set_cons_zero, List.set_cons_succ, i64_w, i32_w]
                rfl
              exact norm_ (by first | (simp only [putAll, Act.put, List.setIfInBounds_toArray, List.set_cons_zero, List.set_cons_succ]; done) | (simp only [putAll, Act.put, List.setIfInBounds_toArray, List.set_cons_zero, List.set_cons_succ]; rfl)) (hJ1_3_4_6_8_9_10 (w1.heap.size, gv4, gv9) _ ⟨cur3, blk_new _ _, (cur).size, hz3_4, hz3_9, zoff_new hz4, zoff_new hz9⟩)
            · skip
              refine value_ (w1 := ?_) (v := ?_) (by rfl) rfl ?_ ?_
              rotate_left 2
              · go_simp
                constructor
                · rfl
                · rfl
              have cur3 := psh (cur) (Nat.le_refl _) (.cells #[.int .i64 0, .slice none 0 0] 27)
              have hz3_4 := hz4.below (psh (Below.refl w1.heap.size w1) (Nat.le_refl _) (.cells #[.int .i64 0, .slice none 0 0] 27))
              have hz3_9 := hz9.below (psh (Below.refl w1.heap.size w1) (Nat.le_refl _) (.cells #[.int .i64 0, .slice none 0 0] 27))
              refine hK.out _ _ ⟨cell_below (cur3) x0, cell_below (cur3) x1, cell_below (cur3) y0, cell_below (cur3) y1⟩ (fun hHeld => ?_)
              clear hK K
              refine norm_ (a' := ?_) ?_ ?_
              rotate_left
              · show Act.put _ (some 6) _ = _
                simp only [Act.put, List.setIfInBounds_toArray, List.set_cons_zero, List.set_cons_succ, i64_w, i32_w]
                rfl
              exact norm_ (by first | (simp only [putAll, Act.put, List.setIfInBounds_toArray, List.set_cons_zero, List.set_cons_succ]; done) | (simp only [putAll, Act.put, List.setIfInBounds_toArray, List.set_cons_zero, List.set_cons_succ]; rfl)) (hJ1_3_4_6_8_9_11 (w1.heap.size, gv4, gv9) _ ⟨cur3, blk_new _ _, (cur).size, hz3_4, hz3_9, zoff_new hz4, zoff_new hz9⟩)
        · skip
          rintro ⟨ga10, ga11, gv4⟩ w1 ⟨cur, p10, q10, p11, q11, ne10_11, hz4, zo4_10, zo4_11⟩
          dsimp only at p10 q10 p11 q11 ne10_11 hz4 zo4_10 zo4_11
          have hHeld : w1.cell? ⟨s, 0, none⟩ = some (.int .i64 N) ∧ w1.cell? ⟨s, 1, none⟩ = some (.slice A L.length c) ∧ w1.cell? ⟨s + 1, 0, none⟩ = some (.int .i64 M) ∧ w1.cell? ⟨s + 1, 1, none⟩ = some (.slice B L2.length d) := ⟨cell_below (cur) x0, cell_below (cur) x1, cell_below (cur) y0, cell_below (cur) y1⟩
          refine norm_ (a' := ?_) ?_ ?_
          rotate_left
          · simp only [putAll, Act.put, List.setIfInBounds_toArray, List.set_cons_zero, List.set_cons_succ]
            rfl
          refine one_ (i := 9) (N := some 25) #[true, true, true, true, true, true, true, true, true, true, true, true, false, false] rfl rfl (by kernel_rfl) (by decide) (fun K hK => ?_)
          refine goes_ Tryd.func34 (by kernel_rfl) rfl #[.agg #[.int .i64 M, .slice B L2.length d], .agg #[.int .i64 M, .slice B L2.length d]] (by rfl) rfl rfl (by simp only [List.map_toArray, List.map_cons, List.map_nil]; rfl) ?_
          with_reducible refine (MB.out _ (seq HC3.out (cur))).mono ?_
          rintro e w3 ⟨gv9, rfl, hz3n, hb⟩
          refine ⟨_, rfl, ?_⟩
          have cur3 := seq (cur) hb
          have p3_10 := blk_below p10 hb
          have p3_11 := blk_below p11 hb
          have hz3_4 := hz4.below hb
          have hz3_9 := hz3n.lower (cur).size
          refine hK.out _ _ ⟨cell_below (cur3) x0, cell_below (cur3) x1, cell_below (cur3) y0, cell_below (cur3) y1⟩ (fun hHeld => ?_)
          clear hK K
          refine norm_ (a' := ?_) ?_ ?_
          rotate_left
          · show Act.put _ (some 25) _ = _
            simp only [Act.put, List.setIfInBounds_toArray, List.set_cons_zero, List.set_cons_succ, i64_w, i32_w]
            rfl
          exact norm_ (by first | (simp only [putAll, Act.put, List.setIfInBounds_toArray, List.set_cons_zero, List.set_cons_succ]; done) | (simp only [putAll, Act.put, List.setIfInBounds_toArray, List.set_cons_zero, List.set_cons_succ]; rfl)) (hJ1_3_4_6_8_9_10_11 (ga10, ga11, gv4, gv9) _ ⟨cur3, p3_10, q10, p3_11, q11, ne10_11, hz3_4, hz3_9, zo4_10, zo4_11, zoff_old hz3n (blk_lt p10), zoff_old hz3n (blk_lt p11)⟩)
      · skip
        rintro ⟨ga11, gv4, gv9⟩ w1 ⟨cur, p11, q11, hz4, hz9, zo4_11, zo9_11⟩
        dsimp only at p11 q11 hz4 hz9 zo4_11 zo9_11
        have hHeld : w1.cell? ⟨s, 0, none⟩ = some (.int .i64 N) ∧ w1.cell? ⟨s, 1, none⟩ = some (.slice A L.length c) ∧ w1.cell? ⟨s + 1, 0, none⟩ = some (.int .i64 M) ∧ w1.cell? ⟨s + 1, 1, none⟩ = some (.slice B L2.length d) := ⟨cell_below (cur) x0, cell_below (cur) x1, cell_below (cur) y0, cell_below (cur) y1⟩
        refine norm_ (a' := ?_) ?_ ?_
        rotate_left
        · simp only [putAll, Act.put, List.setIfInBounds_toArray, List.set_cons_zero, List.set_cons_succ]
          rfl
        refine one_ (i := 10) (N := some 5) #[true, true, true, true, true, true, true, true, true, true, true, true, false, false] rfl rfl (by kernel_rfl) (by decide) (fun K hK => ?_)
        refine value_ (w1 := ?_) (v := ?_) (by rfl) rfl ?_ ?_
        rotate_left 2
        · go_simp
          constructor
          · rfl
          · rfl
        have cur3 := psh (cur) (Nat.le_refl _) (.cells #[.int .i64 0, .slice none 0 0] 27)
        have p3_11 := blk_alloc p11 (.cells #[.int .i64 0, .slice none 0 0] 27)
        have hz3_4 := hz4.below (psh (Below.refl w1.heap.size w1) (Nat.le_refl _) (.cells #[.int .i64 0, .slice none 0 0] 27))
        have hz3_9 := hz9.below (psh (Below.refl w1.heap.size w1) (Nat.le_refl _) (.cells #[.int .i64 0, .slice none 0 0] 27))
        refine hK.out _ _ ⟨cell_below (cur3) x0, cell_below (cur3) x1, cell_below (cur3) y0, cell_below (cur3) y1⟩ (fun hHeld => ?_)
        clear hK K
        refine norm_ (a' := ?_) ?_ ?_
        rotate_left
        · show Act.put _ (some 5) _ = _
          simp only [Act.put, List.setIfInBounds_toArray, List.set_cons_zero, List.set_cons_succ, i64_w, i32_w]
          rfl
        exact norm_ (by first | (simp only [putAll, Act.put, List.setIfInBounds_toArray, List.set_cons_zero, List.set_cons_succ]; done) | (simp only [putAll, Act.put, List.setIfInBounds_toArray, List.set_cons_zero, List.set_cons_succ]; rfl)) (hJ1_3_4_6_8_9_10_11 (w1.heap.size, ga11, gv4, gv9) _ ⟨cur3, blk_new _ _, (cur).size, p3_11, q11, (Nat.ne_of_gt (blk_lt p11)), hz3_4, hz3_9, zoff_new hz4, zo4_11, zoff_new hz9, zo9_11⟩)
    · skip
      rintro ⟨ga10, gv4, gv9⟩ w1 ⟨cur, p10, q10, hz4, hz9, zo4_10, zo9_10⟩
      dsimp only at p10 q10 hz4 hz9 zo4_10 zo9_10
      have hHeld : w1.cell? ⟨s, 0, none⟩ = some (.int .i64 N) ∧ w1.cell? ⟨s, 1, none⟩ = some (.slice A L.length c) ∧ w1.cell? ⟨s + 1, 0, none⟩ = some (.int .i64 M) ∧ w1.cell? ⟨s + 1, 1, none⟩ = some (.slice B L2.length d) := ⟨cell_below (cur) x0, cell_below (cur) x1, cell_below (cur) y0, cell_below (cur) y1⟩
      refine norm_ (a' := ?_) ?_ ?_
      rotate_left
      · simp only [putAll, Act.put, List.setIfInBounds_toArray, List.set_cons_zero, List.set_cons_succ]
        rfl
      refine one_ (i := 11) (N := some 6) #[true, true, true, true, true, true, true, true, true, true, true, true, false, false] rfl rfl (by kernel_rfl) (by decide) (fun K hK => ?_)
      refine value_ (w1 := ?_) (v := ?_) (by rfl) rfl ?_ ?_
      rotate_left 2
      · go_simp
        constructor
        · rfl
        · rfl
      have cur3 := psh (cur) (Nat.le_refl _) (.cells #[.int .i64 0, .slice none 0 0] 27)
      have p3_10 := blk_alloc p10 (.cells #[.int .i64 0, .slice none 0 0] 27)
      have hz3_4 := hz4.below (psh (Below.refl w1.heap.size w1) (Nat.le_refl _) (.cells #[.int .i64 0, .slice none 0 0] 27))
      have hz3_9 := hz9.below (psh (Below.refl w1.heap.size w1) (Nat.le_refl _) (.cells #[.int .i64 0, .slice none 0 0] 27))
      refine hK.out _ _ ⟨cell_below (cur3) x0, cell_below (cur3) x1, cell_below (cur3) y0, cell_below (cur3) y1⟩ (fun hHeld => ?_)
      clear hK K
      refine norm_ (a' := ?_) ?_ ?_
      rotate_left
      · show Act.put _ (some 6) _ = _
        simp only [Act.put, List.setIfInBounds_toArray, List.set_cons_zero, List.set_cons_succ, i64_w, i32_w]
        rfl
      exact norm_ (by first | (simp only [putAll, Act.put, List.setIfInBounds_toArray, List.set_cons_zero, List.set_cons_succ]; done) | (simp only [putAll, Act.put, List.setIfInBounds_toArray, List.set_cons_zero, List.set_cons_succ]; rfl)) (hJ1_3_4_6_8_9_10_11 (ga10, w1.heap.size, gv4, gv9) _ ⟨cur3, p3_10, q10, blk_new _ _, (cur).size, (Nat.ne_of_lt (blk_lt p10)), hz3_4, hz3_9, zo4_10, zoff_new hz4, zo9_10, zoff_new hz9⟩)
  rintro ⟨ga10, ga11, gv4, gv9⟩ w1 ⟨cur, p10, q10, p11, q11, ne10_11, hz4, hz9, zo4_10, zo4_11, zo9_10, zo9_11⟩
  dsimp only at p10 q10 p11 q11 ne10_11 hz4 hz9 zo4_10 zo4_11 zo9_10 zo9_11
  have hHeld : w1.cell? ⟨s, 0, none⟩ = some (.int .i64 N) ∧ w1.cell? ⟨s, 1, none⟩ = some (.slice A L.length c) ∧ w1.cell? ⟨s + 1, 0, none⟩ = some (.int .i64 M) ∧ w1.cell? ⟨s + 1, 1, none⟩ = some (.slice B L2.length d) := ⟨cell_below (cur) x0, cell_below (cur) x1, cell_below (cur) y0, cell_below (cur) y1⟩
  refine norm_ (a' := ?_) ?_ ?_
  rotate_left
  · simp only [putAll, Act.put, List.setIfInBounds_toArray, List.set_cons_zero, List.set_cons_succ]
    rfl
  refine last_ (i := 12) (N := none) #[true, true, true, true, true, true, true, true, true, true, true, true, true, false] rfl rfl (by kernel_rfl) (by decide) (fun K hK => ?_)
  obtain ⟨A4, c4, rfl⟩ := hz4.form
  obtain ⟨A9, c9, rfl⟩ := hz9.form
  obtain ⟨u10_0, u10_1, u10_2, u10_3⟩ := cells2 p10
  obtain ⟨u11_0, u11_1, u11_2, u11_3⟩ := cells2 p11
  refine skip_ (w1 := ?_) (by rfl) rfl ?_ ?_
  rotate_left
  · go_simp
    rfl
  refine hK.out _ _ ?_
  clear hK K
  refine last_ (i := 13) (N := none) #[true, true, true, true, true, true, true, true, true, true, true, true, true, true] rfl rfl (by kernel_rfl) (by decide) (fun K hK => ?_)
  refine skip_ (w1 := ?_) (by rfl) rfl ?_ ?_
  rotate_left
  · go_simp
    rfl
  refine hK.out _ _ ?_
  clear hK K
  refine done_ (by kernel_rfl) ?_
  have q0 := HC3.out.size
  have E1 := Lib.hid (put2_below (.int .i64 n1) (.slice A4 l1.length c4) (.int .i64 n2) (.slice A9 l2.length c9) (seq HC3.out cur) (by omega : w.heap.size ≤ ga10) (by omega : w.heap.size ≤ ga11))
  have E2 := Lib.hid (put2_a (.int .i64 n1) (.slice A4 l1.length c4) (.int .i64 n2) (.slice A9 l2.length c9) p10 ne10_11)
  have E3 := Lib.hid (put2_b (.int .i64 n1) (.slice A4 l1.length c4) (.int .i64 n2) (.slice A9 l2.length c9) p11 ne10_11)
  have E4 := Lib.hid (zat_put2 (.int .i64 n1) (.slice A4 l1.length c4) (.int .i64 n2) (.slice A9 l2.length c9) hz4.zat zo4_10 zo4_11)
  have E5 := Lib.hid (zat_put2 (.int .i64 n1) (.slice A4 l1.length c4) (.int .i64 n2) (.slice A9 l2.length c9) hz9.zat zo9_10 zo9_11)
  clear hz4 hz9 zo4_10 zo4_11 zo9_10 zo9_11 p10 p11 q10 q11 ne10_11 u10_0 u10_1 u10_2 u10_3 u11_0 u11_1 u11_2 u11_3 x0 x1 y0 y1 g1 g2 q0 HC2 HC3 OA OB MA MB
  go_wp2_with fail
  obtain ⟨W4, hW4⟩ : ∃ W4, put2 w1 ga10 ga11 (.int .i64 n1) (.slice A4 l1.length c4) (.int .i64 n2) (.slice A9 l2.length c9) = W4 := ⟨_, rfl⟩
  rw [hW4] at E1 E2 E3 E4 E5
  unfold put2 at hW4
  simp only [hW4]
  clear hW4
  obtain ⟨x0, x1, -, -⟩ := cells2 E2.out
  obtain ⟨y0, y1, -, -⟩ := cells2 E3.out
  clear cur
  have s1 := S1.out
  clear S1
  by_cases hnn : n1 = n2
  · subst hnn
    simp only [decide_true, Bool.true_and] at s1
    cases k1
    · simp only [Bool.false_and] at s1
      have S1 := Lib.hid s1
      clear s1
      refine start_ (n := 32) (S := fun w' => w'.cell? ⟨ga10, 0, none⟩ = some (.int .i64 n1) ∧ w'.cell? ⟨ga10, 1, none⟩ = some (.slice A4 l1.length c4) ∧ w'.cell? ⟨ga11, 0, none⟩ = some (.int .i64 n1) ∧ w'.cell? ⟨ga11, 1, none⟩ = some (.slice A9 l2.length c9)) (ds := []) #[false, false, false, false, false, false, false, false, false, false, false, false, false, false, false, false, false, false, false, false, false, false, false, false, false, false, false, false, false, false, false, false] (by kernel_rfl) rfl rfl ⟨cell_below ((Below.refl W4.heap.size W4).drew) x0, cell_below ((Below.refl W4.heap.size W4).drew) x1, cell_below ((Below.refl W4.heap.size W4).drew) y0, cell_below ((Below.refl W4.heap.size W4).drew) y1⟩ (fun hHeld => ?_)
      refine one_ (i := 0) (N := some 26) #[true, false, false, false, false, false, false, false, false, false, false, false, false, false, false, false, false, false, false, false, false, false, false, false, false, false, false, false, false, false, false, false] rfl rfl (by kernel_rfl) (by decide) (fun K hK => ?_)
      refine goes_ Tryd.func14 (by kernel_rfl) rfl #[] (by rfl) rfl rfl (by first | (simp only [List.map_toArray, List.map_cons, List.map_nil]; done) | (simp only [List.map_toArray, List.map_cons, List.map_nil]; rfl)) ?_
      with_reducible refine (alive_any _).mono ?_
      rintro e w3 ⟨rfl, hb⟩
      refine ⟨_, rfl, ?_⟩
      have cur := seq ((Below.refl W4.heap.size W4).drew) hb
      clear hb
      refine hK.out _ _ ⟨cell_below cur x0, cell_below cur x1, cell_below cur y0, cell_below cur y1⟩ (fun hHeld => ?_)
      clear hK K
      refine norm_ (a' := ?_) ?_ ?_
      rotate_left
      · show Act.put _ (some 26) _ = _
        simp only [Act.put, List.setIfInBounds_toArray, List.set_cons_zero, List.set_cons_succ, i64_w, i32_w]
        rfl
      refine pure_ (i := 1) (N := some 27) (v := ?_) (a' := ?_) #[true, true, false, false, false, false, false, false, false, false, false, false, false, false, false, false, false, false, false, false, false, false, false, false, false, false, false, false, false, false, false, false] rfl rfl (by kernel_rfl) (fun _ _ _ h => h) (Or.inl ⟨by rfl, ?_⟩) ?_ ?_
      rotate_left
      · intro w'
        go_simp
        with_reducible rfl
      rotate_left
      · simp only [Act.put, List.setIfInBounds_toArray, List.set_cons_zero, List.set_cons_succ, i64_w, i32_w]
        rfl
      refine pure_ (i := 5) (N := some 31) (v := ?_) (a' := ?_) #[true, true, false, false, false, true, false, false, false, false, false, false, false, false, false, false, false, false, false, false, false, false, false, false, false, false, false, false, false, false, false, false] rfl rfl (by kernel_rfl) (fun _ _ _ h => h) (Or.inl ⟨by rfl, ?_⟩) ?_ ?_
      rotate_left
      · intro w'
        go_simp
        with_reducible rfl
      rotate_left
      · simp only [Act.put, List.setIfInBounds_toArray, List.set_cons_zero, List.set_cons_succ, i64_w, i32_w]
        rfl
      refine pure_ (i := 7) (N := some 33) (v := ?_) (a' := ?_) #[true, true, false, false, false, true, false, true, false, false, false, false, false, false, false, false, false, false, false, false, false, false, false, false, false, false, false, false, false, false, false, false] rfl rfl (by kernel_rfl) (fun _ _ _ h => h) (Or.inl ⟨by rfl, ?_⟩) ?_ ?_
      rotate_left
      · intro w'
        go_simp
        with_reducible rfl
      rotate_left
      · simp only [Act.put, List.setIfInBounds_toArray, List.set_cons_zero, List.set_cons_succ, i64_w, i32_w]
        rfl
      refine take_ (i := 2) (N := some 28) (v := ?_) (a' := ?_) #[true, true, true, false, false, true, false, true, false, false, false, false, false, false, false, false, false, false, false, false, false, false, false, false, false, false, false, false, false, false, false, false] rfl rfl (by kernel_rfl) (fun _ _ _ h => h) (Or.inl ⟨by rfl, ?_⟩) hHeld ?_ ?_
      rotate_left
      · rintro w' ⟨s0, s1, s2, s3⟩
        go_simp
        with_reducible rfl
      rotate_left
      · simp only [Act.put, List.setIfInBounds_toArray, List.set_cons_zero, List.set_cons_succ, i64_w, i32_w]
        rfl
      refine take_ (i := 3) (N := some 29) (v := ?_) (a' := ?_) #[true, true, true, true, false, true, false, true, false, false, false, false, false, false, false, false, false, false, false, false, false, false, false, false, false, false, false, false, false, false, false, false] rfl rfl (by kernel_rfl) (fun _ _ _ h => h) (Or.inl ⟨by rfl, ?_⟩) hHeld ?_ ?_
      rotate_left
      · rintro w' ⟨s0, s1, s2, s3⟩
        go_simp
        with_reducible rfl
      rotate_left
      · simp only [Act.put, List.setIfInBounds_toArray, List.set_cons_zero, List.set_cons_succ, i64_w, i32_w]
        rfl
      refine take_ (i := 6) (N := some 32) (v := ?_) (a' := ?_) #[true, true, true, true, false, true, true, true, false, false, false, false, false, false, false, false, false, false, false, false, false, false, false, false, false, false, false, false, false, false, false, false] rfl rfl (by kernel_rfl) (fun _ _ _ h => h) (Or.inl ⟨by rfl, ?_⟩) hHeld ?_ ?_
      rotate_left
      · rintro w' ⟨s0, s1, s2, s3⟩
        go_simp
        with_reducible rfl
      rotate_left
      · simp only [Act.put, List.setIfInBounds_toArray, List.set_cons_zero, List.set_cons_succ, i64_w, i32_w]
        rfl
      refine take_ (i := 8) (N := some 34) (v := ?_) (a' := ?_) #[true, true, true, true, false, true, true, true, true, false, false, false, false, false, false, false, false, false, false, false, false, false, false, false, false, false, false, false, false, false, false, false] rfl rfl (by kernel_rfl) (fun _ _ _ h => h) (Or.inl ⟨by rfl, ?_⟩) hHeld ?_ ?_
      rotate_left
      · rintro w' ⟨s0, s1, s2, s3⟩
        go_simp
        with_reducible rfl
      rotate_left
      · simp only [Act.put, List.setIfInBounds_toArray, List.set_cons_zero, List.set_cons_succ, i64_w, i32_w]
        rfl
      refine pure_ (i := 9) (N := some 35) (v := ?_) (a' := ?_) #[true, true, true, true, false, true, true, true, true, true, false, false, false, false, false, false, false, false, false, false, false, false, false, false, false, false, false, false, false, false, false, false] rfl rfl (by kernel_rfl) (fun _ _ _ h => h) (Or.inl ⟨by rfl, ?_⟩) ?_ ?_
      rotate_left
      · intro w'
        go_simp
        with_reducible rfl
      rotate_left
      · simp only [Act.put, List.setIfInBounds_toArray, List.set_cons_zero, List.set_cons_succ, i64_w, i32_w]
        rfl
      refine one_ (i := 4) (N := some 30) #[true, true, true, true, true, true, true, true, true, true, false, false, false, false, false, false, false, false, false, false, false, false, false, false, false, false, false, false, false, false, false, false] rfl rfl (by kernel_rfl) (by decide) (fun K hK => ?_)
      refine goes_ Tryd.func24 (by kernel_rfl) rfl #[.agg #[.int .i64 n1, .slice A4 l1.length c4], .agg #[.int .i64 n1, .slice A9 l2.length c9]] (by rfl) rfl rfl (by first | (simp only [List.map_toArray, List.map_cons, List.map_nil]; done) | (simp only [List.map_toArray, List.map_cons, List.map_nil]; rfl)) ?_
      with_reducible refine (S1.out _ _ _ (E4.out.below (cur)) (E5.out.below (cur))).mono ?_
      rintro e w3 ⟨rfl, hb⟩
      refine ⟨_, rfl, ?_⟩
      replace cur := seq cur hb
      clear hb
      refine hK.out _ _ ⟨cell_below cur x0, cell_below cur x1, cell_below cur y0, cell_below cur y1⟩ (fun hHeld => ?_)
      clear hK K
      refine norm_ (a' := ?_) ?_ ?_
      rotate_left
      · show Act.put _ (some 30) _ = _
        simp only [Act.put, List.setIfInBounds_toArray, List.set_cons_zero, List.set_cons_succ, i64_w, i32_w]
        rfl
      refine pure_ (i := 10) (N := some 36) (v := ?_) (a' := ?_) #[true, true, true, true, true, true, true, true, true, true, true, false, false, false, false, false, false, false, false, false, false, false, false, false, false, false, false, false, false, false, false, false] rfl rfl (by kernel_rfl) (fun _ _ _ h => h) (Or.inl ⟨by rfl, ?_⟩) ?_ ?_
      rotate_left
      · intro w'
        go_simp
        with_reducible rfl
      rotate_left
      · simp only [Act.put, List.setIfInBounds_toArray, List.set_cons_zero, List.set_cons_succ, i64_w, i32_w]
        rfl
      refine take_ (i := 11) (N := some 37) (v := ?_) (a' := ?_) #[true, true, true, true, true, true, true, true, true, true, true, true, false, false, false, false, false, false, false, false, false, false, false, false, false, false, false, false, false, false, false, false] rfl rfl (by kernel_rfl) (fun _ _ _ h => h) (Or.inl ⟨by rfl, ?_⟩) hHeld ?_ ?_
      rotate_left
      · rintro w' ⟨s0, s1, s2, s3⟩
        go_simp
        with_reducible rfl
      rotate_left
      · simp only [Act.put, List.setIfInBounds_toArray, List.set_cons_zero, List.set_cons_succ, i64_w, i32_w]
        rfl
      refine take_ (i := 12) (N := some 38) (v := ?_) (a' := ?_) #[true, true, true, true, true, true, true, true, true, true, true, true, true, false, false, false, false, false, false, false, false, false, false, false, false, false, false, false, false, false, false, false] rfl rfl (by kernel_rfl) (fun _ _ _ h => h) (Or.inl ⟨by rfl, ?_⟩) hHeld ?_ ?_
      rotate_left
      · rintro w' ⟨s0, s1, s2, s3⟩
        go_simp
        with_reducible rfl
      rotate_left
      · simp only [Act.put, List.setIfInBounds_toArray, List.set_cons_zero, List.set_cons_succ, i64_w, i32_w]
        rfl
      refine one_ (i := 13) (N := some 39) #[true, true, true, true, true, true, true, true, true, true, true, true, true, true, false, false, false, false, false, false, false, false, false, false, false, false, false, false, false, false, false, false] rfl rfl (by kernel_rfl) (by decide) (fun K hK => ?_)
      refine goes_ Tryd.func35 (by kernel_rfl) rfl #[.agg #[.int .i64 n1, .slice A4 l1.length c4], .agg #[.int .i64 n1, .slice A9 l2.length c9]] (by rfl) rfl rfl (by first | (simp only [List.map_toArray, List.map_cons, List.map_nil]; done) | (simp only [List.map_toArray, List.map_cons, List.map_nil]; rfl)) ?_
      with_reducible refine (Q1.out _ _ _ (E4.out.below (cur)) (E5.out.below (cur))).mono ?_
      rintro e w3 ⟨rfl, hb⟩
      refine ⟨_, rfl, ?_⟩
      replace cur := seq cur hb
      clear hb
      refine hK.out _ _ ⟨cell_below cur x0, cell_below cur x1, cell_below cur y0, cell_below cur y1⟩ (fun hHeld => ?_)
      clear hK K
      refine norm_ (a' := ?_) ?_ ?_
      rotate_left
      · show Act.put _ (some 39) _ = _
        simp only [Act.put, List.setIfInBounds_toArray, List.set_cons_zero, List.set_cons_succ, i64_w, i32_w]
        rfl
      refine pure_ (i := 14) (N := some 40) (v := ?_) (a' := ?_) #[true, true, true, true, true, true, true, true, true, true, true, true, true, true, true, false, false, false, false, false, false, false, false, false, false, false, false, false, false, false, false, false] rfl rfl (by kernel_rfl) (fun _ _ _ h => h) (Or.inl ⟨by rfl, ?_⟩) ?_ ?_
      rotate_left
      · intro w'
        go_simp
        with_reducible rfl
      rotate_left
      · simp only [Act.put, List.setIfInBounds_toArray, List.set_cons_zero, List.set_cons_succ, i64_w, i32_w]
        rfl
      refine pure_ (i := 15) (N := some 41) (v := ?_) (a' := ?_) #[true, true, true, true, true, true, true, true, true, true, true, true, true, true, true, true, false, false, false, false, false, false, false, false, false, false, false, false, false, false, false, false] rfl rfl (by kernel_rfl) (fun _ _ _ h => h) (Or.inl ⟨by rfl, ?_⟩) ?_ ?_
      rotate_left
      · intro w'
        go_simp
        with_reducible rfl
      rotate_left
      · simp only [Act.put, List.setIfInBounds_toArray, List.set_cons_zero, List.set_cons_succ, i64_w, i32_w]
        rfl
      refine pure_ (i := 16) (N := some 42) (v := undef) (a' := ?_) #[true, true, true, true, true, true, true, true, true, true, true, true, true, true, true, true, true, false, false, false, false, false, false, false, false, false, false, false, false, false, false, false] rfl rfl (by kernel_rfl) (fun _ _ _ h => h) (Or.inr ⟨by rfl, rfl⟩) ?_ ?_
      rotate_left
      · simp only [Act.put, List.setIfInBounds_toArray, List.set_cons_zero, List.set_cons_succ, i64_w, i32_w]
        rfl
      refine pure_ (i := 17) (N := some 43) (v := undef) (a' := ?_) #[true, true, true, true, true, true, true, true, true, true, true, true, true, true, true, true, true, true, false, false, false, false, false, false, false, false, false, false, false, false, false, false] rfl rfl (by kernel_rfl) (fun _ _ _ h => h) (Or.inr ⟨by rfl, rfl⟩) ?_ ?_
      rotate_left
      · simp only [Act.put, List.setIfInBounds_toArray, List.set_cons_zero, List.set_cons_succ, i64_w, i32_w]
        rfl
      refine pure_ (i := 18) (N := some 44) (v := undef) (a' := ?_) #[true, true, true, true, true, true, true, true, true, true, true, true, true, true, true, true, true, true, true, false, false, false, false, false, false, false, false, false, false, false, false, false] rfl rfl (by kernel_rfl) (fun _ _ _ h => h) (Or.inr ⟨by rfl, rfl⟩) ?_ ?_
      rotate_left
      · simp only [Act.put, List.setIfInBounds_toArray, List.set_cons_zero, List.set_cons_succ, i64_w, i32_w]
        rfl
      refine pure_ (i := 19) (N := some 45) (v := ?_) (a' := ?_) #[true, true, true, true, true, true, true, true, true, true, true, true, true, true, true, true, true, true, true, true, false, false, false, false, false, false, false, false, false, false, false, false] rfl rfl (by kernel_rfl) (fun _ _ _ h => h) (Or.inl ⟨by rfl, ?_⟩) ?_ ?_
      rotate_left
      · intro w'
        go_simp
        with_reducible rfl
      rotate_left
      · simp only [Act.put, List.setIfInBounds_toArray, List.set_cons_zero, List.set_cons_succ, i64_w, i32_w]
        rfl
      refine pure_ (i := 20) (N := some 46) (v := ?_) (a' := ?_) #[true, true, true, true, true, true, true, true, true, true, true, true, true, true, true, true, true, true, true, true, true, false, false, false, false, false, false, false, false, false, false, false] rfl rfl (by kernel_rfl) (fun _ _ _ h => h) (Or.inl ⟨by rfl, ?_⟩) ?_ ?_
      rotate_left
      · intro w'
        go_simp
        with_reducible rfl
      rotate_left
      · simp only [Act.put, List.setIfInBounds_toArray, List.set_cons_zero, List.set_cons_succ, i64_w, i32_w]
        rfl
      refine pure_ (i := 21) (N := some 47) (v := ?_) (a' := ?_) #[true, true, true, true, true, true, true, true, true, true, true, true, true, true, true, true, true, true, true, true, true, true, false, false, false, false, false, false, false, false, false, false] rfl rfl (by kernel_rfl) (fun _ _ _ h => h) (Or.inl ⟨by rfl, ?_⟩) ?_ ?_
      rotate_left
      · intro w'
        go_simp
        with_reducible rfl
      rotate_left
      · simp only [Act.put, List.setIfInBounds_toArray, List.set_cons_zero, List.set_cons_succ, i64_w, i32_w]
        rfl
      refine pure_ (i := 22) (N := some 48) (v := ?_) (a' := ?_) #[true, true, true, true, true, true, true, true, true, true, true, true, true, true, true, true, true, true, true, true, true, true, true, false, false, false, false, false, false, false, false, false] rfl rfl (by kernel_rfl) (fun _ _ _ h => h) (Or.inl ⟨by rfl, ?_⟩) ?_ ?_
      rotate_left
      · intro w'
        go_simp
        with_reducible rfl
      rotate_left
      · simp only [Act.put, List.setIfInBounds_toArray, List.set_cons_zero, List.set_cons_succ, i64_w, i32_w]
        rfl
      refine take_ (i := 23) (N := some 49) (v := ?_) (a' := ?_) #[true, true, true, true, true, true, true, true, true, true, true, true, true, true, true, true, true, true, true, true, true, true, true, true, false, false, false, false, false, false, false, false] rfl rfl (by kernel_rfl) (fun _ _ _ h => h) (Or.inl ⟨by rfl, ?_⟩) hHeld ?_ ?_
      rotate_left
      · rintro w' ⟨s0, s1, s2, s3⟩
        go_simp
        with_reducible rfl
      rotate_left
      · simp only [Act.put, List.setIfInBounds_toArray, List.set_cons_zero, List.set_cons_succ, i64_w, i32_w]
        rfl
      refine take_ (i := 24) (N := some 50) (v := ?_) (a' := ?_) #[true, true, true, true, true, true, true, true, true, true, true, true, true, true, true, true, true, true, true, true, true, true, true, true, true, false, false, false, false, false, false, false] rfl rfl (by kernel_rfl) (fun _ _ _ h => h) (Or.inl ⟨by rfl, ?_⟩) hHeld ?_ ?_
      rotate_left
      · rintro w' ⟨s0, s1, s2, s3⟩
        go_simp
        with_reducible rfl
      rotate_left
      · simp only [Act.put, List.setIfInBounds_toArray, List.set_cons_zero, List.set_cons_succ, i64_w, i32_w]
        rfl
      refine take_ (i := 26) (N := some 52) (v := ?_) (a' := ?_) #[true, true, true, true, true, true, true, true, true, true, true, true, true, true, true, true, true, true, true, true, true, true, true, true, true, false, true, false, false, false, false, false] rfl rfl (by kernel_rfl) (fun _ _ _ h => h) (Or.inl ⟨by rfl, ?_⟩) hHeld ?_ ?_
      rotate_left
      · rintro w' ⟨s0, s1, s2, s3⟩
        go_simp
        with_reducible rfl
      rotate_left
      · simp only [Act.put, List.setIfInBounds_toArray, List.set_cons_zero, List.set_cons_succ, i64_w, i32_w]
        rfl
      refine take_ (i := 27) (N := some 53) (v := ?_) (a' := ?_) #[true, true, true, true, true, true, true, true, true, true, true, true, true, true, true, true, true, true, true, true, true, true, true, true, true, false, true, true, false, false, false, false] rfl rfl (by kernel_rfl) (fun _ _ _ h => h) (Or.inl ⟨by rfl, ?_⟩) hHeld ?_ ?_
      rotate_left
      · rintro w' ⟨s0, s1, s2, s3⟩
        go_simp
        with_reducible rfl
      rotate_left
      · simp only [Act.put, List.setIfInBounds_toArray, List.set_cons_zero, List.set_cons_succ, i64_w, i32_w]
        rfl
      refine one_ (i := 25) (N := some 51) #[true, true, true, true, true, true, true, true, true, true, true, true, true, true, true, true, true, true, true, true, true, true, true, true, true, true, true, true, false, false, false, false] rfl rfl (by kernel_rfl) (by decide) (fun K hK => ?_)
      refine goes_ Tryd.func33 (by kernel_rfl) rfl #[.agg #[.int .i64 n1, .slice A4 l1.length c4], .agg #[.int .i64 n1, .slice A9 l2.length c9]] (by rfl) rfl rfl (by first | (simp only [List.map_toArray, List.map_cons, List.map_nil]; done) | (simp only [List.map_toArray, List.map_cons, List.map_nil]; rfl)) ?_
      with_reducible refine (J1.out _ _ _ (E4.out.below (cur)) (E5.out.below (cur))).mono ?_
      rintro e w3 ⟨v25, rfl, hz25, hb⟩
      dsimp only at hz25
      obtain ⟨A25, c25, rfl⟩ := hz25.form
      have Z25 := Lib.hid hz25.zat
      clear hz25
      refine ⟨_, rfl, ?_⟩
      replace cur := seq cur hb
      clear hb
      refine hK.out _ _ ⟨cell_below cur x0, cell_below cur x1, cell_below cur y0, cell_below cur y1⟩ (fun hHeld => ?_)
      clear hK K
      refine norm_ (a' := ?_) ?_ ?_
      rotate_left
      · show Act.put _ (some 51) _ = _
        simp only [Act.put, List.setIfInBounds_toArray, List.set_cons_zero, List.set_cons_succ, i64_w, i32_w]
        rfl
      refine one_ (i := 28) (N := some 54) #[true, true, true, true, true, true, true, true, true, true, true, true, true, true, true, true, true, true, true, true, true, true, true, true, true, true, true, true, true, false, false, false] rfl rfl (by kernel_rfl) (by decide) (fun K hK => ?_)
      refine goes_ Tryd.func33 (by kernel_rfl) rfl #[.agg #[.int .i64 n1, .slice A9 l2.length c9], .agg #[.int .i64 n1, .slice A4 l1.length c4]] (by rfl) rfl rfl (by first | (simp only [List.map_toArray, List.map_cons, List.map_nil]; done) | (simp only [List.map_toArray, List.map_cons, List.map_nil]; rfl)) ?_
      with_reducible refine (J2.out _ _ _ (E5.out.below (cur)) (E4.out.below (cur))).mono ?_
      rintro e w3 ⟨v28, rfl, hz28, hb⟩
      dsimp only at hz28
      obtain ⟨A28, c28, rfl⟩ := hz28.form
      replace Z25 := Lib.hid (Z25.out.below hb)
      have Z28 := Lib.hid hz28.zat
      clear hz28
      refine ⟨_, rfl, ?_⟩
      replace cur := seq cur hb
      clear hb
      refine hK.out _ _ ⟨cell_below cur x0, cell_below cur x1, cell_below cur y0, cell_below cur y1⟩ (fun hHeld => ?_)
      clear hK K
      refine norm_ (a' := ?_) ?_ ?_
      rotate_left
      · show Act.put _ (some 54) _ = _
        simp only [Act.put, List.setIfInBounds_toArray, List.set_cons_zero, List.set_cons_succ, i64_w, i32_w]
        rfl
      refine one_ (i := 29) (N := some 55) #[true, true, true, true, true, true, true, true, true, true, true, true, true, true, true, true, true, true, true, true, true, true, true, true, true, true, true, true, true, true, false, false] rfl rfl (by kernel_rfl) (by decide) (fun K hK => ?_)
      refine goes_ Tryd.func24 (by kernel_rfl) rfl #[.agg #[.int .i64 jn, .slice A25 jl.length c25], .agg #[.int .i64 jn, .slice A28 jl.length c28]] (by rfl) rfl rfl (by first | (simp only [List.map_toArray, List.map_cons, List.map_nil]; done) | (simp only [List.map_toArray, List.map_cons, List.map_nil]; rfl)) ?_
      with_reducible refine (S3.out _ _ _ Z25.out Z28.out).mono ?_
      rintro e w3 ⟨rfl, hb⟩
      refine ⟨_, rfl, ?_⟩
      replace cur := seq cur hb
      clear hb
      refine hK.out _ _ ⟨cell_below cur x0, cell_below cur x1, cell_below cur y0, cell_below cur y1⟩ (fun hHeld => ?_)
      clear hK K
      refine norm_ (a' := ?_) ?_ ?_
      rotate_left
      · show Act.put _ (some 55) _ = _
        simp only [Act.put, List.setIfInBounds_toArray, List.set_cons_zero, List.set_cons_succ, i64_w, i32_w]
        rfl
      refine pure_ (i := 30) (N := some 56) (v := ?_) (a' := ?_) #[true, true, true, true, true, true, true, true, true, true, true, true, true, true, true, true, true, true, true, true, true, true, true, true, true, true, true, true, true, true, true, false] rfl rfl (by kernel_rfl) (fun _ _ _ h => h) (Or.inl ⟨by rfl, ?_⟩) ?_ ?_
      rotate_left
      · intro w'
        go_simp
        with_reducible rfl
      rotate_left
      · simp only [Act.put, List.setIfInBounds_toArray, List.set_cons_zero, List.set_cons_succ, i64_w, i32_w]
        rfl
      refine pure_ (i := 31) (N := some 4) (v := ?_) (a' := ?_) #[true, true, true, true, true, true, true, true, true, true, true, true, true, true, true, true, true, true, true, true, true, true, true, true, true, true, true, true, true, true, true, true] rfl rfl (by kernel_rfl) (fun _ _ _ h => h) (Or.inl ⟨by rfl, ?_⟩) ?_ ?_
      rotate_left
      · intro w'
        go_simp
        with_reducible rfl
      rotate_left
      · simp only [Act.put, List.setIfInBounds_toArray, List.set_cons_zero, List.set_cons_succ, i64_w, i32_w]
        rfl
      refine done_ (by kernel_rfl) ?_
      have HCur := Lib.hid (seq E1.out cur)
      clear cur
      go_wp2_with fail
      go_ret
      exact ⟨rfl, HCur.out⟩
    · simp only [Bool.true_and] at s1
      cases k2
      · have S1 := Lib.hid s1
        clear s1
        refine start_ (n := 32) (S := fun w' => w'.cell? ⟨ga10, 0, none⟩ = some (.int .i64 n1) ∧ w'.cell? ⟨ga10, 1, none⟩ = some (.slice A4 l1.length c4) ∧ w'.cell? ⟨ga11, 0, none⟩ = some (.int .i64 n1) ∧ w'.cell? ⟨ga11, 1, none⟩ = some (.slice A9 l2.length c9)) (ds := []) #[false, false, false, false, false, false, false, false, false, false, false, false, false, false, false, false, false, false, false, false, false, false, false, false, false, false, false, false, false, false, false, false] (by kernel_rfl) rfl rfl ⟨cell_below ((Below.refl W4.heap.size W4).drew) x0, cell_below ((Below.refl W4.heap.size W4).drew) x1, cell_below ((Below.refl W4.heap.size W4).drew) y0, cell_below ((Below.refl W4.heap.size W4).drew) y1⟩ (fun hHeld => ?_)
        refine one_ (i := 0) (N := some 26) #[true, false, false, false, false, false, false, false, false, false, false, false, false, false, false, false, false, false, false, false, false, false, false, false, false, false, false, false, false, false, false, false] rfl rfl (by kernel_rfl) (by decide) (fun K hK => ?_)
        refine goes_ Tryd.func14 (by kernel_rfl) rfl #[] (by rfl) rfl rfl (by first | (simp only [List.map_toArray, List.map_cons, List.map_nil]; done) | (simp only [List.map_toArray, List.map_cons, List.map_nil]; rfl)) ?_
        with_reducible refine (alive_any _).mono ?_
        rintro e w3 ⟨rfl, hb⟩
        refine ⟨_, rfl, ?_⟩
        have cur := seq ((Below.refl W4.heap.size W4).drew) hb
        clear hb
        refine hK.out _ _ ⟨cell_below cur x0, cell_below cur x1, cell_below cur y0, cell_below cur y1⟩ (fun hHeld => ?_)
        clear hK K
        refine norm_ (a' := ?_) ?_ ?_
        rotate_left
        · show Act.put _ (some 26) _ = _
          simp only [Act.put, List.setIfInBounds_toArray, List.set_cons_zero, List.set_cons_succ, i64_w, i32_w]
          rfl
        refine pure_ (i := 1) (N := some 27) (v := ?_) (a' := ?_) #[true, true, false, false, false, false, false, false, false, false, false, false, false, false, false, false, false, false, false, false, false, false, false, false, false, false, false, false, false, false, false, false] rfl rfl (by kernel_rfl) (fun _ _ _ h => h) (Or.inl ⟨by rfl, ?_⟩) ?_ ?_
        rotate_left
        · intro w'
          go_simp
          with_reducible rfl
        rotate_left
        · simp only [Act.put, List.setIfInBounds_toArray, List.set_cons_zero, List.set_cons_succ, i64_w, i32_w]
          rfl
        refine pure_ (i := 5) (N := some 31) (v := ?_) (a' := ?_) #[true, true, false, false, false, true, false, false, false, false, false, false, false, false, false, false, false, false, false, false, false, false, false, false, false, false, false, false, false, false, false, false] rfl rfl (by kernel_rfl) (fun _ _ _ h => h) (Or.inl ⟨by rfl, ?_⟩) ?_ ?_
        rotate_left
        · intro w'
          go_simp
          with_reducible rfl
        rotate_left
        · simp only [Act.put, List.setIfInBounds_toArray, List.set_cons_zero, List.set_cons_succ, i64_w, i32_w]
          rfl
        refine pure_ (i := 7) (N := some 33) (v := ?_) (a' := ?_) #[true, true, false, false, false, true, false, true, false, false, false, false, false, false, false, false, false, false, false, false, false, false, false, false, false, false, false, false, false, false, false, false] rfl rfl (by kernel_rfl) (fun _ _ _ h => h) (Or.inl ⟨by rfl, ?_⟩) ?_ ?_
        rotate_left
        · intro w'
          go_simp
          with_reducible rfl
        rotate_left
        · simp only [Act.put, List.setIfInBounds_toArray, List.set_cons_zero, List.set_cons_succ, i64_w, i32_w]
          rfl
        refine take_ (i := 2) (N := some 28) (v := ?_) (a' := ?_) #[true, true, true, false, false, true, false, true, false, false, false, false, false, false, false, false, false, false, false, false, false, false, false, false, false, false, false, false, false, false, false, false] rfl rfl (by kernel_rfl) (fun _ _ _ h => h) (Or.inl ⟨by rfl, ?_⟩) hHeld ?_ ?_
        rotate_left
        · rintro w' ⟨s0, s1, s2, s3⟩
          go_simp
          with_reducible rfl
        rotate_left
        · simp only [Act.put, List.setIfInBounds_toArray, List.set_cons_zero, List.set_cons_succ, i64_w, i32_w]
          rfl
        refine take_ (i := 3) (N := some 29) (v := ?_) (a' := ?_) #[true, true, true, true, false, true, false, true, false, false, false, false, false, false, false, false, false, false, false, false, false, false, false, false, false, false, false, false, false, false, false, false] rfl rfl (by kernel_rfl) (fun _ _ _ h => h) (Or.inl ⟨by rfl, ?_⟩) hHeld ?_ ?_
        rotate_left
        · rintro w' ⟨s0, s1, s2, s3⟩
          go_simp
          with_reducible rfl
        rotate_left
        · simp only [Act.put, List.setIfInBounds_toArray, List.set_cons_zero, List.set_cons_succ, i64_w, i32_w]
          rfl
        refine take_ (i := 6) (N := some 32) (v := ?_) (a' := ?_) #[true, true, true, true, false, true, true, true, false, false, false, false, false, false, false, false, false, false, false, false, false, false, false, false, false, false, false, false, false, false, false, false] rfl rfl (by kernel_rfl) (fun _ _ _ h => h) (Or.inl ⟨by rfl, ?_⟩) hHeld ?_ ?_
        rotate_left
        · rintro w' ⟨s0, s1, s2, s3⟩
          go_simp
          with_reducible rfl
        rotate_left
        · simp only [Act.put, List.setIfInBounds_toArray, List.set_cons_zero, List.set_cons_succ, i64_w, i32_w]
          rfl
        refine take_ (i := 8) (N := some 34) (v := ?_) (a' := ?_) #[true, true, true, true, false, true, true, true, true, false, false, false, false, false, false, false, false, false, false, false, false, false, false, false, false, false, false, false, false, false, false, false] rfl rfl (by kernel_rfl) (fun _ _ _ h => h) (Or.inl ⟨by rfl, ?_⟩) hHeld ?_ ?_
        rotate_left
        · rintro w' ⟨s0, s1, s2, s3⟩
          go_simp
          with_reducible rfl
        rotate_left
        · simp only [Act.put, List.setIfInBounds_toArray, List.set_cons_zero, List.set_cons_succ, i64_w, i32_w]
          rfl
        refine pure_ (i := 9) (N := some 35) (v := ?_) (a' := ?_) #[true, true, true, true, false, true, true, true, true, true, false, false, false, false, false, false, false, false, false, false, false, false, false, false, false, false, false, false, false, false, false, false] rfl rfl (by kernel_rfl) (fun _ _ _ h => h) (Or.inl ⟨by rfl, ?_⟩) ?_ ?_
        rotate_left
        · intro w'
          go_simp
          with_reducible rfl
        rotate_left
        · simp only [Act.put, List.setIfInBounds_toArray, List.set_cons_zero, List.set_cons_succ, i64_w, i32_w]
          rfl
        refine one_ (i := 4) (N := some 30) #[true, true, true, true, true, true, true, true, true, true, false, false, false, false, false, false, false, false, false, false, false, false, false, false, false, false, false, false, false, false, false, false] rfl rfl (by kernel_rfl) (by decide) (fun K hK => ?_)
        refine goes_ Tryd.func24 (by kernel_rfl) rfl #[.agg #[.int .i64 n1, .slice A4 l1.length c4], .agg #[.int .i64 n1, .slice A9 l2.length c9]] (by rfl) rfl rfl (by first | (simp only [List.map_toArray, List.map_cons, List.map_nil]; done) | (simp only [List.map_toArray, List.map_cons, List.map_nil]; rfl)) ?_
        with_reducible refine (S1.out _ _ _ (E4.out.below (cur)) (E5.out.below (cur))).mono ?_
        rintro e w3 ⟨rfl, hb⟩
        refine ⟨_, rfl, ?_⟩
        replace cur := seq cur hb
        clear hb
        refine hK.out _ _ ⟨cell_below cur x0, cell_below cur x1, cell_below cur y0, cell_below cur y1⟩ (fun hHeld => ?_)
        clear hK K
        refine norm_ (a' := ?_) ?_ ?_
        rotate_left
        · show Act.put _ (some 30) _ = _
          simp only [Act.put, List.setIfInBounds_toArray, List.set_cons_zero, List.set_cons_succ, i64_w, i32_w]
          rfl
        refine pure_ (i := 10) (N := some 36) (v := ?_) (a' := ?_) #[true, true, true, true, true, true, true, true, true, true, true, false, false, false, false, false, false, false, false, false, false, false, false, false, false, false, false, false, false, false, false, false] rfl rfl (by kernel_rfl) (fun _ _ _ h => h) (Or.inl ⟨by rfl, ?_⟩) ?_ ?_
        rotate_left
        · intro w'
          go_simp
          with_reducible rfl
        rotate_left
        · simp only [Act.put, List.setIfInBounds_toArray, List.set_cons_zero, List.set_cons_succ, i64_w, i32_w]
          rfl
        refine take_ (i := 11) (N := some 37) (v := ?_) (a' := ?_) #[true, true, true, true, true, true, true, true, true, true, true, true, false, false, false, false, false, false, false, false, false, false, false, false, false, false, false, false, false, false, false, false] rfl rfl (by kernel_rfl) (fun _ _ _ h => h) (Or.inl ⟨by rfl, ?_⟩) hHeld ?_ ?_
        rotate_left
        · rintro w' ⟨s0, s1, s2, s3⟩
          go_simp
          with_reducible rfl
        rotate_left
        · simp only [Act.put, List.setIfInBounds_toArray, List.set_cons_zero, List.set_cons_succ, i64_w, i32_w]
          rfl
        refine take_ (i := 12) (N := some 38) (v := ?_) (a' := ?_) #[true, true, true, true, true, true, true, true, true, true, true, true, true, false, false, false, false, false, false, false, false, false, false, false, false, false, false, false, false, false, false, false] rfl rfl (by kernel_rfl) (fun _ _ _ h => h) (Or.inl ⟨by rfl, ?_⟩) hHeld ?_ ?_
        rotate_left
        · rintro w' ⟨s0, s1, s2, s3⟩
          go_simp
          with_reducible rfl
        rotate_left
        · simp only [Act.put, List.setIfInBounds_toArray, List.set_cons_zero, List.set_cons_succ, i64_w, i32_w]
          rfl
        refine one_ (i := 13) (N := some 39) #[true, true, true, true, true, true, true, true, true, true, true, true, true, true, false, false, false, false, false, false, false, false, false, false, false, false, false, false, false, false, false, false] rfl rfl (by kernel_rfl) (by decide) (fun K hK => ?_)
        refine goes_ Tryd.func35 (by kernel_rfl) rfl #[.agg #[.int .i64 n1, .slice A4 l1.length c4], .agg #[.int .i64 n1, .slice A9 l2.length c9]] (by rfl) rfl rfl (by first | (simp only [List.map_toArray, List.map_cons, List.map_nil]; done) | (simp only [List.map_toArray, List.map_cons, List.map_nil]; rfl)) ?_
        with_reducible refine (Q1.out _ _ _ (E4.out.below (cur)) (E5.out.below (cur))).mono ?_
        rintro e w3 ⟨rfl, hb⟩
        refine ⟨_, rfl, ?_⟩
        replace cur := seq cur hb
        clear hb
        refine hK.out _ _ ⟨cell_below cur x0, cell_below cur x1, cell_below cur y0, cell_below cur y1⟩ (fun hHeld => ?_)
        clear hK K
        refine norm_ (a' := ?_) ?_ ?_
        rotate_left
        · show Act.put _ (some 39) _ = _
          simp only [Act.put, List.setIfInBounds_toArray, List.set_cons_zero, List.set_cons_succ, i64_w, i32_w]
          rfl
        refine pure_ (i := 14) (N := some 40) (v := ?_) (a' := ?_) #[true, true, true, true, true, true, true, true, true, true, true, true, true, true, true, false, false, false, false, false, false, false, false, false, false, false, false, false, false, false, false, false] rfl rfl (by kernel_rfl) (fun _ _ _ h => h) (Or.inl ⟨by rfl, ?_⟩) ?_ ?_
        rotate_left
        · intro w'
          go_simp
          with_reducible rfl
        rotate_left
        · simp only [Act.put, List.setIfInBounds_toArray, List.set_cons_zero, List.set_cons_succ, i64_w, i32_w]
          rfl
        refine pure_ (i := 15) (N := some 41) (v := ?_) (a' := ?_) #[true, true, true, true, true, true, true, true, true, true, true, true, true, true, true, true, false, false, false, false, false, false, false, false, false, false, false, false, false, false, false, false] rfl rfl (by kernel_rfl) (fun _ _ _ h => h) (Or.inl ⟨by rfl, ?_⟩) ?_ ?_
        rotate_left
        · intro w'
          go_simp
          with_reducible rfl
        rotate_left
        · simp only [Act.put, List.setIfInBounds_toArray, List.set_cons_zero, List.set_cons_succ, i64_w, i32_w]
          rfl
        refine take_ (i := 16) (N := some 42) (v := ?_) (a' := ?_) #[true, true, true, true, true, true, true, true, true, true, true, true, true, true, true, true, true, false, false, false, false, false, false, false, false, false, false, false, false, false, false, false] rfl rfl (by kernel_rfl) (fun _ _ _ h => h) (Or.inl ⟨by rfl, ?_⟩) hHeld ?_ ?_
        rotate_left
        · rintro w' ⟨s0, s1, s2, s3⟩
          go_simp
          with_reducible rfl
        rotate_left
        · simp only [Act.put, List.setIfInBounds_toArray, List.set_cons_zero, List.set_cons_succ, i64_w, i32_w]
          rfl
        refine take_ (i := 17) (N := some 43) (v := ?_) (a' := ?_) #[true, true, true, true, true, true, true, true, true, true, true, true, true, true, true, true, true, true, false, false, false, false, false, false, false, false, false, false, false, false, false, false] rfl rfl (by kernel_rfl) (fun _ _ _ h => h) (Or.inl ⟨by rfl, ?_⟩) hHeld ?_ ?_
        rotate_left
        · rintro w' ⟨s0, s1, s2, s3⟩
          go_simp
          with_reducible rfl
        rotate_left
        · simp only [Act.put, List.setIfInBounds_toArray, List.set_cons_zero, List.set_cons_succ, i64_w, i32_w]
          rfl
        refine one_ (i := 18) (N := some 44) #[true, true, true, true, true, true, true, true, true, true, true, true, true, true, true, true, true, true, true, false, false, false, false, false, false, false, false, false, false, false, false, false] rfl rfl (by kernel_rfl) (by decide) (fun K hK => ?_)
        refine goes_ Tryd.func35 (by kernel_rfl) rfl #[.agg #[.int .i64 n1, .slice A9 l2.length c9], .agg #[.int .i64 n1, .slice A4 l1.length c4]] (by rfl) rfl rfl (by first | (simp only [List.map_toArray, List.map_cons, List.map_nil]; done) | (simp only [List.map_toArray, List.map_cons, List.map_nil]; rfl)) ?_
        with_reducible refine (Q2.out _ _ _ (E5.out.below (cur)) (E4.out.below (cur))).mono ?_
        rintro e w3 ⟨rfl, hb⟩
        refine ⟨_, rfl, ?_⟩
        replace cur := seq cur hb
        clear hb
        refine hK.out _ _ ⟨cell_below cur x0, cell_below cur x1, cell_below cur y0, cell_below cur y1⟩ (fun hHeld => ?_)
        clear hK K
        refine norm_ (a' := ?_) ?_ ?_
        rotate_left
        · show Act.put _ (some 44) _ = _
          simp only [Act.put, List.setIfInBounds_toArray, List.set_cons_zero, List.set_cons_succ, i64_w, i32_w]
          rfl
        refine pure_ (i := 19) (N := some 45) (v := ?_) (a' := ?_) #[true, true, true, true, true, true, true, true, true, true, true, true, true, true, true, true, true, true, true, true, false, false, false, false, false, false, false, false, false, false, false, false] rfl rfl (by kernel_rfl) (fun _ _ _ h => h) (Or.inl ⟨by rfl, ?_⟩) ?_ ?_
        rotate_left
        · intro w'
          go_simp
          with_reducible rfl
        rotate_left
        · simp only [Act.put, List.setIfInBounds_toArray, List.set_cons_zero, List.set_cons_succ, i64_w, i32_w]
          rfl
        refine pure_ (i := 20) (N := some 46) (v := ?_) (a' := ?_) #[true, true, true, true, true, true, true, true, true, true, true, true, true, true, true, true, true, true, true, true, true, false, false, false, false, false, false, false, false, false, false, false] rfl rfl (by kernel_rfl) (fun _ _ _ h => h) (Or.inl ⟨by rfl, ?_⟩) ?_ ?_
        rotate_left
        · intro w'
          go_simp
          with_reducible rfl
        rotate_left
        · simp only [Act.put, List.setIfInBounds_toArray, List.set_cons_zero, List.set_cons_succ, i64_w, i32_w]
          rfl
        refine pure_ (i := 21) (N := some 47) (v := ?_) (a' := ?_) #[true, true, true, true, true, true, true, true, true, true, true, true, true, true, true, true, true, true, true, true, true, true, false, false, false, false, false, false, false, false, false, false] rfl rfl (by kernel_rfl) (fun _ _ _ h => h) (Or.inl ⟨by rfl, ?_⟩) ?_ ?_
        rotate_left
        · intro w'
          go_simp
          with_reducible rfl
        rotate_left
        · simp only [Act.put, List.setIfInBounds_toArray, List.set_cons_zero, List.set_cons_succ, i64_w, i32_w]
          rfl
        refine pure_ (i := 22) (N := some 48) (v := ?_) (a' := ?_) #[true, true, true, true, true, true, true, true, true, true, true, true, true, true, true, true, true, true, true, true, true, true, true, false, false, false, false, false, false, false, false, false] rfl rfl (by kernel_rfl) (fun _ _ _ h => h) (Or.inl ⟨by rfl, ?_⟩) ?_ ?_
        rotate_left
        · intro w'
          go_simp
          with_reducible rfl
        rotate_left
        · simp only [Act.put, List.setIfInBounds_toArray, List.set_cons_zero, List.set_cons_succ, i64_w, i32_w]
          rfl
        refine take_ (i := 23) (N := some 49) (v := ?_) (a' := ?_) #[true, true, true, true, true, true, true, true, true, true, true, true, true, true, true, true, true, true, true, true, true, true, true, true, false, false, false, false, false, false, false, false] rfl rfl (by kernel_rfl) (fun _ _ _ h => h) (Or.inl ⟨by rfl, ?_⟩) hHeld ?_ ?_
        rotate_left
        · rintro w' ⟨s0, s1, s2, s3⟩
          go_simp
          with_reducible rfl
        rotate_left
        · simp only [Act.put, List.setIfInBounds_toArray, List.set_cons_zero, List.set_cons_succ, i64_w, i32_w]
          rfl
        refine take_ (i := 24) (N := some 50) (v := ?_) (a' := ?_) #[true, true, true, true, true, true, true, true, true, true, true, true, true, true, true, true, true, true, true, true, true, true, true, true, true, false, false, false, false, false, false, false] rfl rfl (by kernel_rfl) (fun _ _ _ h => h) (Or.inl ⟨by rfl, ?_⟩) hHeld ?_ ?_
        rotate_left
        · rintro w' ⟨s0, s1, s2, s3⟩
          go_simp
          with_reducible rfl
        rotate_left
        · simp only [Act.put, List.setIfInBounds_toArray, List.set_cons_zero, List.set_cons_succ, i64_w, i32_w]
          rfl
        refine take_ (i := 26) (N := some 52) (v := ?_) (a' := ?_) #[true, true, true, true, true, true, true, true, true, true, true, true, true, true, true, true, true, true, true, true, true, true, true, true, true, false, true, false, false, false, false, false] rfl rfl (by kernel_rfl) (fun _ _ _ h => h) (Or.inl ⟨by rfl, ?_⟩) hHeld ?_ ?_
        rotate_left
        · rintro w' ⟨s0, s1, s2, s3⟩
          go_simp
          with_reducible rfl
        rotate_left
        · simp only [Act.put, List.setIfInBounds_toArray, List.set_cons_zero, List.set_cons_succ, i64_w, i32_w]
          rfl
        refine take_ (i := 27) (N := some 53) (v := ?_) (a' := ?_) #[true, true, true, true, true, true, true, true, true, true, true, true, true, true, true, true, true, true, true, true, true, true, true, true, true, false, true, true, false, false, false, false] rfl rfl (by kernel_rfl) (fun _ _ _ h => h) (Or.inl ⟨by rfl, ?_⟩) hHeld ?_ ?_
        rotate_left
        · rintro w' ⟨s0, s1, s2, s3⟩
          go_simp
          with_reducible rfl
        rotate_left
        · simp only [Act.put, List.setIfInBounds_toArray, List.set_cons_zero, List.set_cons_succ, i64_w, i32_w]
          rfl
        refine one_ (i := 25) (N := some 51) #[true, true, true, true, true, true, true, true, true, true, true, true, true, true, true, true, true, true, true, true, true, true, true, true, true, true, true, true, false, false, false, false] rfl rfl (by kernel_rfl) (by decide) (fun K hK => ?_)
        refine goes_ Tryd.func33 (by kernel_rfl) rfl #[.agg #[.int .i64 n1, .slice A4 l1.length c4], .agg #[.int .i64 n1, .slice A9 l2.length c9]] (by rfl) rfl rfl (by first | (simp only [List.map_toArray, List.map_cons, List.map_nil]; done) | (simp only [List.map_toArray, List.map_cons, List.map_nil]; rfl)) ?_
        with_reducible refine (J1.out _ _ _ (E4.out.below (cur)) (E5.out.below (cur))).mono ?_
        rintro e w3 ⟨v25, rfl, hz25, hb⟩
        dsimp only at hz25
        obtain ⟨A25, c25, rfl⟩ := hz25.form
        have Z25 := Lib.hid hz25.zat
        clear hz25
        refine ⟨_, rfl, ?_⟩
        replace cur := seq cur hb
        clear hb
        refine hK.out _ _ ⟨cell_below cur x0, cell_below cur x1, cell_below cur y0, cell_below cur y1⟩ (fun hHeld => ?_)
        clear hK K
        refine norm_ (a' := ?_) ?_ ?_
        rotate_left
        · show Act.put _ (some 51) _ = _
          simp only [Act.put, List.setIfInBounds_toArray, List.set_cons_zero, List.set_cons_succ, i64_w, i32_w]
          rfl
        refine one_ (i := 28) (N := some 54) #[true, true, true, true, true, true, true, true, true, true, true, true, true, true, true, true, true, true, true, true, true, true, true, true, true, true, true, true, true, false, false, false] rfl rfl (by kernel_rfl) (by decide) (fun K hK => ?_)
        refine goes_ Tryd.func33 (by kernel_rfl) rfl #[.agg #[.int .i64 n1, .slice A9 l2.length c9], .agg #[.int .i64 n1, .slice A4 l1.length c4]] (by rfl) rfl rfl (by first | (simp only [List.map_toArray, List.map_cons, List.map_nil]; done) | (simp only [List.map_toArray, List.map_cons, List.map_nil]; rfl)) ?_
        with_reducible refine (J2.out _ _ _ (E5.out.below (cur)) (E4.out.below (cur))).mono ?_
        rintro e w3 ⟨v28, rfl, hz28, hb⟩
        dsimp only at hz28
        obtain ⟨A28, c28, rfl⟩ := hz28.form
        replace Z25 := Lib.hid (Z25.out.below hb)
        have Z28 := Lib.hid hz28.zat
        clear hz28
        refine ⟨_, rfl, ?_⟩
        replace cur := seq cur hb
        clear hb
        refine hK.out _ _ ⟨cell_below cur x0, cell_below cur x1, cell_below cur y0, cell_below cur y1⟩ (fun hHeld => ?_)
        clear hK K
        refine norm_ (a' := ?_) ?_ ?_
        rotate_left
        · show Act.put _ (some 54) _ = _
          simp only [Act.put, List.setIfInBounds_toArray, List.set_cons_zero, List.set_cons_succ, i64_w, i32_w]
          rfl
        refine one_ (i := 29) (N := some 55) #[true, true, true, true, true, true, true, true, true, true, true, true, true, true, true, true, true, true, true, true, true, true, true, true, true, true, true, true, true, true, false, false] rfl rfl (by kernel_rfl) (by decide) (fun K hK => ?_)
        refine goes_ Tryd.func24 (by kernel_rfl) rfl #[.agg #[.int .i64 jn, .slice A25 jl.length c25], .agg #[.int .i64 jn, .slice A28 jl.length c28]] (by rfl) rfl rfl (by first | (simp only [List.map_toArray, List.map_cons, List.map_nil]; done) | (simp only [List.map_toArray, List.map_cons, List.map_nil]; rfl)) ?_
        with_reducible refine (S3.out _ _ _ Z25.out Z28.out).mono ?_
        rintro e w3 ⟨rfl, hb⟩
        refine ⟨_, rfl, ?_⟩
        replace cur := seq cur hb
        clear hb
        refine hK.out _ _ ⟨cell_below cur x0, cell_below cur x1, cell_below cur y0, cell_below cur y1⟩ (fun hHeld => ?_)
        clear hK K
        refine norm_ (a' := ?_) ?_ ?_
        rotate_left
        · show Act.put _ (some 55) _ = _
          simp only [Act.put, List.setIfInBounds_toArray, List.set_cons_zero, List.set_cons_succ, i64_w, i32_w]
          rfl
        refine pure_ (i := 30) (N := some 56) (v := ?_) (a' := ?_) #[true, true, true, true, true, true, true, true, true, true, true, true, true, true, true, true, true, true, true, true, true, true, true, true, true, true, true, true, true, true, true, false] rfl rfl (by kernel_rfl) (fun _ _ _ h => h) (Or.inl ⟨by rfl, ?_⟩) ?_ ?_
        rotate_left
        · intro w'
          go_simp
          with_reducible rfl
        rotate_left
        · simp only [Act.put, List.setIfInBounds_toArray, List.set_cons_zero, List.set_cons_succ, i64_w, i32_w]
          rfl
        refine pure_ (i := 31) (N := some 4) (v := ?_) (a' := ?_) #[true, true, true, true, true, true, true, true, true, true, true, true, true, true, true, true, true, true, true, true, true, true, true, true, true, true, true, true, true, true, true, true] rfl rfl (by kernel_rfl) (fun _ _ _ h => h) (Or.inl ⟨by rfl, ?_⟩) ?_ ?_
        rotate_left
        · intro w'
          go_simp
          with_reducible rfl
        rotate_left
        · simp only [Act.put, List.setIfInBounds_toArray, List.set_cons_zero, List.set_cons_succ, i64_w, i32_w]
          rfl
        refine done_ (by kernel_rfl) ?_
        have HCur := Lib.hid (seq E1.out cur)
        clear cur
        go_wp2_with fail
        go_ret
        exact ⟨rfl, HCur.out⟩
      · have S1 := Lib.hid s1
        clear s1
        refine start_ (n := 32) (S := fun w' => w'.cell? ⟨ga10, 0, none⟩ = some (.int .i64 n1) ∧ w'.cell? ⟨ga10, 1, none⟩ = some (.slice A4 l1.length c4) ∧ w'.cell? ⟨ga11, 0, none⟩ = some (.int .i64 n1) ∧ w'.cell? ⟨ga11, 1, none⟩ = some (.slice A9 l2.length c9)) (ds := []) #[false, false, false, false, false, false, false, false, false, false, false, false, false, false, false, false, false, false, false, false, false, false, false, false, false, false, false, false, false, false, false, false] (by kernel_rfl) rfl rfl ⟨cell_below ((Below.refl W4.heap.size W4).drew) x0, cell_below ((Below.refl W4.heap.size W4).drew) x1, cell_below ((Below.refl W4.heap.size W4).drew) y0, cell_below ((Below.refl W4.heap.size W4).drew) y1⟩ (fun hHeld => ?_)
        refine one_ (i := 0) (N := some 26) #[true, false, false, false, false, false, false, false, false, false, false, false, false, false, false, false, false, false, false, false, false, false, false, false, false, false, false, false, false, false, false, false] rfl rfl (by kernel_rfl) (by decide) (fun K hK => ?_)
        refine goes_ Tryd.func14 (by kernel_rfl) rfl #[] (by rfl) rfl rfl (by first | (simp only [List.map_toArray, List.map_cons, List.map_nil]; done) | (simp only [List.map_toArray, List.map_cons, List.map_nil]; rfl)) ?_
        with_reducible refine (alive_any _).mono ?_
        rintro e w3 ⟨rfl, hb⟩
        refine ⟨_, rfl, ?_⟩
        have cur := seq ((Below.refl W4.heap.size W4).drew) hb
        clear hb
        refine hK.out _ _ ⟨cell_below cur x0, cell_below cur x1, cell_below cur y0, cell_below cur y1⟩ (fun hHeld => ?_)
        clear hK K
        refine norm_ (a' := ?_) ?_ ?_
        rotate_left
        · show Act.put _ (some 26) _ = _
          simp only [Act.put, List.setIfInBounds_toArray, List.set_cons_zero, List.set_cons_succ, i64_w, i32_w]
          rfl
        refine pure_ (i := 1) (N := some 27) (v := ?_) (a' := ?_) #[true, true, false, false, false, false, false, false, false, false, false, false, false, false, false, false, false, false, false, false, false, false, false, false, false, false, false, false, false, false, false, false] rfl rfl (by kernel_rfl) (fun _ _ _ h => h) (Or.inl ⟨by rfl, ?_⟩) ?_ ?_
        rotate_left
        · intro w'
          go_simp
          with_reducible rfl
        rotate_left
        · simp only [Act.put, List.setIfInBounds_toArray, List.set_cons_zero, List.set_cons_succ, i64_w, i32_w]
          rfl
        refine pure_ (i := 5) (N := some 31) (v := ?_) (a' := ?_) #[true, true, false, false, false, true, false, false, false, false, false, false, false, false, false, false, false, false, false, false, false, false, false, false, false, false, false, false, false, false, false, false] rfl rfl (by kernel_rfl) (fun _ _ _ h => h) (Or.inl ⟨by rfl, ?_⟩) ?_ ?_
        rotate_left
        · intro w'
          go_simp
          with_reducible rfl
        rotate_left
        · simp only [Act.put, List.setIfInBounds_toArray, List.set_cons_zero, List.set_cons_succ, i64_w, i32_w]
          rfl
        refine pure_ (i := 7) (N := some 33) (v := ?_) (a' := ?_) #[true, true, false, false, false, true, false, true, false, false, false, false, false, false, false, false, false, false, false, false, false, false, false, false, false, false, false, false, false, false, false, false] rfl rfl (by kernel_rfl) (fun _ _ _ h => h) (Or.inl ⟨by rfl, ?_⟩) ?_ ?_
        rotate_left
        · intro w'
          go_simp
          with_reducible rfl
        rotate_left
        · simp only [Act.put, List.setIfInBounds_toArray, List.set_cons_zero, List.set_cons_succ, i64_w, i32_w]
          rfl
        refine take_ (i := 2) (N := some 28) (v := ?_) (a' := ?_) #[true, true, true, false, false, true, false, true, false, false, false, false, false, false, false, false, false, false, false, false, false, false, false, false, false, false, false, false, false, false, false, false] rfl rfl (by kernel_rfl) (fun _ _ _ h => h) (Or.inl ⟨by rfl, ?_⟩) hHeld ?_ ?_
        rotate_left
        · rintro w' ⟨s0, s1, s2, s3⟩
          go_simp
          with_reducible rfl
        rotate_left
        · simp only [Act.put, List.setIfInBounds_toArray, List.set_cons_zero, List.set_cons_succ, i64_w, i32_w]
          rfl
        refine take_ (i := 3) (N := some 29) (v := ?_) (a' := ?_) #[true, true, true, true, false, true, false, true, false, false, false, false, false, false, false, false, false, false, false, false, false, false, false, false, false, false, false, false, false, false, false, false] rfl rfl (by kernel_rfl) (fun _ _ _ h => h) (Or.inl ⟨by rfl, ?_⟩) hHeld ?_ ?_
        rotate_left
        · rintro w' ⟨s0, s1, s2, s3⟩
          go_simp
          with_reducible rfl
        rotate_left
        · simp only [Act.put, List.setIfInBounds_toArray, List.set_cons_zero, List.set_cons_succ, i64_w, i32_w]
          rfl
        refine take_ (i := 6) (N := some 32) (v := ?_) (a' := ?_) #[true, true, true, true, false, true, true, true, false, false, false, false, false, false, false, false, false, false, false, false, false, false, false, false, false, false, false, false, false, false, false, false] rfl rfl (by kernel_rfl) (fun _ _ _ h => h) (Or.inl ⟨by rfl, ?_⟩) hHeld ?_ ?_
        rotate_left
        · rintro w' ⟨s0, s1, s2, s3⟩
          go_simp
          with_reducible rfl
        rotate_left
        · simp only [Act.put, List.setIfInBounds_toArray, List.set_cons_zero, List.set_cons_succ, i64_w, i32_w]
          rfl
        refine take_ (i := 8) (N := some 34) (v := ?_) (a' := ?_) #[true, true, true, true, false, true, true, true, true, false, false, false, false, false, false, false, false, false, false, false, false, false, false, false, false, false, false, false, false, false, false, false] rfl rfl (by kernel_rfl) (fun _ _ _ h => h) (Or.inl ⟨by rfl, ?_⟩) hHeld ?_ ?_
        rotate_left
        · rintro w' ⟨s0, s1, s2, s3⟩
          go_simp
          with_reducible rfl
        rotate_left
        · simp only [Act.put, List.setIfInBounds_toArray, List.set_cons_zero, List.set_cons_succ, i64_w, i32_w]
          rfl
        refine pure_ (i := 9) (N := some 35) (v := ?_) (a' := ?_) #[true, true, true, true, false, true, true, true, true, true, false, false, false, false, false, false, false, false, false, false, false, false, false, false, false, false, false, false, false, false, false, false] rfl rfl (by kernel_rfl) (fun _ _ _ h => h) (Or.inl ⟨by rfl, ?_⟩) ?_ ?_
        rotate_left
        · intro w'
          go_simp
          with_reducible rfl
        rotate_left
        · simp only [Act.put, List.setIfInBounds_toArray, List.set_cons_zero, List.set_cons_succ, i64_w, i32_w]
          rfl
        refine one_ (i := 4) (N := some 30) #[true, true, true, true, true, true, true, true, true, true, false, false, false, false, false, false, false, false, false, false, false, false, false, false, false, false, false, false, false, false, false, false] rfl rfl (by kernel_rfl) (by decide) (fun K hK => ?_)
        refine goes_ Tryd.func24 (by kernel_rfl) rfl #[.agg #[.int .i64 n1, .slice A4 l1.length c4], .agg #[.int .i64 n1, .slice A9 l2.length c9]] (by rfl) rfl rfl (by first | (simp only [List.map_toArray, List.map_cons, List.map_nil]; done) | (simp only [List.map_toArray, List.map_cons, List.map_nil]; rfl)) ?_
        with_reducible refine (S1.out _ _ _ (E4.out.below (cur)) (E5.out.below (cur))).mono ?_
        rintro e w3 ⟨rfl, hb⟩
        refine ⟨_, rfl, ?_⟩
        replace cur := seq cur hb
        clear hb
        refine hK.out _ _ ⟨cell_below cur x0, cell_below cur x1, cell_below cur y0, cell_below cur y1⟩ (fun hHeld => ?_)
        clear hK K
        refine norm_ (a' := ?_) ?_ ?_
        rotate_left
        · show Act.put _ (some 30) _ = _
          simp only [Act.put, List.setIfInBounds_toArray, List.set_cons_zero, List.set_cons_succ, i64_w, i32_w]
          rfl
        refine pure_ (i := 10) (N := some 36) (v := ?_) (a' := ?_) #[true, true, true, true, true, true, true, true, true, true, true, false, false, false, false, false, false, false, false, false, false, false, false, false, false, false, false, false, false, false, false, false] rfl rfl (by kernel_rfl) (fun _ _ _ h => h) (Or.inl ⟨by rfl, ?_⟩) ?_ ?_
        rotate_left
        · intro w'
          go_simp
          with_reducible rfl
        rotate_left
        · simp only [Act.put, List.setIfInBounds_toArray, List.set_cons_zero, List.set_cons_succ, i64_w, i32_w]
          rfl
        refine take_ (i := 11) (N := some 37) (v := ?_) (a' := ?_) #[true, true, true, true, true, true, true, true, true, true, true, true, false, false, false, false, false, false, false, false, false, false, false, false, false, false, false, false, false, false, false, false] rfl rfl (by kernel_rfl) (fun _ _ _ h => h) (Or.inl ⟨by rfl, ?_⟩) hHeld ?_ ?_
        rotate_left
        · rintro w' ⟨s0, s1, s2, s3⟩
          go_simp
          with_reducible rfl
        rotate_left
        · simp only [Act.put, List.setIfInBounds_toArray, List.set_cons_zero, List.set_cons_succ, i64_w, i32_w]
          rfl
        refine take_ (i := 12) (N := some 38) (v := ?_) (a' := ?_) #[true, true, true, true, true, true, true, true, true, true, true, true, true, false, false, false, false, false, false, false, false, false, false, false, false, false, false, false, false, false, false, false] rfl rfl (by kernel_rfl) (fun _ _ _ h => h) (Or.inl ⟨by rfl, ?_⟩) hHeld ?_ ?_
        rotate_left
        · rintro w' ⟨s0, s1, s2, s3⟩
          go_simp
          with_reducible rfl
        rotate_left
        · simp only [Act.put, List.setIfInBounds_toArray, List.set_cons_zero, List.set_cons_succ, i64_w, i32_w]
          rfl
        refine one_ (i := 13) (N := some 39) #[true, true, true, true, true, true, true, true, true, true, true, true, true, true, false, false, false, false, false, false, false, false, false, false, false, false, false, false, false, false, false, false] rfl rfl (by kernel_rfl) (by decide) (fun K hK => ?_)
        refine goes_ Tryd.func35 (by kernel_rfl) rfl #[.agg #[.int .i64 n1, .slice A4 l1.length c4], .agg #[.int .i64 n1, .slice A9 l2.length c9]] (by rfl) rfl rfl (by first | (simp only [List.map_toArray, List.map_cons, List.map_nil]; done) | (simp only [List.map_toArray, List.map_cons, List.map_nil]; rfl)) ?_
        with_reducible refine (Q1.out _ _ _ (E4.out.below (cur)) (E5.out.below (cur))).mono ?_
        rintro e w3 ⟨rfl, hb⟩
        refine ⟨_, rfl, ?_⟩
        replace cur := seq cur hb
        clear hb
        refine hK.out _ _ ⟨cell_below cur x0, cell_below cur x1, cell_below cur y0, cell_below cur y1⟩ (fun hHeld => ?_)
        clear hK K
        refine norm_ (a' := ?_) ?_ ?_
        rotate_left
        · show Act.put _ (some 39) _ = _
          simp only [Act.put, List.setIfInBounds_toArray, List.set_cons_zero, List.set_cons_succ, i64_w, i32_w]
          rfl
        refine pure_ (i := 14) (N := some 40) (v := ?_) (a' := ?_) #[true, true, true, true, true, true, true, true, true, true, true, true, true, true, true, false, false, false, false, false, false, false, false, false, false, false, false, false, false, false, false, false] rfl rfl (by kernel_rfl) (fun _ _ _ h => h) (Or.inl ⟨by rfl, ?_⟩) ?_ ?_
        rotate_left
        · intro w'
          go_simp
          with_reducible rfl
        rotate_left
        · simp only [Act.put, List.setIfInBounds_toArray, List.set_cons_zero, List.set_cons_succ, i64_w, i32_w]
          rfl
        refine pure_ (i := 15) (N := some 41) (v := ?_) (a' := ?_) #[true, true, true, true, true, true, true, true, true, true, true, true, true, true, true, true, false, false, false, false, false, false, false, false, false, false, false, false, false, false, false, false] rfl rfl (by kernel_rfl) (fun _ _ _ h => h) (Or.inl ⟨by rfl, ?_⟩) ?_ ?_
        rotate_left
        · intro w'
          go_simp
          with_reducible rfl
        rotate_left
        · simp only [Act.put, List.setIfInBounds_toArray, List.set_cons_zero, List.set_cons_succ, i64_w, i32_w]
          rfl
        refine take_ (i := 16) (N := some 42) (v := ?_) (a' := ?_) #[true, true, true, true, true, true, true, true, true, true, true, true, true, true, true, true, true, false, false, false, false, false, false, false, false, false, false, false, false, false, false, false] rfl rfl (by kernel_rfl) (fun _ _ _ h => h) (Or.inl ⟨by rfl, ?_⟩) hHeld ?_ ?_
        rotate_left
        · rintro w' ⟨s0, s1, s2, s3⟩
          go_simp
          with_reducible rfl
        rotate_left
        · simp only [Act.put, List.setIfInBounds_toArray, List.set_cons_zero, List.set_cons_succ, i64_w, i32_w]
          rfl
        refine take_ (i := 17) (N := some 43) (v := ?_) (a' := ?_) #[true, true, true, true, true, true, true, true, true, true, true, true, true, true, true, true, true, true, false, false, false, false, false, false, false, false, false, false, false, false, false, false] rfl rfl (by kernel_rfl) (fun _ _ _ h => h) (Or.inl ⟨by rfl, ?_⟩) hHeld ?_ ?_
        rotate_left
        · rintro w' ⟨s0, s1, s2, s3⟩
          go_simp
          with_reducible rfl
        rotate_left
        · simp only [Act.put, List.setIfInBounds_toArray, List.set_cons_zero, List.set_cons_succ, i64_w, i32_w]
          rfl
        refine one_ (i := 18) (N := some 44) #[true, true, true, true, true, true, true, true, true, true, true, true, true, true, true, true, true, true, true, false, false, false, false, false, false, false, false, false, false, false, false, false] rfl rfl (by kernel_rfl) (by decide) (fun K hK => ?_)
        refine goes_ Tryd.func35 (by kernel_rfl) rfl #[.agg #[.int .i64 n1, .slice A9 l2.length c9], .agg #[.int .i64 n1, .slice A4 l1.length c4]] (by rfl) rfl rfl (by first | (simp only [List.map_toArray, List.map_cons, List.map_nil]; done) | (simp only [List.map_toArray, List.map_cons, List.map_nil]; rfl)) ?_
        with_reducible refine (Q2.out _ _ _ (E5.out.below (cur)) (E4.out.below (cur))).mono ?_
        rintro e w3 ⟨rfl, hb⟩
        refine ⟨_, rfl, ?_⟩
        replace cur := seq cur hb
        clear hb
        refine hK.out _ _ ⟨cell_below cur x0, cell_below cur x1, cell_below cur y0, cell_below cur y1⟩ (fun hHeld => ?_)
        clear hK K
        refine norm_ (a' := ?_) ?_ ?_
        rotate_left
        · show Act.put _ (some 44) _ = _
          simp only [Act.put, List.setIfInBounds_toArray, List.set_cons_zero, List.set_cons_succ, i64_w, i32_w]
          rfl
        refine pure_ (i := 19) (N := some 45) (v := ?_) (a' := ?_) #[true, true, true, true, true, true, true, true, true, true, true, true, true, true, true, true, true, true, true, true, false, false, false, false, false, false, false, false, false, false, false, false] rfl rfl (by kernel_rfl) (fun _ _ _ h => h) (Or.inl ⟨by rfl, ?_⟩) ?_ ?_
        rotate_left
        · intro w'
          go_simp
          with_reducible rfl
        rotate_left
        · simp only [Act.put, List.setIfInBounds_toArray, List.set_cons_zero, List.set_cons_succ, i64_w, i32_w]
          rfl
        refine pure_ (i := 20) (N := some 46) (v := ?_) (a' := ?_) #[true, true, true, true, true, true, true, true, true, true, true, true, true, true, true, true, true, true, true, true, true, false, false, false, false, false, false, false, false, false, false, false] rfl rfl (by kernel_rfl) (fun _ _ _ h => h) (Or.inl ⟨by rfl, ?_⟩) ?_ ?_
        rotate_left
        · intro w'
          go_simp
          with_reducible rfl
        rotate_left
        · simp only [Act.put, List.setIfInBounds_toArray, List.set_cons_zero, List.set_cons_succ, i64_w, i32_w]
          rfl
        refine pure_ (i := 21) (N := some 47) (v := ?_) (a' := ?_) #[true, true, true, true, true, true, true, true, true, true, true, true, true, true, true, true, true, true, true, true, true, true, false, false, false, false, false, false, false, false, false, false] rfl rfl (by kernel_rfl) (fun _ _ _ h => h) (Or.inl ⟨by rfl, ?_⟩) ?_ ?_
        rotate_left
        · intro w'
          go_simp
          with_reducible rfl
        rotate_left
        · simp only [Act.put, List.setIfInBounds_toArray, List.set_cons_zero, List.set_cons_succ, i64_w, i32_w]
          rfl
        refine pure_ (i := 22) (N := some 48) (v := ?_) (a' := ?_) #[true, true, true, true, true, true, true, true, true, true, true, true, true, true, true, true, true, true, true, true, true, true, true, false, false, false, false, false, false, false, false, false] rfl rfl (by kernel_rfl) (fun _ _ _ h => h) (Or.inl ⟨by rfl, ?_⟩) ?_ ?_
        rotate_left
        · intro w'
          go_simp
          with_reducible rfl
        rotate_left
        · simp only [Act.put, List.setIfInBounds_toArray, List.set_cons_zero, List.set_cons_succ, i64_w, i32_w]
          rfl
        refine take_ (i := 23) (N := some 49) (v := ?_) (a' := ?_) #[true, true, true, true, true, true, true, true, true, true, true, true, true, true, true, true, true, true, true, true, true, true, true, true, false, false, false, false, false, false, false, false] rfl rfl (by kernel_rfl) (fun _ _ _ h => h) (Or.inl ⟨by rfl, ?_⟩) hHeld ?_ ?_
        rotate_left
        · rintro w' ⟨s0, s1, s2, s3⟩
          go_simp
          with_reducible rfl
        rotate_left
        · simp only [Act.put, List.setIfInBounds_toArray, List.set_cons_zero, List.set_cons_succ, i64_w, i32_w]
          rfl
        refine take_ (i := 24) (N := some 50) (v := ?_) (a' := ?_) #[true, true, true, true, true, true, true, true, true, true, true, true, true, true, true, true, true, true, true, true, true, true, true, true, true, false, false, false, false, false, false, false] rfl rfl (by kernel_rfl) (fun _ _ _ h => h) (Or.inl ⟨by rfl, ?_⟩) hHeld ?_ ?_
        rotate_left
        · rintro w' ⟨s0, s1, s2, s3⟩
          go_simp
          with_reducible rfl
        rotate_left
        · simp only [Act.put, List.setIfInBounds_toArray, List.set_cons_zero, List.set_cons_succ, i64_w, i32_w]
          rfl
        refine take_ (i := 26) (N := some 52) (v := ?_) (a' := ?_) #[true, true, true, true, true, true, true, true, true, true, true, true, true, true, true, true, true, true, true, true, true, true, true, true, true, false, true, false, false, false, false, false] rfl rfl (by kernel_rfl) (fun _ _ _ h => h) (Or.inl ⟨by rfl, ?_⟩) hHeld ?_ ?_
        rotate_left
        · rintro w' ⟨s0, s1, s2, s3⟩
          go_simp
          with_reducible rfl
        rotate_left
        · simp only [Act.put, List.setIfInBounds_toArray, List.set_cons_zero, List.set_cons_succ, i64_w, i32_w]
          rfl
        refine take_ (i := 27) (N := some 53) (v := ?_) (a' := ?_) #[true, true, true, true, true, true, true, true, true, true, true, true, true, true, true, true, true, true, true, true, true, true, true, true, true, false, true, true, false, false, false, false] rfl rfl (by kernel_rfl) (fun _ _ _ h => h) (Or.inl ⟨by rfl, ?_⟩) hHeld ?_ ?_
        rotate_left
        · rintro w' ⟨s0, s1, s2, s3⟩
          go_simp
          with_reducible rfl
        rotate_left
        · simp only [Act.put, List.setIfInBounds_toArray, List.set_cons_zero, List.set_cons_succ, i64_w, i32_w]
          rfl
        refine one_ (i := 25) (N := some 51) #[true, true, true, true, true, true, true, true, true, true, true, true, true, true, true, true, true, true, true, true, true, true, true, true, true, true, true, true, false, false, false, false] rfl rfl (by kernel_rfl) (by decide) (fun K hK => ?_)
        refine goes_ Tryd.func33 (by kernel_rfl) rfl #[.agg #[.int .i64 n1, .slice A4 l1.length c4], .agg #[.int .i64 n1, .slice A9 l2.length c9]] (by rfl) rfl rfl (by first | (simp only [List.map_toArray, List.map_cons, List.map_nil]; done) | (simp only [List.map_toArray, List.map_cons, List.map_nil]; rfl)) ?_
        with_reducible refine (J1.out _ _ _ (E4.out.below (cur)) (E5.out.below (cur))).mono ?_
        rintro e w3 ⟨v25, rfl, hz25, hb⟩
        dsimp only at hz25
        obtain ⟨A25, c25, rfl⟩ := hz25.form
        have Z25 := Lib.hid hz25.zat
        clear hz25
        refine ⟨_, rfl, ?_⟩
        replace cur := seq cur hb
        clear hb
        refine hK.out _ _ ⟨cell_below cur x0, cell_below cur x1, cell_below cur y0, cell_below cur y1⟩ (fun hHeld => ?_)
        clear hK K
        refine norm_ (a' := ?_) ?_ ?_
        rotate_left
        · show Act.put _ (some 51) _ = _
          simp only [Act.put, List.setIfInBounds_toArray, List.set_cons_zero, List.set_cons_succ, i64_w, i32_w]
          rfl
        refine one_ (i := 28) (N := some 54) #[true, true, true, true, true, true, true, true, true, true, true, true, true, true, true, true, true, true, true, true, true, true, true, true, true, true, true, true, true, false, false, false] rfl rfl (by kernel_rfl) (by decide) (fun K hK => ?_)
        refine goes_ Tryd.func33 (by kernel_rfl) rfl #[.agg #[.int .i64 n1, .slice A9 l2.length c9], .agg #[.int .i64 n1, .slice A4 l1.length c4]] (by rfl) rfl rfl (by first | (simp only [List.map_toArray, List.map_cons, List.map_nil]; done) | (simp only [List.map_toArray, List.map_cons, List.map_nil]; rfl)) ?_
        with_reducible refine (J2.out _ _ _ (E5.out.below (cur)) (E4.out.below (cur))).mono ?_
        rintro e w3 ⟨v28, rfl, hz28, hb⟩
        dsimp only at hz28
        obtain ⟨A28, c28, rfl⟩ := hz28.form
        replace Z25 := Lib.hid (Z25.out.below hb)
        have Z28 := Lib.hid hz28.zat
        clear hz28
        refine ⟨_, rfl, ?_⟩
        replace cur := seq cur hb
        clear hb
        refine hK.out _ _ ⟨cell_below cur x0, cell_below cur x1, cell_below cur y0, cell_below cur y1⟩ (fun hHeld => ?_)
        clear hK K
        refine norm_ (a' := ?_) ?_ ?_
        rotate_left
        · show Act.put _ (some 54) _ = _
          simp only [Act.put, List.setIfInBounds_toArray, List.set_cons_zero, List.set_cons_succ, i64_w, i32_w]
          rfl
        refine one_ (i := 29) (N := some 55) #[true, true, true, true, true, true, true, true, true, true, true, true, true, true, true, true, true, true, true, true, true, true, true, true, true, true, true, true, true, true, false, false] rfl rfl (by kernel_rfl) (by decide) (fun K hK => ?_)
        refine goes_ Tryd.func24 (by kernel_rfl) rfl #[.agg #[.int .i64 jn, .slice A25 jl.length c25], .agg #[.int .i64 jn, .slice A28 jl.length c28]] (by rfl) rfl rfl (by first | (simp only [List.map_toArray, List.map_cons, List.map_nil]; done) | (simp only [List.map_toArray, List.map_cons, List.map_nil]; rfl)) ?_
        with_reducible refine (S3.out _ _ _ Z25.out Z28.out).mono ?_
        rintro e w3 ⟨rfl, hb⟩
        refine ⟨_, rfl, ?_⟩
        replace cur := seq cur hb
        clear hb
        refine hK.out _ _ ⟨cell_below cur x0, cell_below cur x1, cell_below cur y0, cell_below cur y1⟩ (fun hHeld => ?_)
        clear hK K
        refine norm_ (a' := ?_) ?_ ?_
        rotate_left
        · show Act.put _ (some 55) _ = _
          simp only [Act.put, List.setIfInBounds_toArray, List.set_cons_zero, List.set_cons_succ, i64_w, i32_w]
          rfl
        refine pure_ (i := 30) (N := some 56) (v := ?_) (a' := ?_) #[true, true, true, true, true, true, true, true, true, true, true, true, true, true, true, true, true, true, true, true, true, true, true, true, true, true, true, true, true, true, true, false] rfl rfl (by kernel_rfl) (fun _ _ _ h => h) (Or.inl ⟨by rfl, ?_⟩) ?_ ?_
        rotate_left
        · intro w'
          go_simp
          with_reducible rfl
        rotate_left
        · simp only [Act.put, List.setIfInBounds_toArray, List.set_cons_zero, List.set_cons_succ, i64_w, i32_w]
          rfl
        refine pure_ (i := 31) (N := some 4) (v := ?_) (a' := ?_) #[true, true, true, true, true, true, true, true, true, true, true, true, true, true, true, true, true, true, true, true, true, true, true, true, true, true, true, true, true, true, true, true] rfl rfl (by kernel_rfl) (fun _ _ _ h => h) (Or.inl ⟨by rfl, ?_⟩) ?_ ?_
        rotate_left
        · intro w'
          go_simp
          with_reducible rfl
        rotate_left
        · simp only [Act.put, List.setIfInBounds_toArray, List.set_cons_zero, List.set_cons_succ, i64_w, i32_w]
          rfl
        refine done_ (by kernel_rfl) ?_
        have HCur := Lib.hid (seq E1.out cur)
        clear cur
        go_wp2_with fail
        go_ret
        exact ⟨rfl, HCur.out⟩
  · have he : decide (n1 = n2) = false := decide_eq_false hnn
    rw [he] at s1
    simp only [Bool.false_and] at s1
    have hbe : (n1 == n2) = false := by simp [hnn]
    have hbe : (n1 == n2) = false := by simp [hnn]
    have S1 := Lib.hid s1
    clear s1
    refine start_ (n := 32) (S := fun w' => w'.cell? ⟨ga10, 0, none⟩ = some (.int .i64 n1) ∧ w'.cell? ⟨ga10, 1, none⟩ = some (.slice A4 l1.length c4) ∧ w'.cell? ⟨ga11, 0, none⟩ = some (.int .i64 n2) ∧ w'.cell? ⟨ga11, 1, none⟩ = some (.slice A9 l2.length c9)) (ds := []) #[false, false, false, false, false, false, false, false, false, false, false, false, false, false, false, false, false, false, false, false, false, false, false, false, false, false, false, false, false, false, false, false] (by kernel_rfl) rfl rfl ⟨cell_below ((Below.refl W4.heap.size W4).drew) x0, cell_below ((Below.refl W4.heap.size W4).drew) x1, cell_below ((Below.refl W4.heap.size W4).drew) y0, cell_below ((Below.refl W4.heap.size W4).drew) y1⟩ (fun hHeld => ?_)
    refine one_ (i := 0) (N := some 26) #[true, false, false, false, false, false, false, false, false, false, false, false, false, false, false, false, false, false, false, false, false, false, false, false, false, false, false, false, false, false, false, false] rfl rfl (by kernel_rfl) (by decide) (fun K hK => ?_)
    refine goes_ Tryd.func14 (by kernel_rfl) rfl #[] (by rfl) rfl rfl (by first | (simp only [List.map_toArray, List.map_cons, List.map_nil]; done) | (simp only [List.map_toArray, List.map_cons, List.map_nil]; rfl)) ?_
    with_reducible refine (alive_any _).mono ?_
    rintro e w3 ⟨rfl, hb⟩
    refine ⟨_, rfl, ?_⟩
    have cur := seq ((Below.refl W4.heap.size W4).drew) hb
    clear hb
    refine hK.out _ _ ⟨cell_below cur x0, cell_below cur x1, cell_below cur y0, cell_below cur y1⟩ (fun hHeld => ?_)
    clear hK K
    refine norm_ (a' := ?_) ?_ ?_
    rotate_left
    · show Act.put _ (some 26) _ = _
      simp only [Act.put, List.setIfInBounds_toArray, List.set_cons_zero, List.set_cons_succ, i64_w, i32_w]
      rfl
    refine pure_ (i := 1) (N := some 27) (v := ?_) (a' := ?_) #[true, true, false, false, false, false, false, false, false, false, false, false, false, false, false, false, false, false, false, false, false, false, false, false, false, false, false, false, false, false, false, false] rfl rfl (by kernel_rfl) (fun _ _ _ h => h) (Or.inl ⟨by rfl, ?_⟩) ?_ ?_
    rotate_left
    · intro w'
      go_simp
      with_reducible rfl
    rotate_left
    · simp only [Act.put, List.setIfInBounds_toArray, List.set_cons_zero, List.set_cons_succ, i64_w, i32_w]
      rfl
    refine pure_ (i := 5) (N := some 31) (v := ?_) (a' := ?_) #[true, true, false, false, false, true, false, false, false, false, false, false, false, false, false, false, false, false, false, false, false, false, false, false, false, false, false, false, false, false, false, false] rfl rfl (by kernel_rfl) (fun _ _ _ h => h) (Or.inl ⟨by rfl, ?_⟩) ?_ ?_
    rotate_left
    · intro w'
      go_simp
      with_reducible rfl
    rotate_left
    · simp only [Act.put, List.setIfInBounds_toArray, List.set_cons_zero, List.set_cons_succ, i64_w, i32_w]
      rfl
    refine pure_ (i := 7) (N := some 33) (v := ?_) (a' := ?_) #[true, true, false, false, false, true, false, true, false, false, false, false, false, false, false, false, false, false, false, false, false, false, false, false, false, false, false, false, false, false, false, false] rfl rfl (by kernel_rfl) (fun _ _ _ h => h) (Or.inl ⟨by rfl, ?_⟩) ?_ ?_
    rotate_left
    · intro w'
      go_simp
      with_reducible rfl
    rotate_left
    · simp only [Act.put, List.setIfInBounds_toArray, List.set_cons_zero, List.set_cons_succ, i64_w, i32_w]
      rfl
    refine take_ (i := 2) (N := some 28) (v := ?_) (a' := ?_) #[true, true, true, false, false, true, false, true, false, false, false, false, false, false, false, false, false, false, false, false, false, false, false, false, false, false, false, false, false, false, false, false] rfl rfl (by kernel_rfl) (fun _ _ _ h => h) (Or.inl ⟨by rfl, ?_⟩) hHeld ?_ ?_
    rotate_left
    · rintro w' ⟨s0, s1, s2, s3⟩
      go_simp
      with_reducible rfl
    rotate_left
    · simp only [Act.put, List.setIfInBounds_toArray, List.set_cons_zero, List.set_cons_succ, i64_w, i32_w]
      rfl
    refine take_ (i := 3) (N := some 29) (v := ?_) (a' := ?_) #[true, true, true, true, false, true, false, true, false, false, false, false, false, false, false, false, false, false, false, false, false, false, false, false, false, false, false, false, false, false, false, false] rfl rfl (by kernel_rfl) (fun _ _ _ h => h) (Or.inl ⟨by rfl, ?_⟩) hHeld ?_ ?_
    rotate_left
    · rintro w' ⟨s0, s1, s2, s3⟩
      go_simp
      with_reducible rfl
    rotate_left
    · simp only [Act.put, List.setIfInBounds_toArray, List.set_cons_zero, List.set_cons_succ, i64_w, i32_w]
      rfl
    refine take_ (i := 6) (N := some 32) (v := ?_) (a' := ?_) #[true, true, true, true, false, true, true, true, false, false, false, false, false, false, false, false, false, false, false, false, false, false, false, false, false, false, false, false, false, false, false, false] rfl rfl (by kernel_rfl) (fun _ _ _ h => h) (Or.inl ⟨by rfl, ?_⟩) hHeld ?_ ?_
    rotate_left
    · rintro w' ⟨s0, s1, s2, s3⟩
      go_simp
      with_reducible rfl
    rotate_left
    · simp only [Act.put, List.setIfInBounds_toArray, List.set_cons_zero, List.set_cons_succ, i64_w, i32_w]
      rfl
    refine take_ (i := 8) (N := some 34) (v := ?_) (a' := ?_) #[true, true, true, true, false, true, true, true, true, false, false, false, false, false, false, false, false, false, false, false, false, false, false, false, false, false, false, false, false, false, false, false] rfl rfl (by kernel_rfl) (fun _ _ _ h => h) (Or.inl ⟨by rfl, ?_⟩) hHeld ?_ ?_
    rotate_left
    · rintro w' ⟨s0, s1, s2, s3⟩
      go_simp
      with_reducible rfl
    rotate_left
    · simp only [Act.put, List.setIfInBounds_toArray, List.set_cons_zero, List.set_cons_succ, i64_w, i32_w]
      rfl
    refine pure_ (i := 9) (N := some 35) (v := ?_) (a' := ?_) #[true, true, true, true, false, true, true, true, true, true, false, false, false, false, false, false, false, false, false, false, false, false, false, false, false, false, false, false, false, false, false, false] rfl rfl (by kernel_rfl) (fun _ _ _ h => h) (Or.inl ⟨by rfl, ?_⟩) ?_ ?_
    rotate_left
    · intro w'
      go_simp
      with_reducible rfl
    rotate_left
    · simp only [Act.put, List.setIfInBounds_toArray, List.set_cons_zero, List.set_cons_succ, i64_w, i32_w]
      rfl
    refine one_ (i := 4) (N := some 30) #[true, true, true, true, true, true, true, true, true, true, false, false, false, false, false, false, false, false, false, false, false, false, false, false, false, false, false, false, false, false, false, false] rfl rfl (by kernel_rfl) (by decide) (fun K hK => ?_)
    refine goes_ Tryd.func24 (by kernel_rfl) rfl #[.agg #[.int .i64 n1, .slice A4 l1.length c4], .agg #[.int .i64 n2, .slice A9 l2.length c9]] (by rfl) rfl rfl (by first | (simp only [List.map_toArray, List.map_cons, List.map_nil]; done) | (simp only [List.map_toArray, List.map_cons, List.map_nil]; rfl)) ?_
    with_reducible refine (S1.out _ _ _ (E4.out.below (cur)) (E5.out.below (cur))).mono ?_
    rintro e w3 ⟨rfl, hb⟩
    refine ⟨_, rfl, ?_⟩
    replace cur := seq cur hb
    clear hb
    refine hK.out _ _ ⟨cell_below cur x0, cell_below cur x1, cell_below cur y0, cell_below cur y1⟩ (fun hHeld => ?_)
    clear hK K
    refine norm_ (a' := ?_) ?_ ?_
    rotate_left
    · show Act.put _ (some 30) _ = _
      simp only [Act.put, List.setIfInBounds_toArray, List.set_cons_zero, List.set_cons_succ, i64_w, i32_w]
      rfl
    refine pure_ (i := 10) (N := some 36) (v := ?_) (a' := ?_) #[true, true, true, true, true, true, true, true, true, true, true, false, false, false, false, false, false, false, false, false, false, false, false, false, false, false, false, false, false, false, false, false] rfl rfl (by kernel_rfl) (fun _ _ _ h => h) (Or.inl ⟨by rfl, ?_⟩) ?_ ?_
    rotate_left
    · intro w'
      go_simp
      with_reducible rfl
    rotate_left
    · simp only [Act.put, List.setIfInBounds_toArray, List.set_cons_zero, List.set_cons_succ, i64_w, i32_w]
      rfl
    refine pure_ (i := 11) (N := some 37) (v := undef) (a' := ?_) #[true, true, true, true, true, true, true, true, true, true, true, true, false, false, false, false, false, false, false, false, false, false, false, false, false, false, false, false, false, false, false, false] rfl rfl (by kernel_rfl) (fun _ _ _ h => h) (Or.inr ⟨by rfl, rfl⟩) ?_ ?_
    rotate_left
    · simp only [Act.put, List.setIfInBounds_toArray, List.set_cons_zero, List.set_cons_succ, i64_w, i32_w]
      rfl
    refine pure_ (i := 12) (N := some 38) (v := undef) (a' := ?_) #[true, true, true, true, true, true, true, true, true, true, true, true, true, false, false, false, false, false, false, false, false, false, false, false, false, false, false, false, false, false, false, false] rfl rfl (by kernel_rfl) (fun _ _ _ h => h) (Or.inr ⟨by rfl, rfl⟩) ?_ ?_
    rotate_left
    · simp only [Act.put, List.setIfInBounds_toArray, List.set_cons_zero, List.set_cons_succ, i64_w, i32_w]
      rfl
    refine pure_ (i := 13) (N := some 39) (v := undef) (a' := ?_) #[true, true, true, true, true, true, true, true, true, true, true, true, true, true, false, false, false, false, false, false, false, false, false, false, false, false, false, false, false, false, false, false] rfl rfl (by kernel_rfl) (fun _ _ _ h => h) (Or.inr ⟨by rfl, rfl⟩) ?_ ?_
    rotate_left
    · simp only [Act.put, List.setIfInBounds_toArray, List.set_cons_zero, List.set_cons_succ, i64_w, i32_w]
      rfl
    refine pure_ (i := 14) (N := some 40) (v := ?_) (a' := ?_) #[true, true, true, true, true, true, true, true, true, true, true, true, true, true, true, false, false, false, false, false, false, false, false, false, false, false, false, false, false, false, false, false] rfl rfl (by kernel_rfl) (fun _ _ _ h => h) (Or.inl ⟨by rfl, ?_⟩) ?_ ?_
    rotate_left
    · intro w'
      go_simp
      with_reducible rfl
    rotate_left
    · simp only [Act.put, List.setIfInBounds_toArray, List.set_cons_zero, List.set_cons_succ, i64_w, i32_w]
      rfl
    refine pure_ (i := 15) (N := some 41) (v := ?_) (a' := ?_) #[true, true, true, true, true, true, true, true, true, true, true, true, true, true, true, true, false, false, false, false, false, false, false, false, false, false, false, false, false, false, false, false] rfl rfl (by kernel_rfl) (fun _ _ _ h => h) (Or.inl ⟨by rfl, ?_⟩) ?_ ?_
    rotate_left
    · intro w'
      go_simp
      with_reducible rfl
    rotate_left
    · simp only [Act.put, List.setIfInBounds_toArray, List.set_cons_zero, List.set_cons_succ, i64_w, i32_w]
      rfl
    refine pure_ (i := 16) (N := some 42) (v := undef) (a' := ?_) #[true, true, true, true, true, true, true, true, true, true, true, true, true, true, true, true, true, false, false, false, false, false, false, false, false, false, false, false, false, false, false, false] rfl rfl (by kernel_rfl) (fun _ _ _ h => h) (Or.inr ⟨by rfl, rfl⟩) ?_ ?_
    rotate_left
    · simp only [Act.put, List.setIfInBounds_toArray, List.set_cons_zero, List.set_cons_succ, i64_w, i32_w]
      rfl
    refine pure_ (i := 17) (N := some 43) (v := undef) (a' := ?_) #[true, true, true, true, true, true, true, true, true, true, true, true, true, true, true, true, true, true, false, false, false, false, false, false, false, false, false, false, false, false, false, false] rfl rfl (by kernel_rfl) (fun _ _ _ h => h) (Or.inr ⟨by rfl, rfl⟩) ?_ ?_
    rotate_left
    · simp only [Act.put, List.setIfInBounds_toArray, List.set_cons_zero, List.set_cons_succ, i64_w, i32_w]
      rfl
    refine pure_ (i := 18) (N := some 44) (v := undef) (a' := ?_) #[true, true, true, true, true, true, true, true, true, true, true, true, true, true, true, true, true, true, true, false, false, false, false, false, false, false, false, false, false, false, false, false] rfl rfl (by kernel_rfl) (fun _ _ _ h => h) (Or.inr ⟨by rfl, rfl⟩) ?_ ?_
    rotate_left
    · simp only [Act.put, List.setIfInBounds_toArray, List.set_cons_zero, List.set_cons_succ, i64_w, i32_w]
      rfl
    refine pure_ (i := 19) (N := some 45) (v := ?_) (a' := ?_) #[true, true, true, true, true, true, true, true, true, true, true, true, true, true, true, true, true, true, true, true, false, false, false, false, false, false, false, false, false, false, false, false] rfl rfl (by kernel_rfl) (fun _ _ _ h => h) (Or.inl ⟨by rfl, ?_⟩) ?_ ?_
    rotate_left
    · intro w'
      go_simp
      with_reducible rfl
    rotate_left
    · simp only [Act.put, List.setIfInBounds_toArray, List.set_cons_zero, List.set_cons_succ, i64_w, i32_w]
      rfl
    refine pure_ (i := 20) (N := some 46) (v := ?_) (a' := ?_) #[true, true, true, true, true, true, true, true, true, true, true, true, true, true, true, true, true, true, true, true, true, false, false, false, false, false, false, false, false, false, false, false] rfl rfl (by kernel_rfl) (fun _ _ _ h => h) (Or.inl ⟨by rfl, ?_⟩) ?_ ?_
    rotate_left
    · intro w'
      go_simp
      with_reducible rfl
    rotate_left
    · simp only [Act.put, List.setIfInBounds_toArray, List.set_cons_zero, List.set_cons_succ, i64_w, i32_w]
      rfl
    refine pure_ (i := 21) (N := some 47) (v := ?_) (a' := ?_) #[true, true, true, true, true, true, true, true, true, true, true, true, true, true, true, true, true, true, true, true, true, true, false, false, false, false, false, false, false, false, false, false] rfl rfl (by kernel_rfl) (fun _ _ _ h => h) (Or.inl ⟨by rfl, ?_⟩) ?_ ?_
    rotate_left
    · intro w'
      go_simp
      with_reducible rfl
    rotate_left
    · simp only [Act.put, List.setIfInBounds_toArray, List.set_cons_zero, List.set_cons_succ, i64_w, i32_w]
      rfl
    refine pure_ (i := 22) (N := some 48) (v := ?_) (a' := ?_) #[true, true, true, true, true, true, true, true, true, true, true, true, true, true, true, true, true, true, true, true, true, true, true, false, false, false, false, false, false, false, false, false] rfl rfl (by kernel_rfl) (fun _ _ _ h => h) (Or.inl ⟨by rfl, ?_⟩) ?_ ?_
    rotate_left
    · intro w'
      go_simp
      with_reducible rfl
    rotate_left
    · simp only [Act.put, List.setIfInBounds_toArray, List.set_cons_zero, List.set_cons_succ, i64_w, i32_w]
      rfl
    refine take_ (i := 23) (N := some 49) (v := ?_) (a' := ?_) #[true, true, true, true, true, true, true, true, true, true, true, true, true, true, true, true, true, true, true, true, true, true, true, true, false, false, false, false, false, false, false, false] rfl rfl (by kernel_rfl) (fun _ _ _ h => h) (Or.inl ⟨by rfl, ?_⟩) hHeld ?_ ?_
    rotate_left
    · rintro w' ⟨s0, s1, s2, s3⟩
      go_simp
      with_reducible rfl
    rotate_left
    · simp only [Act.put, List.setIfInBounds_toArray, List.set_cons_zero, List.set_cons_succ, i64_w, i32_w]
      rfl
    refine take_ (i := 24) (N := some 50) (v := ?_) (a' := ?_) #[true, true, true, true, true, true, true, true, true, true, true, true, true, true, true, true, true, true, true, true, true, true, true, true, true, false, false, false, false, false, false, false] rfl rfl (by kernel_rfl) (fun _ _ _ h => h) (Or.inl ⟨by rfl, ?_⟩) hHeld ?_ ?_
    rotate_left
    · rintro w' ⟨s0, s1, s2, s3⟩
      go_simp
      with_reducible rfl
    rotate_left
    · simp only [Act.put, List.setIfInBounds_toArray, List.set_cons_zero, List.set_cons_succ, i64_w, i32_w]
      rfl
    refine take_ (i := 26) (N := some 52) (v := ?_) (a' := ?_) #[true, true, true, true, true, true, true, true, true, true, true, true, true, true, true, true, true, true, true, true, true, true, true, true, true, false, true, false, false, false, false, false] rfl rfl (by kernel_rfl) (fun _ _ _ h => h) (Or.inl ⟨by rfl, ?_⟩) hHeld ?_ ?_
    rotate_left
    · rintro w' ⟨s0, s1, s2, s3⟩
      go_simp
      with_reducible rfl
    rotate_left
    · simp only [Act.put, List.setIfInBounds_toArray, List.set_cons_zero, List.set_cons_succ, i64_w, i32_w]
      rfl
    refine take_ (i := 27) (N := some 53) (v := ?_) (a' := ?_) #[true, true, true, true, true, true, true, true, true, true, true, true, true, true, true, true, true, true, true, true, true, true, true, true, true, false, true, true, false, false, false, false] rfl rfl (by kernel_rfl) (fun _ _ _ h => h) (Or.inl ⟨by rfl, ?_⟩) hHeld ?_ ?_
    rotate_left
    · rintro w' ⟨s0, s1, s2, s3⟩
      go_simp
      with_reducible rfl
    rotate_left
    · simp only [Act.put, List.setIfInBounds_toArray, List.set_cons_zero, List.set_cons_succ, i64_w, i32_w]
      rfl
    refine one_ (i := 25) (N := some 51) #[true, true, true, true, true, true, true, true, true, true, true, true, true, true, true, true, true, true, true, true, true, true, true, true, true, true, true, true, false, false, false, false] rfl rfl (by kernel_rfl) (by decide) (fun K hK => ?_)
    refine goes_ Tryd.func33 (by kernel_rfl) rfl #[.agg #[.int .i64 n1, .slice A4 l1.length c4], .agg #[.int .i64 n2, .slice A9 l2.length c9]] (by rfl) rfl rfl (by first | (simp only [List.map_toArray, List.map_cons, List.map_nil]; done) | (simp only [List.map_toArray, List.map_cons, List.map_nil]; rfl)) ?_
    with_reducible refine (J1.out _ _ _ (E4.out.below (cur)) (E5.out.below (cur))).mono ?_
    rintro e w3 ⟨v25, rfl, hz25, hb⟩
    dsimp only at hz25
    obtain ⟨A25, c25, rfl⟩ := hz25.form
    have Z25 := Lib.hid hz25.zat
    clear hz25
    refine ⟨_, rfl, ?_⟩
    replace cur := seq cur hb
    clear hb
    refine hK.out _ _ ⟨cell_below cur x0, cell_below cur x1, cell_below cur y0, cell_below cur y1⟩ (fun hHeld => ?_)
    clear hK K
    refine norm_ (a' := ?_) ?_ ?_
    rotate_left
    · show Act.put _ (some 51) _ = _
      simp only [Act.put, List.setIfInBounds_toArray, List.set_cons_zero, List.set_cons_succ, i64_w, i32_w]
      rfl
    refine one_ (i := 28) (N := some 54) #[true, true, true, true, true, true, true, true, true, true, true, true, true, true, true, true, true, true, true, true, true, true, true, true, true, true, true, true, true, false, false, false] rfl rfl (by kernel_rfl) (by decide) (fun K hK => ?_)
    refine goes_ Tryd.func33 (by kernel_rfl) rfl #[.agg #[.int .i64 n2, .slice A9 l2.length c9], .agg #[.int .i64 n1, .slice A4 l1.length c4]] (by rfl) rfl rfl (by first | (simp only [List.map_toArray, List.map_cons, List.map_nil]; done) | (simp only [List.map_toArray, List.map_cons, List.map_nil]; rfl)) ?_
    with_reducible refine (J2.out _ _ _ (E5.out.below (cur)) (E4.out.below (cur))).mono ?_
    rintro e w3 ⟨v28, rfl, hz28, hb⟩
    dsimp only at hz28
    obtain ⟨A28, c28, rfl⟩ := hz28.form
    replace Z25 := Lib.hid (Z25.out.below hb)
    have Z28 := Lib.hid hz28.zat
    clear hz28
    refine ⟨_, rfl, ?_⟩
    replace cur := seq cur hb
    clear hb
    refine hK.out _ _ ⟨cell_below cur x0, cell_below cur x1, cell_below cur y0, cell_below cur y1⟩ (fun hHeld => ?_)
    clear hK K
    refine norm_ (a' := ?_) ?_ ?_
    rotate_left
    · show Act.put _ (some 54) _ = _
      simp only [Act.put, List.setIfInBounds_toArray, List.set_cons_zero, List.set_cons_succ, i64_w, i32_w]
      rfl
    refine one_ (i := 29) (N := some 55) #[true, true, true, true, true, true, true, true, true, true, true, true, true, true, true, true, true, true, true, true, true, true, true, true, true, true, true, true, true, true, false, false] rfl rfl (by kernel_rfl) (by decide) (fun K hK => ?_)
    refine goes_ Tryd.func24 (by kernel_rfl) rfl #[.agg #[.int .i64 jn, .slice A25 jl.length c25], .agg #[.int .i64 jn, .slice A28 jl.length c28]] (by rfl) rfl rfl (by first | (simp only [List.map_toArray, List.map_cons, List.map_nil]; done) | (simp only [List.map_toArray, List.map_cons, List.map_nil]; rfl)) ?_
    with_reducible refine (S3.out _ _ _ Z25.out Z28.out).mono ?_
    rintro e w3 ⟨rfl, hb⟩
    refine ⟨_, rfl, ?_⟩
    replace cur := seq cur hb
    clear hb
    refine hK.out _ _ ⟨cell_below cur x0, cell_below cur x1, cell_below cur y0, cell_below cur y1⟩ (fun hHeld => ?_)
    clear hK K
    refine norm_ (a' := ?_) ?_ ?_
    rotate_left
    · show Act.put _ (some 55) _ = _
      simp only [Act.put, List.setIfInBounds_toArray, List.set_cons_zero, List.set_cons_succ, i64_w, i32_w]
      rfl
    refine pure_ (i := 30) (N := some 56) (v := ?_) (a' := ?_) #[true, true, true, true, true, true, true, true, true, true, true, true, true, true, true, true, true, true, true, true, true, true, true, true, true, true, true, true, true, true, true, false] rfl rfl (by kernel_rfl) (fun _ _ _ h => h) (Or.inl ⟨by rfl, ?_⟩) ?_ ?_
    rotate_left
    · intro w'
      go_simp
      with_reducible rfl
    rotate_left
    · simp only [Act.put, List.setIfInBounds_toArray, List.set_cons_zero, List.set_cons_succ, i64_w, i32_w]
      rfl
    refine pure_ (i := 31) (N := some 4) (v := ?_) (a' := ?_) #[true, true, true, true, true, true, true, true, true, true, true, true, true, true, true, true, true, true, true, true, true, true, true, true, true, true, true, true, true, true, true, true] rfl rfl (by kernel_rfl) (fun _ _ _ h => h) (Or.inl ⟨by rfl, ?_⟩) ?_ ?_
    rotate_left
    · intro w'
      go_simp
      with_reducible rfl
    rotate_left
    · simp only [Act.put, List.setIfInBounds_toArray, List.set_cons_zero, List.set_cons_succ, i64_w, i32_w]
      rfl
    refine done_ (by kernel_rfl) ?_
    have HCur := Lib.hid (seq E1.out cur)
    clear cur
    go_wp2_with fail
    go_ret
    exact ⟨rfl, HCur.out⟩
end Go.Proofs.YtjhccmjgfngkcaaDoor.PZoneSame
