/- Walk of package bdd's restrict. -/
import Derived.Test.YtiagkbmhfgdffaaBi
set_option linter.unusedVariables false
set_option linter.unusedSimpArgs false
namespace Go.Proofs.Ytiagkbmhfgdffaa
open Go Go.RowKit Go.Deep Go.Proofs.YtiagkbmhfgdffaaW.PrintWords Go.Proofs.YtiagkbmhfgdffaaW.PrintLast Go.Proofs.YtiagkbmhfgdffaaW.PrintMore
section
variable {w w' : World} {mg b mb bp : Nat} {lim : Int} {L : List Nd} {ES : List Ent} {S S' : Nat → Prop}
/-- What the closure of restrict has captured. -/
structure CapsR (W : World) (S : Nat → Prop) (mg : Nat) (f v : Int) (n : Nd) (d : Bool) (c0 c1 c2 c3 c4 : Nat) : Prop where
  h0 : W.heap[c0]? = some (.cells #[.pointer (some ⟨mg, 0, none⟩)] 23 (0, 0))
  h1 : W.heap[c1]? = some (.cells #[.int .i64 f] 3 (0, 0))
  h2 : W.heap[c2]? = some (.cells #[.int .i64 n.v, .int .i64 n.l, .int .i64 n.h] 70 (0, 0))
  h3 : W.heap[c3]? = some (.cells #[.int .i64 v] 3 (0, 0))
  h4 : W.heap[c4]? = some (.cells #[.bool d] 4 (0, 0))
  n0 : ¬ S c0
  n1 : ¬ S c1
  n2 : ¬ S c2
  n3 : ¬ S c3
  n4 : ¬ S c4
theorem CapsR.touch {W W' : World} {f v : Int} {n : Nd} {d : Bool} {c0 c1 c2 c3 c4 : Nat} (C : CapsR W S mg f v n d c0 c1 c2 c3 c4) (t : Touch W W' S) : CapsR W' (fun k => S k ∨ (W.heap.size ≤ k ∧ k < W'.heap.size)) mg f v n d c0 c1 c2 c3 c4 :=
  have l0 := lt_of_heap C.h0
  have l1 := lt_of_heap C.h1
  have l2 := lt_of_heap C.h2
  have l3 := lt_of_heap C.h3
  have l4 := lt_of_heap C.h4
  ⟨t.heap C.h0 C.n0, t.heap C.h1 C.n1, t.heap C.h2 C.n2, t.heap C.h3 C.n3, t.heap C.h4 C.n4,
    fun c => c.elim C.n0 (fun c => by omega), fun c => c.elim C.n1 (fun c => by omega), fun c => c.elim C.n2 (fun c => by omega), fun c => c.elim C.n3 (fun c => by omega), fun c => c.elim C.n4 (fun c => by omega)⟩
/-- What restrict does, so many steps down. -/
def RstTo (lim : Int) (mg : Nat) (v : Int) (d : Bool) (n : Nat) : Prop := ∀ (w : World) (L : List Nd) (S : Nat → Prop) (f : Int), Mgr w mg lim L S → Ar.Bo L f → 12 < Ar.var L f + n → L.length < 100000000000 →
  Calls Try.prog 43 #[.pointer (some ⟨mg, 0, none⟩), .int .i64 f, .int .i64 v, .bool d] w (OpPost w mg lim S (Ar.rst lim v d n L f))
set_option maxRecDepth 100000 in
set_option maxHeartbeats 4000000 in
theorem clo_rst {k : Nat} {f v : Int} {n : Nd} {d : Bool} (IH : RstTo lim mg v d k) (M : Mgr w mg lim L S) {c0 c1 c2 c3 c4 : Nat} (C : CapsR w S mg f v n d c0 c1 c2 c3 c4) (q : Bool) (hf : Ar.Bo L f)
    (hn : 12 < Ar.var L (Ar.half L f n.v q) + k) (hl : L.length < 100000000000) :
    Calls Try.prog 63 #[.bool q, .pointer (some ⟨c0, 0, none⟩), .pointer (some ⟨c1, 0, none⟩), .pointer (some ⟨c2, 0, none⟩), .pointer (some ⟨c3, 0, none⟩), .pointer (some ⟨c4, 0, none⟩)] w
      (OpPost w mg lim S (Ar.rst lim v d k L (Ar.half L f n.v q))) := by
  have x0 : w.cell? ⟨c0, 0, none⟩ = some (.pointer (some ⟨mg, 0, none⟩)) := cell_at C.h0 0 rfl
  have x1 : w.cell? ⟨c1, 0, none⟩ = some (.int .i64 f) := cell_at C.h1 0 rfl
  have x2 : w.cell? ⟨c2, 0, none⟩ = some (.int .i64 n.v) := cell_at C.h2 0 rfl
  have x3 : w.cell? ⟨c3, 0, none⟩ = some (.int .i64 v) := cell_at C.h3 0 rfl
  have x4 : w.cell? ⟨c4, 0, none⟩ = some (.bool d) := cell_at C.h4 0 rfl
  have GH := Lib.hid (fun (W : World) (hb : Below w.heap.size w W) => half_any (M.below hb) f n.v q)
  have GI := Lib.hid (fun (W : World) (hb : Below w.heap.size w W) => IH W L S _ (M.below hb) (Ar.half_bo hf n.v q) hn hl)
  clear M C hf hn hl IH
  generalize Ar.half L f n.v q = f' at *
  generalize n.v = u at *
  generalize Ar.rst lim v d k L f' = r at *
  go_enter Try.func63, Try.ntmps63
  go_wp2_with fail
  refine start_ (n := 14) (S := fun w' => w'.cell? ⟨c0, 0, none⟩ = some (.pointer (some ⟨mg, 0, none⟩)) ∧ w'.cell? ⟨c1, 0, none⟩ = some (.int .i64 f) ∧ w'.cell? ⟨c2, 0, none⟩ = some (.int .i64 u) ∧ w'.cell? ⟨c3, 0, none⟩ = some (.int .i64 v) ∧ w'.cell? ⟨c4, 0, none⟩ = some (.bool d)) (ds := [9]) #[false, false, false, false, false, false, false, false, false, false, false, false, false, false] (by kernel_rfl) rfl rfl ⟨cell_below ((Below.refl w.heap.size w).drew) x0, cell_below ((Below.refl w.heap.size w).drew) x1, cell_below ((Below.refl w.heap.size w).drew) x2, cell_below ((Below.refl w.heap.size w).drew) x3, cell_below ((Below.refl w.heap.size w).drew) x4⟩ (fun hHeld => ?_)
  refine pure_ (i := 3) (N := some 12) (v := ?_) (a' := ?_) #[false, false, false, true, false, false, false, false, false, false, false, false, false, false] rfl rfl (by kernel_rfl) (fun _ _ _ h => h) (Or.inl ⟨by rfl, ?_⟩) ?_ ?_
  rotate_left
  · intro w'
    go_simp
    with_reducible rfl
  rotate_left
  · simp only [Act.put, List.setIfInBounds_toArray, List.set_cons_zero, List.set_cons_succ, i64_w, i32_w]
    rfl
  refine pure_ (i := 5) (N := some 14) (v := ?_) (a' := ?_) #[false, false, false, true, false, true, false, false, false, false, false, false, false, false] rfl rfl (by kernel_rfl) (fun _ _ _ h => h) (Or.inl ⟨by rfl, ?_⟩) ?_ ?_
  rotate_left
  · intro w'
    go_simp
    with_reducible rfl
  rotate_left
  · simp only [Act.put, List.setIfInBounds_toArray, List.set_cons_zero, List.set_cons_succ, i64_w, i32_w]
    rfl
  refine take_ (i := 0) (N := some 9) (v := ?_) (a' := ?_) #[true, false, false, true, false, true, false, false, false, false, false, false, false, false] rfl rfl (by kernel_rfl) (fun _ _ _ h => h) (Or.inl ⟨by rfl, ?_⟩) hHeld ?_ ?_
  rotate_left
  · rintro w' ⟨s0, s1, s2, s3, s4⟩
    go_simp
    with_reducible rfl
  rotate_left
  · simp only [Act.put, List.setIfInBounds_toArray, List.set_cons_zero, List.set_cons_succ, i64_w, i32_w]
    rfl
  refine take_ (i := 1) (N := some 10) (v := ?_) (a' := ?_) #[true, true, false, true, false, true, false, false, false, false, false, false, false, false] rfl rfl (by kernel_rfl) (fun _ _ _ h => h) (Or.inl ⟨by rfl, ?_⟩) hHeld ?_ ?_
  rotate_left
  · rintro w' ⟨s0, s1, s2, s3, s4⟩
    go_simp
    with_reducible rfl
  rotate_left
  · simp only [Act.put, List.setIfInBounds_toArray, List.set_cons_zero, List.set_cons_succ, i64_w, i32_w]
    rfl
  refine take_ (i := 2) (N := some 11) (v := ?_) (a' := ?_) #[true, true, true, true, false, true, false, false, false, false, false, false, false, false] rfl rfl (by kernel_rfl) (fun _ _ _ h => h) (Or.inl ⟨by rfl, ?_⟩) hHeld ?_ ?_
  rotate_left
  · rintro w' ⟨s0, s1, s2, s3, s4⟩
    go_simp
    with_reducible rfl
  rotate_left
  · simp only [Act.put, List.setIfInBounds_toArray, List.set_cons_zero, List.set_cons_succ, i64_w, i32_w]
    rfl
  refine take_ (i := 4) (N := some 13) (v := ?_) (a' := ?_) #[true, true, true, true, true, true, false, false, false, false, false, false, false, false] rfl rfl (by kernel_rfl) (fun _ _ _ h => h) (Or.inl ⟨by rfl, ?_⟩) hHeld ?_ ?_
  rotate_left
  · rintro w' ⟨s0, s1, s2, s3, s4⟩
    go_simp
    with_reducible rfl
  rotate_left
  · simp only [Act.put, List.setIfInBounds_toArray, List.set_cons_zero, List.set_cons_succ, i64_w, i32_w]
    rfl
  refine take_ (i := 7) (N := some 16) (v := ?_) (a' := ?_) #[true, true, true, true, true, true, false, true, false, false, false, false, false, false] rfl rfl (by kernel_rfl) (fun _ _ _ h => h) (Or.inl ⟨by rfl, ?_⟩) hHeld ?_ ?_
  rotate_left
  · rintro w' ⟨s0, s1, s2, s3, s4⟩
    go_simp
    with_reducible rfl
  rotate_left
  · simp only [Act.put, List.setIfInBounds_toArray, List.set_cons_zero, List.set_cons_succ, i64_w, i32_w]
    rfl
  refine take_ (i := 8) (N := some 17) (v := ?_) (a' := ?_) #[true, true, true, true, true, true, false, true, true, false, false, false, false, false] rfl rfl (by kernel_rfl) (fun _ _ _ h => h) (Or.inl ⟨by rfl, ?_⟩) hHeld ?_ ?_
  rotate_left
  · rintro w' ⟨s0, s1, s2, s3, s4⟩
    go_simp
    with_reducible rfl
  rotate_left
  · simp only [Act.put, List.setIfInBounds_toArray, List.set_cons_zero, List.set_cons_succ, i64_w, i32_w]
    rfl
  refine one_ (i := 6) (N := some 15) #[true, true, true, true, true, true, true, true, true, false, false, false, false, false] rfl rfl (by kernel_rfl) (by decide) (fun K hK => ?_)
  refine goes_ Try.func61 (by kernel_rfl) rfl #[.pointer (some ⟨mg, 0, none⟩), .int .i64 f, .int .i64 u, .bool q] (by rfl) rfl rfl (by simp only [List.map_toArray, List.map_cons, List.map_nil]; rfl) ?_
  with_reducible refine (GH.out _ ((Below.refl w.heap.size w).drew)).mono ?_
  rintro e w3 ⟨rfl, hb⟩
  refine ⟨_, rfl, ?_⟩
  have cur := seq ((Below.refl w.heap.size w).drew) hb
  clear hb
  refine hK.out _ _ ⟨cell_below cur x0, cell_below cur x1, cell_below cur x2, cell_below cur x3, cell_below cur x4⟩ (fun hHeld => ?_)
  clear hK K
  refine norm_ (a' := ?_) ?_ ?_
  rotate_left
  · show Act.put _ (some 15) _ = _
    simp only [Act.put, List.setIfInBounds_toArray, List.set_cons_zero, List.set_cons_succ, i64_w, i32_w]
    rfl
  refine last_ (i := 9) (N := some 18) #[true, true, true, true, true, true, true, true, true, true, false, false, false, false] rfl rfl (by kernel_rfl) (by decide) (fun K hK => ?_)
  refine goes_ Try.func43 (by kernel_rfl) rfl #[.pointer (some ⟨mg, 0, none⟩), .int .i64 f', .int .i64 v, .bool d] (by rfl) rfl rfl (by simp only [List.map_toArray, List.map_cons, List.map_nil]; rfl) ?_
  with_reducible refine (GI.out _ (cur)).mono ?_
  rintro e w4 ⟨ev, rfl, M3, T3, E3⟩
  refine ⟨_, rfl, ?_⟩
  refine hK.out _ _ ?_
  clear hK K
  refine norm_ (a' := ?_) ?_ ?_
  rotate_left
  · show Act.put _ (some 18) _ = _
    simp only [Act.put, List.setIfInBounds_toArray, List.set_cons_zero, List.set_cons_succ, i64_w, i32_w]
    rfl
  refine pure_ (i := 10) (N := some 19) (v := ?_) (a' := ?_) #[true, true, true, true, true, true, true, true, true, true, true, false, false, false] rfl rfl (by kernel_rfl) (fun _ _ _ h => h) (Or.inl ⟨by rfl, ?_⟩) ?_ ?_
  rotate_left
  · intro w'
    go_simp
    with_reducible rfl
  rotate_left
  · simp only [Act.put, List.setIfInBounds_toArray, List.set_cons_zero, List.set_cons_succ, i64_w, i32_w]
    rfl
  refine pure_ (i := 11) (N := some 20) (v := ?_) (a' := ?_) #[true, true, true, true, true, true, true, true, true, true, true, true, false, false] rfl rfl (by kernel_rfl) (fun _ _ _ h => h) (Or.inl ⟨by rfl, ?_⟩) ?_ ?_
  rotate_left
  · intro w'
    go_simp
    with_reducible rfl
  rotate_left
  · simp only [Act.put, List.setIfInBounds_toArray, List.set_cons_zero, List.set_cons_succ, i64_w, i32_w]
    rfl
  refine pure_ (i := 12) (N := some 7) (v := ?_) (a' := ?_) #[true, true, true, true, true, true, true, true, true, true, true, true, true, false] rfl rfl (by kernel_rfl) (fun _ _ _ h => h) (Or.inl ⟨by rfl, ?_⟩) ?_ ?_
  rotate_left
  · intro w'
    go_simp
    with_reducible rfl
  rotate_left
  · simp only [Act.put, List.setIfInBounds_toArray, List.set_cons_zero, List.set_cons_succ, i64_w, i32_w]
    rfl
  refine pure_ (i := 13) (N := some 8) (v := ?_) (a' := ?_) #[true, true, true, true, true, true, true, true, true, true, true, true, true, true] rfl rfl (by kernel_rfl) (fun _ _ _ h => h) (Or.inl ⟨by rfl, ?_⟩) ?_ ?_
  rotate_left
  · intro w'
    go_simp
    with_reducible rfl
  rotate_left
  · simp only [Act.put, List.setIfInBounds_toArray, List.set_cons_zero, List.set_cons_succ, i64_w, i32_w]
    rfl
  refine done_ (by kernel_rfl) ?_
  have HP : Hid (OpPost w mg lim S r (.returned (.tuple #[.int .i64 r.2.1, ev])) w4) := Lib.hid (OpPost.lift cur ⟨ev, rfl, M3, T3, E3⟩)
  clear M3 T3 E3 cur hHeld x0 x1 x2 x3 x4
  go_wp2
  go_ret2
  exact HP.out

theorem boxes4' (w : World) (o0 o1 o2 o3 : Obj) : ((((w.alloc o0).alloc o1).alloc o2).alloc o3).heap[w.heap.size]? = some o0 ∧ ((((w.alloc o0).alloc o1).alloc o2).alloc o3).heap[w.heap.size + 1]? = some o1 ∧ ((((w.alloc o0).alloc o1).alloc o2).alloc o3).heap[w.heap.size + 1 + 1]? = some o2 ∧
    ((((w.alloc o0).alloc o1).alloc o2).alloc o3).heap[w.heap.size + 1 + 1 + 1]? = some o3 ∧ Below w.heap.size w ((((w.alloc o0).alloc o1).alloc o2).alloc o3) := by
  obtain ⟨b0, b1, b2, b3, b4, hb, hs⟩ := boxes5 w o0 o1 o2 o3 o3
  have s2 : (((w.alloc o0).alloc o1).alloc o2).heap.size = w.heap.size + 1 + 1 + 1 := by simp
  have c0 := blk_new w o0
  have c1 := blk_new (w.alloc o0) o1
  have c2 := blk_new ((w.alloc o0).alloc o1) o2
  have c3 := blk_new (((w.alloc o0).alloc o1).alloc o2) o3
  have s0 : (w.alloc o0).heap.size = w.heap.size + 1 := by simp
  have s1 : ((w.alloc o0).alloc o1).heap.size = w.heap.size + 1 + 1 := by simp
  rw [s0] at c1
  rw [s1] at c2
  rw [s2] at c3
  exact ⟨blk_alloc (blk_alloc (blk_alloc c0 _) _) _, blk_alloc (blk_alloc c1 _) _, blk_alloc c2 _, c3, boxes4 _ _ _ _ _⟩
/-- A world with a box of three cells written. -/
def put3 (w1 : World) (ga : Nat) (x0 x1 x2 : Value) : World := ((w1.setCell ⟨ga, 0, none⟩ x0).setCell ⟨ga, 1, none⟩ x1).setCell ⟨ga, 2, none⟩ x2
theorem put3_a {w1 : World} {ga : Nat} {a0 a1 a2 : Value} {T : TypeId} (x0 x1 x2 : Value) (pa : w1.heap[ga]? = some (.cells #[a0, a1, a2] T (0, 0))) : (put3 w1 ga x0 x1 x2).heap[ga]? = some (.cells #[x0, x1, x2] T (0, 0)) := blk_set (blk_set (blk_set pa 0 x0) 1 x1) 2 x2
theorem put3_far {w1 : World} {ga k : Nat} {o : Obj} (x0 x1 x2 : Value) (p : w1.heap[k]? = some o) (n1 : k ≠ ga) : (put3 w1 ga x0 x1 x2).heap[k]? = some o := by
  unfold put3
  rw [Below.heap_setCell _ _ _ _ n1, Below.heap_setCell _ _ _ _ n1, Below.heap_setCell _ _ _ _ n1]
  exact p
theorem put3_below {a w1 : World} {B ga : Nat} (x0 x1 x2 : Value) (h : Below B a w1) (h1 : B ≤ ga) : Below B a (put3 w1 ga x0 x1 x2) := ((h.setCell h1 _).setCell h1 _).setCell h1 _
theorem put3_size (w1 : World) (ga : Nat) (x0 x1 x2 : Value) : (put3 w1 ga x0 x1 x2).heap.size = w1.heap.size := by simp [put3, World.setCell]
/-- What restrict has laid when it has read its node. -/
structure Laid (w W : World) (S : Nat → Prop) (mg : Nat) (f v : Int) (n : Nd) (d : Bool) (gn : Nat) : Prop where
  c : CapsR W S mg f v n d w.heap.size (w.heap.size + 1) gn (w.heap.size + 1 + 1) (w.heap.size + 1 + 1 + 1)
  bl : Below w.heap.size w W
  ge : w.heap.size ≤ gn
set_option maxRecDepth 100000 in
set_option maxHeartbeats 8000000 in
/-- Where it need not go down. -/
theorem rst_leaf (M : Mgr w mg lim L S) {f v : Int} {d : Bool} (k : Nat) (c : ¬ Ar.isN L f ∨ v ≤ (Ar.nd L f).v) :
    Calls Try.prog 43 #[.pointer (some ⟨mg, 0, none⟩), .int .i64 f, .int .i64 v, .bool d] w (OpPost w mg lim S (Ar.rst lim v d (k + 1) L f)) := by
  have hr : Ar.rst lim v d (k + 1) L f = (L, Ar.half L f v d, 0) := by rw [Ar.rst, if_pos c]
  rw [hr]
  have HM := Lib.hid M
  have GH := Lib.hid (fun (W : World) (hb : Below w.heap.size w W) => half_any (M.below hb) f v d)
  obtain ⟨b, mb, bp, ES, MA⟩ := M
  have m0 := MA.c0
  generalize Ar.half L f v d = x at *
  by_cases hN : Ar.isN L f
  · obtain ⟨n, en⟩ : ∃ n, Ar.nd L f = n := ⟨_, rfl⟩
    have hv : v ≤ n.v := by rcases c with c | c; exact absurd hN c; rw [en] at c; exact c
    have GN : Hid (∀ W, Below w.heap.size w W → Calls Try.prog 38 #[.pointer (some ⟨b, 0, none⟩), .int .i64 f] W fun e w' => e = .returned (.tuple #[.agg #[.int .i64 n.v, .int .i64 n.l, .int .i64 n.h], .bool true]) ∧ Below W.heap.size W w') := by
      refine Lib.hid (fun W hb => ?_)
      have hk : f.toNat < L.length := by have := hN.1; have := hN.2; omega
      have hnd : L[f.toNat] = n := by rw [← en, ← Ar.nd_at hk, Int.toNat_of_nonneg hN.1]
      have := get_in (MA.ar.below hb) f.toNat hk
      rw [hnd, Int.toNat_of_nonneg hN.1] at this
      exact this
    have d1 : decide (v ≤ n.v) = true := by simp [hv]
    clear MA c hN en hv hr
    go_enter Try.func43, Try.ntmps43
    go_wp2_with fail
    obtain ⟨B0, B1, B2, B3, HB⟩ := boxes4' w (.cells #[.pointer (some ⟨mg, 0, none⟩)] 23) (.cells #[.int .i64 f] 3) (.cells #[.int .i64 v] 3) (.cells #[.bool d] 4)
    generalize ((((w.alloc (.cells #[.pointer (some ⟨mg, 0, none⟩)] 23)).alloc (.cells #[.int .i64 f] 3)).alloc (.cells #[.int .i64 v] 3)).alloc (.cells #[.bool d] 4)) = wb at *
    have x4 := cell_at B0 0 rfl
    have x5 := cell_at B1 0 rfl
    replace m0 := cell_below HB m0
    have HB0 := Lib.hid HB
    have G0 := Lib.hid B0
    have G1 := Lib.hid B1
    have G2 := Lib.hid B2
    have G3 := Lib.hid B3
    clear B0 B1 B2 B3 HB
    refine start_ (n := 12) (S := fun w' => w'.cell? ⟨w.heap.size, 0, none⟩ = some (.pointer (some ⟨mg, 0, none⟩)) ∧ w'.cell? ⟨w.heap.size + 1, 0, none⟩ = some (.int .i64 f) ∧ w'.cell? ⟨mg, 0, none⟩ = some (.pointer (some ⟨b, 0, none⟩))) (ds := [10]) #[false, false, false, false, false, false, false, false, false, false, false, false] (by kernel_rfl) rfl rfl ⟨cell_below ((Below.refl wb.heap.size wb).drew) x4, cell_below ((Below.refl wb.heap.size wb).drew) x5, cell_below ((Below.refl wb.heap.size wb).drew) m0⟩ (fun hHeld => ?_)
    refine take_ (i := 0) (N := some 18) (v := ?_) (a' := ?_) #[true, false, false, false, false, false, false, false, false, false, false, false] rfl rfl (by kernel_rfl) (fun _ _ _ h => h) (Or.inl ⟨by rfl, ?_⟩) hHeld ?_ ?_
    rotate_left
    · rintro w' ⟨s0, s1, s2⟩
      go_simp
      with_reducible rfl
    rotate_left
    · simp only [Act.put, List.setIfInBounds_toArray, List.set_cons_zero, List.set_cons_succ, i64_w, i32_w]
      rfl
    refine pure_ (i := 1) (N := some 19) (v := ?_) (a' := ?_) #[true, true, false, false, false, false, false, false, false, false, false, false] rfl rfl (by kernel_rfl) (fun _ _ _ h => h) (Or.inl ⟨by rfl, ?_⟩) ?_ ?_
    rotate_left
    · intro w'
      go_simp
      with_reducible rfl
    rotate_left
    · simp only [Act.put, List.setIfInBounds_toArray, List.set_cons_zero, List.set_cons_succ, i64_w, i32_w]
      rfl
    refine pure_ (i := 2) (N := some 20) (v := ?_) (a' := ?_) #[true, true, true, false, false, false, false, false, false, false, false, false] rfl rfl (by kernel_rfl) (fun _ _ _ h => h) (Or.inl ⟨by rfl, ?_⟩) ?_ ?_
    rotate_left
    · intro w'
      go_simp
      with_reducible rfl
    rotate_left
    · simp only [Act.put, List.setIfInBounds_toArray, List.set_cons_zero, List.set_cons_succ, i64_w, i32_w]
      rfl
    refine take_ (i := 3) (N := some 21) (v := ?_) (a' := ?_) #[true, true, true, true, false, false, false, false, false, false, false, false] rfl rfl (by kernel_rfl) (fun _ _ _ h => h) (Or.inl ⟨by rfl, ?_⟩) hHeld ?_ ?_
    rotate_left
    · rintro w' ⟨s0, s1, s2⟩
      go_simp
      with_reducible rfl
    rotate_left
    · simp only [Act.put, List.setIfInBounds_toArray, List.set_cons_zero, List.set_cons_succ, i64_w, i32_w]
      rfl
    refine take_ (i := 4) (N := some 22) (v := ?_) (a' := ?_) #[true, true, true, true, true, false, false, false, false, false, false, false] rfl rfl (by kernel_rfl) (fun _ _ _ h => h) (Or.inl ⟨by rfl, ?_⟩) hHeld ?_ ?_
    rotate_left
    · rintro w' ⟨s0, s1, s2⟩
      go_simp
      with_reducible rfl
    rotate_left
    · simp only [Act.put, List.setIfInBounds_toArray, List.set_cons_zero, List.set_cons_succ, i64_w, i32_w]
      rfl
    refine join_ (σ := Nat) 2 #[true, true, true, true, true, true, true, true, true, true, false, false] (fun zz => [(23, .tuple #[.agg #[.int .i64 n.v, .int .i64 n.l, .int .i64 n.h], .bool true]), (10, .pointer (some ⟨zz, 0, none⟩)), (17, .tuple #[.agg #[.int .i64 n.v, .int .i64 n.l, .int .i64 n.h], .bool true]), (24, .agg #[.int .i64 n.v, .int .i64 n.l, .int .i64 n.h]), (25, .bool true)]) (fun zz w' => Below wb.heap.size wb w' ∧ w'.heap[zz]? = some (.cells #[.int .i64 0, .int .i64 0, .int .i64 0] 70 (0, 0)) ∧ wb.heap.size ≤ zz) ?_ ?_
    rotate_left
    · intro hJ5_9
      refine join_ (σ := Unit) 3 #[true, true, true, true, true, true, true, true, true, false, false, false] (fun zz => [(23, .tuple #[.agg #[.int .i64 n.v, .int .i64 n.l, .int .i64 n.h], .bool true]), (17, .tuple #[.agg #[.int .i64 n.v, .int .i64 n.l, .int .i64 n.h], .bool true]), (24, .agg #[.int .i64 n.v, .int .i64 n.l, .int .i64 n.h]), (25, .bool true)]) (fun zz w' => Below wb.heap.size wb w') ?_ ?_
      rotate_left
      · intro hJ5
        refine join_ (σ := Nat) 6 #[true, true, true, true, true, false, false, false, false, true, false, false] (fun zz => [(10, .pointer (some ⟨zz, 0, none⟩))]) (fun zz w' => Below wb.heap.size wb w' ∧ w'.heap[zz]? = some (.cells #[.int .i64 0, .int .i64 0, .int .i64 0] 70 (0, 0)) ∧ wb.heap.size ≤ zz) ?_ ?_
        rotate_left
        · intro hJ9
          refine two_ (i := 5) (j := 9) (Ni := some 23) (Nj := some 10) #[true, true, true, true, true, true, false, false, false, false, false, false] #[true, true, true, true, true, false, false, false, false, true, false, false] rfl rfl rfl rfl (by kernel_rfl) (by decide) (by decide) (fun K hK => ?_) (fun K hK => ?_)
          · skip
            refine goes_ Try.func38 (by kernel_rfl) rfl #[.pointer (some ⟨b, 0, none⟩), .int .i64 f] (by rfl) rfl rfl (by simp only [List.map_toArray, List.map_cons, List.map_nil]; rfl) ?_
            with_reducible refine (GN.out _ (seq HB0.out (by first | exact cur | exact (Below.refl _ _).drew))).mono ?_
            rintro e w3 ⟨rfl, hb⟩
            refine ⟨_, rfl, ?_⟩
            have cur3 := seq ((Below.refl wb.heap.size wb).drew) hb
            refine hK.out _ _ ⟨cell_below (cur3) x4, cell_below (cur3) x5, cell_below (cur3) m0⟩ (fun hHeld => ?_)
            clear hK K
            refine norm_ (a' := ?_) ?_ ?_
            rotate_left
            · show Act.put _ (some 23) _ = _
              simp only [Act.put, List.setIfInBounds_toArray, List.set_cons_zero, List.set_cons_succ, i64_w, i32_w]
              rfl
            refine pure_ (i := 6) (N := some 17) (v := ?_) (a' := ?_) #[true, true, true, true, true, true, true, false, false, false, false, false] rfl rfl (by kernel_rfl) (fun _ _ _ h => h) (Or.inl ⟨by rfl, ?_⟩) ?_ ?_
            rotate_left
            · intro w'
              go_simp
              with_reducible rfl
            rotate_left
            · simp only [Act.put, List.setIfInBounds_toArray, List.set_cons_zero, List.set_cons_succ, i64_w, i32_w]
              rfl
            refine pure_ (i := 7) (N := some 24) (v := ?_) (a' := ?_) #[true, true, true, true, true, true, true, true, false, false, false, false] rfl rfl (by kernel_rfl) (fun _ _ _ h => h) (Or.inl ⟨by rfl, ?_⟩) ?_ ?_
            rotate_left
            · intro w'
              go_simp
              with_reducible rfl
            rotate_left
            · simp only [Act.put, List.setIfInBounds_toArray, List.set_cons_zero, List.set_cons_succ, i64_w, i32_w]
              rfl
            refine pure_ (i := 8) (N := some 25) (v := ?_) (a' := ?_) #[true, true, true, true, true, true, true, true, true, false, false, false] rfl rfl (by kernel_rfl) (fun _ _ _ h => h) (Or.inl ⟨by rfl, ?_⟩) ?_ ?_
            rotate_left
            · intro w'
              go_simp
              with_reducible rfl
            rotate_left
            · simp only [Act.put, List.setIfInBounds_toArray, List.set_cons_zero, List.set_cons_succ, i64_w, i32_w]
              rfl
            exact norm_ (by first | (simp only [putAll, Act.put, List.setIfInBounds_toArray, List.set_cons_zero, List.set_cons_succ]; done) | (simp only [putAll, Act.put, List.setIfInBounds_toArray, List.set_cons_zero, List.set_cons_succ]; rfl)) (hJ5 () _ cur3)
          · skip
            refine value_ (w1 := ?_) (v := ?_) (by rfl) rfl ?_ ?_
            rotate_left 2
            · go_simp
              constructor
              · rfl
              · rfl
            have cur3 := Below.push ((Below.refl wb.heap.size wb).drew) (Nat.le_refl _) (.cells #[.int .i64 0, .int .i64 0, .int .i64 0] 70)
            refine hK.out _ _ ⟨cell_below (cur3) x4, cell_below (cur3) x5, cell_below (cur3) m0⟩ (fun hHeld => ?_)
            clear hK K
            refine norm_ (a' := ?_) ?_ ?_
            rotate_left
            · show Act.put _ (some 10) _ = _
              simp only [Act.put, List.setIfInBounds_toArray, List.set_cons_zero, List.set_cons_succ, i64_w, i32_w]
              rfl
            exact norm_ (by first | (simp only [putAll, Act.put, List.setIfInBounds_toArray, List.set_cons_zero, List.set_cons_succ]; done) | (simp only [putAll, Act.put, List.setIfInBounds_toArray, List.set_cons_zero, List.set_cons_succ]; rfl)) (hJ9 (wb.drew.heap.size) _ ⟨cur3, blk_new _ _, ((Below.refl wb.heap.size wb).drew).size⟩)
        · skip
          rintro ga9 w1 ⟨cur, p9, q9⟩
          have hHeld : w1.cell? ⟨w.heap.size, 0, none⟩ = some (.pointer (some ⟨mg, 0, none⟩)) ∧ w1.cell? ⟨w.heap.size + 1, 0, none⟩ = some (.int .i64 f) ∧ w1.cell? ⟨mg, 0, none⟩ = some (.pointer (some ⟨b, 0, none⟩)) := ⟨cell_below (cur) x4, cell_below (cur) x5, cell_below (cur) m0⟩
          refine norm_ (a' := ?_) ?_ ?_
          rotate_left
          · simp only [putAll, Act.put, List.setIfInBounds_toArray, List.set_cons_zero, List.set_cons_succ]
            rfl
          refine one_ (i := 5) (N := some 23) #[true, true, true, true, true, true, false, false, false, true, false, false] rfl rfl (by kernel_rfl) (by decide) (fun K hK => ?_)
          refine goes_ Try.func38 (by kernel_rfl) rfl #[.pointer (some ⟨b, 0, none⟩), .int .i64 f] (by rfl) rfl rfl (by simp only [List.map_toArray, List.map_cons, List.map_nil]; rfl) ?_
          with_reducible refine (GN.out _ (seq HB0.out (by first | exact cur | exact (Below.refl _ _).drew))).mono ?_
          rintro e w3 ⟨rfl, hb⟩
          refine ⟨_, rfl, ?_⟩
          have cur3 := seq (cur) hb
          have p3_9 := blk_below p9 hb
          refine hK.out _ _ ⟨cell_below (cur3) x4, cell_below (cur3) x5, cell_below (cur3) m0⟩ (fun hHeld => ?_)
          clear hK K
          refine norm_ (a' := ?_) ?_ ?_
          rotate_left
          · show Act.put _ (some 23) _ = _
            simp only [Act.put, List.setIfInBounds_toArray, List.set_cons_zero, List.set_cons_succ, i64_w, i32_w]
            rfl
          refine pure_ (i := 6) (N := some 17) (v := ?_) (a' := ?_) #[true, true, true, true, true, true, true, false, false, true, false, false] rfl rfl (by kernel_rfl) (fun _ _ _ h => h) (Or.inl ⟨by rfl, ?_⟩) ?_ ?_
          rotate_left
          · intro w'
            go_simp
            with_reducible rfl
          rotate_left
          · simp only [Act.put, List.setIfInBounds_toArray, List.set_cons_zero, List.set_cons_succ, i64_w, i32_w]
            rfl
          refine pure_ (i := 7) (N := some 24) (v := ?_) (a' := ?_) #[true, true, true, true, true, true, true, true, false, true, false, false] rfl rfl (by kernel_rfl) (fun _ _ _ h => h) (Or.inl ⟨by rfl, ?_⟩) ?_ ?_
          rotate_left
          · intro w'
            go_simp
            with_reducible rfl
          rotate_left
          · simp only [Act.put, List.setIfInBounds_toArray, List.set_cons_zero, List.set_cons_succ, i64_w, i32_w]
            rfl
          refine pure_ (i := 8) (N := some 25) (v := ?_) (a' := ?_) #[true, true, true, true, true, true, true, true, true, true, false, false] rfl rfl (by kernel_rfl) (fun _ _ _ h => h) (Or.inl ⟨by rfl, ?_⟩) ?_ ?_
          rotate_left
          · intro w'
            go_simp
            with_reducible rfl
          rotate_left
          · simp only [Act.put, List.setIfInBounds_toArray, List.set_cons_zero, List.set_cons_succ, i64_w, i32_w]
            rfl
          exact norm_ (by first | (simp only [putAll, Act.put, List.setIfInBounds_toArray, List.set_cons_zero, List.set_cons_succ]; done) | (simp only [putAll, Act.put, List.setIfInBounds_toArray, List.set_cons_zero, List.set_cons_succ]; rfl)) (hJ5_9 ga9 _ ⟨cur3, p3_9, q9⟩)
      · skip
        rintro ⟨⟩ w1 cur
        have hHeld : w1.cell? ⟨w.heap.size, 0, none⟩ = some (.pointer (some ⟨mg, 0, none⟩)) ∧ w1.cell? ⟨w.heap.size + 1, 0, none⟩ = some (.int .i64 f) ∧ w1.cell? ⟨mg, 0, none⟩ = some (.pointer (some ⟨b, 0, none⟩)) := ⟨cell_below (cur) x4, cell_below (cur) x5, cell_below (cur) m0⟩
        refine norm_ (a' := ?_) ?_ ?_
        rotate_left
        · simp only [putAll, Act.put, List.setIfInBounds_toArray, List.set_cons_zero, List.set_cons_succ]
          rfl
        refine one_ (i := 9) (N := some 10) #[true, true, true, true, true, true, true, true, true, true, false, false] rfl rfl (by kernel_rfl) (by decide) (fun K hK => ?_)
        refine value_ (w1 := ?_) (v := ?_) (by rfl) rfl ?_ ?_
        rotate_left 2
        · go_simp
          constructor
          · rfl
          · rfl
        have cur3 := Below.push (cur) (Nat.le_refl _) (.cells #[.int .i64 0, .int .i64 0, .int .i64 0] 70)
        refine hK.out _ _ ⟨cell_below (cur3) x4, cell_below (cur3) x5, cell_below (cur3) m0⟩ (fun hHeld => ?_)
        clear hK K
        refine norm_ (a' := ?_) ?_ ?_
        rotate_left
        · show Act.put _ (some 10) _ = _
          simp only [Act.put, List.setIfInBounds_toArray, List.set_cons_zero, List.set_cons_succ, i64_w, i32_w]
          rfl
        exact norm_ (by first | (simp only [putAll, Act.put, List.setIfInBounds_toArray, List.set_cons_zero, List.set_cons_succ]; done) | (simp only [putAll, Act.put, List.setIfInBounds_toArray, List.set_cons_zero, List.set_cons_succ]; rfl)) (hJ5_9 (w1.heap.size) _ ⟨cur3, blk_new _ _, (cur).size⟩)
    rintro ga9 w1 ⟨cur, p9, q9⟩
    have hHeld : w1.cell? ⟨w.heap.size, 0, none⟩ = some (.pointer (some ⟨mg, 0, none⟩)) ∧ w1.cell? ⟨w.heap.size + 1, 0, none⟩ = some (.int .i64 f) ∧ w1.cell? ⟨mg, 0, none⟩ = some (.pointer (some ⟨b, 0, none⟩)) := ⟨cell_below (cur) x4, cell_below (cur) x5, cell_below (cur) m0⟩
    refine norm_ (a' := ?_) ?_ ?_
    rotate_left
    · simp only [putAll, Act.put, List.setIfInBounds_toArray, List.set_cons_zero, List.set_cons_succ]
      rfl
    refine last_ (i := 10) (N := none) #[true, true, true, true, true, true, true, true, true, true, true, false] rfl rfl (by kernel_rfl) (by decide) (fun K hK => ?_)
    have u0 := (blk_cell p9 0).trans rfl
    have u1 := (blk_cell p9 1).trans rfl
    have u2 := (blk_cell p9 2).trans rfl
    have f0 := blk_frozen p9 0
    have f1 := blk_frozen p9 1
    have f2 := blk_frozen p9 2
    refine skip_ (w1 := ?_) (by rfl) rfl ?_ ?_
    rotate_left
    · go_simp
      rfl
    refine hK.out _ _ ?_
    clear hK K
    refine pure_ (i := 11) (N := some 11) (v := ?_) (a' := ?_) #[true, true, true, true, true, true, true, true, true, true, true, true] rfl rfl (by kernel_rfl) (fun _ _ _ h => h) (Or.inl ⟨by rfl, ?_⟩) ?_ ?_
    rotate_left
    · intro w'
      go_simp
      with_reducible rfl
    rotate_left
    · simp only [Act.put, List.setIfInBounds_toArray, List.set_cons_zero, List.set_cons_succ, i64_w, i32_w]
      rfl
    refine done_ (by kernel_rfl) ?_
    have s0 := HB0.out.size
    have l0 := lt_of_heap G3.out
    have lg : w.heap.size ≤ ga9 := Nat.le_trans s0 q9
    have HB1 : Hid (Below w.heap.size w (put3 w1 ga9 (.int .i64 n.v) (.int .i64 n.l) (.int .i64 n.h))) := Lib.hid (put3_below _ _ _ (seq HB0.out cur) lg)
    have G0' := Lib.hid (put3_far (.int .i64 n.v) (.int .i64 n.l) (.int .i64 n.h) (blk_below G0.out cur) (show w.heap.size ≠ ga9 by omega))
    have G1' := Lib.hid (put3_far (.int .i64 n.v) (.int .i64 n.l) (.int .i64 n.h) (blk_below G1.out cur) (show w.heap.size + 1 ≠ ga9 by omega))
    have G2' := Lib.hid (put3_far (.int .i64 n.v) (.int .i64 n.l) (.int .i64 n.h) (blk_below G2.out cur) (show w.heap.size + 1 + 1 ≠ ga9 by omega))
    have G3' := Lib.hid (put3_far (.int .i64 n.v) (.int .i64 n.l) (.int .i64 n.h) (blk_below G3.out cur) (show w.heap.size + 1 + 1 + 1 ≠ ga9 by omega))
    have G9' := Lib.hid (put3_a (.int .i64 n.v) (.int .i64 n.l) (.int .i64 n.h) p9)
    clear hHeld u0 u1 u2 f0 f1 f2 cur p9 x4 x5 m0 s0 l0 q9 G0 G1 G2 G3 HB0
    obtain ⟨W, hW⟩ : ∃ W, W = put3 w1 ga9 (.int .i64 n.v) (.int .i64 n.l) (.int .i64 n.h) := ⟨_, rfl⟩
    rw [← hW] at HB1 G0' G1' G2' G3' G9'
    have hW2 : ((w1.setCell ⟨ga9, 0, none⟩ (.int .i64 n.v)).setCell ⟨ga9, 1, none⟩ (.int .i64 n.l)).setCell ⟨ga9, 2, none⟩ (.int .i64 n.h) = W := hW.symm
    rw [hW2]
    clear hW hW2
    have x4 := cell_at G0'.out 0 rfl
    have x5 := cell_at G1'.out 0 rfl
    have x6 := cell_at G2'.out 0 rfl
    have x7 := cell_at G3'.out 0 rfl
    have y0 := cell_at G9'.out 0 rfl
    go_wp2_with fail
    refine (GH.out W HB1.out).mono ?_
    rintro e w5 ⟨rfl, hb5⟩
    have HE := Lib.hid (OpPost.same (x := x) HM.out (seq HB1.out hb5))
    clear hb5
    go_wp2_with fail
    go_ret2
    exact HE.out
  · have GN : Hid (∀ W, Below w.heap.size w W → Calls Try.prog 38 #[.pointer (some ⟨b, 0, none⟩), .int .i64 f] W fun e w' => e = .returned (.tuple #[.agg #[.int .i64 0, .int .i64 0, .int .i64 0], .bool false]) ∧ Below W.heap.size W w') :=
      Lib.hid (fun W hb => get_out (MA.ar.below hb) f hN)
    obtain ⟨n, en⟩ : ∃ n : Nd, n = ⟨0, 0, 0⟩ := ⟨_, rfl⟩
    have GN : Hid (∀ W, Below w.heap.size w W → Calls Try.prog 38 #[.pointer (some ⟨b, 0, none⟩), .int .i64 f] W fun e w' => e = .returned (.tuple #[.agg #[.int .i64 n.v, .int .i64 n.l, .int .i64 n.h], .bool false]) ∧ Below W.heap.size W w') := by
      rw [en]; exact GN
    clear MA c hN en hr
    go_enter Try.func43, Try.ntmps43
    go_wp2_with fail
    obtain ⟨B0, B1, B2, B3, HB⟩ := boxes4' w (.cells #[.pointer (some ⟨mg, 0, none⟩)] 23) (.cells #[.int .i64 f] 3) (.cells #[.int .i64 v] 3) (.cells #[.bool d] 4)
    generalize ((((w.alloc (.cells #[.pointer (some ⟨mg, 0, none⟩)] 23)).alloc (.cells #[.int .i64 f] 3)).alloc (.cells #[.int .i64 v] 3)).alloc (.cells #[.bool d] 4)) = wb at *
    have x4 := cell_at B0 0 rfl
    have x5 := cell_at B1 0 rfl
    replace m0 := cell_below HB m0
    have HB0 := Lib.hid HB
    have G0 := Lib.hid B0
    have G1 := Lib.hid B1
    have G2 := Lib.hid B2
    have G3 := Lib.hid B3
    clear B0 B1 B2 B3 HB
    refine start_ (n := 12) (S := fun w' => w'.cell? ⟨w.heap.size, 0, none⟩ = some (.pointer (some ⟨mg, 0, none⟩)) ∧ w'.cell? ⟨w.heap.size + 1, 0, none⟩ = some (.int .i64 f) ∧ w'.cell? ⟨mg, 0, none⟩ = some (.pointer (some ⟨b, 0, none⟩))) (ds := [10]) #[false, false, false, false, false, false, false, false, false, false, false, false] (by kernel_rfl) rfl rfl ⟨cell_below ((Below.refl wb.heap.size wb).drew) x4, cell_below ((Below.refl wb.heap.size wb).drew) x5, cell_below ((Below.refl wb.heap.size wb).drew) m0⟩ (fun hHeld => ?_)
    refine take_ (i := 0) (N := some 18) (v := ?_) (a' := ?_) #[true, false, false, false, false, false, false, false, false, false, false, false] rfl rfl (by kernel_rfl) (fun _ _ _ h => h) (Or.inl ⟨by rfl, ?_⟩) hHeld ?_ ?_
    rotate_left
    · rintro w' ⟨s0, s1, s2⟩
      go_simp
      with_reducible rfl
    rotate_left
    · simp only [Act.put, List.setIfInBounds_toArray, List.set_cons_zero, List.set_cons_succ, i64_w, i32_w]
      rfl
    refine pure_ (i := 1) (N := some 19) (v := ?_) (a' := ?_) #[true, true, false, false, false, false, false, false, false, false, false, false] rfl rfl (by kernel_rfl) (fun _ _ _ h => h) (Or.inl ⟨by rfl, ?_⟩) ?_ ?_
    rotate_left
    · intro w'
      go_simp
      with_reducible rfl
    rotate_left
    · simp only [Act.put, List.setIfInBounds_toArray, List.set_cons_zero, List.set_cons_succ, i64_w, i32_w]
      rfl
    refine pure_ (i := 2) (N := some 20) (v := ?_) (a' := ?_) #[true, true, true, false, false, false, false, false, false, false, false, false] rfl rfl (by kernel_rfl) (fun _ _ _ h => h) (Or.inl ⟨by rfl, ?_⟩) ?_ ?_
    rotate_left
    · intro w'
      go_simp
      with_reducible rfl
    rotate_left
    · simp only [Act.put, List.setIfInBounds_toArray, List.set_cons_zero, List.set_cons_succ, i64_w, i32_w]
      rfl
    refine take_ (i := 3) (N := some 21) (v := ?_) (a' := ?_) #[true, true, true, true, false, false, false, false, false, false, false, false] rfl rfl (by kernel_rfl) (fun _ _ _ h => h) (Or.inl ⟨by rfl, ?_⟩) hHeld ?_ ?_
    rotate_left
    · rintro w' ⟨s0, s1, s2⟩
      go_simp
      with_reducible rfl
    rotate_left
    · simp only [Act.put, List.setIfInBounds_toArray, List.set_cons_zero, List.set_cons_succ, i64_w, i32_w]
      rfl
    refine take_ (i := 4) (N := some 22) (v := ?_) (a' := ?_) #[true, true, true, true, true, false, false, false, false, false, false, false] rfl rfl (by kernel_rfl) (fun _ _ _ h => h) (Or.inl ⟨by rfl, ?_⟩) hHeld ?_ ?_
    rotate_left
    · rintro w' ⟨s0, s1, s2⟩
      go_simp
      with_reducible rfl
    rotate_left
    · simp only [Act.put, List.setIfInBounds_toArray, List.set_cons_zero, List.set_cons_succ, i64_w, i32_w]
      rfl
    refine join_ (σ := Nat) 2 #[true, true, true, true, true, true, true, true, true, true, false, false] (fun zz => [(23, .tuple #[.agg #[.int .i64 n.v, .int .i64 n.l, .int .i64 n.h], .bool false]), (10, .pointer (some ⟨zz, 0, none⟩)), (17, .tuple #[.agg #[.int .i64 n.v, .int .i64 n.l, .int .i64 n.h], .bool false]), (24, .agg #[.int .i64 n.v, .int .i64 n.l, .int .i64 n.h]), (25, .bool false)]) (fun zz w' => Below wb.heap.size wb w' ∧ w'.heap[zz]? = some (.cells #[.int .i64 0, .int .i64 0, .int .i64 0] 70 (0, 0)) ∧ wb.heap.size ≤ zz) ?_ ?_
    rotate_left
    · intro hJ5_9
      refine join_ (σ := Unit) 3 #[true, true, true, true, true, true, true, true, true, false, false, false] (fun zz => [(23, .tuple #[.agg #[.int .i64 n.v, .int .i64 n.l, .int .i64 n.h], .bool false]), (17, .tuple #[.agg #[.int .i64 n.v, .int .i64 n.l, .int .i64 n.h], .bool false]), (24, .agg #[.int .i64 n.v, .int .i64 n.l, .int .i64 n.h]), (25, .bool false)]) (fun zz w' => Below wb.heap.size wb w') ?_ ?_
      rotate_left
      · intro hJ5
        refine join_ (σ := Nat) 6 #[true, true, true, true, true, false, false, false, false, true, false, false] (fun zz => [(10, .pointer (some ⟨zz, 0, none⟩))]) (fun zz w' => Below wb.heap.size wb w' ∧ w'.heap[zz]? = some (.cells #[.int .i64 0, .int .i64 0, .int .i64 0] 70 (0, 0)) ∧ wb.heap.size ≤ zz) ?_ ?_
        rotate_left
        · intro hJ9
          refine two_ (i := 5) (j := 9) (Ni := some 23) (Nj := some 10) #[true, true, true, true, true, true, false, false, false, false, false, false] #[true, true, true, true, true, false, false, false, false, true, false, false] rfl rfl rfl rfl (by kernel_rfl) (by decide) (by decide) (fun K hK => ?_) (fun K hK => ?_)
          · skip
            refine goes_ Try.func38 (by kernel_rfl) rfl #[.pointer (some ⟨b, 0, none⟩), .int .i64 f] (by rfl) rfl rfl (by simp only [List.map_toArray, List.map_cons, List.map_nil]; rfl) ?_
            with_reducible refine (GN.out _ (seq HB0.out (by first | exact cur | exact (Below.refl _ _).drew))).mono ?_
            rintro e w3 ⟨rfl, hb⟩
            refine ⟨_, rfl, ?_⟩
            have cur3 := seq ((Below.refl wb.heap.size wb).drew) hb
            refine hK.out _ _ ⟨cell_below (cur3) x4, cell_below (cur3) x5, cell_below (cur3) m0⟩ (fun hHeld => ?_)
            clear hK K
            refine norm_ (a' := ?_) ?_ ?_
            rotate_left
            · show Act.put _ (some 23) _ = _
              simp only [Act.put, List.setIfInBounds_toArray, List.set_cons_zero, List.set_cons_succ, i64_w, i32_w]
              rfl
            refine pure_ (i := 6) (N := some 17) (v := ?_) (a' := ?_) #[true, true, true, true, true, true, true, false, false, false, false, false] rfl rfl (by kernel_rfl) (fun _ _ _ h => h) (Or.inl ⟨by rfl, ?_⟩) ?_ ?_
            rotate_left
            · intro w'
              go_simp
              with_reducible rfl
            rotate_left
            · simp only [Act.put, List.setIfInBounds_toArray, List.set_cons_zero, List.set_cons_succ, i64_w, i32_w]
              rfl
            refine pure_ (i := 7) (N := some 24) (v := ?_) (a' := ?_) #[true, true, true, true, true, true, true, true, false, false, false, false] rfl rfl (by kernel_rfl) (fun _ _ _ h => h) (Or.inl ⟨by rfl, ?_⟩) ?_ ?_
            rotate_left
            · intro w'
              go_simp
              with_reducible rfl
            rotate_left
            · simp only [Act.put, List.setIfInBounds_toArray, List.set_cons_zero, List.set_cons_succ, i64_w, i32_w]
              rfl
            refine pure_ (i := 8) (N := some 25) (v := ?_) (a' := ?_) #[true, true, true, true, true, true, true, true, true, false, false, false] rfl rfl (by kernel_rfl) (fun _ _ _ h => h) (Or.inl ⟨by rfl, ?_⟩) ?_ ?_
            rotate_left
            · intro w'
              go_simp
              with_reducible rfl
            rotate_left
            · simp only [Act.put, List.setIfInBounds_toArray, List.set_cons_zero, List.set_cons_succ, i64_w, i32_w]
              rfl
            exact norm_ (by first | (simp only [putAll, Act.put, List.setIfInBounds_toArray, List.set_cons_zero, List.set_cons_succ]; done) | (simp only [putAll, Act.put, List.setIfInBounds_toArray, List.set_cons_zero, List.set_cons_succ]; rfl)) (hJ5 () _ cur3)
          · skip
            refine value_ (w1 := ?_) (v := ?_) (by rfl) rfl ?_ ?_
            rotate_left 2
            · go_simp
              constructor
              · rfl
              · rfl
            have cur3 := Below.push ((Below.refl wb.heap.size wb).drew) (Nat.le_refl _) (.cells #[.int .i64 0, .int .i64 0, .int .i64 0] 70)
            refine hK.out _ _ ⟨cell_below (cur3) x4, cell_below (cur3) x5, cell_below (cur3) m0⟩ (fun hHeld => ?_)
            clear hK K
            refine norm_ (a' := ?_) ?_ ?_
            rotate_left
            · show Act.put _ (some 10) _ = _
              simp only [Act.put, List.setIfInBounds_toArray, List.set_cons_zero, List.set_cons_succ, i64_w, i32_w]
              rfl
            exact norm_ (by first | (simp only [putAll, Act.put, List.setIfInBounds_toArray, List.set_cons_zero, List.set_cons_succ]; done) | (simp only [putAll, Act.put, List.setIfInBounds_toArray, List.set_cons_zero, List.set_cons_succ]; rfl)) (hJ9 (wb.drew.heap.size) _ ⟨cur3, blk_new _ _, ((Below.refl wb.heap.size wb).drew).size⟩)
        · skip
          rintro ga9 w1 ⟨cur, p9, q9⟩
          have hHeld : w1.cell? ⟨w.heap.size, 0, none⟩ = some (.pointer (some ⟨mg, 0, none⟩)) ∧ w1.cell? ⟨w.heap.size + 1, 0, none⟩ = some (.int .i64 f) ∧ w1.cell? ⟨mg, 0, none⟩ = some (.pointer (some ⟨b, 0, none⟩)) := ⟨cell_below (cur) x4, cell_below (cur) x5, cell_below (cur) m0⟩
          refine norm_ (a' := ?_) ?_ ?_
          rotate_left
          · simp only [putAll, Act.put, List.setIfInBounds_toArray, List.set_cons_zero, List.set_cons_succ]
            rfl
          refine one_ (i := 5) (N := some 23) #[true, true, true, true, true, true, false, false, false, true, false, false] rfl rfl (by kernel_rfl) (by decide) (fun K hK => ?_)
          refine goes_ Try.func38 (by kernel_rfl) rfl #[.pointer (some ⟨b, 0, none⟩), .int .i64 f] (by rfl) rfl rfl (by simp only [List.map_toArray, List.map_cons, List.map_nil]; rfl) ?_
          with_reducible refine (GN.out _ (seq HB0.out (by first | exact cur | exact (Below.refl _ _).drew))).mono ?_
          rintro e w3 ⟨rfl, hb⟩
          refine ⟨_, rfl, ?_⟩
          have cur3 := seq (cur) hb
          have p3_9 := blk_below p9 hb
          refine hK.out _ _ ⟨cell_below (cur3) x4, cell_below (cur3) x5, cell_below (cur3) m0⟩ (fun hHeld => ?_)
          clear hK K
          refine norm_ (a' := ?_) ?_ ?_
          rotate_left
          · show Act.put _ (some 23) _ = _
            simp only [Act.put, List.setIfInBounds_toArray, List.set_cons_zero, List.set_cons_succ, i64_w, i32_w]
            rfl
          refine pure_ (i := 6) (N := some 17) (v := ?_) (a' := ?_) #[true, true, true, true, true, true, true, false, false, true, false, false] rfl rfl (by kernel_rfl) (fun _ _ _ h => h) (Or.inl ⟨by rfl, ?_⟩) ?_ ?_
          rotate_left
          · intro w'
            go_simp
            with_reducible rfl
          rotate_left
          · simp only [Act.put, List.setIfInBounds_toArray, List.set_cons_zero, List.set_cons_succ, i64_w, i32_w]
            rfl
          refine pure_ (i := 7) (N := some 24) (v := ?_) (a' := ?_) #[true, true, true, true, true, true, true, true, false, true, false, false] rfl rfl (by kernel_rfl) (fun _ _ _ h => h) (Or.inl ⟨by rfl, ?_⟩) ?_ ?_
          rotate_left
          · intro w'
            go_simp
            with_reducible rfl
          rotate_left
          · simp only [Act.put, List.setIfInBounds_toArray, List.set_cons_zero, List.set_cons_succ, i64_w, i32_w]
            rfl
          refine pure_ (i := 8) (N := some 25) (v := ?_) (a' := ?_) #[true, true, true, true, true, true, true, true, true, true, false, false] rfl rfl (by kernel_rfl) (fun _ _ _ h => h) (Or.inl ⟨by rfl, ?_⟩) ?_ ?_
          rotate_left
          · intro w'
            go_simp
            with_reducible rfl
          rotate_left
          · simp only [Act.put, List.setIfInBounds_toArray, List.set_cons_zero, List.set_cons_succ, i64_w, i32_w]
            rfl
          exact norm_ (by first | (simp only [putAll, Act.put, List.setIfInBounds_toArray, List.set_cons_zero, List.set_cons_succ]; done) | (simp only [putAll, Act.put, List.setIfInBounds_toArray, List.set_cons_zero, List.set_cons_succ]; rfl)) (hJ5_9 ga9 _ ⟨cur3, p3_9, q9⟩)
      · skip
        rintro ⟨⟩ w1 cur
        have hHeld : w1.cell? ⟨w.heap.size, 0, none⟩ = some (.pointer (some ⟨mg, 0, none⟩)) ∧ w1.cell? ⟨w.heap.size + 1, 0, none⟩ = some (.int .i64 f) ∧ w1.cell? ⟨mg, 0, none⟩ = some (.pointer (some ⟨b, 0, none⟩)) := ⟨cell_below (cur) x4, cell_below (cur) x5, cell_below (cur) m0⟩
        refine norm_ (a' := ?_) ?_ ?_
        rotate_left
        · simp only [putAll, Act.put, List.setIfInBounds_toArray, List.set_cons_zero, List.set_cons_succ]
          rfl
        refine one_ (i := 9) (N := some 10) #[true, true, true, true, true, true, true, true, true, true, false, false] rfl rfl (by kernel_rfl) (by decide) (fun K hK => ?_)
        refine value_ (w1 := ?_) (v := ?_) (by rfl) rfl ?_ ?_
        rotate_left 2
        · go_simp
          constructor
          · rfl
          · rfl
        have cur3 := Below.push (cur) (Nat.le_refl _) (.cells #[.int .i64 0, .int .i64 0, .int .i64 0] 70)
        refine hK.out _ _ ⟨cell_below (cur3) x4, cell_below (cur3) x5, cell_below (cur3) m0⟩ (fun hHeld => ?_)
        clear hK K
        refine norm_ (a' := ?_) ?_ ?_
        rotate_left
        · show Act.put _ (some 10) _ = _
          simp only [Act.put, List.setIfInBounds_toArray, List.set_cons_zero, List.set_cons_succ, i64_w, i32_w]
          rfl
        exact norm_ (by first | (simp only [putAll, Act.put, List.setIfInBounds_toArray, List.set_cons_zero, List.set_cons_succ]; done) | (simp only [putAll, Act.put, List.setIfInBounds_toArray, List.set_cons_zero, List.set_cons_succ]; rfl)) (hJ5_9 (w1.heap.size) _ ⟨cur3, blk_new _ _, (cur).size⟩)
    rintro ga9 w1 ⟨cur, p9, q9⟩
    have hHeld : w1.cell? ⟨w.heap.size, 0, none⟩ = some (.pointer (some ⟨mg, 0, none⟩)) ∧ w1.cell? ⟨w.heap.size + 1, 0, none⟩ = some (.int .i64 f) ∧ w1.cell? ⟨mg, 0, none⟩ = some (.pointer (some ⟨b, 0, none⟩)) := ⟨cell_below (cur) x4, cell_below (cur) x5, cell_below (cur) m0⟩
    refine norm_ (a' := ?_) ?_ ?_
    rotate_left
    · simp only [putAll, Act.put, List.setIfInBounds_toArray, List.set_cons_zero, List.set_cons_succ]
      rfl
    refine last_ (i := 10) (N := none) #[true, true, true, true, true, true, true, true, true, true, true, false] rfl rfl (by kernel_rfl) (by decide) (fun K hK => ?_)
    have u0 := (blk_cell p9 0).trans rfl
    have u1 := (blk_cell p9 1).trans rfl
    have u2 := (blk_cell p9 2).trans rfl
    have f0 := blk_frozen p9 0
    have f1 := blk_frozen p9 1
    have f2 := blk_frozen p9 2
    refine skip_ (w1 := ?_) (by rfl) rfl ?_ ?_
    rotate_left
    · go_simp
      rfl
    refine hK.out _ _ ?_
    clear hK K
    refine pure_ (i := 11) (N := some 11) (v := ?_) (a' := ?_) #[true, true, true, true, true, true, true, true, true, true, true, true] rfl rfl (by kernel_rfl) (fun _ _ _ h => h) (Or.inl ⟨by rfl, ?_⟩) ?_ ?_
    rotate_left
    · intro w'
      go_simp
      with_reducible rfl
    rotate_left
    · simp only [Act.put, List.setIfInBounds_toArray, List.set_cons_zero, List.set_cons_succ, i64_w, i32_w]
      rfl
    refine done_ (by kernel_rfl) ?_
    have s0 := HB0.out.size
    have l0 := lt_of_heap G3.out
    have lg : w.heap.size ≤ ga9 := Nat.le_trans s0 q9
    have HB1 : Hid (Below w.heap.size w (put3 w1 ga9 (.int .i64 n.v) (.int .i64 n.l) (.int .i64 n.h))) := Lib.hid (put3_below _ _ _ (seq HB0.out cur) lg)
    have G0' := Lib.hid (put3_far (.int .i64 n.v) (.int .i64 n.l) (.int .i64 n.h) (blk_below G0.out cur) (show w.heap.size ≠ ga9 by omega))
    have G1' := Lib.hid (put3_far (.int .i64 n.v) (.int .i64 n.l) (.int .i64 n.h) (blk_below G1.out cur) (show w.heap.size + 1 ≠ ga9 by omega))
    have G2' := Lib.hid (put3_far (.int .i64 n.v) (.int .i64 n.l) (.int .i64 n.h) (blk_below G2.out cur) (show w.heap.size + 1 + 1 ≠ ga9 by omega))
    have G3' := Lib.hid (put3_far (.int .i64 n.v) (.int .i64 n.l) (.int .i64 n.h) (blk_below G3.out cur) (show w.heap.size + 1 + 1 + 1 ≠ ga9 by omega))
    have G9' := Lib.hid (put3_a (.int .i64 n.v) (.int .i64 n.l) (.int .i64 n.h) p9)
    clear hHeld u0 u1 u2 f0 f1 f2 cur p9 x4 x5 m0 s0 l0 q9 G0 G1 G2 G3 HB0
    obtain ⟨W, hW⟩ : ∃ W, W = put3 w1 ga9 (.int .i64 n.v) (.int .i64 n.l) (.int .i64 n.h) := ⟨_, rfl⟩
    rw [← hW] at HB1 G0' G1' G2' G3' G9'
    have hW2 : ((w1.setCell ⟨ga9, 0, none⟩ (.int .i64 n.v)).setCell ⟨ga9, 1, none⟩ (.int .i64 n.l)).setCell ⟨ga9, 2, none⟩ (.int .i64 n.h) = W := hW.symm
    rw [hW2]
    clear hW hW2
    have x4 := cell_at G0'.out 0 rfl
    have x5 := cell_at G1'.out 0 rfl
    have x6 := cell_at G2'.out 0 rfl
    have x7 := cell_at G3'.out 0 rfl
    have y0 := cell_at G9'.out 0 rfl
    go_wp2_with fail
    refine (GH.out W HB1.out).mono ?_
    rintro e w5 ⟨rfl, hb5⟩
    have HE := Lib.hid (OpPost.same (x := x) HM.out (seq HB1.out hb5))
    clear hb5
    go_wp2_with fail
    go_ret2
    exact HE.out
end
end Go.Proofs.Ytiagkbmhfgdffaa
