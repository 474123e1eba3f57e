/- Walk of package bdd's ite. -/
import Derived.Test.YtiagkbmhfgdffaaGb
set_option linter.unusedVariables false
set_option linter.unusedSimpArgs false
namespace Go.Proofs.Ytiagkbmhfgdffaa
open Go Go.RowKit Go.Deep Go.Proofs.YtiagkbmhfgdffaaW.PrintWords Go.Proofs.YtiagkbmhfgdffaaW.PrintLast Go.Proofs.YtiagkbmhfgdffaaW.PrintMore
theorem min3_i64 (ats : Array TypeId) (ty : TypeId) (a b c : Int) : Builtin.min_ ats ty #[.int .i64 a, .int .i64 b, .int .i64 c] = pure (.int .i64 (min (min a b) c)) := by
  rw [min_three, min2_int]
  simp only [pure_bind, min2_int]
  congr 2
  split <;> split <;> omega
attribute [local go_sem high] min3_i64
section
variable {w w' : World} {mg b mb bp : Nat} {lim : Int} {L : List Nd} {ES : List Ent} {S S' : Nat → Prop}
/-- What the closure of ite has captured. -/
structure Caps (W : World) (S : Nat → Prop) (mg : Nat) (f v g h : Int) (c0 c1 c2 c3 c4 : Nat) : Prop where
  h0 : W.heap[c0]? = some (.cells #[.pointer (some ⟨mg, 0, none⟩)] 23 (0, 0))
  h1 : W.heap[c1]? = some (.cells #[.int .i64 f] 3 (0, 0))
  h2 : W.heap[c2]? = some (.cells #[.int .i64 v] 3 (0, 0))
  h3 : W.heap[c3]? = some (.cells #[.int .i64 g] 3 (0, 0))
  h4 : W.heap[c4]? = some (.cells #[.int .i64 h] 3 (0, 0))
  n0 : ¬ S c0
  n1 : ¬ S c1
  n2 : ¬ S c2
  n3 : ¬ S c3
  n4 : ¬ S c4
theorem Caps.touch {W W' : World} {f v g h : Int} {c0 c1 c2 c3 c4 : Nat} (C : Caps W S mg f v g h c0 c1 c2 c3 c4) (t : Touch W W' S) : Caps W' (fun k => S k ∨ (W.heap.size ≤ k ∧ k < W'.heap.size)) mg f v g h c0 c1 c2 c3 c4 :=
  have l0 := lt_of_heap C.h0
  have l1 := lt_of_heap C.h1
  have l2 := lt_of_heap C.h2
  have l3 := lt_of_heap C.h3
  have l4 := lt_of_heap C.h4
  ⟨t.heap C.h0 C.n0, t.heap C.h1 C.n1, t.heap C.h2 C.n2, t.heap C.h3 C.n3, t.heap C.h4 C.n4,
    fun c => c.elim C.n0 (fun c => by omega), fun c => c.elim C.n1 (fun c => by omega), fun c => c.elim C.n2 (fun c => by omega), fun c => c.elim C.n3 (fun c => by omega), fun c => c.elim C.n4 (fun c => by omega)⟩
/-- What ite does, so many steps down. -/
def IteTo (lim : Int) (mg n : Nat) : Prop := ∀ (w : World) (L : List Nd) (S : Nat → Prop) (f g h : Int), Mgr w mg lim L S → Ar.Bo L f → Ar.Bo L g → Ar.Bo L h → 12 < Ar.vm L f g h + n → L.length < 100000000000 →
  Calls Try.prog 42 #[.pointer (some ⟨mg, 0, none⟩), .int .i64 f, .int .i64 g, .int .i64 h] w (OpPost w mg lim S (Ar.ite lim n L f g h))
set_option maxRecDepth 100000 in
set_option maxHeartbeats 4000000 in
theorem clo_ite {n : Nat} (IH : IteTo lim mg n) (M : Mgr w mg lim L S) {f v g h : Int} {c0 c1 c2 c3 c4 : Nat} (C : Caps w S mg f v g h c0 c1 c2 c3 c4) (d : Bool) (hf : Ar.Bo L f) (hg : Ar.Bo L g) (hh : Ar.Bo L h)
    (hn : 12 < Ar.vm L (Ar.half L f v d) (Ar.half L g v d) (Ar.half L h v d) + n) (hl : L.length < 100000000000) :
    Calls Try.prog 60 #[.bool d, .pointer (some ⟨c0, 0, none⟩), .pointer (some ⟨c1, 0, none⟩), .pointer (some ⟨c2, 0, none⟩), .pointer (some ⟨c3, 0, none⟩), .pointer (some ⟨c4, 0, none⟩)] w
      (OpPost w mg lim S (Ar.ite lim n L (Ar.half L f v d) (Ar.half L g v d) (Ar.half L h v d))) := by
  have x0 : w.cell? ⟨c0, 0, none⟩ = some (.pointer (some ⟨mg, 0, none⟩)) := cell_at C.h0 0 rfl
  have x1 : w.cell? ⟨c1, 0, none⟩ = some (.int .i64 f) := cell_at C.h1 0 rfl
  have x2 : w.cell? ⟨c2, 0, none⟩ = some (.int .i64 v) := cell_at C.h2 0 rfl
  have x3 : w.cell? ⟨c3, 0, none⟩ = some (.int .i64 g) := cell_at C.h3 0 rfl
  have x4 : w.cell? ⟨c4, 0, none⟩ = some (.int .i64 h) := cell_at C.h4 0 rfl
  have GHf := Lib.hid (fun (W : World) (hb : Below w.heap.size w W) => half_any (M.below hb) f v d)
  have GHg := Lib.hid (fun (W : World) (hb : Below w.heap.size w W) => half_any (M.below hb) g v d)
  have GHh := Lib.hid (fun (W : World) (hb : Below w.heap.size w W) => half_any (M.below hb) h v d)
  have GI := Lib.hid (fun (W : World) (hb : Below w.heap.size w W) => IH W L S _ _ _ (M.below hb) (Ar.half_bo hf v d) (Ar.half_bo hg v d) (Ar.half_bo hh v d) hn hl)
  clear M C hf hg hh hn hl IH
  generalize Ar.half L f v d = f' at *
  generalize Ar.half L g v d = g' at *
  generalize Ar.half L h v d = h' at *
  generalize Ar.ite lim n L f' g' h' = r at *
  go_enter Try.func60, Try.ntmps60
  go_wp2_with fail
  refine start_ (n := 21) (S := fun w' => w'.cell? ⟨c0, 0, none⟩ = some (.pointer (some ⟨mg, 0, none⟩)) ∧ w'.cell? ⟨c1, 0, none⟩ = some (.int .i64 f) ∧ w'.cell? ⟨c2, 0, none⟩ = some (.int .i64 v) ∧ w'.cell? ⟨c3, 0, none⟩ = some (.int .i64 g) ∧ w'.cell? ⟨c4, 0, none⟩ = some (.int .i64 h)) (ds := [16]) #[false, false, false, false, false, false, false, false, false, false, false, false, false, false, false, false, false, false, false, false, false] (by kernel_rfl) rfl rfl ⟨cell_below ((Below.refl w.heap.size w).drew) x0, cell_below ((Below.refl w.heap.size w).drew) x1, cell_below ((Below.refl w.heap.size w).drew) x2, cell_below ((Below.refl w.heap.size w).drew) x3, cell_below ((Below.refl w.heap.size w).drew) x4⟩ (fun hHeld => ?_)
  refine pure_ (i := 4) (N := some 13) (v := ?_) (a' := ?_) #[false, false, false, false, true, false, false, false, false, false, false, false, false, false, false, false, false, false, false, false, false] rfl rfl (by kernel_rfl) (fun _ _ _ h => h) (Or.inl ⟨by rfl, ?_⟩) ?_ ?_
  rotate_left
  · intro w'
    go_simp
    with_reducible rfl
  rotate_left
  · simp only [Act.put, List.setIfInBounds_toArray, List.set_cons_zero, List.set_cons_succ, i64_w, i32_w]
    rfl
  refine pure_ (i := 9) (N := some 18) (v := ?_) (a' := ?_) #[false, false, false, false, true, false, false, false, false, true, false, false, false, false, false, false, false, false, false, false, false] rfl rfl (by kernel_rfl) (fun _ _ _ h => h) (Or.inl ⟨by rfl, ?_⟩) ?_ ?_
  rotate_left
  · intro w'
    go_simp
    with_reducible rfl
  rotate_left
  · simp only [Act.put, List.setIfInBounds_toArray, List.set_cons_zero, List.set_cons_succ, i64_w, i32_w]
    rfl
  refine pure_ (i := 14) (N := some 23) (v := ?_) (a' := ?_) #[false, false, false, false, true, false, false, false, false, true, false, false, false, false, true, false, false, false, false, false, false] rfl rfl (by kernel_rfl) (fun _ _ _ h => h) (Or.inl ⟨by rfl, ?_⟩) ?_ ?_
  rotate_left
  · intro w'
    go_simp
    with_reducible rfl
  rotate_left
  · simp only [Act.put, List.setIfInBounds_toArray, List.set_cons_zero, List.set_cons_succ, i64_w, i32_w]
    rfl
  refine take_ (i := 0) (N := some 9) (v := ?_) (a' := ?_) #[true, false, false, false, true, false, false, false, false, true, false, false, false, false, true, false, false, false, false, false, false] rfl rfl (by kernel_rfl) (fun _ _ _ h => h) (Or.inl ⟨by rfl, ?_⟩) hHeld ?_ ?_
  rotate_left
  · rintro w' ⟨s0, s1, s2, s3, s4⟩
    go_simp
    with_reducible rfl
  rotate_left
  · simp only [Act.put, List.setIfInBounds_toArray, List.set_cons_zero, List.set_cons_succ, i64_w, i32_w]
    rfl
  refine take_ (i := 1) (N := some 10) (v := ?_) (a' := ?_) #[true, true, false, false, true, false, false, false, false, true, false, false, false, false, true, false, false, false, false, false, false] rfl rfl (by kernel_rfl) (fun _ _ _ h => h) (Or.inl ⟨by rfl, ?_⟩) hHeld ?_ ?_
  rotate_left
  · rintro w' ⟨s0, s1, s2, s3, s4⟩
    go_simp
    with_reducible rfl
  rotate_left
  · simp only [Act.put, List.setIfInBounds_toArray, List.set_cons_zero, List.set_cons_succ, i64_w, i32_w]
    rfl
  refine take_ (i := 2) (N := some 11) (v := ?_) (a' := ?_) #[true, true, true, false, true, false, false, false, false, true, false, false, false, false, true, false, false, false, false, false, false] rfl rfl (by kernel_rfl) (fun _ _ _ h => h) (Or.inl ⟨by rfl, ?_⟩) hHeld ?_ ?_
  rotate_left
  · rintro w' ⟨s0, s1, s2, s3, s4⟩
    go_simp
    with_reducible rfl
  rotate_left
  · simp only [Act.put, List.setIfInBounds_toArray, List.set_cons_zero, List.set_cons_succ, i64_w, i32_w]
    rfl
  refine take_ (i := 3) (N := some 12) (v := ?_) (a' := ?_) #[true, true, true, true, true, false, false, false, false, true, false, false, false, false, true, false, false, false, false, false, false] rfl rfl (by kernel_rfl) (fun _ _ _ h => h) (Or.inl ⟨by rfl, ?_⟩) hHeld ?_ ?_
  rotate_left
  · rintro w' ⟨s0, s1, s2, s3, s4⟩
    go_simp
    with_reducible rfl
  rotate_left
  · simp only [Act.put, List.setIfInBounds_toArray, List.set_cons_zero, List.set_cons_succ, i64_w, i32_w]
    rfl
  refine take_ (i := 6) (N := some 15) (v := ?_) (a' := ?_) #[true, true, true, true, true, false, true, false, false, true, false, false, false, false, true, false, false, false, false, false, false] rfl rfl (by kernel_rfl) (fun _ _ _ h => h) (Or.inl ⟨by rfl, ?_⟩) hHeld ?_ ?_
  rotate_left
  · rintro w' ⟨s0, s1, s2, s3, s4⟩
    go_simp
    with_reducible rfl
  rotate_left
  · simp only [Act.put, List.setIfInBounds_toArray, List.set_cons_zero, List.set_cons_succ, i64_w, i32_w]
    rfl
  refine take_ (i := 7) (N := some 16) (v := ?_) (a' := ?_) #[true, true, true, true, true, false, true, true, false, true, false, false, false, false, true, false, false, false, false, false, false] rfl rfl (by kernel_rfl) (fun _ _ _ h => h) (Or.inl ⟨by rfl, ?_⟩) hHeld ?_ ?_
  rotate_left
  · rintro w' ⟨s0, s1, s2, s3, s4⟩
    go_simp
    with_reducible rfl
  rotate_left
  · simp only [Act.put, List.setIfInBounds_toArray, List.set_cons_zero, List.set_cons_succ, i64_w, i32_w]
    rfl
  refine take_ (i := 8) (N := some 17) (v := ?_) (a' := ?_) #[true, true, true, true, true, false, true, true, true, true, false, false, false, false, true, false, false, false, false, false, false] rfl rfl (by kernel_rfl) (fun _ _ _ h => h) (Or.inl ⟨by rfl, ?_⟩) hHeld ?_ ?_
  rotate_left
  · rintro w' ⟨s0, s1, s2, s3, s4⟩
    go_simp
    with_reducible rfl
  rotate_left
  · simp only [Act.put, List.setIfInBounds_toArray, List.set_cons_zero, List.set_cons_succ, i64_w, i32_w]
    rfl
  refine take_ (i := 11) (N := some 20) (v := ?_) (a' := ?_) #[true, true, true, true, true, false, true, true, true, true, false, true, false, false, true, false, false, false, false, false, false] rfl rfl (by kernel_rfl) (fun _ _ _ h => h) (Or.inl ⟨by rfl, ?_⟩) hHeld ?_ ?_
  rotate_left
  · rintro w' ⟨s0, s1, s2, s3, s4⟩
    go_simp
    with_reducible rfl
  rotate_left
  · simp only [Act.put, List.setIfInBounds_toArray, List.set_cons_zero, List.set_cons_succ, i64_w, i32_w]
    rfl
  refine take_ (i := 12) (N := some 21) (v := ?_) (a' := ?_) #[true, true, true, true, true, false, true, true, true, true, false, true, true, false, true, false, false, false, false, false, false] rfl rfl (by kernel_rfl) (fun _ _ _ h => h) (Or.inl ⟨by rfl, ?_⟩) hHeld ?_ ?_
  rotate_left
  · rintro w' ⟨s0, s1, s2, s3, s4⟩
    go_simp
    with_reducible rfl
  rotate_left
  · simp only [Act.put, List.setIfInBounds_toArray, List.set_cons_zero, List.set_cons_succ, i64_w, i32_w]
    rfl
  refine take_ (i := 13) (N := some 22) (v := ?_) (a' := ?_) #[true, true, true, true, true, false, true, true, true, true, false, true, true, true, true, false, false, false, false, false, false] rfl rfl (by kernel_rfl) (fun _ _ _ h => h) (Or.inl ⟨by rfl, ?_⟩) hHeld ?_ ?_
  rotate_left
  · rintro w' ⟨s0, s1, s2, s3, s4⟩
    go_simp
    with_reducible rfl
  rotate_left
  · simp only [Act.put, List.setIfInBounds_toArray, List.set_cons_zero, List.set_cons_succ, i64_w, i32_w]
    rfl
  refine one_ (i := 5) (N := some 14) #[true, true, true, true, true, true, true, true, true, true, false, true, true, true, true, false, false, false, false, false, false] rfl rfl (by kernel_rfl) (by decide) (fun K hK => ?_)
  refine goes_ Try.func61 (by kernel_rfl) rfl #[.pointer (some ⟨mg, 0, none⟩), .int .i64 f, .int .i64 v, .bool d] (by rfl) rfl rfl (by simp only [List.map_toArray, List.map_cons, List.map_nil]; rfl) ?_
  with_reducible refine (GHf.out _ ((Below.refl w.heap.size w).drew)).mono ?_
  rintro e w3 ⟨rfl, hb⟩
  refine ⟨_, rfl, ?_⟩
  have cur := seq ((Below.refl w.heap.size w).drew) hb
  clear hb
  refine hK.out _ _ ⟨cell_below cur x0, cell_below cur x1, cell_below cur x2, cell_below cur x3, cell_below cur x4⟩ (fun hHeld => ?_)
  clear hK K
  refine norm_ (a' := ?_) ?_ ?_
  rotate_left
  · show Act.put _ (some 14) _ = _
    simp only [Act.put, List.setIfInBounds_toArray, List.set_cons_zero, List.set_cons_succ, i64_w, i32_w]
    rfl
  refine one_ (i := 10) (N := some 19) #[true, true, true, true, true, true, true, true, true, true, true, true, true, true, true, false, false, false, false, false, false] rfl rfl (by kernel_rfl) (by decide) (fun K hK => ?_)
  refine goes_ Try.func61 (by kernel_rfl) rfl #[.pointer (some ⟨mg, 0, none⟩), .int .i64 g, .int .i64 v, .bool d] (by rfl) rfl rfl (by simp only [List.map_toArray, List.map_cons, List.map_nil]; rfl) ?_
  with_reducible refine (GHg.out _ (cur)).mono ?_
  rintro e w3 ⟨rfl, hb⟩
  refine ⟨_, rfl, ?_⟩
  replace cur := seq cur hb
  clear hb
  refine hK.out _ _ ⟨cell_below cur x0, cell_below cur x1, cell_below cur x2, cell_below cur x3, cell_below cur x4⟩ (fun hHeld => ?_)
  clear hK K
  refine norm_ (a' := ?_) ?_ ?_
  rotate_left
  · show Act.put _ (some 19) _ = _
    simp only [Act.put, List.setIfInBounds_toArray, List.set_cons_zero, List.set_cons_succ, i64_w, i32_w]
    rfl
  refine one_ (i := 15) (N := some 24) #[true, true, true, true, true, true, true, true, true, true, true, true, true, true, true, true, false, false, false, false, false] rfl rfl (by kernel_rfl) (by decide) (fun K hK => ?_)
  refine goes_ Try.func61 (by kernel_rfl) rfl #[.pointer (some ⟨mg, 0, none⟩), .int .i64 h, .int .i64 v, .bool d] (by rfl) rfl rfl (by simp only [List.map_toArray, List.map_cons, List.map_nil]; rfl) ?_
  with_reducible refine (GHh.out _ (cur)).mono ?_
  rintro e w3 ⟨rfl, hb⟩
  refine ⟨_, rfl, ?_⟩
  replace cur := seq cur hb
  clear hb
  refine hK.out _ _ ⟨cell_below cur x0, cell_below cur x1, cell_below cur x2, cell_below cur x3, cell_below cur x4⟩ (fun hHeld => ?_)
  clear hK K
  refine norm_ (a' := ?_) ?_ ?_
  rotate_left
  · show Act.put _ (some 24) _ = _
    simp only [Act.put, List.setIfInBounds_toArray, List.set_cons_zero, List.set_cons_succ, i64_w, i32_w]
    rfl
  refine last_ (i := 16) (N := some 25) #[true, true, true, true, true, true, true, true, true, true, true, true, true, true, true, true, true, false, false, false, false] rfl rfl (by kernel_rfl) (by decide) (fun K hK => ?_)
  refine goes_ Try.func42 (by kernel_rfl) rfl #[.pointer (some ⟨mg, 0, none⟩), .int .i64 f', .int .i64 g', .int .i64 h'] (by rfl) rfl rfl (by simp only [List.map_toArray, List.map_cons, List.map_nil]; rfl) ?_
  with_reducible refine (GI.out _ (cur)).mono ?_
  rintro e w4 ⟨ev, rfl, M3, T3, E3⟩
  refine ⟨_, rfl, ?_⟩
  refine hK.out _ _ ?_
  clear hK K
  refine norm_ (a' := ?_) ?_ ?_
  rotate_left
  · show Act.put _ (some 25) _ = _
    simp only [Act.put, List.setIfInBounds_toArray, List.set_cons_zero, List.set_cons_succ, i64_w, i32_w]
    rfl
  refine pure_ (i := 17) (N := some 26) (v := ?_) (a' := ?_) #[true, true, true, true, true, true, true, true, true, true, true, true, true, true, true, true, true, true, false, false, false] rfl rfl (by kernel_rfl) (fun _ _ _ h => h) (Or.inl ⟨by rfl, ?_⟩) ?_ ?_
  rotate_left
  · intro w'
    go_simp
    with_reducible rfl
  rotate_left
  · simp only [Act.put, List.setIfInBounds_toArray, List.set_cons_zero, List.set_cons_succ, i64_w, i32_w]
    rfl
  refine pure_ (i := 18) (N := some 27) (v := ?_) (a' := ?_) #[true, true, true, true, true, true, true, true, true, true, true, true, true, true, true, true, true, true, true, false, false] rfl rfl (by kernel_rfl) (fun _ _ _ h => h) (Or.inl ⟨by rfl, ?_⟩) ?_ ?_
  rotate_left
  · intro w'
    go_simp
    with_reducible rfl
  rotate_left
  · simp only [Act.put, List.setIfInBounds_toArray, List.set_cons_zero, List.set_cons_succ, i64_w, i32_w]
    rfl
  refine pure_ (i := 19) (N := some 7) (v := ?_) (a' := ?_) #[true, true, true, true, true, true, true, true, true, true, true, true, true, true, true, true, true, true, true, true, false] rfl rfl (by kernel_rfl) (fun _ _ _ h => h) (Or.inl ⟨by rfl, ?_⟩) ?_ ?_
  rotate_left
  · intro w'
    go_simp
    with_reducible rfl
  rotate_left
  · simp only [Act.put, List.setIfInBounds_toArray, List.set_cons_zero, List.set_cons_succ, i64_w, i32_w]
    rfl
  refine pure_ (i := 20) (N := some 8) (v := ?_) (a' := ?_) #[true, true, true, true, true, true, true, true, true, true, true, true, true, true, true, true, true, true, true, true, true] rfl rfl (by kernel_rfl) (fun _ _ _ h => h) (Or.inl ⟨by rfl, ?_⟩) ?_ ?_
  rotate_left
  · intro w'
    go_simp
    with_reducible rfl
  rotate_left
  · simp only [Act.put, List.setIfInBounds_toArray, List.set_cons_zero, List.set_cons_succ, i64_w, i32_w]
    rfl
  refine done_ (by kernel_rfl) ?_
  have HP : Hid (OpPost w mg lim S r (.returned (.tuple #[.int .i64 r.2.1, ev])) w4) := Lib.hid (OpPost.lift cur ⟨ev, rfl, M3, T3, E3⟩)
  clear M3 T3 E3 cur hHeld x0 x1 x2 x3 x4
  go_wp2
  go_ret2
  exact HP.out

theorem boxes5 (w : World) (o0 o1 o2 o3 o4 : Obj) : (((((w.alloc o0).alloc o1).alloc o2).alloc o3).alloc o4).heap[w.heap.size]? = some o0 ∧ (((((w.alloc o0).alloc o1).alloc o2).alloc o3).alloc o4).heap[w.heap.size + 1]? = some o1 ∧ (((((w.alloc o0).alloc o1).alloc o2).alloc o3).alloc o4).heap[w.heap.size + 1 + 1]? = some o2 ∧
    (((((w.alloc o0).alloc o1).alloc o2).alloc o3).alloc o4).heap[w.heap.size + 1 + 1 + 1]? = some o3 ∧ (((((w.alloc o0).alloc o1).alloc o2).alloc o3).alloc o4).heap[w.heap.size + 1 + 1 + 1 + 1]? = some o4 ∧ Below w.heap.size w (((((w.alloc o0).alloc o1).alloc o2).alloc o3).alloc o4) ∧ (((((w.alloc o0).alloc o1).alloc o2).alloc o3).alloc o4).heap.size = w.heap.size + 5 := by
  have s0 : (w.alloc o0).heap.size = w.heap.size + 1 := by simp
  have s1 : ((w.alloc o0).alloc o1).heap.size = w.heap.size + 1 + 1 := by simp
  have s2 : (((w.alloc o0).alloc o1).alloc o2).heap.size = w.heap.size + 1 + 1 + 1 := by simp
  have s3 : ((((w.alloc o0).alloc o1).alloc o2).alloc o3).heap.size = w.heap.size + 1 + 1 + 1 + 1 := by simp
  have b0 := blk_new w o0
  have b1 := blk_new (w.alloc o0) o1
  have b2 := blk_new ((w.alloc o0).alloc o1) o2
  have b3 := blk_new (((w.alloc o0).alloc o1).alloc o2) o3
  have b4 := blk_new ((((w.alloc o0).alloc o1).alloc o2).alloc o3) o4
  rw [s0] at b1
  rw [s1] at b2
  rw [s2] at b3
  rw [s3] at b4
  exact ⟨blk_alloc (blk_alloc (blk_alloc (blk_alloc b0 _) _) _) _, blk_alloc (blk_alloc (blk_alloc b1 _) _) _, blk_alloc (blk_alloc b2 _) _, blk_alloc b3 _, b4,
    Below.push (Below.push (Below.push (Below.push (Below.push (Below.refl _ _) (Nat.le_refl _) _) (Nat.le_refl _) _) (Nat.le_refl _) _) (Nat.le_refl _) _) (Nat.le_refl _) _, by simp⟩
theorem boxes4 (w : World) (o0 o1 o2 o3 : Obj) : Below w.heap.size w ((((w.alloc o0).alloc o1).alloc o2).alloc o3) :=
  Below.push (Below.push (Below.push (Below.push (Below.refl _ _) (Nat.le_refl _) _) (Nat.le_refl _) _) (Nat.le_refl _) _) (Nat.le_refl _) _
theorem MgrAt.put {ES' : List Ent} (M : MgrAt w mg b mb bp lim L ES S) (me : MemoAt w' mb bp ES') (t : Touch w w' (fun k => k = bp)) (mo : MemoOk L ES') : MgrAt w' mg b mb bp lim L ES' S :=
  { M with box := t.heap M.box M.n2, ar := M.ar.touch t (fun k _ h e => h.2.2.2 e), me := me, mok := mo, lt := fun k h => Nat.lt_of_lt_of_le (M.lt k h) t.size }
theorem OpPost.same {x : Int} (M : Mgr w mg lim L S) (hb : Below w.heap.size w w') : OpPost w mg lim S (L, x, 0) (.returned (.tuple #[.int .i64 x, .nilIface])) w' :=
  ⟨.nilIface, rfl, (M.below hb).mono (fun _ h => .inl h) (fun k hk => by
    have := hb.size
    rcases hk with hk | hk
    · have := M.lt k hk; omega
    · exact hk.2), Touch.of_below hb S, .inl ⟨rfl, rfl⟩⟩
theorem ite_len {B : Nat} (hB : lim < B) : ∀ (n : Nat) (L : List Nd) (f g h : Int), L.length < B → (Ar.ite lim n L f g h).1.length < B
  | 0, _, _, _, _, h => h
  | n + 1, L, f, g, h, hl => by
    rcases Ar.ite_way n L f g h (lim := lim) rfl with ⟨c, e1⟩ | ⟨c, c2, e1⟩ | ⟨c, c2, c3, c4, e1⟩ | ⟨c, c2, c3, L1, lo, e1, h1, hrest⟩
    · rw [e1]; exact hl
    · rw [e1]; exact hl
    · rw [e1]; exact hl
    · have k1 := ite_len hB n L (Ar.half L f (Ar.vm L f g h) false) (Ar.half L g (Ar.vm L f g h) false) (Ar.half L h (Ar.vm L f g h) false) hl
      rw [h1] at k1
      rcases hrest with ⟨z1, e2⟩ | ⟨z1, L2, hi, e2, h2, hrest⟩
      · rw [e2]; exact k1
      · have k2 := ite_len hB n L1 (Ar.half L f (Ar.vm L f g h) true) (Ar.half L g (Ar.vm L f g h) true) (Ar.half L h (Ar.vm L f g h) true) k1
        rw [h2] at k2
        rcases hrest with ⟨z2, e3⟩ | ⟨z2, e3⟩
        · rw [e3]; exact k2
        · rw [e3]
          dsimp only at k2
          rcases Ar.mk_cases lim L2 (Ar.vm L f g h) lo hi with ⟨m, _, h⟩ | ⟨_, _, _, ⟨_, h⟩ | ⟨_, _, h⟩ | ⟨_, _, hle, h⟩⟩ <;> rw [h]
          · exact k2
          · exact k2
          · exact k2
          · simp; omega
set_option maxRecDepth 100000 in
set_option maxHeartbeats 8000000 in
theorem ite_step {n : Nat} (hlim : lim < 100000000000) (IH : IteTo lim mg n) : IteTo lim mg (n + 1) := by
  intro w L S f g h M hf hg hh hn hl
  have ok := M.ok
  have HM := Lib.hid M
  rcases Ar.ite_way n L f g h (lim := lim) rfl with ⟨c, e1⟩ | ⟨c, c2, e1⟩ | ⟨c, c2, c3, c4, e1⟩ | ⟨c, c2, c3, L1, lo, e1, h1, hrest⟩
  · rw [e1]
    clear e1 M hf hg hh hn hl ok IH
    by_cases cf : f = -2
    · subst cf
      go_enter Try.func42, Try.ntmps42
      go_wp2_with fail
      go_ret2
      exact OpPost.same HM.out (boxes4 _ _ _ _ _)
    · obtain rfl : g = h := c.resolve_left cf
      have c1 : (f == -2) = false := by simp [cf]
      have c2 : (g == g) = true := by simp
      clear cf c
      go_enter Try.func42, Try.ntmps42
      go_wp2_with fail
      go_ret2
      exact OpPost.same HM.out (boxes4 _ _ _ _ _)
  · rw [e1]
    subst c2
    have c1 : (g == h) = false := by simp; exact fun e => c (.inr e)
    clear e1 M hf hg hh hn hl ok IH c
    go_enter Try.func42, Try.ntmps42
    go_wp2_with fail
    go_ret2
    exact OpPost.same HM.out (boxes4 _ _ _ _ _)
  · rw [e1]
    subst c3 c4
    have d1 : (f == -2) = false := by simp; exact fun e => c (.inl e)
    have d2 : (f == -1) = false := by simp [c2]
    clear e1 M hf hg hh hn hl ok IH c c2
    go_enter Try.func42, Try.ntmps42
    go_wp2_with fail
    go_ret2
    exact OpPost.same HM.out (boxes4 _ _ _ _ _)
  · have d1 : (f == -2) = false := by simp; exact fun e => c (.inl e)
    have d2 : (g == h) = false := by simp; exact fun e => c (.inr e)
    have d3 : (f == -1) = false := by simp [c2]
    have hb := Ar.vm_lt (g := g) (h := h) ok hf c c2
    have hv := Ar.vm_le L f g h
    have hva : ∀ d, Ar.vm L f g h + 1 ≤ Ar.vm L (Ar.half L f (Ar.vm L f g h) d) (Ar.half L g (Ar.vm L f g h) d) (Ar.half L h (Ar.vm L f g h) d) := fun d => by
      have a1 := Ar.half_var (b := d) ok hv.1 hb.2
      have a2 := Ar.half_var (b := d) ok hv.2.1 hb.2
      have a3 := Ar.half_var (b := d) ok hv.2.2.1 hb.2
      unfold Ar.vm at a1 a2 a3 ⊢
      omega
    -- what comes of it
    obtain ⟨L', x', er, hR⟩ : ∃ L' x' er, Ar.ite lim (n + 1) L f g h = (L', x', er) := ⟨_, _, _, rfl⟩
    have hsp := Ar.ite_spec (n + 1) L f g h ok hf hg hh hn L' x' er hR
    have hth : ∀ x, Ar.IteIs L f g h x → (L', x', er) = (L, x, 0) := fun x I => by rw [← hR]; exact Ar.ite_there (lim := lim) (n + 1) L f g h x ok hn I
    have hlen := ite_len (B := 100000000000) (by omega) (n + 1) L f g h hl
    obtain ⟨L2, hi, e2, h2⟩ : ∃ L2 hi e2, Ar.ite lim n L1 (Ar.half L f (Ar.vm L f g h) true) (Ar.half L g (Ar.vm L f g h) true) (Ar.half L h (Ar.vm L f g h) true) = (L2, hi, e2) := ⟨_, _, _, rfl⟩
    have hbo : bothF lim (Ar.vm L f g h) (L1, lo, e1) (L2, hi, e2) = Ar.ite lim (n + 1) L f g h := by
      rcases hrest with ⟨z, e⟩ | ⟨z, L2', hi', e2', h2', ⟨z2, e⟩ | ⟨z2, e⟩⟩
      · rw [e, bothF_1 z]
      · rw [h2] at h2'
        simp only [Prod.mk.injEq] at h2'
        obtain ⟨rfl, rfl, rfl⟩ := h2'
        subst z
        rw [e, bothF_2 z2]
      · rw [h2] at h2'
        simp only [Prod.mk.injEq] at h2'
        obtain ⟨rfl, rfl, rfl⟩ := h2'
        subst z z2
        rw [e, bothF_3]
    have s1 := Ar.ite_spec n L _ _ _ ok (Ar.half_bo hf _ false) (Ar.half_bo hg _ false) (Ar.half_bo hh _ false) (by have := hva false; omega) L1 lo e1 h1
    have k1 : L1.length < 100000000000 := by have := ite_len (B := 100000000000) (lim := lim) (by omega) n L (Ar.half L f (Ar.vm L f g h) false) (Ar.half L g (Ar.vm L f g h) false) (Ar.half L h (Ar.vm L f g h) false) hl; rw [h1] at this; exact this
    have k2 : L2.length < 100000000000 := by have := ite_len (B := 100000000000) (lim := lim) (by omega) n L1 (Ar.half L f (Ar.vm L f g h) true) (Ar.half L g (Ar.vm L f g h) true) (Ar.half L h (Ar.vm L f g h) true) k1; rw [h2] at this; exact this
    -- both, from any world in which the closure's variables stand
    have HBOTH : Hid (∀ (W : World) (c0 c1 c2 c3 c4 : Nat), Mgr W mg lim L S → Caps W S mg f (Ar.vm L f g h) g h c0 c1 c2 c3 c4 →
        Calls Try.prog 59 #[.pointer (some ⟨mg, 0, none⟩), .int .i64 (Ar.vm L f g h), .func (.func 60) #[] #[.pointer (some ⟨c0, 0, none⟩), .pointer (some ⟨c1, 0, none⟩), .pointer (some ⟨c2, 0, none⟩), .pointer (some ⟨c3, 0, none⟩), .pointer (some ⟨c4, 0, none⟩)]] W
          (OpPost W mg lim S (L', x', er))) := by
      refine Lib.hid (fun W c0 c1 c2 c3 c4 MW CW => ?_)
      rw [← hR, ← hbo]
      refine both_ite ?_ (fun z w1 t1 M1 => ?_) k2
      · rw [← h1]
        exact clo_ite IH MW CW false hf hg hh (by have := hva false; omega) hl
      · have C1 := CW.touch t1
        have e : ∀ r, Ar.Bo L r → Ar.half L1 r (Ar.vm L f g h) true = Ar.half L r (Ar.vm L f g h) true := fun r hr => Ar.half_pre s1.2.1 hr.lt _ _
        have := clo_ite IH M1 C1 true (hf.pre s1.2.1) (hg.pre s1.2.1) (hh.pre s1.2.1) (by
          rw [e f hf, e g hg, e h hh]
          have bf := Ar.half_bo hf (Ar.vm L f g h) true
          have bg := Ar.half_bo hg (Ar.vm L f g h) true
          have bh := Ar.half_bo hh (Ar.vm L f g h) true
          have := hva true
          have v1 := Ar.var_pre s1.2.1 bf.lt
          have v2 := Ar.var_pre s1.2.1 bg.lt
          have v3 := Ar.var_pre s1.2.1 bh.lt
          generalize Ar.half L f (Ar.vm L f g h) true = u1 at *
          generalize Ar.half L g (Ar.vm L f g h) true = u2 at *
          generalize Ar.half L h (Ar.vm L f g h) true = u3 at *
          have ev : Ar.vm L1 u1 u2 u3 = Ar.vm L u1 u2 u3 := by unfold Ar.vm; rw [v1, v2, v3]
          omega) k1
        rw [e f hf, e g hg, e h hh, h2] at this
        exact this
    rw [hR]
    clear hrest h1 h2 hbo s1 k1 k2 hva IH e1 lo L1 e2 hi L2 hR hlen
    have HSP := Lib.hid hsp
    have HHB := Lib.hid hh
    have HLT : Hid (∀ k, S k → k < w.heap.size) := Lib.hid M.lt
    obtain ⟨b, mb, bp, ES, MA⟩ := M
    have m0 := MA.c0
    have m1 := MA.c1
    have GG := Lib.hid (fun (W : World) (hb : Below w.heap.size w W) => get_any (MA.me.below hb) f g h)
    have GV := Lib.hid (fun (r : Int) (W : World) (hb : Below w.heap.size w W) => var_any (MA.ar.below hb) r)
    have hmo := MA.mok
    have HC4 : Hid ((g == -2) = false ∨ ((g == -2) = true ∧ (h == -1) = false)) := by
      refine Lib.hid ?_
      by_cases cg : g = -2
      · exact .inr ⟨by simp [cg], by simp; exact fun e => c3 ⟨cg, e⟩⟩
      · exact .inl (by simp [cg])
    have hmf : ∀ (fn : Fn) (first cap : Array Value) (w : World), (Instr.makeFunc fn first cap).run Try.prog w = .ok (.func fn first cap) w := fun _ _ _ _ => rfl
    obtain ⟨mx, hmx⟩ : ∃ mx, mget ES f g h = mx := ⟨_, rfl⟩
    rw [hmx] at GG
    cases mx with
    | some x =>
      have hx := hth x (hmo.ite hh hmx)
      simp only [Prod.mk.injEq] at hx
      obtain ⟨rfl, rfl, rfl⟩ := hx
      clear MA hsp hth hmo hmx ok hf hg hh hn hl c c2 c3 hb hv HBOTH HSP GV
      rcases HC4.out with cg | ⟨cg, cg2⟩
      all_goals
        go_enter Try.func42, Try.ntmps42
        go_wp2_with fail
        obtain ⟨B0, B1, B2, B3, B4, HB, hsz⟩ := boxes5 w (.cells #[.pointer (some ⟨mg, 0, none⟩)] 23) (.cells #[.int .i64 f] 3) (.cells #[.int .i64 g] 3) (.cells #[.int .i64 h] 3) (.cells #[.int .i64 f, .int .i64 g, .int .i64 h] 95)
        generalize (((((w.alloc (.cells #[.pointer (some ⟨mg, 0, none⟩)] 23)).alloc (.cells #[.int .i64 f] 3)).alloc (.cells #[.int .i64 g] 3)).alloc (.cells #[.int .i64 h] 3)).alloc (.cells #[.int .i64 f, .int .i64 g, .int .i64 h] 95)) = wb at *
        have x4 := cell_at B0 0 rfl
        have k0 := cell_at B4 0 rfl
        have k1 := cell_at B4 1 rfl
        have k2 := cell_at B4 2 rfl
        replace m0 := cell_below HB m0
        replace m1 := cell_below HB m1
        have HB0 := Lib.hid HB
        clear B0 B1 B2 B3 B4 HB hsz
        refine start_ (n := 11) (S := fun w' => w'.cell? ⟨w.heap.size, 0, none⟩ = some (.pointer (some ⟨mg, 0, none⟩)) ∧ w'.cell? ⟨mg, 1, none⟩ = some (.pointer (some ⟨mb, 0, none⟩)) ∧ w'.cell? ⟨w.heap.size + 1 + 1 + 1 + 1, 0, none⟩ = some (.int .i64 f) ∧ w'.cell? ⟨w.heap.size + 1 + 1 + 1 + 1, 1, none⟩ = some (.int .i64 g) ∧ w'.cell? ⟨w.heap.size + 1 + 1 + 1 + 1, 2, none⟩ = some (.int .i64 h)) (ds := []) #[false, false, false, false, false, false, false, false, false, false, false] (by kernel_rfl) rfl rfl ⟨cell_below ((Below.refl wb.heap.size wb).drew) x4, cell_below ((Below.refl wb.heap.size wb).drew) m1, cell_below ((Below.refl wb.heap.size wb).drew) k0, cell_below ((Below.refl wb.heap.size wb).drew) k1, cell_below ((Below.refl wb.heap.size wb).drew) k2⟩ (fun hHeld => ?_)
        refine take_ (i := 0) (N := some 42) (v := ?_) (a' := ?_) #[true, false, false, false, false, false, false, false, false, false, false] rfl rfl (by kernel_rfl) (fun _ _ _ h => h) (Or.inl ⟨by rfl, ?_⟩) hHeld ?_ ?_
        rotate_left
        · rintro w' ⟨s0, s1, s2, s3, s4⟩
          go_simp
          with_reducible rfl
        rotate_left
        · simp only [Act.put, List.setIfInBounds_toArray, List.set_cons_zero, List.set_cons_succ, i64_w, i32_w]
          rfl
        refine pure_ (i := 1) (N := some 43) (v := ?_) (a' := ?_) #[true, true, false, false, false, false, false, false, false, false, false] rfl rfl (by kernel_rfl) (fun _ _ _ h => h) (Or.inl ⟨by rfl, ?_⟩) ?_ ?_
        rotate_left
        · intro w'
          go_simp
          with_reducible rfl
        rotate_left
        · simp only [Act.put, List.setIfInBounds_toArray, List.set_cons_zero, List.set_cons_succ, i64_w, i32_w]
          rfl
        refine pure_ (i := 2) (N := some 44) (v := ?_) (a' := ?_) #[true, true, true, false, false, false, false, false, false, false, false] rfl rfl (by kernel_rfl) (fun _ _ _ h => h) (Or.inl ⟨by rfl, ?_⟩) ?_ ?_
        rotate_left
        · intro w'
          go_simp
          with_reducible rfl
        rotate_left
        · simp only [Act.put, List.setIfInBounds_toArray, List.set_cons_zero, List.set_cons_succ, i64_w, i32_w]
          rfl
        refine take_ (i := 3) (N := some 45) (v := ?_) (a' := ?_) #[true, true, true, true, false, false, false, false, false, false, false] rfl rfl (by kernel_rfl) (fun _ _ _ h => h) (Or.inl ⟨by rfl, ?_⟩) hHeld ?_ ?_
        rotate_left
        · rintro w' ⟨s0, s1, s2, s3, s4⟩
          go_simp
          with_reducible rfl
        rotate_left
        · simp only [Act.put, List.setIfInBounds_toArray, List.set_cons_zero, List.set_cons_succ, i64_w, i32_w]
          rfl
        refine take_ (i := 4) (N := some 46) (v := ?_) (a' := ?_) #[true, true, true, true, true, false, false, false, false, false, false] rfl rfl (by kernel_rfl) (fun _ _ _ h => h) (Or.inl ⟨by rfl, ?_⟩) hHeld ?_ ?_
        rotate_left
        · rintro w' ⟨s0, s1, s2, s3, s4⟩
          go_simp
          with_reducible rfl
        rotate_left
        · simp only [Act.put, List.setIfInBounds_toArray, List.set_cons_zero, List.set_cons_succ, i64_w, i32_w]
          rfl
        refine one_ (i := 5) (N := some 47) #[true, true, true, true, true, true, false, false, false, false, false] rfl rfl (by kernel_rfl) (by decide) (fun K hK => ?_)
        refine goes_ Try.func57 (by kernel_rfl) rfl #[.pointer (some ⟨mb, 0, none⟩), .agg #[.int .i64 f, .int .i64 g, .int .i64 h]] (by rfl) rfl rfl (by simp only [List.map_toArray, List.map_cons, List.map_nil]; rfl) ?_
        with_reducible refine (GG.out _ (seq HB0.out ((Below.refl wb.heap.size wb).drew))).mono ?_
        rintro e w3 ⟨rfl, hb⟩
        refine ⟨_, rfl, ?_⟩
        have cur := seq ((Below.refl wb.heap.size wb).drew) hb
        clear hb
        refine hK.out _ _ ⟨cell_below cur x4, cell_below cur m1, cell_below cur k0, cell_below cur k1, cell_below cur k2⟩ (fun hHeld => ?_)
        clear hK K
        refine norm_ (a' := ?_) ?_ ?_
        rotate_left
        · show Act.put _ (some 47) _ = _
          simp only [Act.put, List.setIfInBounds_toArray, List.set_cons_zero, List.set_cons_succ, i64_w, i32_w]
          rfl
        refine pure_ (i := 6) (N := some 41) (v := ?_) (a' := ?_) #[true, true, true, true, true, true, true, false, false, false, false] rfl rfl (by kernel_rfl) (fun _ _ _ h => h) (Or.inl ⟨by rfl, ?_⟩) ?_ ?_
        rotate_left
        · intro w'
          go_simp
          with_reducible rfl
        rotate_left
        · simp only [Act.put, List.setIfInBounds_toArray, List.set_cons_zero, List.set_cons_succ, i64_w, i32_w]
          rfl
        refine pure_ (i := 7) (N := some 48) (v := ?_) (a' := ?_) #[true, true, true, true, true, true, true, true, false, false, false] rfl rfl (by kernel_rfl) (fun _ _ _ h => h) (Or.inl ⟨by rfl, ?_⟩) ?_ ?_
        rotate_left
        · intro w'
          go_simp
          with_reducible rfl
        rotate_left
        · simp only [Act.put, List.setIfInBounds_toArray, List.set_cons_zero, List.set_cons_succ, i64_w, i32_w]
          rfl
        refine pure_ (i := 8) (N := some 49) (v := ?_) (a' := ?_) #[true, true, true, true, true, true, true, true, true, false, false] rfl rfl (by kernel_rfl) (fun _ _ _ h => h) (Or.inl ⟨by rfl, ?_⟩) ?_ ?_
        rotate_left
        · intro w'
          go_simp
          with_reducible rfl
        rotate_left
        · simp only [Act.put, List.setIfInBounds_toArray, List.set_cons_zero, List.set_cons_succ, i64_w, i32_w]
          rfl
        refine pure_ (i := 9) (N := some 11) (v := ?_) (a' := ?_) #[true, true, true, true, true, true, true, true, true, true, false] rfl rfl (by kernel_rfl) (fun _ _ _ h => h) (Or.inl ⟨by rfl, ?_⟩) ?_ ?_
        rotate_left
        · intro w'
          go_simp
          with_reducible rfl
        rotate_left
        · simp only [Act.put, List.setIfInBounds_toArray, List.set_cons_zero, List.set_cons_succ, i64_w, i32_w]
          rfl
        refine pure_ (i := 10) (N := some 12) (v := ?_) (a' := ?_) #[true, true, true, true, true, true, true, true, true, true, true] rfl rfl (by kernel_rfl) (fun _ _ _ h => h) (Or.inl ⟨by rfl, ?_⟩) ?_ ?_
        rotate_left
        · intro w'
          go_simp
          with_reducible rfl
        rotate_left
        · simp only [Act.put, List.setIfInBounds_toArray, List.set_cons_zero, List.set_cons_succ, i64_w, i32_w]
          rfl
        refine done_ (by kernel_rfl) ?_
        have HE := Lib.hid (OpPost.same (x := x') HM.out (seq HB0.out cur))
        clear cur hHeld m0 m1 x4 k0 k1 k2
        go_wp2_with fail
        go_ret2
        exact HE.out
    | none =>
      clear MA hsp hth hmo hmx ok hf hg hh hn hl c c2 c3 hb hv
      have GVM : Hid (Ar.vm L f g h = min (Ar.var L f) (min (Ar.var L g) (Ar.var L h))) := Lib.hid (by unfold Ar.vm; omega)
      generalize Ar.vm L f g h = vv at *
      rcases HC4.out with cg | ⟨cg, cg2⟩
      all_goals
        go_enter Try.func42, Try.ntmps42
        go_wp2_with fail
        obtain ⟨B0, B1, B2, B3, B4, HB, hsz⟩ := boxes5 w (.cells #[.pointer (some ⟨mg, 0, none⟩)] 23) (.cells #[.int .i64 f] 3) (.cells #[.int .i64 g] 3) (.cells #[.int .i64 h] 3) (.cells #[.int .i64 f, .int .i64 g, .int .i64 h] 95)
        generalize (((((w.alloc (.cells #[.pointer (some ⟨mg, 0, none⟩)] 23)).alloc (.cells #[.int .i64 f] 3)).alloc (.cells #[.int .i64 g] 3)).alloc (.cells #[.int .i64 h] 3)).alloc (.cells #[.int .i64 f, .int .i64 g, .int .i64 h] 95)) = wb at *
        have x4 := cell_at B0 0 rfl
        have x5 := cell_at B1 0 rfl
        have x6 := cell_at B2 0 rfl
        have x7 := cell_at B3 0 rfl
        have k0 := cell_at B4 0 rfl
        have k1 := cell_at B4 1 rfl
        have k2 := cell_at B4 2 rfl
        replace m0 := cell_below HB m0
        replace m1 := cell_below HB m1
        have HB0 := Lib.hid HB
        have G0 := Lib.hid B0
        have G1 := Lib.hid B1
        have G2 := Lib.hid B2
        have G3 := Lib.hid B3
        have G4 := Lib.hid B4
        clear B0 B1 B2 B3 B4 HB hsz
        refine start_ (n := 11) (S := fun w' => w'.cell? ⟨w.heap.size, 0, none⟩ = some (.pointer (some ⟨mg, 0, none⟩)) ∧ w'.cell? ⟨mg, 1, none⟩ = some (.pointer (some ⟨mb, 0, none⟩)) ∧ w'.cell? ⟨w.heap.size + 1 + 1 + 1 + 1, 0, none⟩ = some (.int .i64 f) ∧ w'.cell? ⟨w.heap.size + 1 + 1 + 1 + 1, 1, none⟩ = some (.int .i64 g) ∧ w'.cell? ⟨w.heap.size + 1 + 1 + 1 + 1, 2, none⟩ = some (.int .i64 h)) (ds := []) #[false, false, false, false, false, false, false, false, false, false, false] (by kernel_rfl) rfl rfl ⟨cell_below ((Below.refl wb.heap.size wb).drew) x4, cell_below ((Below.refl wb.heap.size wb).drew) m1, cell_below ((Below.refl wb.heap.size wb).drew) k0, cell_below ((Below.refl wb.heap.size wb).drew) k1, cell_below ((Below.refl wb.heap.size wb).drew) k2⟩ (fun hHeld => ?_)
        refine take_ (i := 0) (N := some 42) (v := ?_) (a' := ?_) #[true, false, false, false, false, false, false, false, false, false, false] rfl rfl (by kernel_rfl) (fun _ _ _ h => h) (Or.inl ⟨by rfl, ?_⟩) hHeld ?_ ?_
        rotate_left
        · rintro w' ⟨s0, s1, s2, s3, s4⟩
          go_simp
          with_reducible rfl
        rotate_left
        · simp only [Act.put, List.setIfInBounds_toArray, List.set_cons_zero, List.set_cons_succ, i64_w, i32_w]
          rfl
        refine pure_ (i := 1) (N := some 43) (v := ?_) (a' := ?_) #[true, true, false, false, false, false, false, false, false, false, false] rfl rfl (by kernel_rfl) (fun _ _ _ h => h) (Or.inl ⟨by rfl, ?_⟩) ?_ ?_
        rotate_left
        · intro w'
          go_simp
          with_reducible rfl
        rotate_left
        · simp only [Act.put, List.setIfInBounds_toArray, List.set_cons_zero, List.set_cons_succ, i64_w, i32_w]
          rfl
        refine pure_ (i := 2) (N := some 44) (v := ?_) (a' := ?_) #[true, true, true, false, false, false, false, false, false, false, false] rfl rfl (by kernel_rfl) (fun _ _ _ h => h) (Or.inl ⟨by rfl, ?_⟩) ?_ ?_
        rotate_left
        · intro w'
          go_simp
          with_reducible rfl
        rotate_left
        · simp only [Act.put, List.setIfInBounds_toArray, List.set_cons_zero, List.set_cons_succ, i64_w, i32_w]
          rfl
        refine take_ (i := 3) (N := some 45) (v := ?_) (a' := ?_) #[true, true, true, true, false, false, false, false, false, false, false] rfl rfl (by kernel_rfl) (fun _ _ _ h => h) (Or.inl ⟨by rfl, ?_⟩) hHeld ?_ ?_
        rotate_left
        · rintro w' ⟨s0, s1, s2, s3, s4⟩
          go_simp
          with_reducible rfl
        rotate_left
        · simp only [Act.put, List.setIfInBounds_toArray, List.set_cons_zero, List.set_cons_succ, i64_w, i32_w]
          rfl
        refine take_ (i := 4) (N := some 46) (v := ?_) (a' := ?_) #[true, true, true, true, true, false, false, false, false, false, false] rfl rfl (by kernel_rfl) (fun _ _ _ h => h) (Or.inl ⟨by rfl, ?_⟩) hHeld ?_ ?_
        rotate_left
        · rintro w' ⟨s0, s1, s2, s3, s4⟩
          go_simp
          with_reducible rfl
        rotate_left
        · simp only [Act.put, List.setIfInBounds_toArray, List.set_cons_zero, List.set_cons_succ, i64_w, i32_w]
          rfl
        refine one_ (i := 5) (N := some 47) #[true, true, true, true, true, true, false, false, false, false, false] rfl rfl (by kernel_rfl) (by decide) (fun K hK => ?_)
        refine goes_ Try.func57 (by kernel_rfl) rfl #[.pointer (some ⟨mb, 0, none⟩), .agg #[.int .i64 f, .int .i64 g, .int .i64 h]] (by rfl) rfl rfl (by simp only [List.map_toArray, List.map_cons, List.map_nil]; rfl) ?_
        with_reducible refine (GG.out _ (seq HB0.out ((Below.refl wb.heap.size wb).drew))).mono ?_
        rintro e w3 ⟨rfl, hb⟩
        refine ⟨_, rfl, ?_⟩
        have cur := seq ((Below.refl wb.heap.size wb).drew) hb
        clear hb
        refine hK.out _ _ ⟨cell_below cur x4, cell_below cur m1, cell_below cur k0, cell_below cur k1, cell_below cur k2⟩ (fun hHeld => ?_)
        clear hK K
        refine norm_ (a' := ?_) ?_ ?_
        rotate_left
        · show Act.put _ (some 47) _ = _
          simp only [Act.put, List.setIfInBounds_toArray, List.set_cons_zero, List.set_cons_succ, i64_w, i32_w]
          rfl
        refine pure_ (i := 6) (N := some 41) (v := ?_) (a' := ?_) #[true, true, true, true, true, true, true, false, false, false, false] rfl rfl (by kernel_rfl) (fun _ _ _ h => h) (Or.inl ⟨by rfl, ?_⟩) ?_ ?_
        rotate_left
        · intro w'
          go_simp
          with_reducible rfl
        rotate_left
        · simp only [Act.put, List.setIfInBounds_toArray, List.set_cons_zero, List.set_cons_succ, i64_w, i32_w]
          rfl
        refine pure_ (i := 7) (N := some 48) (v := ?_) (a' := ?_) #[true, true, true, true, true, true, true, true, false, false, false] rfl rfl (by kernel_rfl) (fun _ _ _ h => h) (Or.inl ⟨by rfl, ?_⟩) ?_ ?_
        rotate_left
        · intro w'
          go_simp
          with_reducible rfl
        rotate_left
        · simp only [Act.put, List.setIfInBounds_toArray, List.set_cons_zero, List.set_cons_succ, i64_w, i32_w]
          rfl
        refine pure_ (i := 8) (N := some 49) (v := ?_) (a' := ?_) #[true, true, true, true, true, true, true, true, true, false, false] rfl rfl (by kernel_rfl) (fun _ _ _ h => h) (Or.inl ⟨by rfl, ?_⟩) ?_ ?_
        rotate_left
        · intro w'
          go_simp
          with_reducible rfl
        rotate_left
        · simp only [Act.put, List.setIfInBounds_toArray, List.set_cons_zero, List.set_cons_succ, i64_w, i32_w]
          rfl
        refine pure_ (i := 9) (N := some 11) (v := ?_) (a' := ?_) #[true, true, true, true, true, true, true, true, true, true, false] rfl rfl (by kernel_rfl) (fun _ _ _ h => h) (Or.inl ⟨by rfl, ?_⟩) ?_ ?_
        rotate_left
        · intro w'
          go_simp
          with_reducible rfl
        rotate_left
        · simp only [Act.put, List.setIfInBounds_toArray, List.set_cons_zero, List.set_cons_succ, i64_w, i32_w]
          rfl
        refine pure_ (i := 10) (N := some 12) (v := ?_) (a' := ?_) #[true, true, true, true, true, true, true, true, true, true, true] rfl rfl (by kernel_rfl) (fun _ _ _ h => h) (Or.inl ⟨by rfl, ?_⟩) ?_ ?_
        rotate_left
        · intro w'
          go_simp
          with_reducible rfl
        rotate_left
        · simp only [Act.put, List.setIfInBounds_toArray, List.set_cons_zero, List.set_cons_succ, i64_w, i32_w]
          rfl
        refine done_ (by kernel_rfl) ?_
        replace x4 := cell_below cur x4
        replace x5 := cell_below cur x5
        replace x6 := cell_below cur x6
        replace x7 := cell_below cur x7
        replace m0 := cell_below cur m0
        have CUR1 := Lib.hid cur
        clear cur hHeld k0 k1 k2 m1
        obtain ⟨wk, hwk⟩ : ∃ wk : World, wk = w3 := ⟨_, rfl⟩
        subst hwk
        go_wp2_with fail
        refine start_ (n := 21) (S := fun w' => w'.cell? ⟨w.heap.size, 0, none⟩ = some (.pointer (some ⟨mg, 0, none⟩)) ∧ w'.cell? ⟨w.heap.size + 1, 0, none⟩ = some (.int .i64 f) ∧ w'.cell? ⟨w.heap.size + 1 + 1, 0, none⟩ = some (.int .i64 g) ∧ w'.cell? ⟨w.heap.size + 1 + 1 + 1, 0, none⟩ = some (.int .i64 h) ∧ w'.cell? ⟨mg, 0, none⟩ = some (.pointer (some ⟨b, 0, none⟩))) (ds := [20]) #[false, false, false, false, false, false, false, false, false, false, false, false, false, false, false, false, false, false, false, false, false] (by kernel_rfl) rfl rfl ⟨cell_below ((Below.refl wk.heap.size wk).drew) x4, cell_below ((Below.refl wk.heap.size wk).drew) x5, cell_below ((Below.refl wk.heap.size wk).drew) x6, cell_below ((Below.refl wk.heap.size wk).drew) x7, cell_below ((Below.refl wk.heap.size wk).drew) m0⟩ (fun hHeld => ?_)
        refine take_ (i := 0) (N := some 52) (v := ?_) (a' := ?_) #[true, false, false, false, false, false, false, false, false, false, false, false, false, false, false, false, false, false, false, false, false] rfl rfl (by kernel_rfl) (fun _ _ _ h => h) (Or.inl ⟨by rfl, ?_⟩) hHeld ?_ ?_
        rotate_left
        · rintro w' ⟨s0, s1, s2, s3, s4⟩
          go_simp
          with_reducible rfl
        rotate_left
        · simp only [Act.put, List.setIfInBounds_toArray, List.set_cons_zero, List.set_cons_succ, i64_w, i32_w]
          rfl
        refine pure_ (i := 1) (N := some 53) (v := ?_) (a' := ?_) #[true, true, false, false, false, false, false, false, false, false, false, false, false, false, false, false, false, false, false, false, false] rfl rfl (by kernel_rfl) (fun _ _ _ h => h) (Or.inl ⟨by rfl, ?_⟩) ?_ ?_
        rotate_left
        · intro w'
          go_simp
          with_reducible rfl
        rotate_left
        · simp only [Act.put, List.setIfInBounds_toArray, List.set_cons_zero, List.set_cons_succ, i64_w, i32_w]
          rfl
        refine pure_ (i := 2) (N := some 54) (v := ?_) (a' := ?_) #[true, true, true, false, false, false, false, false, false, false, false, false, false, false, false, false, false, false, false, false, false] rfl rfl (by kernel_rfl) (fun _ _ _ h => h) (Or.inl ⟨by rfl, ?_⟩) ?_ ?_
        rotate_left
        · intro w'
          go_simp
          with_reducible rfl
        rotate_left
        · simp only [Act.put, List.setIfInBounds_toArray, List.set_cons_zero, List.set_cons_succ, i64_w, i32_w]
          rfl
        refine take_ (i := 3) (N := some 55) (v := ?_) (a' := ?_) #[true, true, true, true, false, false, false, false, false, false, false, false, false, false, false, false, false, false, false, false, false] rfl rfl (by kernel_rfl) (fun _ _ _ h => h) (Or.inl ⟨by rfl, ?_⟩) hHeld ?_ ?_
        rotate_left
        · rintro w' ⟨s0, s1, s2, s3, s4⟩
          go_simp
          with_reducible rfl
        rotate_left
        · simp only [Act.put, List.setIfInBounds_toArray, List.set_cons_zero, List.set_cons_succ, i64_w, i32_w]
          rfl
        refine take_ (i := 4) (N := some 56) (v := ?_) (a' := ?_) #[true, true, true, true, true, false, false, false, false, false, false, false, false, false, false, false, false, false, false, false, false] rfl rfl (by kernel_rfl) (fun _ _ _ h => h) (Or.inl ⟨by rfl, ?_⟩) hHeld ?_ ?_
        rotate_left
        · rintro w' ⟨s0, s1, s2, s3, s4⟩
          go_simp
          with_reducible rfl
        rotate_left
        · simp only [Act.put, List.setIfInBounds_toArray, List.set_cons_zero, List.set_cons_succ, i64_w, i32_w]
          rfl
        refine take_ (i := 6) (N := some 58) (v := ?_) (a' := ?_) #[true, true, true, true, true, false, true, false, false, false, false, false, false, false, false, false, false, false, false, false, false] rfl rfl (by kernel_rfl) (fun _ _ _ h => h) (Or.inl ⟨by rfl, ?_⟩) hHeld ?_ ?_
        rotate_left
        · rintro w' ⟨s0, s1, s2, s3, s4⟩
          go_simp
          with_reducible rfl
        rotate_left
        · simp only [Act.put, List.setIfInBounds_toArray, List.set_cons_zero, List.set_cons_succ, i64_w, i32_w]
          rfl
        refine pure_ (i := 7) (N := some 59) (v := ?_) (a' := ?_) #[true, true, true, true, true, false, true, true, false, false, false, false, false, false, false, false, false, false, false, false, false] rfl rfl (by kernel_rfl) (fun _ _ _ h => h) (Or.inl ⟨by rfl, ?_⟩) ?_ ?_
        rotate_left
        · intro w'
          go_simp
          with_reducible rfl
        rotate_left
        · simp only [Act.put, List.setIfInBounds_toArray, List.set_cons_zero, List.set_cons_succ, i64_w, i32_w]
          rfl
        refine pure_ (i := 8) (N := some 60) (v := ?_) (a' := ?_) #[true, true, true, true, true, false, true, true, true, false, false, false, false, false, false, false, false, false, false, false, false] rfl rfl (by kernel_rfl) (fun _ _ _ h => h) (Or.inl ⟨by rfl, ?_⟩) ?_ ?_
        rotate_left
        · intro w'
          go_simp
          with_reducible rfl
        rotate_left
        · simp only [Act.put, List.setIfInBounds_toArray, List.set_cons_zero, List.set_cons_succ, i64_w, i32_w]
          rfl
        refine take_ (i := 9) (N := some 61) (v := ?_) (a' := ?_) #[true, true, true, true, true, false, true, true, true, true, false, false, false, false, false, false, false, false, false, false, false] rfl rfl (by kernel_rfl) (fun _ _ _ h => h) (Or.inl ⟨by rfl, ?_⟩) hHeld ?_ ?_
        rotate_left
        · rintro w' ⟨s0, s1, s2, s3, s4⟩
          go_simp
          with_reducible rfl
        rotate_left
        · simp only [Act.put, List.setIfInBounds_toArray, List.set_cons_zero, List.set_cons_succ, i64_w, i32_w]
          rfl
        refine take_ (i := 10) (N := some 62) (v := ?_) (a' := ?_) #[true, true, true, true, true, false, true, true, true, true, true, false, false, false, false, false, false, false, false, false, false] rfl rfl (by kernel_rfl) (fun _ _ _ h => h) (Or.inl ⟨by rfl, ?_⟩) hHeld ?_ ?_
        rotate_left
        · rintro w' ⟨s0, s1, s2, s3, s4⟩
          go_simp
          with_reducible rfl
        rotate_left
        · simp only [Act.put, List.setIfInBounds_toArray, List.set_cons_zero, List.set_cons_succ, i64_w, i32_w]
          rfl
        refine take_ (i := 12) (N := some 64) (v := ?_) (a' := ?_) #[true, true, true, true, true, false, true, true, true, true, true, false, true, false, false, false, false, false, false, false, false] rfl rfl (by kernel_rfl) (fun _ _ _ h => h) (Or.inl ⟨by rfl, ?_⟩) hHeld ?_ ?_
        rotate_left
        · rintro w' ⟨s0, s1, s2, s3, s4⟩
          go_simp
          with_reducible rfl
        rotate_left
        · simp only [Act.put, List.setIfInBounds_toArray, List.set_cons_zero, List.set_cons_succ, i64_w, i32_w]
          rfl
        refine pure_ (i := 13) (N := some 65) (v := ?_) (a' := ?_) #[true, true, true, true, true, false, true, true, true, true, true, false, true, true, false, false, false, false, false, false, false] rfl rfl (by kernel_rfl) (fun _ _ _ h => h) (Or.inl ⟨by rfl, ?_⟩) ?_ ?_
        rotate_left
        · intro w'
          go_simp
          with_reducible rfl
        rotate_left
        · simp only [Act.put, List.setIfInBounds_toArray, List.set_cons_zero, List.set_cons_succ, i64_w, i32_w]
          rfl
        refine pure_ (i := 14) (N := some 66) (v := ?_) (a' := ?_) #[true, true, true, true, true, false, true, true, true, true, true, false, true, true, true, false, false, false, false, false, false] rfl rfl (by kernel_rfl) (fun _ _ _ h => h) (Or.inl ⟨by rfl, ?_⟩) ?_ ?_
        rotate_left
        · intro w'
          go_simp
          with_reducible rfl
        rotate_left
        · simp only [Act.put, List.setIfInBounds_toArray, List.set_cons_zero, List.set_cons_succ, i64_w, i32_w]
          rfl
        refine take_ (i := 15) (N := some 67) (v := ?_) (a' := ?_) #[true, true, true, true, true, false, true, true, true, true, true, false, true, true, true, true, false, false, false, false, false] rfl rfl (by kernel_rfl) (fun _ _ _ h => h) (Or.inl ⟨by rfl, ?_⟩) hHeld ?_ ?_
        rotate_left
        · rintro w' ⟨s0, s1, s2, s3, s4⟩
          go_simp
          with_reducible rfl
        rotate_left
        · simp only [Act.put, List.setIfInBounds_toArray, List.set_cons_zero, List.set_cons_succ, i64_w, i32_w]
          rfl
        refine take_ (i := 16) (N := some 68) (v := ?_) (a' := ?_) #[true, true, true, true, true, false, true, true, true, true, true, false, true, true, true, true, true, false, false, false, false] rfl rfl (by kernel_rfl) (fun _ _ _ h => h) (Or.inl ⟨by rfl, ?_⟩) hHeld ?_ ?_
        rotate_left
        · rintro w' ⟨s0, s1, s2, s3, s4⟩
          go_simp
          with_reducible rfl
        rotate_left
        · simp only [Act.put, List.setIfInBounds_toArray, List.set_cons_zero, List.set_cons_succ, i64_w, i32_w]
          rfl
        refine join_ (σ := Nat) 1 #[true, true, true, true, true, true, true, true, true, true, true, true, true, true, true, true, true, true, true, true, false] (fun zz => [(57, .int .i64 (Ar.var L f)), (63, .int .i64 (Ar.var L g)), (69, .int .i64 (Ar.var L h)), (13, .pointer (some ⟨zz, 0, none⟩)), (70, .int .i64 (min (Ar.var L f) (min (Ar.var L g) (Ar.var L h))))]) (fun zz w' => Below wk.heap.size wk w' ∧ w'.heap[zz]? = some (.cells #[.int .i64 0] 3 (0, 0)) ∧ wk.heap.size ≤ zz) ?_ ?_
        rotate_left
        · intro hJ5_11_17_19
          refine join_ (σ := Unit) 2 #[true, true, true, true, true, true, true, true, true, true, true, true, true, true, true, true, true, true, true, false, false] (fun zz => [(57, .int .i64 (Ar.var L f)), (63, .int .i64 (Ar.var L g)), (69, .int .i64 (Ar.var L h)), (70, .int .i64 (min (Ar.var L f) (min (Ar.var L g) (Ar.var L h))))]) (fun zz w' => Below wk.heap.size wk w') ?_ ?_
          rotate_left
          · intro hJ5_11_17
            refine join_ (σ := Nat) 3 #[true, true, true, true, true, true, true, true, true, true, true, true, true, true, true, true, true, false, false, true, false] (fun zz => [(57, .int .i64 (Ar.var L f)), (63, .int .i64 (Ar.var L g)), (13, .pointer (some ⟨zz, 0, none⟩))]) (fun zz w' => Below wk.heap.size wk w' ∧ w'.heap[zz]? = some (.cells #[.int .i64 0] 3 (0, 0)) ∧ wk.heap.size ≤ zz) ?_ ?_
            rotate_left
            · intro hJ5_11_19
              refine join_ (σ := Unit) 4 #[true, true, true, true, true, true, true, true, true, true, true, true, true, true, true, true, true, false, false, false, false] (fun zz => [(57, .int .i64 (Ar.var L f)), (63, .int .i64 (Ar.var L g))]) (fun zz w' => Below wk.heap.size wk w') ?_ ?_
              rotate_left
              · intro hJ5_11
                refine join_ (σ := Nat) 4 #[true, true, true, true, true, true, true, true, true, true, true, false, true, true, true, true, true, false, false, true, false] (fun zz => [(57, .int .i64 (Ar.var L f)), (13, .pointer (some ⟨zz, 0, none⟩))]) (fun zz w' => Below wk.heap.size wk w' ∧ w'.heap[zz]? = some (.cells #[.int .i64 0] 3 (0, 0)) ∧ wk.heap.size ≤ zz) ?_ ?_
                rotate_left
                · intro hJ5_19
                  refine join_ (σ := Unit) 5 #[true, true, true, true, true, true, true, true, true, true, true, false, true, true, true, true, true, false, false, false, false] (fun zz => [(57, .int .i64 (Ar.var L f))]) (fun zz w' => Below wk.heap.size wk w') ?_ ?_
                  rotate_left
                  · intro hJ5
                    refine join_ (σ := Nat) 5 #[true, true, true, true, true, false, true, true, true, true, true, false, true, true, true, true, true, false, false, true, false] (fun zz => [(13, .pointer (some ⟨zz, 0, none⟩))]) (fun zz w' => Below wk.heap.size wk w' ∧ w'.heap[zz]? = some (.cells #[.int .i64 0] 3 (0, 0)) ∧ wk.heap.size ≤ zz) ?_ ?_
                    rotate_left
                    · intro hJ19
                      refine two_ (i := 5) (j := 19) (Ni := some 57) (Nj := some 13) #[true, true, true, true, true, true, true, true, true, true, true, false, true, true, true, true, true, false, false, false, false] #[true, true, true, true, true, false, true, true, true, true, true, false, true, true, true, true, true, false, false, true, false] rfl rfl rfl rfl (by kernel_rfl) (by decide) (by decide) (fun K hK => ?_) (fun K hK => ?_)
                      · skip
                        refine goes_ Try.func58 (by kernel_rfl) rfl #[.pointer (some ⟨b, 0, none⟩), .int .i64 f] (by rfl) rfl rfl (by simp only [List.map_toArray, List.map_cons, List.map_nil]; rfl) ?_
                        with_reducible refine (GV.out f _ (seq (seq HB0.out CUR1.out) (by first | exact cur | exact (Below.refl _ _).drew))).mono ?_
                        rintro e w3 ⟨rfl, hb⟩
                        refine ⟨_, rfl, ?_⟩
                        have cur3 := seq ((Below.refl wk.heap.size wk).drew) hb
                        refine hK.out _ _ ⟨cell_below (cur3) x4, cell_below (cur3) x5, cell_below (cur3) x6, cell_below (cur3) x7, cell_below (cur3) m0⟩ (fun hHeld => ?_)
                        clear hK K
                        refine norm_ (a' := ?_) ?_ ?_
                        rotate_left
                        · show Act.put _ (some 57) _ = _
                          simp only [Act.put, List.setIfInBounds_toArray, List.set_cons_zero, List.set_cons_succ, i64_w, i32_w]
                          rfl
                        exact norm_ (by first | (simp only [putAll, Act.put, List.setIfInBounds_toArray, List.set_cons_zero, List.set_cons_succ]; done) | (simp only [putAll, Act.put, List.setIfInBounds_toArray, List.set_cons_zero, List.set_cons_succ]; rfl)) (hJ5 () _ cur3)
                      · skip
                        refine value_ (w1 := ?_) (v := ?_) (by rfl) rfl ?_ ?_
                        rotate_left 2
                        · go_simp
                          constructor
                          · rfl
                          · rfl
                        have cur3 := Below.push ((Below.refl wk.heap.size wk).drew) (Nat.le_refl _) (.cells #[.int .i64 0] 3)
                        refine hK.out _ _ ⟨cell_below (cur3) x4, cell_below (cur3) x5, cell_below (cur3) x6, cell_below (cur3) x7, cell_below (cur3) m0⟩ (fun hHeld => ?_)
                        clear hK K
                        refine norm_ (a' := ?_) ?_ ?_
                        rotate_left
                        · show Act.put _ (some 13) _ = _
                          simp only [Act.put, List.setIfInBounds_toArray, List.set_cons_zero, List.set_cons_succ, i64_w, i32_w]
                          rfl
                        exact norm_ (by first | (simp only [putAll, Act.put, List.setIfInBounds_toArray, List.set_cons_zero, List.set_cons_succ]; done) | (simp only [putAll, Act.put, List.setIfInBounds_toArray, List.set_cons_zero, List.set_cons_succ]; rfl)) (hJ19 (wk.drew.heap.size) _ ⟨cur3, blk_new _ _, ((Below.refl wk.heap.size wk).drew).size⟩)
                    · skip
                      rintro ga19 w1 ⟨cur, p19, q19⟩
                      have hHeld : w1.cell? ⟨w.heap.size, 0, none⟩ = some (.pointer (some ⟨mg, 0, none⟩)) ∧ w1.cell? ⟨w.heap.size + 1, 0, none⟩ = some (.int .i64 f) ∧ w1.cell? ⟨w.heap.size + 1 + 1, 0, none⟩ = some (.int .i64 g) ∧ w1.cell? ⟨w.heap.size + 1 + 1 + 1, 0, none⟩ = some (.int .i64 h) ∧ w1.cell? ⟨mg, 0, none⟩ = some (.pointer (some ⟨b, 0, none⟩)) := ⟨cell_below (cur) x4, cell_below (cur) x5, cell_below (cur) x6, cell_below (cur) x7, cell_below (cur) m0⟩
                      refine norm_ (a' := ?_) ?_ ?_
                      rotate_left
                      · simp only [putAll, Act.put, List.setIfInBounds_toArray, List.set_cons_zero, List.set_cons_succ]
                        rfl
                      refine one_ (i := 5) (N := some 57) #[true, true, true, true, true, true, true, true, true, true, true, false, true, true, true, true, true, false, false, true, false] rfl rfl (by kernel_rfl) (by decide) (fun K hK => ?_)
                      refine goes_ Try.func58 (by kernel_rfl) rfl #[.pointer (some ⟨b, 0, none⟩), .int .i64 f] (by rfl) rfl rfl (by simp only [List.map_toArray, List.map_cons, List.map_nil]; rfl) ?_
                      with_reducible refine (GV.out f _ (seq (seq HB0.out CUR1.out) (by first | exact cur | exact (Below.refl _ _).drew))).mono ?_
                      rintro e w3 ⟨rfl, hb⟩
                      refine ⟨_, rfl, ?_⟩
                      have cur3 := seq (cur) hb
                      have p3_19 := blk_below p19 hb
                      refine hK.out _ _ ⟨cell_below (cur3) x4, cell_below (cur3) x5, cell_below (cur3) x6, cell_below (cur3) x7, cell_below (cur3) m0⟩ (fun hHeld => ?_)
                      clear hK K
                      refine norm_ (a' := ?_) ?_ ?_
                      rotate_left
                      · show Act.put _ (some 57) _ = _
                        simp only [Act.put, List.setIfInBounds_toArray, List.set_cons_zero, List.set_cons_succ, i64_w, i32_w]
                        rfl
                      exact norm_ (by first | (simp only [putAll, Act.put, List.setIfInBounds_toArray, List.set_cons_zero, List.set_cons_succ]; done) | (simp only [putAll, Act.put, List.setIfInBounds_toArray, List.set_cons_zero, List.set_cons_succ]; rfl)) (hJ5_19 ga19 _ ⟨cur3, p3_19, q19⟩)
                  · skip
                    rintro ⟨⟩ w1 cur
                    have hHeld : w1.cell? ⟨w.heap.size, 0, none⟩ = some (.pointer (some ⟨mg, 0, none⟩)) ∧ w1.cell? ⟨w.heap.size + 1, 0, none⟩ = some (.int .i64 f) ∧ w1.cell? ⟨w.heap.size + 1 + 1, 0, none⟩ = some (.int .i64 g) ∧ w1.cell? ⟨w.heap.size + 1 + 1 + 1, 0, none⟩ = some (.int .i64 h) ∧ w1.cell? ⟨mg, 0, none⟩ = some (.pointer (some ⟨b, 0, none⟩)) := ⟨cell_below (cur) x4, cell_below (cur) x5, cell_below (cur) x6, cell_below (cur) x7, cell_below (cur) m0⟩
                    refine norm_ (a' := ?_) ?_ ?_
                    rotate_left
                    · simp only [putAll, Act.put, List.setIfInBounds_toArray, List.set_cons_zero, List.set_cons_succ]
                      rfl
                    refine two_ (i := 11) (j := 19) (Ni := some 63) (Nj := some 13) #[true, true, true, true, true, true, true, true, true, true, true, true, true, true, true, true, true, false, false, false, false] #[true, true, true, true, true, true, true, true, true, true, true, false, true, true, true, true, true, false, false, true, false] rfl rfl rfl rfl (by kernel_rfl) (by decide) (by decide) (fun K hK => ?_) (fun K hK => ?_)
                    · skip
                      refine goes_ Try.func58 (by kernel_rfl) rfl #[.pointer (some ⟨b, 0, none⟩), .int .i64 g] (by rfl) rfl rfl (by simp only [List.map_toArray, List.map_cons, List.map_nil]; rfl) ?_
                      with_reducible refine (GV.out g _ (seq (seq HB0.out CUR1.out) (by first | exact cur | exact (Below.refl _ _).drew))).mono ?_
                      rintro e w3 ⟨rfl, hb⟩
                      refine ⟨_, rfl, ?_⟩
                      have cur3 := seq (cur) hb
                      refine hK.out _ _ ⟨cell_below (cur3) x4, cell_below (cur3) x5, cell_below (cur3) x6, cell_below (cur3) x7, cell_below (cur3) m0⟩ (fun hHeld => ?_)
                      clear hK K
                      refine norm_ (a' := ?_) ?_ ?_
                      rotate_left
                      · show Act.put _ (some 63) _ = _
                        simp only [Act.put, List.setIfInBounds_toArray, List.set_cons_zero, List.set_cons_succ, i64_w, i32_w]
                        rfl
                      exact norm_ (by first | (simp only [putAll, Act.put, List.setIfInBounds_toArray, List.set_cons_zero, List.set_cons_succ]; done) | (simp only [putAll, Act.put, List.setIfInBounds_toArray, List.set_cons_zero, List.set_cons_succ]; rfl)) (hJ5_11 () _ cur3)
                    · skip
                      refine value_ (w1 := ?_) (v := ?_) (by rfl) rfl ?_ ?_
                      rotate_left 2
                      · go_simp
                        constructor
                        · rfl
                        · rfl
                      have cur3 := Below.push (cur) (Nat.le_refl _) (.cells #[.int .i64 0] 3)
                      refine hK.out _ _ ⟨cell_below (cur3) x4, cell_below (cur3) x5, cell_below (cur3) x6, cell_below (cur3) x7, cell_below (cur3) m0⟩ (fun hHeld => ?_)
                      clear hK K
                      refine norm_ (a' := ?_) ?_ ?_
                      rotate_left
                      · show Act.put _ (some 13) _ = _
                        simp only [Act.put, List.setIfInBounds_toArray, List.set_cons_zero, List.set_cons_succ, i64_w, i32_w]
                        rfl
                      exact norm_ (by first | (simp only [putAll, Act.put, List.setIfInBounds_toArray, List.set_cons_zero, List.set_cons_succ]; done) | (simp only [putAll, Act.put, List.setIfInBounds_toArray, List.set_cons_zero, List.set_cons_succ]; rfl)) (hJ5_19 (w1.heap.size) _ ⟨cur3, blk_new _ _, (cur).size⟩)
                · skip
                  rintro ga19 w1 ⟨cur, p19, q19⟩
                  have hHeld : w1.cell? ⟨w.heap.size, 0, none⟩ = some (.pointer (some ⟨mg, 0, none⟩)) ∧ w1.cell? ⟨w.heap.size + 1, 0, none⟩ = some (.int .i64 f) ∧ w1.cell? ⟨w.heap.size + 1 + 1, 0, none⟩ = some (.int .i64 g) ∧ w1.cell? ⟨w.heap.size + 1 + 1 + 1, 0, none⟩ = some (.int .i64 h) ∧ w1.cell? ⟨mg, 0, none⟩ = some (.pointer (some ⟨b, 0, none⟩)) := ⟨cell_below (cur) x4, cell_below (cur) x5, cell_below (cur) x6, cell_below (cur) x7, cell_below (cur) m0⟩
                  refine norm_ (a' := ?_) ?_ ?_
                  rotate_left
                  · simp only [putAll, Act.put, List.setIfInBounds_toArray, List.set_cons_zero, List.set_cons_succ]
                    rfl
                  refine one_ (i := 11) (N := some 63) #[true, true, true, true, true, true, true, true, true, true, true, true, true, true, true, true, true, false, false, true, false] rfl rfl (by kernel_rfl) (by decide) (fun K hK => ?_)
                  refine goes_ Try.func58 (by kernel_rfl) rfl #[.pointer (some ⟨b, 0, none⟩), .int .i64 g] (by rfl) rfl rfl (by simp only [List.map_toArray, List.map_cons, List.map_nil]; rfl) ?_
                  with_reducible refine (GV.out g _ (seq (seq HB0.out CUR1.out) (by first | exact cur | exact (Below.refl _ _).drew))).mono ?_
                  rintro e w3 ⟨rfl, hb⟩
                  refine ⟨_, rfl, ?_⟩
                  have cur3 := seq (cur) hb
                  have p3_19 := blk_below p19 hb
                  refine hK.out _ _ ⟨cell_below (cur3) x4, cell_below (cur3) x5, cell_below (cur3) x6, cell_below (cur3) x7, cell_below (cur3) m0⟩ (fun hHeld => ?_)
                  clear hK K
                  refine norm_ (a' := ?_) ?_ ?_
                  rotate_left
                  · show Act.put _ (some 63) _ = _
                    simp only [Act.put, List.setIfInBounds_toArray, List.set_cons_zero, List.set_cons_succ, i64_w, i32_w]
                    rfl
                  exact norm_ (by first | (simp only [putAll, Act.put, List.setIfInBounds_toArray, List.set_cons_zero, List.set_cons_succ]; done) | (simp only [putAll, Act.put, List.setIfInBounds_toArray, List.set_cons_zero, List.set_cons_succ]; rfl)) (hJ5_11_19 ga19 _ ⟨cur3, p3_19, q19⟩)
              · skip
                rintro ⟨⟩ w1 cur
                have hHeld : w1.cell? ⟨w.heap.size, 0, none⟩ = some (.pointer (some ⟨mg, 0, none⟩)) ∧ w1.cell? ⟨w.heap.size + 1, 0, none⟩ = some (.int .i64 f) ∧ w1.cell? ⟨w.heap.size + 1 + 1, 0, none⟩ = some (.int .i64 g) ∧ w1.cell? ⟨w.heap.size + 1 + 1 + 1, 0, none⟩ = some (.int .i64 h) ∧ w1.cell? ⟨mg, 0, none⟩ = some (.pointer (some ⟨b, 0, none⟩)) := ⟨cell_below (cur) x4, cell_below (cur) x5, cell_below (cur) x6, cell_below (cur) x7, cell_below (cur) m0⟩
                refine norm_ (a' := ?_) ?_ ?_
                rotate_left
                · simp only [putAll, Act.put, List.setIfInBounds_toArray, List.set_cons_zero, List.set_cons_succ]
                  rfl
                refine two_ (i := 17) (j := 19) (Ni := some 69) (Nj := some 13) #[true, true, true, true, true, true, true, true, true, true, true, true, true, true, true, true, true, true, false, false, false] #[true, true, true, true, true, true, true, true, true, true, true, true, true, true, true, true, true, false, false, true, false] rfl rfl rfl rfl (by kernel_rfl) (by decide) (by decide) (fun K hK => ?_) (fun K hK => ?_)
                · skip
                  refine goes_ Try.func58 (by kernel_rfl) rfl #[.pointer (some ⟨b, 0, none⟩), .int .i64 h] (by rfl) rfl rfl (by simp only [List.map_toArray, List.map_cons, List.map_nil]; rfl) ?_
                  with_reducible refine (GV.out h _ (seq (seq HB0.out CUR1.out) (by first | exact cur | exact (Below.refl _ _).drew))).mono ?_
                  rintro e w3 ⟨rfl, hb⟩
                  refine ⟨_, rfl, ?_⟩
                  have cur3 := seq (cur) hb
                  refine hK.out _ _ ⟨cell_below (cur3) x4, cell_below (cur3) x5, cell_below (cur3) x6, cell_below (cur3) x7, cell_below (cur3) m0⟩ (fun hHeld => ?_)
                  clear hK K
                  refine norm_ (a' := ?_) ?_ ?_
                  rotate_left
                  · show Act.put _ (some 69) _ = _
                    simp only [Act.put, List.setIfInBounds_toArray, List.set_cons_zero, List.set_cons_succ, i64_w, i32_w]
                    rfl
                  refine pure_ (i := 18) (N := some 70) (v := ?_) (a' := ?_) #[true, true, true, true, true, true, true, true, true, true, true, true, true, true, true, true, true, true, true, false, false] rfl rfl (by kernel_rfl) (fun _ _ _ h => h) (Or.inl ⟨by rfl, ?_⟩) ?_ ?_
                  rotate_left
                  · intro w'
                    go_simp
                    with_reducible rfl
                  rotate_left
                  · simp only [Act.put, List.setIfInBounds_toArray, List.set_cons_zero, List.set_cons_succ, i64_w, i32_w]
                    rfl
                  exact norm_ (by first | (simp only [putAll, Act.put, List.setIfInBounds_toArray, List.set_cons_zero, List.set_cons_succ]; done) | (simp only [putAll, Act.put, List.setIfInBounds_toArray, List.set_cons_zero, List.set_cons_succ]; rfl)) (hJ5_11_17 () _ cur3)
                · skip
                  refine value_ (w1 := ?_) (v := ?_) (by rfl) rfl ?_ ?_
                  rotate_left 2
                  · go_simp
                    constructor
                    · rfl
                    · rfl
                  have cur3 := Below.push (cur) (Nat.le_refl _) (.cells #[.int .i64 0] 3)
                  refine hK.out _ _ ⟨cell_below (cur3) x4, cell_below (cur3) x5, cell_below (cur3) x6, cell_below (cur3) x7, cell_below (cur3) m0⟩ (fun hHeld => ?_)
                  clear hK K
                  refine norm_ (a' := ?_) ?_ ?_
                  rotate_left
                  · show Act.put _ (some 13) _ = _
                    simp only [Act.put, List.setIfInBounds_toArray, List.set_cons_zero, List.set_cons_succ, i64_w, i32_w]
                    rfl
                  exact norm_ (by first | (simp only [putAll, Act.put, List.setIfInBounds_toArray, List.set_cons_zero, List.set_cons_succ]; done) | (simp only [putAll, Act.put, List.setIfInBounds_toArray, List.set_cons_zero, List.set_cons_succ]; rfl)) (hJ5_11_19 (w1.heap.size) _ ⟨cur3, blk_new _ _, (cur).size⟩)
            · skip
              rintro ga19 w1 ⟨cur, p19, q19⟩
              have hHeld : w1.cell? ⟨w.heap.size, 0, none⟩ = some (.pointer (some ⟨mg, 0, none⟩)) ∧ w1.cell? ⟨w.heap.size + 1, 0, none⟩ = some (.int .i64 f) ∧ w1.cell? ⟨w.heap.size + 1 + 1, 0, none⟩ = some (.int .i64 g) ∧ w1.cell? ⟨w.heap.size + 1 + 1 + 1, 0, none⟩ = some (.int .i64 h) ∧ w1.cell? ⟨mg, 0, none⟩ = some (.pointer (some ⟨b, 0, none⟩)) := ⟨cell_below (cur) x4, cell_below (cur) x5, cell_below (cur) x6, cell_below (cur) x7, cell_below (cur) m0⟩
              refine norm_ (a' := ?_) ?_ ?_
              rotate_left
              · simp only [putAll, Act.put, List.setIfInBounds_toArray, List.set_cons_zero, List.set_cons_succ]
                rfl
              refine one_ (i := 17) (N := some 69) #[true, true, true, true, true, true, true, true, true, true, true, true, true, true, true, true, true, true, false, true, false] rfl rfl (by kernel_rfl) (by decide) (fun K hK => ?_)
              refine goes_ Try.func58 (by kernel_rfl) rfl #[.pointer (some ⟨b, 0, none⟩), .int .i64 h] (by rfl) rfl rfl (by simp only [List.map_toArray, List.map_cons, List.map_nil]; rfl) ?_
              with_reducible refine (GV.out h _ (seq (seq HB0.out CUR1.out) (by first | exact cur | exact (Below.refl _ _).drew))).mono ?_
              rintro e w3 ⟨rfl, hb⟩
              refine ⟨_, rfl, ?_⟩
              have cur3 := seq (cur) hb
              have p3_19 := blk_below p19 hb
              refine hK.out _ _ ⟨cell_below (cur3) x4, cell_below (cur3) x5, cell_below (cur3) x6, cell_below (cur3) x7, cell_below (cur3) m0⟩ (fun hHeld => ?_)
              clear hK K
              refine norm_ (a' := ?_) ?_ ?_
              rotate_left
              · show Act.put _ (some 69) _ = _
                simp only [Act.put, List.setIfInBounds_toArray, List.set_cons_zero, List.set_cons_succ, i64_w, i32_w]
                rfl
              refine pure_ (i := 18) (N := some 70) (v := ?_) (a' := ?_) #[true, true, true, true, true, true, true, true, true, true, true, true, true, true, true, true, true, true, true, true, false] rfl rfl (by kernel_rfl) (fun _ _ _ h => h) (Or.inl ⟨by rfl, ?_⟩) ?_ ?_
              rotate_left
              · intro w'
                go_simp
                with_reducible rfl
              rotate_left
              · simp only [Act.put, List.setIfInBounds_toArray, List.set_cons_zero, List.set_cons_succ, i64_w, i32_w]
                rfl
              exact norm_ (by first | (simp only [putAll, Act.put, List.setIfInBounds_toArray, List.set_cons_zero, List.set_cons_succ]; done) | (simp only [putAll, Act.put, List.setIfInBounds_toArray, List.set_cons_zero, List.set_cons_succ]; rfl)) (hJ5_11_17_19 ga19 _ ⟨cur3, p3_19, q19⟩)
          · skip
            rintro ⟨⟩ w1 cur
            have hHeld : w1.cell? ⟨w.heap.size, 0, none⟩ = some (.pointer (some ⟨mg, 0, none⟩)) ∧ w1.cell? ⟨w.heap.size + 1, 0, none⟩ = some (.int .i64 f) ∧ w1.cell? ⟨w.heap.size + 1 + 1, 0, none⟩ = some (.int .i64 g) ∧ w1.cell? ⟨w.heap.size + 1 + 1 + 1, 0, none⟩ = some (.int .i64 h) ∧ w1.cell? ⟨mg, 0, none⟩ = some (.pointer (some ⟨b, 0, none⟩)) := ⟨cell_below (cur) x4, cell_below (cur) x5, cell_below (cur) x6, cell_below (cur) x7, cell_below (cur) m0⟩
            refine norm_ (a' := ?_) ?_ ?_
            rotate_left
            · simp only [putAll, Act.put, List.setIfInBounds_toArray, List.set_cons_zero, List.set_cons_succ]
              rfl
            refine one_ (i := 19) (N := some 13) #[true, true, true, true, true, true, true, true, true, true, true, true, true, true, true, true, true, true, true, true, false] rfl rfl (by kernel_rfl) (by decide) (fun K hK => ?_)
            refine value_ (w1 := ?_) (v := ?_) (by rfl) rfl ?_ ?_
            rotate_left 2
            · go_simp
              constructor
              · rfl
              · rfl
            have cur3 := Below.push (cur) (Nat.le_refl _) (.cells #[.int .i64 0] 3)
            refine hK.out _ _ ⟨cell_below (cur3) x4, cell_below (cur3) x5, cell_below (cur3) x6, cell_below (cur3) x7, cell_below (cur3) m0⟩ (fun hHeld => ?_)
            clear hK K
            refine norm_ (a' := ?_) ?_ ?_
            rotate_left
            · show Act.put _ (some 13) _ = _
              simp only [Act.put, List.setIfInBounds_toArray, List.set_cons_zero, List.set_cons_succ, i64_w, i32_w]
              rfl
            exact norm_ (by first | (simp only [putAll, Act.put, List.setIfInBounds_toArray, List.set_cons_zero, List.set_cons_succ]; done) | (simp only [putAll, Act.put, List.setIfInBounds_toArray, List.set_cons_zero, List.set_cons_succ]; rfl)) (hJ5_11_17_19 (w1.heap.size) _ ⟨cur3, blk_new _ _, (cur).size⟩)
        rintro ga19 w1 ⟨cur, p19, q19⟩
        have hHeld : w1.cell? ⟨w.heap.size, 0, none⟩ = some (.pointer (some ⟨mg, 0, none⟩)) ∧ w1.cell? ⟨w.heap.size + 1, 0, none⟩ = some (.int .i64 f) ∧ w1.cell? ⟨w.heap.size + 1 + 1, 0, none⟩ = some (.int .i64 g) ∧ w1.cell? ⟨w.heap.size + 1 + 1 + 1, 0, none⟩ = some (.int .i64 h) ∧ w1.cell? ⟨mg, 0, none⟩ = some (.pointer (some ⟨b, 0, none⟩)) := ⟨cell_below (cur) x4, cell_below (cur) x5, cell_below (cur) x6, cell_below (cur) x7, cell_below (cur) m0⟩
        refine norm_ (a' := ?_) ?_ ?_
        rotate_left
        · simp only [putAll, Act.put, List.setIfInBounds_toArray, List.set_cons_zero, List.set_cons_succ]
          rfl
        refine last_ (i := 20) (N := none) #[true, true, true, true, true, true, true, true, true, true, true, true, true, true, true, true, true, true, true, true, true] rfl rfl (by kernel_rfl) (by decide) (fun K hK => ?_)
        have u0 := (blk_cell p19 0).trans rfl
        have f0 := blk_frozen p19 0
        refine skip_ (w1 := ?_) (by rfl) rfl ?_ ?_
        rotate_left
        · go_simp
          rfl
        refine hK.out _ _ ?_
        clear hK K
        refine done_ (by kernel_rfl) ?_
        rw [← GVM.out]
        have HB2 : Hid (Below w.heap.size w (w1.setCell ⟨ga19, 0, none⟩ (.int .i64 vv))) := Lib.hid ((seq (seq HB0.out CUR1.out) cur).setCell (Nat.le_trans (seq HB0.out CUR1.out).size q19) _)
        have l3 := lt_of_heap (blk_below G3.out CUR1.out)
        have n0 : w.heap.size ≠ ga19 := by omega
        have n1 : w.heap.size + 1 ≠ ga19 := by omega
        have n2 : w.heap.size + 1 + 1 ≠ ga19 := by omega
        have n3 : w.heap.size + 1 + 1 + 1 ≠ ga19 := by omega
        have n4 : w.heap.size + 1 + 1 + 1 + 1 ≠ ga19 := by have := lt_of_heap (blk_below G4.out CUR1.out); omega
        have CP : Hid (Caps (w1.setCell ⟨ga19, 0, none⟩ (.int .i64 vv)) S mg f vv g h w.heap.size (w.heap.size + 1) ga19 (w.heap.size + 1 + 1) (w.heap.size + 1 + 1 + 1)) := by
          have hS : ∀ k, w.heap.size ≤ k → ¬ S k := fun k h c => by have := HLT.out k c; omega
          exact Lib.hid ⟨blk_far (blk_below (blk_below G0.out CUR1.out) cur) n0 _, blk_far (blk_below (blk_below G1.out CUR1.out) cur) n1 _, blk_set p19 0 _, blk_far (blk_below (blk_below G2.out CUR1.out) cur) n2 _, blk_far (blk_below (blk_below G3.out CUR1.out) cur) n3 _,
            hS _ (Nat.le_refl _), hS _ (by omega), hS _ (by omega), hS _ (by omega), hS _ (by omega)⟩
        have G42 := Lib.hid (blk_far (p := ⟨ga19, 0, none⟩) (blk_below (blk_below G4.out CUR1.out) cur) n4 (.int .i64 vv))
        clear hHeld u0 f0 cur p19 q19 x4 x5 x6 x7 m0 n0 n1 n2 n3 n4 l3 CUR1 HB0 G0 G1 G2 G3 G4 GV GVM
        generalize w1.setCell ⟨ga19, 0, none⟩ (.int .i64 vv) = w2 at *
        have x4 := cell_at CP.out.h0 0 rfl
        have x13 := cell_at CP.out.h2 0 rfl
        go_wp2_with fail
        refine (HBOTH.out w2 _ _ _ _ _ (HM.out.below HB2.out) CP.out).mono ?_
        rintro e w5 ⟨ev, rfl, M5, T5, E5⟩
        clear x4 x13
        by_cases he : er = 0
        · subst he
          obtain rfl := E5.zero
          obtain ⟨b5, mb5, bp5, ES5, MA5⟩ := M5
          have m1 := MA5.c1
          have HI : Hid (Ar.IteIs L' f g h x') := by
            rcases HSP.out.2.2 with ⟨_, h, _⟩ | ⟨h, _⟩
            · exact Lib.hid h
            · exact absurd h (by decide)
          have hS : ∀ k, w.heap.size ≤ k → ¬ S k := fun k h c => by have := HLT.out k c; omega
          have x4 := cell_at (T5.heap CP.out.h0 CP.out.n0) 0 rfl
          have B4 := T5.heap G42.out (hS _ (by omega))
          have k0 := cell_at B4 0 rfl
          have k1 := cell_at B4 1 rfl
          have k2 := cell_at B4 2 rfl
          have GM5 := Lib.hid MA5
          have GT5 := Lib.hid T5
          clear MA5 T5 B4 hS E5
          go_wp2_with fail
          refine start_ (n := 7) (S := fun w' => w'.cell? ⟨w.heap.size, 0, none⟩ = some (.pointer (some ⟨mg, 0, none⟩)) ∧ w'.cell? ⟨mg, 1, none⟩ = some (.pointer (some ⟨mb5, 0, none⟩)) ∧ w'.cell? ⟨w.heap.size + 1 + 1 + 1 + 1, 0, none⟩ = some (.int .i64 f) ∧ w'.cell? ⟨w.heap.size + 1 + 1 + 1 + 1, 1, none⟩ = some (.int .i64 g) ∧ w'.cell? ⟨w.heap.size + 1 + 1 + 1 + 1, 2, none⟩ = some (.int .i64 h)) (ds := [6]) #[false, false, false, false, false, false, false] (by kernel_rfl) rfl rfl ⟨cell_below ((Below.refl w5.heap.size w5).drew) x4, cell_below ((Below.refl w5.heap.size w5).drew) m1, cell_below ((Below.refl w5.heap.size w5).drew) k0, cell_below ((Below.refl w5.heap.size w5).drew) k1, cell_below ((Below.refl w5.heap.size w5).drew) k2⟩ (fun hHeld => ?_)
          refine pure_ (i := 5) (N := some 85) (v := ?_) (a' := ?_) #[false, false, false, false, false, true, false] rfl rfl (by kernel_rfl) (fun _ _ _ h => h) (Or.inl ⟨by rfl, ?_⟩) ?_ ?_
          rotate_left
          · intro w'
            go_simp
            with_reducible rfl
          rotate_left
          · simp only [Act.put, List.setIfInBounds_toArray, List.set_cons_zero, List.set_cons_succ, i64_w, i32_w]
            rfl
          refine take_ (i := 0) (N := some 80) (v := ?_) (a' := ?_) #[true, false, false, false, false, true, false] rfl rfl (by kernel_rfl) (fun _ _ _ h => h) (Or.inl ⟨by rfl, ?_⟩) hHeld ?_ ?_
          rotate_left
          · rintro w' ⟨s0, s1, s2, s3, s4⟩
            go_simp
            with_reducible rfl
          rotate_left
          · simp only [Act.put, List.setIfInBounds_toArray, List.set_cons_zero, List.set_cons_succ, i64_w, i32_w]
            rfl
          refine pure_ (i := 1) (N := some 81) (v := ?_) (a' := ?_) #[true, true, false, false, false, true, false] rfl rfl (by kernel_rfl) (fun _ _ _ h => h) (Or.inl ⟨by rfl, ?_⟩) ?_ ?_
          rotate_left
          · intro w'
            go_simp
            with_reducible rfl
          rotate_left
          · simp only [Act.put, List.setIfInBounds_toArray, List.set_cons_zero, List.set_cons_succ, i64_w, i32_w]
            rfl
          refine pure_ (i := 2) (N := some 82) (v := ?_) (a' := ?_) #[true, true, true, false, false, true, false] rfl rfl (by kernel_rfl) (fun _ _ _ h => h) (Or.inl ⟨by rfl, ?_⟩) ?_ ?_
          rotate_left
          · intro w'
            go_simp
            with_reducible rfl
          rotate_left
          · simp only [Act.put, List.setIfInBounds_toArray, List.set_cons_zero, List.set_cons_succ, i64_w, i32_w]
            rfl
          refine take_ (i := 3) (N := some 83) (v := ?_) (a' := ?_) #[true, true, true, true, false, true, false] rfl rfl (by kernel_rfl) (fun _ _ _ h => h) (Or.inl ⟨by rfl, ?_⟩) hHeld ?_ ?_
          rotate_left
          · rintro w' ⟨s0, s1, s2, s3, s4⟩
            go_simp
            with_reducible rfl
          rotate_left
          · simp only [Act.put, List.setIfInBounds_toArray, List.set_cons_zero, List.set_cons_succ, i64_w, i32_w]
            rfl
          refine take_ (i := 4) (N := some 84) (v := ?_) (a' := ?_) #[true, true, true, true, true, true, false] rfl rfl (by kernel_rfl) (fun _ _ _ h => h) (Or.inl ⟨by rfl, ?_⟩) hHeld ?_ ?_
          rotate_left
          · rintro w' ⟨s0, s1, s2, s3, s4⟩
            go_simp
            with_reducible rfl
          rotate_left
          · simp only [Act.put, List.setIfInBounds_toArray, List.set_cons_zero, List.set_cons_succ, i64_w, i32_w]
            rfl
          refine last_ (i := 6) (N := some 86) #[true, true, true, true, true, true, true] rfl rfl (by kernel_rfl) (by decide) (fun K hK => ?_)
          refine goes_ Try.func62 (by kernel_rfl) rfl #[.pointer (some ⟨mb5, 0, none⟩), .agg #[.int .i64 f, .int .i64 g, .int .i64 h], .int .i64 x'] (by rfl) rfl rfl (by simp only [List.map_toArray, List.map_cons, List.map_nil]; rfl) ?_
          with_reducible refine (put_any (GM5.out.me.below ((Below.refl w5.heap.size w5).drew)) f g h x').mono ?_
          rintro e w6 ⟨rfl, M6, T6⟩
          refine ⟨_, rfl, ?_⟩
          refine hK.out _ _ ?_
          clear hK K
          refine norm_ (a' := ?_) ?_ ?_
          rotate_left
          · show Act.put _ (some 86) _ = _
            simp only [Act.put, List.setIfInBounds_toArray, List.set_cons_zero, List.set_cons_succ, i64_w, i32_w]
            rfl
          refine done_ (by kernel_rfl) ?_
          have M6' := GM5.out.put M6 ⟨T6.os, T6.tape, T6.output, T6.size, T6.block⟩ (GM5.out.mok.put (x := x') (by
            have hk : -2 ≤ h := by
              by_cases hn : Ar.isN L h
              · have := hn.1; omega
              · rcases HHB.out.leaf hn with c | c <;> omega
            unfold KeyOk
            rw [if_neg (show ¬ h = -9 by omega), if_neg (show ¬ h = -10 by omega)]
            exact HI.out))
          have T6' : Touch w5 w6 (fun k => k = bp5) := ⟨T6.os, T6.tape, T6.output, T6.size, T6.block⟩
          have s5 := GT5.out.size
          have s6 := T6'.size
          have HF : Hid (OpPost w mg lim S (L', x', 0) (.returned (.tuple #[.int .i64 x', .nilIface])) w6) := by
            refine Lib.hid (OpPost.lift HB2.out ⟨.nilIface, rfl, ⟨b5, mb5, bp5, _, M6'.mono (fun k hk => ?_) (fun k hk => ?_)⟩, GT5.out.step T6' (fun k hk hkb => ?_), .inl ⟨rfl, rfl⟩⟩)
            · rcases hk with hk | hk
              · exact .inl hk
              · exact .inr ⟨hk.1, by omega⟩
            · rcases hk with hk | hk
              · have := M6'.lt k (.inl hk); exact this
              · exact hk.2
            · have := GM5.out.sbp
              rw [hkb]
              rw [hkb] at hk
              rcases this with h | h
              · exact h
              · omega
          clear M6' T6' M6 T6 s5 s6 m1 x4 k0 k1 k2 hHeld
          go_wp2_with fail
          go_ret2
          exact HF.out
        · have HE := Lib.hid he
          have HF : Hid (OpPost w mg lim S (L', x', er) (.returned (.tuple #[.int .i64 x', ev])) w5) := Lib.hid (OpPost.lift HB2.out ⟨ev, rfl, M5, T5, E5⟩)
          clear M5 T5 he
          rcases E5 with ⟨h, _⟩ | ⟨_, rfl⟩ | ⟨_, fb, u, rfl, _⟩
          · exact absurd h HE.out
          all_goals
            go_wp2_with fail
            go_ret2
            exact HF.out
theorem ite_to (hlim : lim < 100000000000) : ∀ n, IteTo lim mg n
  | 0 => fun w L S f g h M hf hg hh hn hl => by
    have := Ar.vm_le L f g h
    have := Ar.var_le M.ok f
    omega
  | n + 1 => ite_step hlim (ite_to hlim n)
end
end Go.Proofs.Ytiagkbmhfgdffaa
