/- Walk of the document's Mk, where the node may be made. -/
import Derived.Test.YtknoigebkpapoaaDoorRm
import Derived.Deep.AppendLies
set_option linter.unusedVariables false
set_option linter.unusedSimpArgs false
namespace Go.Proofs.YtknoigebkpapoaaDoor
open Go.RowKit Go.Deep
variable {w : World} {lim : Int} {L : List Nd} {vl : Value}

theorem eq_rnd (w : World) (x0 x1 x2 y0 y1 y2 : Int) :
    (Op.equalIn 10000 56 (.agg #[.int .i64 x0, .int .i64 x1, .int .i64 x2]) (.agg #[.int .i64 y0, .int .i64 y1, .int .i64 y2])).run Tryd.prog w = .ok (ndEq x0 x1 x2 y0 y1 y2) w := by
  rw [run_equalIn_struct w 9999 56 _ _ (by kernel_rfl) (by kernel_rfl)]
  simp only [Program.fieldsOf, Tryd.underlying56, ndEq]
  go_simp
  by_cases h0 : x0 = y0 <;> by_cases h1 : x1 = y1 <;> by_cases h2 : x2 = y2 <;> simp [h0, h1, h2]
attribute [local go_sem high] eq_rnd

theorem idxOf_first {L : List Nd} {n : Nd} {k : Nat} (hk : k < L.length) (h : L[k] = n) (hf : ∀ i (h : i < L.length), i < k → L[i] ≠ n) : L.idxOf n = k := by
  have hm : n ∈ L := h ▸ List.getElem_mem hk
  have hi := List.idxOf_lt_length_of_mem hm
  have he := List.getElem_idxOf hi
  rcases Nat.lt_trichotomy (L.idxOf n) k with h1 | h1 | h1
  · exact absurd he (hf _ hi h1)
  · exact h1
  · have := List.not_of_lt_findIdx (p := (· == n)) (xs := L) (i := k) h1
    simp [h] at this
/-- What the row has become. -/
def Grew (w0 wr : World) (lim : Int) (L : List Nd) (n : Nd) : Prop := ∃ vl', Boxes w0 wr lim vl' ∧ Row wr vl' (L ++ [n]) ∧ ∀ k, vl'.ownBlock = some k → w0.heap.size + 2 ≤ k
theorem step_append_src {P : Program} {w : World} {ops : Array Oper} {o : Oper} {a : Act} {K : Act → World → Prop} {Q : Exit → Act → World → Prop} {E : Prop} (hgd : o.guard = none) (s x : Operand) (t : TypeId)
    (ho : o.op = .call { callee := .builtin .append, args := #[s, x], argTypes := #[t, t] })
    (base : Nat) (e : TypeId) (i : TypeInfo) (z : Value) (size bytes : Nat) (ht : P.underlying t = some (.slice e)) (hi : P.info? e = some i) (hz : i.zero = some z)
    (hsize : i.size = size) (hby : i.bytes = bytes) (hzs : z.cells.size = size) (hsz : 0 < size)
    (v : Value) (n : Nat) (xs : List Value) (hs : a.eval s = v) (hown : w.ownsRow base e size v n xs)
    (xv : Value) (m : Nat) (news : List Value) (hx : a.eval x = xv) (hsrc : Src w size xv m news) (h1 : ∀ u ∈ news, u.oneCell' = true)
    (h63 : n + m ≤ maxLen) (hbytes : (n + m) * bytes ≤ 140737488355328) (hbase : base ≤ w.heap.size)
    (h : ∀ v' w', w'.ownsRow base e size v' (n + m) (xs ++ news) → w.grownBy w' v.ownBlock → (v'.ownBlock = v.ownBlock ∨ v'.ownBlock = some w.heap.size) → K (a.put o.dst v') w') :
    if Region.wanted o (yielded ops a.tmps) = true then Oper.wp P o a w K Q else E := by
  have hw : Region.wanted o (yielded ops a.tmps) = true := by simp [Region.wanted, hgd]
  rw [if_pos hw]
  obtain ⟨v', w', hr, h2, h3, h4, h5⟩ := run_append_src (P := P) w base t o.type e i z size bytes ht hi hz hsize hby hzs hsz v n xs hown xv m news hsrc h1 h63 hbytes hbase
  unfold Oper.wp execOp
  simp only [ho, resolve, invoke, builtin, Sem.run_bind, Sem.run_pure, Result.andThen_ok, List.map_toArray, List.map_cons, List.map_nil, hs, hx, hr]
  exact h v' w' h2 h3 h5
theorem cell_push {w : World} {p : Addr} {v : Value} (h : w.cell? p = some v) (o : Obj) : (w.alloc o).cell? p = some v :=
  (World.cell?_of_block (w := w) (Below.heap_alloc w o p.block (World.block_lt_of_cell? w _ h))).trans h
theorem alloc2 (w : World) (o : Obj) (c : Array Value) {T : TypeId} : ((w.alloc o).alloc (.cells c T)).heap[w.heap.size + 1]? = some (.cells c T (0, 0)) := by
  have := heap_alloc_new (w.alloc o) (.cells c T)
  simpa using this
theorem Boxes.grown {w0 wr w' : World} {row : Option Nat} (h : Boxes w0 wr lim vl) (g : wr.grownBy w' row) (hr : ∀ k, row = some k → w0.heap.size + 2 ≤ k) : Boxes w0 w' lim vl :=
  ⟨(g.block _ (lt_of_heap h.1) (fun e => by have := hr _ e.symm; omega)).trans h.1, (g.block _ (lt_of_heap h.2.1) (fun e => by have := hr _ e.symm; omega)).trans h.2.1,
    h.2.2.grown g h.2.2.size (fun k e => by have := hr _ e; omega)⟩
/-- What is gathered on the way. -/
def Got (w wx : World) (lim : Int) (vl : Value) (q : Nat) (n : Nd) (vx : Value) (m : Nat) (xs : List Value) : Prop :=
  Boxes w wx lim vl ∧ wx.heap[q]? = some (.cells #[.int .i64 n.v, .int .i64 n.l, .int .i64 n.h] 56 (0, 0)) ∧ wx.ownsRow 0 56 3 vx m xs ∧ ∀ k, vx.ownBlock = some k → w.heap.size + 2 ≤ k ∧ k ≠ q
theorem Got.step {w W w' : World} {q : Nat} {v0 v1 v2 : Int} {v v' : Value} {m : Nat} {xs : List Value} (g : W.grownBy w' v.ownBlock) (B : Boxes w W lim vl) (hq : W.heap[q]? = some (.cells #[.int .i64 v0, .int .i64 v1, .int .i64 v2] 56 (0, 0))) (hlt : q < W.heap.size)
    (hr : ∀ k, v.ownBlock = some k → w.heap.size + 2 ≤ k ∧ k ≠ q) (ho : w'.ownsRow 0 56 3 v' m xs) (hb : v'.ownBlock = v.ownBlock ∨ v'.ownBlock = some W.heap.size) :
    Got w w' lim vl q ⟨v0, v1, v2⟩ v' m xs := by
  refine ⟨B.grown g (fun k h => (hr k h).1), (g.block _ hlt (fun e => (hr _ e.symm).2 rfl)).trans hq, ho, fun k hk => ?_⟩
  rcases hb with e | e
  · exact hr k (e ▸ hk)
  · rw [e] at hk
    cases hk
    have := lt_of_heap B.2.1
    exact ⟨by omega, by omega⟩
theorem Got.lies {w wx : World} {q m : Nat} {n : Nd} {vx : Value} {xs : List Value} (G : Got w wx lim vl q n vx (m + 1) xs) : ∃ g c, vx = .slice (some ⟨g, 0, none⟩) (m + 1) c := by
  rcases G.2.2.1.2 with ⟨_, h⟩ | ⟨g, cap, cur, h, _⟩
  · omega
  · exact ⟨g, cap, h⟩
theorem Grew.of {w w8 : World} {q : Nat} {n : Nd} {v8 : Value} (G : Got w w8 lim vl q n v8 (0 + L.length + 1) (([] ++ cellsOf L) ++ [.int .i64 n.v, .int .i64 n.l, .int .i64 n.h])) : Grew w (w8.setCell ⟨w.heap.size, 1, none⟩ v8) lim L n := by
  obtain ⟨B, hq, ho, hk⟩ := G
  have t : Touch w8 (w8.setCell ⟨w.heap.size, 1, none⟩ v8) (fun k => k = w.heap.size) := Touch.setCell (S := fun k => k = w.heap.size) (p := ⟨w.heap.size, 1, none⟩) (Touch.refl _ _) (.inl rfl) _
  have h1 := heap_setCell_same (j := 1) B.1 v8
  refine ⟨v8, ⟨by simpa using h1, t.heap B.2.1 (by omega), B.2.2.setCell (Nat.le_refl _) _⟩, ?_, fun k h => (hk k h).1⟩
  have := ownsRow_touch ho t (fun k h e => by have := (hk k h).1; omega)
  unfold Row
  rw [cellsOf_append, List.length_append, List.length_singleton]
  simpa using this
theorem own_none {w : World} {g : Nat} {T : TypeId} (h : w.heap[g]? = some (.cells #[] T (0, 0))) : w.ownsRow 0 T 3 (.slice (some ⟨g, 0, none⟩) 0 0) 0 [] := by
  refine ⟨by simp, .inr ⟨g, 0, #[], rfl, Nat.zero_le _, h, by simp, by simp, by simp, by simp⟩⟩
theorem Src.own {w : World} {T : TypeId} {v : Value} {n : Nat} {xs : List Value} {base : Nat} (h : w.ownsRow base T 3 v n xs) : Src w 3 v n xs := by
  have h' := h
  rcases h.2 with ⟨rfl, h0⟩ | ⟨g, cap, cur, rfl, _, hg, hc1, hc2, _⟩
  · refine .inl ⟨0, rfl, h0, ?_⟩
    have := h.1
    rw [h0] at this
    exact List.eq_nil_of_length_eq_zero (by omega)
  · exact .inr ⟨_, _, rfl, h.1, h'.cells (g := g) rfl⟩
theorem cellsOf_one (L : List Nd) : ∀ u ∈ cellsOf L, u.oneCell' = true := by
  intro u hu
  simp only [cellsOf, List.mem_flatMap] at hu
  obtain ⟨n, _, h⟩ := hu
  simp at h
  rcases h with rfl | rfl | rfl <;> rfl
theorem info_rnd : (Tryd.prog.info? 56).map (fun i => (i.zero, i.size, i.bytes)) = some (some (.agg #[.int .i64 0, .int .i64 0, .int .i64 0]), 3, 24) := by kernel_rfl
/-- What stands at each round's head. -/
def RI (w5 : World) (L : List Nd) (n : Nd) (k : Nat) (wr : World) : Prop := Below w5.heap.size w5 wr ∧ ∀ i (h : i < L.length), i < k → L[i] ≠ n

set_option maxRecDepth 100000 in
set_option maxHeartbeats 4000000 in
theorem ref_mk_good (h : Row w vl L) (v lo hi : Int) (hv0 : 0 ≤ v) (hv1 : v < 12) (ho : Ar.ordered L v lo hi) (hsm : L.length ≤ 1000000000000) :
    Calls Tryd.prog 25 #[.agg #[.int .i64 lim, vl], .int .i64 v, .int .i64 lo, .int .i64 hi] w (RMk w lim vl (Ar.mk lim L v lo hi).1 (Ar.mk lim L v lo hi).2.1 (Ar.mk lim L v lo hi).2.2) := by
  have hm : Ar.mk lim L v lo hi = if lo = hi then (L, lo, 0) else if (⟨v, lo, hi⟩ : Nd) ∈ L then (L, (L.idxOf (⟨v, lo, hi⟩ : Nd) : Nat), 0) else if lim ≤ L.length then (L, 0, 50) else (L ++ [⟨v, lo, hi⟩], L.length, 0) := by
    unfold Ar.mk; rw [if_neg (by omega), if_neg (fun h => h ho)]
  obtain ⟨L', x, en, hres⟩ : ∃ L' x en, Ar.mk lim L v lo hi = (L', x, en) := ⟨_, _, _, rfl⟩
  rw [hres] at hm ⊢
  clear hres
  show Calls _ _ _ _ (RMk w lim vl L' x en)
  obtain ⟨⟨ao, cap, rfl⟩, hn⟩ := h.shape
  have B0 := Boxes.start w lim (.slice ao L.length cap)
  have HB := Lib.hid B0
  have HR := Lib.hid h
  have HR0 := Lib.hid (h.below B0.2.2)
  have HM := Lib.hid hm
  clear h B0 hm
  obtain ⟨hl, hh, hlv, hhv⟩ := ho
  go_enter Tryd.func25, Tryd.ntmps25
  go_wp2_with fail
  refine (ref_has HR0.out lo true (decide_eq_true hl)).mono ?_
  rintro e w1 ⟨rfl, hb1⟩
  have B1 := HB.out.step hb1
  have c0 := B1.c0
  have c1 := B1.c1
  have HR1 := Lib.hid (HR0.out.below hb1)
  have HB1 := Lib.hid B1
  clear HB HR0 hb1 B1
  go_wp2_with fail
  refine (ref_has HR1.out hi true (decide_eq_true hh)).mono ?_
  rintro e w2 ⟨rfl, hb2⟩
  have B2 := HB1.out.step hb2
  clear c0 c1
  have c0 := B2.c0
  have c1 := B2.c1
  have HR2 := Lib.hid (HR1.out.below hb2)
  have HB2 := Lib.hid B2
  clear HB1 HR1 hb2 B2
  go_wp2_with fail
  refine (ref_var HR2.out lo _ rfl).mono ?_
  rintro e w3 ⟨rfl, hb3⟩
  have B3 := HB2.out.step hb3
  clear c0 c1
  have c0 := B3.c0
  have c1 := B3.c1
  have HR3 := Lib.hid (HR2.out.below hb3)
  have HB3 := Lib.hid B3
  clear HB2 HR2 hb3 B3
  go_wp2_with fail
  refine (ref_var HR3.out hi _ rfl).mono ?_
  rintro e w4 ⟨rfl, hb4⟩
  have B4 := HB3.out.step hb4
  clear c0 c1
  have c0 := B4.c0
  have c1 := B4.c1
  have d0 := B4.d0
  have d1 := B4.d1
  have f0 := B4.f0
  have f1 := B4.f1
  have HR4 := Lib.hid (HR3.out.below hb4)
  have hbx4 : w.heap.size + 1 < w4.heap.size := lt_of_heap B4.2.1
  have HB4 := Lib.hid B4
  clear HB3 HR3 hb4 B4
  by_cases hq : lo = hi
  · obtain ⟨rfl, rfl, rfl⟩ : L = L' ∧ lo = x ∧ 0 = en := by have := HM.out; rw [if_pos hq] at this; simpa [eq_comm] using this
    clear HM
    subst hq
    go_wp2_with fail
    refine bodyPost_ret (results_ctt rfl _ _ (w.heap.size + 1) 27 _ (0, 0) _ rfl HB4.out.out Tryd.underlying27 rfl info_ref) rfl ?_
    exact ⟨_, rfl, HR.out.below HB4.out.end_, HB4.out.end_, fun _ h => .inl h⟩
  · have hm := HM.out
    rw [if_neg hq] at hm
    have HM := Lib.hid hm
    clear hm
    have hq' : (lo == hi) = false := by rw [beq_eq_false_iff_ne]; exact hq
    have HB5 := Lib.hid (HB4.out.step (Below.push (Below.refl _ w4) (Nat.le_refl _) (.cells #[.int .i64 v, .int .i64 lo, .int .i64 hi] 56)))
    have HR5 := Lib.hid (HR4.out.below (Below.push (Below.refl _ w4) (Nat.le_refl _) (.cells #[.int .i64 v, .int .i64 lo, .int .i64 hi] 56)))
    have HN5 := Lib.hid (heap_alloc_new w4 (.cells #[.int .i64 v, .int .i64 lo, .int .i64 hi] 56))
    clear HR4 HB4 c0 c1 d0 d1 f0 f1
    go_wp2_with fail
    generalize hw5 : w4.alloc (.cells #[.int .i64 v, .int .i64 lo, .int .i64 hi] 56) = w5 at *
    go_loopg [12] L.length (fun gk q wr => ∃ k : Nat, q = .int .i64 k ∧ k + gk = L.length ∧ Hid (RI w5 L ⟨v, lo, hi⟩ k wr))
    case atStart => exact ⟨0, rfl, by omega, ⟨Below.refl _ _, fun i h h0 => absurd h0 (by omega)⟩⟩
    case round =>
      obtain ⟨k, rfl, hk, HI⟩ := hrel
      have B := HB5.out.step HI.out.1
      have c0 := B.c0
      have c1 := B.c1
      have hne := lt_of_heap HN5.out
      have n0 := cell_at ((HI.out.1.block _ hne).trans HN5.out) 0 (v := .int .i64 v) rfl
      have n1 := cell_at ((HI.out.1.block _ hne).trans HN5.out) 1 (v := .int .i64 lo) rfl
      have n2 := cell_at ((HI.out.1.block _ hne).trans HN5.out) 2 (v := .int .i64 hi) rfl
      by_cases hlt : k < L.length
      · obtain ⟨bl, cap', he, hbl, hn', e0, e1, e2⟩ := row_node (HR5.out.below HI.out.1) k hlt
        obtain ⟨rfl, rfl⟩ : ao = some ⟨bl, 0, none⟩ ∧ cap = cap' := by cases he; exact ⟨rfl, rfl⟩
        have HB := Lib.hid B
        clear B he
        go_wp2_with fail
        by_cases hE : ndEq L[k].v L[k].l L[k].h v lo hi = true
        · have hat : L[k] = ⟨v, lo, hi⟩ := (ndEq_iff L[k] ⟨v, lo, hi⟩).1 hE
          obtain ⟨rfl, rfl, rfl⟩ : L = L' ∧ (k : Int) = x ∧ 0 = en := by
            have := HM.out
            have hid := idxOf_first hlt hat HI.out.2
            rw [if_pos (hat ▸ List.getElem_mem hlt), hid] at this
            simpa [eq_comm] using this
          clear HM hat
          go_quiet (fail)
          have HB' := Lib.hid (HB.out.step (Below.drewN' (Below.refl _ wr) nq))
          clear HB HI c0 c1 n0 n1 n2 e0 e1 e2
          generalize wr.drewN nq = wq at *
          have c0 := HB'.out.c0
          have c1 := HB'.out.c1
          have d0 := HB'.out.d0
          have d1 := HB'.out.d1
          have f0 := HB'.out.f0
          have f1 := HB'.out.f1
          go_wp2_with fail
          (try rw [Exit.noGoto_ret])
          refine bodyPost_ret (results_ctt rfl _ _ (w.heap.size + 1) 27 _ (0, 0) _ rfl HB'.out.out Tryd.underlying27 rfl info_ref) rfl ?_
          exact ⟨_, rfl, HR.out.below HB'.out.end_, HB'.out.end_, fun _ h => .inl h⟩
        · replace hE : ndEq L[k].v L[k].l L[k].h v lo hi = false := by simpa using hE
          have hno : L[k] ≠ ⟨v, lo, hi⟩ := fun e => by rw [(ndEq_iff L[k] ⟨v, lo, hi⟩).2 e] at hE; cases hE
          have HN := Lib.hid hno
          clear hno
          go_quiet (fail)
          clear c0 c1 n0 n1 n2 e0 e1 e2
          go_wp2_with fail
          go_roundg (gk - 1)
          case measure => omega
          case rel => exact ⟨k + 1, by go_num, by omega, Below.drewN' HI.out.1 nq, fun i h h0 => by
            by_cases hik : i = k
            · subst hik; exact HN.out
            · exact HI.out.2 i h (by omega)⟩
      · obtain rfl : k = L.length := by omega
        have hnm : (⟨v, lo, hi⟩ : Nd) ∉ L := fun hm => by
          obtain ⟨i, hi, he⟩ := List.mem_iff_getElem.1 hm
          exact HI.out.2 i hi (by omega) he
        have hm := HM.out
        rw [if_neg hnm] at hm
        have HM := Lib.hid hm
        clear hm hnm
        have d0 := B.d0
        have d1 := B.d1
        have f0 := B.f0
        have f1 := B.f1
        by_cases hf : lim ≤ L.length
        · obtain ⟨rfl, rfl, rfl⟩ : L = L' ∧ 0 = x ∧ 50 = en := by
            have := HM.out
            rw [if_pos hf] at this
            simpa [eq_comm] using this
          clear HM
          have HB := Lib.hid B
          clear B
          go_wp2_with fail
          (try rw [Exit.noGoto_ret])
          refine bodyPost_ret (results_ctt rfl _ _ (w.heap.size + 1) 27 _ (0, 0) _ rfl HB.out.out Tryd.underlying27 rfl info_ref) rfl ?_
          exact ⟨_, rfl, HR.out.below HB.out.end_, HB.out.end_, fun _ h => .inl h⟩
        · obtain ⟨rfl, rfl, rfl⟩ : L ++ [⟨v, lo, hi⟩] = L' ∧ (L.length : Int) = x ∧ 0 = en := by
            have := HM.out
            rw [if_neg hf] at this
            simpa [eq_comm] using this
          clear HM
          go_wp2_with fail
          have HBr := Lib.hid B
          have HRr := Lib.hid (HR5.out.below HI.out.1)
          have HNr := Lib.hid ((HI.out.1.block _ hne).trans HN5.out)
          have hwr := lt_of_heap B.2.1
          have hw4 : w4.heap.size < wr.heap.size := Nat.lt_of_lt_of_le hne HI.out.1.size
          have hone := cellsOf_one L
          obtain ⟨i0, hi0, hz0, hz1, hz2⟩ := info_parts info_rnd
          have h63 : 0 + L.length ≤ maxLen := by unfold maxLen; omega
          have h24 : (0 + L.length) * 24 ≤ 140737488355328 := by omega
          have g63 : 0 + L.length + 1 ≤ maxLen := by unfold maxLen; omega
          have g24 : (0 + L.length + 1) * 24 ≤ 140737488355328 := by omega
          clear B c0 d0 d1 f0 f1 HI HB5 HR5 HN5 hw5
          go_cut [] (fun wx => Hid (Grew w wx lim L ⟨v, lo, hi⟩))
          case first =>
            have a1 := cell_push c1 (.cells #[] 56)
            have a2 := cell_push c1 (.cells #[.int .i64 v, .int .i64 lo, .int .i64 hi] 56)
            have a3 := cell_push a1 (.cells #[.int .i64 v, .int .i64 lo, .int .i64 hi] 56)
            have a4 := cell_push a2 (.cells #[] 56)
            have hq4 : w4.heap.size ≠ w.heap.size := by omega
            have hq5 : w.heap.size ≠ wr.heap.size := by omega
            have b0 := cell_push n0 (.cells #[] 56)
            have b1 := cell_push n1 (.cells #[] 56)
            have b2 := cell_push n2 (.cells #[] 56)
            go_region_law
              (first | ((refine step_append_src (by rfl) (.tmp 77) (.tmp 79) 25 (by rfl) 0 56 i0 _ 3 24 Tryd.underlying25 hi0 hz0 hz1 hz2 rfl (by decide) (.slice (some ⟨wr.heap.size, 0, none⟩) 0 0) 0 [] (by rfl) ((own_none (heap_alloc_new wr.drew _)).alloc _) (.slice ao L.length cap) L.length (cellsOf L) (by rfl) (Src.own ((HRr.out.drew.alloc _).alloc _)) hone h63 h24 (Nat.zero_le _) ?_); intro v7 w7 hown7 hg7 hb7; have G7 := Lib.hid (Got.step hg7 (HBr.out.step (by (repeat (with_reducible first | exact Below.refl _ _ | assumption | refine Below.push ?_ (Nat.le_refl _) _ | refine Below.drewN' ?_ _ | refine Below.drew ?_ | refine Below.setCell ?_ (by simp; done) _)))) (heap_alloc_lt _ (heap_alloc_lt _ HNr.out)) (by simp; omega) (by simp [Value.ownBlock]; omega) hown7 hb7); clear hown7; have y0 := G7.out.1.c1; have y1 := cell_at G7.out.2.1 0 (v := .int .i64 v) rfl; have y2 := cell_at G7.out.2.1 1 (v := .int .i64 lo) rfl; have y3 := cell_at G7.out.2.1 2 (v := .int .i64 hi) rfl; have fy := free_at G7.out.1.1 1; have hn7 := Lib.hid ((hg7.block (wr.heap.size + 1) (by simp) (by simp [Value.ownBlock])).trans (alloc2 wr.drew _ _))) | ((refine step_append_src (by rfl) (.tmp 77) (.tmp 79) 25 (by rfl) 0 56 i0 _ 3 24 Tryd.underlying25 hi0 hz0 hz1 hz2 rfl (by decide) (.slice (some ⟨wr.heap.size, 0, none⟩) 0 0) 0 [] (by rfl) (own_none (heap_alloc_new wr.drew _)) (.slice ao L.length cap) L.length (cellsOf L) (by rfl) (Src.own (HRr.out.drew.alloc _)) hone h63 h24 (Nat.zero_le _) ?_); intro v7 w7 hown7 hg7 hb7; have G7 := Lib.hid (Got.step hg7 (HBr.out.step (by (repeat (with_reducible first | exact Below.refl _ _ | assumption | refine Below.push ?_ (Nat.le_refl _) _ | refine Below.drewN' ?_ _ | refine Below.drew ?_ | refine Below.setCell ?_ (by simp; done) _)))) (heap_alloc_lt _ HNr.out) (by simp; omega) (by simp [Value.ownBlock]; omega) hown7 hb7); clear hown7; have y0 := G7.out.1.c1; have y1 := cell_at G7.out.2.1 0 (v := .int .i64 v) rfl; have y2 := cell_at G7.out.2.1 1 (v := .int .i64 lo) rfl; have y3 := cell_at G7.out.2.1 2 (v := .int .i64 hi) rfl; have fy := free_at G7.out.1.1 1) | ((refine step_append_src (by rfl) (.tmp 77) (.tmp 79) 25 (by rfl) 0 56 i0 _ 3 24 Tryd.underlying25 hi0 hz0 hz1 hz2 rfl (by decide) (.slice (some ⟨wr.heap.size + 1, 0, none⟩) 0 0) 0 [] (by rfl) (own_none (alloc2 wr.drew _ _)) (.slice ao L.length cap) L.length (cellsOf L) (by rfl) (Src.own ((HRr.out.drew.alloc _).alloc _)) hone h63 h24 (Nat.zero_le _) ?_); intro v7 w7 hown7 hg7 hb7; have G7 := Lib.hid (Got.step hg7 (HBr.out.step (by (repeat (with_reducible first | exact Below.refl _ _ | assumption | refine Below.push ?_ (Nat.le_refl _) _ | refine Below.drewN' ?_ _ | refine Below.drew ?_ | refine Below.setCell ?_ (by simp; done) _)))) (heap_alloc_lt _ (heap_alloc_lt _ HNr.out)) (by simp; omega) (by simp [Value.ownBlock]; omega) hown7 hb7); clear hown7; have y0 := G7.out.1.c1; have y1 := cell_at G7.out.2.1 0 (v := .int .i64 v) rfl; have y2 := cell_at G7.out.2.1 1 (v := .int .i64 lo) rfl; have y3 := cell_at G7.out.2.1 2 (v := .int .i64 hi) rfl; have fy := free_at G7.out.1.1 1; have hn7 := Lib.hid ((hg7.block wr.heap.size (by simp; omega) (by simp [Value.ownBlock])).trans (heap_alloc_lt _ (heap_alloc_new wr.drew _)))) | ((refine step_append_src (by rfl) (.tmp 80) (.tmp 82) 25 (by rfl) 0 56 i0 _ 3 24 Tryd.underlying25 hi0 hz0 hz1 hz2 rfl (by decide) v7 (0 + L.length) ([] ++ cellsOf L) (by rfl) (G7.out.2.2.1) (.slice (some ⟨wr.heap.size + 1, 0, none⟩) 1 1) 1 [.int .i64 v, .int .i64 lo, .int .i64 hi] (by rfl) (.inr ⟨_, _, rfl, rfl, World.news_of_block (cs := #[.int .i64 v, .int .i64 lo, .int .i64 hi]) (t := 56) (fr := (0, 0)) (hn7.out)⟩) (by simp [Value.oneCell']) g63 g24 (Nat.zero_le _) ?_); intro v8 w8 hown8 hg8 hb8; have G8 := Lib.hid (Got.step hg8 (G7.out.1) (G7.out.2.1) (lt_of_heap G7.out.2.1) G7.out.2.2.2 hown8 hb8); clear hown8; obtain ⟨g8, c8, rfl⟩ := Got.lies G8.out; have x0 := G8.out.1.c1; have x1 := cell_at G8.out.2.1 0 (v := .int .i64 v) rfl; have x2 := cell_at G8.out.2.1 1 (v := .int .i64 lo) rfl; have x3 := cell_at G8.out.2.1 2 (v := .int .i64 hi) rfl; have fx := free_at G8.out.1.1 1; have GG := Lib.hid (Grew.of G8.out); rw [Nat.zero_add] at GG) | ((refine step_append_src (by rfl) (.tmp 80) (.tmp 82) 25 (by rfl) 0 56 i0 _ 3 24 Tryd.underlying25 hi0 hz0 hz1 hz2 rfl (by decide) v7 (0 + L.length) ([] ++ cellsOf L) (by rfl) (G7.out.2.2.1) (.slice (some ⟨wr.heap.size, 0, none⟩) 1 1) 1 [.int .i64 v, .int .i64 lo, .int .i64 hi] (by rfl) (.inr ⟨_, _, rfl, rfl, World.news_of_block (cs := #[.int .i64 v, .int .i64 lo, .int .i64 hi]) (t := 56) (fr := (0, 0)) (hn7.out)⟩) (by simp [Value.oneCell']) g63 g24 (Nat.zero_le _) ?_); intro v8 w8 hown8 hg8 hb8; have G8 := Lib.hid (Got.step hg8 (G7.out.1) (G7.out.2.1) (lt_of_heap G7.out.2.1) G7.out.2.2.2 hown8 hb8); clear hown8; obtain ⟨g8, c8, rfl⟩ := Got.lies G8.out; have x0 := G8.out.1.c1; have x1 := cell_at G8.out.2.1 0 (v := .int .i64 v) rfl; have x2 := cell_at G8.out.2.1 1 (v := .int .i64 lo) rfl; have x3 := cell_at G8.out.2.1 2 (v := .int .i64 hi) rfl; have fx := free_at G8.out.1.1 1; have GG := Lib.hid (Grew.of G8.out); rw [Nat.zero_add] at GG) | ((refine step_append_src (by rfl) (.tmp 80) (.tmp 82) 25 (by rfl) 0 56 i0 _ 3 24 Tryd.underlying25 hi0 hz0 hz1 hz2 rfl (by decide) v7 (0 + L.length) ([] ++ cellsOf L) (by rfl) (G7.out.2.2.1.alloc _) (.slice (some ⟨w7.heap.size, 0, none⟩) 1 1) 1 [.int .i64 v, .int .i64 lo, .int .i64 hi] (by rfl) (.inr ⟨_, _, rfl, rfl, World.news_of_block (cs := #[.int .i64 v, .int .i64 lo, .int .i64 hi]) (t := 56) (fr := (0, 0)) (heap_alloc_new w7 _)⟩) (by simp [Value.oneCell']) g63 g24 (Nat.zero_le _) ?_); intro v8 w8 hown8 hg8 hb8; have G8 := Lib.hid (Got.step hg8 (G7.out.1.step (by (repeat (with_reducible first | exact Below.refl _ _ | assumption | refine Below.push ?_ (Nat.le_refl _) _ | refine Below.drewN' ?_ _ | refine Below.drew ?_ | refine Below.setCell ?_ (by simp; done) _)))) (heap_alloc_lt _ G7.out.2.1) (lt_of_heap (heap_alloc_lt _ G7.out.2.1)) G7.out.2.2.2 hown8 hb8); clear hown8; obtain ⟨g8, c8, rfl⟩ := Got.lies G8.out; have x0 := G8.out.1.c1; have x1 := cell_at G8.out.2.1 0 (v := .int .i64 v) rfl; have x2 := cell_at G8.out.2.1 1 (v := .int .i64 lo) rfl; have x3 := cell_at G8.out.2.1 2 (v := .int .i64 hi) rfl; have fx := free_at G8.out.1.1 1; have GG := Lib.hid (Grew.of G8.out); rw [Nat.zero_add] at GG))
            all_goals (go_wp2_with fail; go_meet; exact GG)
          case rest =>
            clear c1 n0 n1 n2 HBr HRr HNr hone h63 h24 g63 g24 hi0 hz0 hz1 hz2
            obtain ⟨vl', B9, R9, K9⟩ := hcut.out
            obtain ⟨⟨ao', cap', rfl⟩, hn'⟩ := R9.shape
            have c0 := B9.c0
            have c1 := B9.c1
            have d0 := B9.d0
            have d1 := B9.d1
            have f0 := B9.f0
            have f1 := B9.f1
            have hlen : (L ++ [(⟨v, lo, hi⟩ : Nd)]).length = L.length + 1 := by simp
            have t9 : Touch wc ((wc.setCell ⟨w.heap.size + 1, 0, none⟩ (.int .i64 lim)).setCell ⟨w.heap.size + 1, 1, none⟩ (.slice ao' (L ++ [(⟨v, lo, hi⟩ : Nd)]).length cap')) (fun k => k = w.heap.size + 1) :=
              Touch.setCell (S := fun k => k = w.heap.size + 1) (p := ⟨w.heap.size + 1, 1, none⟩) (Touch.setCell (S := fun k => k = w.heap.size + 1) (p := ⟨w.heap.size + 1, 0, none⟩) (Touch.refl _ _) (.inl rfl) _) (.inl rfl) _
            have HB9 := Lib.hid B9
            have HR9 := Lib.hid (show Row _ _ _ from ownsRow_touch R9 t9 (fun k h e => by have := K9 k h; omega))
            have KK := Lib.hid K9
            clear t9 K9
            rw [hlen] at c1 HB9 HR9 KK
            have hwr1 : IntKind.i64.wrap ((L.length + 1 : Nat) - 1 : Int) = L.length := by rw [IntWalk.i64_in _ (by omega)]; omega
            clear B9 R9 hcut
            go_wp2_with fail
            go_region
            all_goals (
              go_wp2_with fail
              refine bodyPost_ret (results_ctt rfl _ _ (w.heap.size + 1) 27 #[.int .i64 lim, .slice ao' (L.length + 1) cap'] (0, 0) _ rfl HB9.out.out Tryd.underlying27 rfl info_ref) rfl ?_
              exact ⟨_, rfl, HR9.out, Below.drew HB9.out.end_, fun k h => .inr (by have := KK.out k h; omega)⟩)

theorem ref_mk (h : Row w vl L) (v lo hi : Int) (hsm : L.length ≤ 1000000000000) :
    Calls Tryd.prog 25 #[.agg #[.int .i64 lim, vl], .int .i64 v, .int .i64 lo, .int .i64 hi] w (RMk w lim vl (Ar.mk lim L v lo hi).1 (Ar.mk lim L v lo hi).2.1 (Ar.mk lim L v lo hi).2.2) := by
  by_cases hv : v < 0 ∨ 12 ≤ v
  · rw [show Ar.mk lim L v lo hi = (L, 0, 52) from by unfold Ar.mk; rw [if_pos hv]]
    exact ref_mk_var h v lo hi hv
  · by_cases ho : Ar.ordered L v lo hi
    · exact ref_mk_good h v lo hi (by omega) (by omega) ho hsm
    · rw [show Ar.mk lim L v lo hi = (L, 0, 51) from by unfold Ar.mk; rw [if_neg hv, if_pos ho]]
      exact ref_mk_order h v lo hi (by omega) (by omega) ho
end Go.Proofs.YtknoigebkpapoaaDoor
