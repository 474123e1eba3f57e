/- Texts of this claim, one behind the other: Bn, Bg, Bh, Bj, Bk, Bl, Bu2, Be, Bf, Bc, Bd, Bw, Bod. -/
import Derived.Test.YtiagkbmhfgdffaaGb
import Derived.Laws.MakeOwn
import Derived.Test.YtiagkbmhfgdffaaGc
set_option linter.unusedVariables false
set_option linter.unusedSimpArgs false
namespace Go.Proofs.Ytiagkbmhfgdffaa
open Go Go.RowKit Go.Deep
section
variable {w w' : World} {lim : Int} {L : List Nd} {S : Nat → Prop}
def ent0 : Ent := ⟨false, 0, 0, 0, 0⟩
theorem madeCells_ents (N : Nat) : madeCells #[.bool false, .int .i64 0, .int .i64 0, .int .i64 0, .int .i64 0] (N * 5) = (entCells (List.replicate N ent0)).toArray := by
  have hl : (entCells (List.replicate N ent0)).length = N * 5 := by rw [entCells_length, List.length_replicate]
  apply Array.ext
  · rw [size_madeCells]; simp [hl]
  · intro i h1 h2
    rw [size_madeCells] at h1
    have key : ∀ N i, i < N * 5 → (entCells (List.replicate N ent0))[i]? = some ((#[Value.bool false, .int .i64 0, .int .i64 0, .int .i64 0, .int .i64 0] : Array Value)[i % 5]!) := by
      intro N
      induction N with
      | zero => intro i h; omega
      | succ N ih =>
        intro i h
        rw [List.replicate_succ, entCells_cons]
        by_cases hi : i < 5
        · rw [List.getElem?_append_left (by simpa using hi)]
          rcases (show i = 0 ∨ i = 1 ∨ i = 2 ∨ i = 3 ∨ i = 4 by omega) with rfl | rfl | rfl | rfl | rfl <;> rfl
        · rw [List.getElem?_append_right (by simp; omega)]
          have := ih (i - 5) (by omega)
          rw [show (i - 5) % 5 = i % 5 by omega] at this
          simpa using this
    have := key N i h1
    have h2' : i < (entCells (List.replicate N ent0)).length := by rw [hl]; exact h1
    rw [List.getElem?_eq_getElem h2'] at this
    have e := Option.some.inj this
    simp only [madeCells, Array.getElem_map, Array.getElem_range, List.getElem_toArray]
    rw [e]
    rfl
theorem info_entry : (Try.prog.info? 119).map (fun i => (i.zero.map Value.cells, i.size, i.bytes)) = some (some #[.bool false, .int .i64 0, .int .i64 0, .int .i64 0, .int .i64 0], 5, 40) := by kernel_rfl
theorem make_ents (N : Nat) (h : N ≤ 65536) (w : World) : (Instr.makeSlice 85 (.int .i64 (N : Int)) (.int .i64 (N : Int))).run Try.prog w = .ok (.slice (some ⟨w.heap.size, 0, none⟩) N N) (w.alloc (.cells (entCells (List.replicate N ent0)).toArray 119)) := by
  have hI := info_entry
  simp only [Option.map_eq_some_iff, Prod.mk.injEq] at hI
  obtain ⟨i, hi, ⟨z, hz, hc⟩, hs, hb⟩ := hI
  have := run_make (P := Try.prog) w 85 119 i z Try.underlying85 hi hz .i64 .i64 (N : Int) (N : Int) (by omega) (Int.le_refl _) (by rw [hb]; omega) (by omega)
  rw [this, hc, hs, Int.toNat_natCast, madeCells_ents]
/-- A new memo. -/
def MemoNew (w : World) (N : Nat) (e : Ending) (w' : World) : Prop := ∃ mb bp, e = .returned (.pointer (some ⟨mb, 0, none⟩)) ∧ MemoAt w' mb bp (List.replicate N ent0) ∧ w.heap.size ≤ mb ∧ w.heap.size ≤ bp ∧ Below w.heap.size w w'
theorem memo_made (w : World) (N : Nat) (h1 : 1 ≤ N) (h2 : N ≤ 65536) : MemoAt ((w.alloc (.cells (entCells (List.replicate N ent0)).toArray 119)).alloc (.cells #[.slice (some ⟨w.heap.size, 0, none⟩) N N] 87)) (w.heap.size + 1) w.heap.size (List.replicate N ent0) ∧
    Below w.heap.size w ((w.alloc (.cells (entCells (List.replicate N ent0)).toArray 119)).alloc (.cells #[.slice (some ⟨w.heap.size, 0, none⟩) N N] 87)) := by
  have sz : ∀ (W : World) (o : Obj), (W.alloc o).heap.size = W.heap.size + 1 := fun W o => by simp
  have hb := heap_alloc_new (w.alloc (.cells (entCells (List.replicate N ent0)).toArray 119)) (.cells #[.slice (some ⟨w.heap.size, 0, none⟩) N N] 87)
  rw [sz] at hb
  refine ⟨⟨?_, heap_alloc_lt _ (heap_alloc_new w _), ?_, ?_, by omega⟩, Below.push (Below.push (Below.refl _ _) (Nat.le_refl _) _) (Nat.le_refl _) _⟩
  · rw [List.length_replicate]; exact hb
  · rw [List.length_replicate]; exact h1
  · rw [List.length_replicate]; exact h2
set_option maxRecDepth 100000 in
set_option maxHeartbeats 2000000 in
theorem memo_new (n : Int) : Calls Try.prog 31 #[.int .i64 n] w (MemoNew w (min (max n 1) 65536).toNat) := by
  obtain ⟨N, hN⟩ : ∃ N : Nat, min (max n 1) 65536 = (N : Int) := ⟨(min (max n 1) 65536).toNat, by omega⟩
  have h1 : 1 ≤ N := by omega
  have h2 : N ≤ 65536 := by omega
  have HK := Lib.hid (memo_made w N h1 h2)
  have hmk0 := make_ents N h2
  rw [hN, Int.toNat_natCast]
  rcases (show n < 1 ∨ (1 ≤ n ∧ n ≤ 65536) ∨ 65536 < n by omega) with c | c | c
  · have hv : (N : Int) = 1 := by omega
    have hmk : ∀ w : World, (Instr.makeSlice 85 (.int .i64 1) (.int .i64 1)).run Try.prog w = .ok (.slice (some ⟨w.heap.size, 0, none⟩) N N) (w.alloc (.cells (entCells (List.replicate N ent0)).toArray 119)) := fun w => by
      have := hmk0 w
      rw [hv] at this
      exact this
    clear hv hmk0 h1 h2 hN
    generalize (entCells (List.replicate N ent0)).toArray = EC at *
    go_enter Try.func31, Try.ntmps31
    go_wp2_with fail
    all_goals first
      | (exfalso; omega)
      | (go_ret; exact ⟨_, _, rfl, HK.out.1, Nat.le_succ _, Nat.le_refl _, HK.out.2⟩)
  · have hv : (N : Int) = n := by omega
    have hmk : ∀ w : World, (Instr.makeSlice 85 (.int .i64 n) (.int .i64 n)).run Try.prog w = .ok (.slice (some ⟨w.heap.size, 0, none⟩) N N) (w.alloc (.cells (entCells (List.replicate N ent0)).toArray 119)) := fun w => by
      have := hmk0 w
      rw [hv] at this
      exact this
    clear hv hmk0 h1 h2 hN
    generalize (entCells (List.replicate N ent0)).toArray = EC at *
    go_enter Try.func31, Try.ntmps31
    go_wp2_with fail
    all_goals first
      | (exfalso; omega)
      | (go_ret; exact ⟨_, _, rfl, HK.out.1, Nat.le_succ _, Nat.le_refl _, HK.out.2⟩)
  · have hv : (N : Int) = 65536 := by omega
    have hmk : ∀ w : World, (Instr.makeSlice 85 (.int .i64 65536) (.int .i64 65536)).run Try.prog w = .ok (.slice (some ⟨w.heap.size, 0, none⟩) N N) (w.alloc (.cells (entCells (List.replicate N ent0)).toArray 119)) := fun w => by
      have := hmk0 w
      rw [hv] at this
      exact this
    clear hv hmk0 h1 h2 hN
    generalize (entCells (List.replicate N ent0)).toArray = EC at *
    go_enter Try.func31, Try.ntmps31
    go_wp2_with fail
    all_goals first
      | (exfalso; omega)
      | (go_ret; exact ⟨_, _, rfl, HK.out.1, Nat.le_succ _, Nat.le_refl _, HK.out.2⟩)
end
end Go.Proofs.Ytiagkbmhfgdffaa

set_option linter.unusedVariables false
set_option linter.unusedSimpArgs false
namespace Go.Proofs.Ytiagkbmhfgdffaa
open Go Go.RowKit Go.Deep
section
variable {w w' : World} {lim : Int} {L : List Nd} {S : Nat → Prop}
/-- A new manager. -/
def MgrNew (w : World) (lim : Int) (e : Ending) (w' : World) : Prop :=
  ∃ mg, e = .returned (.pointer (some ⟨mg, 0, none⟩)) ∧ Mgr w' mg lim [] (fun k => w.heap.size ≤ k ∧ k < w'.heap.size) ∧ Below w.heap.size w w'
theorem mgr_made {w1 w2 : World} {b mb bp N : Nat} (hb1 : Below w.heap.size w w1) (A : Arena w1 b lim [] (fun k => w.heap.size ≤ k ∧ k < w1.heap.size)) (hb2 : Below w1.heap.size w1 w2)
    (M : MemoAt w2 mb bp (List.replicate N ent0)) (h1 : w1.heap.size ≤ mb) (h2 : w1.heap.size ≤ bp) :
    MgrNew w lim (.returned (.pointer (some ⟨w2.heap.size, 0, none⟩))) (w2.alloc (.cells #[.pointer (some ⟨b, 0, none⟩), .pointer (some ⟨mb, 0, none⟩)] 62)) := by
  have hb3 : Below w2.heap.size w2 (w2.alloc (.cells #[.pointer (some ⟨b, 0, none⟩), .pointer (some ⟨mb, 0, none⟩)] 62)) := Below.push (Below.refl _ _) (Nat.le_refl _) _
  have z1 := hb1.size
  have z2 := hb2.size
  have l1 := lt_of_heap M.box
  have l2 := lt_of_heap M.row
  have z3 : (w2.alloc (.cells #[.pointer (some ⟨b, 0, none⟩), .pointer (some ⟨mb, 0, none⟩)] 62)).heap.size = w2.heap.size + 1 := by simp
  refine ⟨_, rfl, ⟨b, mb, bp, _, ⟨heap_alloc_new w2 _, ?_, M.below hb3, ?_, ?_, ?_, ?_, ?_, ?_, ?_⟩⟩, Below.seq (Below.seq hb1 (Nat.le_refl _) hb2) (Nat.le_refl _) hb3⟩
  · exact ((A.below hb2).below hb3).mono (fun k hk => ⟨⟨hk.1, by omega⟩, by omega, by omega, by omega⟩)
  · intro e he hi
    have := (List.mem_replicate.1 he).2
    rw [this] at hi
    cases hi
  · exact ⟨by omega, by omega⟩
  · exact ⟨by omega, by omega⟩
  · exact ⟨by omega, by omega⟩
  · omega
  · omega
  · intro k hk; exact hk.2
set_option maxRecDepth 100000 in
set_option maxHeartbeats 2000000 in
theorem bdd_new (limit n : Int) : Calls Try.prog 10 #[.int .i64 limit, .int .i64 n] w (MgrNew w (max limit 0)) := by
  go_enter Try.func10, Try.ntmps10
  go_wp2_with fail
  refine (new_any limit).mono ?_
  rintro e w1 ⟨b, rfl, A, hb1⟩
  have HA := Lib.hid A
  have HB1 := Lib.hid hb1
  clear A hb1
  generalize max limit 0 = lim at *
  go_wp2_with fail
  refine (memo_new n).mono ?_
  rintro e w2 ⟨mb, bp, rfl, M, h1, h2, hb2⟩
  have HM := Lib.hid (mgr_made HB1.out HA.out hb2 M h1 h2)
  clear M h1 h2 hb2
  go_wp2_with fail
  go_ret
  exact HM.out
end
end Go.Proofs.Ytiagkbmhfgdffaa

set_option linter.unusedVariables false
set_option linter.unusedSimpArgs false
namespace Go.Proofs.Ytiagkbmhfgdffaa
open Go Go.RowKit Go.Deep Go.Maps
section
variable {w w' W : World} {mg : Nat} {lim : Int} {L : List Nd} {S : Nat → Prop}
def UAt (w : World) (b : Nat) (v : Int) : Prop := w.heap[b]? = some (.cells #[.int .u64 v] 38 (0, 0))
/-- What Support's visitor makes of one ref. -/
def sup1 (L : List Nd) (s r : Int) : Int := if Ar.isN L r then bits .or .u64 s (IntKind.u64.wrap (2 ^ (Ar.nd L r).v.toNat)) else s
set_option maxRecDepth 100000 in
set_option maxHeartbeats 2000000 in
theorem sup1_in {sb gb : Nat} {s : Int} (M : Mgr w mg lim L S) (hg : w.heap[gb]? = some (.cells #[.pointer (some ⟨mg, 0, none⟩)] 23 (0, 0))) (h : UAt w sb s) (k : Nat) (hk : k < L.length) :
    Calls Try.prog 37 #[.int .i64 k, .pointer (some ⟨gb, 0, none⟩), .pointer (some ⟨sb, 0, none⟩)] w fun e w' => e = .returned (.tuple #[]) ∧ UAt w' sb (bits .or .u64 s (IntKind.u64.wrap (2 ^ L[k].v.toNat))) ∧ Touch w w' (fun k => k = sb) := by
  have x0 : w.cell? ⟨gb, 0, none⟩ = some (.pointer (some ⟨mg, 0, none⟩)) := cell_at hg 0 rfl
  have hv := (M.ok.each k hk).1
  have hv2 := (M.ok.each k hk).2.1
  obtain ⟨b, mb', bp, ES, MA⟩ := M
  have c0 := MA.c0
  have HA := Lib.hid MA.ar
  have HS := Lib.hid h
  clear MA h hg
  go_enter Try.func37, Try.ntmps37
  go_wp2_with fail
  refine (get_in HA.out k hk).mono ?_
  rintro e w1 ⟨rfl, hb1⟩
  have hs1 : UAt w1 sb s := (Touch.of_below hb1 (fun _ => False)).heap HS.out (fun c => c)
  have hs2 : UAt (w1.alloc (.cells #[.int .i64 L[k].v, .int .i64 L[k].l, .int .i64 L[k].h] 70)) sb s := heap_alloc_lt _ hs1
  have hn := heap_alloc_new w1 (.cells #[.int .i64 L[k].v, .int .i64 L[k].l, .int .i64 L[k].h] 70)
  have hb2 := Below.seq hb1 (Nat.le_refl _) (Below.push (Below.refl _ w1) (Nat.le_refl _) (.cells #[.int .i64 L[k].v, .int .i64 L[k].l, .int .i64 L[k].h] 70))
  have HN := Lib.hid hn
  have HS2 := Lib.hid hs2
  have HB2 := Lib.hid hb2
  clear hs1 hs2 hn hb1 hb2 c0 x0 HA HS
  go_upto_region 2 with fail
  generalize w1.alloc (.cells #[.int .i64 L[k].v, .int .i64 L[k].l, .int .i64 L[k].h] 70) = w2 at *
  generalize w1.heap.size = gn at *
  have y0 := cell_at HN.out 0 (v := .int .i64 L[k].v) rfl
  have x2 : w2.cell? ⟨sb, 0, none⟩ = some (.int .u64 s) := cell_at HS2.out 0 rfl
  have f2 := free_at HS2.out 0
  have HT2 := Lib.hid ((Touch.of_below HB2.out (fun k => k = sb)).setCell (p := ⟨sb, 0, none⟩) (.inl rfl) (.int .u64 (bits .or .u64 s (IntKind.u64.wrap (2 ^ L[k].v.toNat)))))
  have HU2 : Hid (UAt (w2.setCell ⟨sb, 0, none⟩ (.int .u64 (bits .or .u64 s (IntKind.u64.wrap (2 ^ L[k].v.toNat))))) sb (bits .or .u64 s (IntKind.u64.wrap (2 ^ L[k].v.toNat)))) := Lib.hid (heap_setCell_same HS2.out _)
  go_region
  go_end0
  exact ⟨rfl, HU2.out, HT2.out.drew⟩
set_option maxRecDepth 100000 in
set_option maxHeartbeats 2000000 in
theorem sup1_out {sb gb : Nat} {s : Int} (M : Mgr w mg lim L S) (hg : w.heap[gb]? = some (.cells #[.pointer (some ⟨mg, 0, none⟩)] 23 (0, 0))) (h : UAt w sb s) (r : Int) (hr : ¬ Ar.isN L r) :
    Calls Try.prog 37 #[.int .i64 r, .pointer (some ⟨gb, 0, none⟩), .pointer (some ⟨sb, 0, none⟩)] w fun e w' => e = .returned (.tuple #[]) ∧ UAt w' sb s ∧ Touch w w' (fun k => k = sb) := by
  have x0 : w.cell? ⟨gb, 0, none⟩ = some (.pointer (some ⟨mg, 0, none⟩)) := cell_at hg 0 rfl
  obtain ⟨b, mb', bp, ES, MA⟩ := M
  have c0 := MA.c0
  have HA := Lib.hid MA.ar
  have HS := Lib.hid h
  clear MA h hg
  go_enter Try.func37, Try.ntmps37
  go_wp2_with fail
  refine (get_out HA.out r hr).mono ?_
  rintro e w1 ⟨rfl, hb1⟩
  have hb2 := Below.seq hb1 (Nat.le_refl _) (Below.push (Below.refl _ w1) (Nat.le_refl _) (.cells #[.int .i64 0, .int .i64 0, .int .i64 0] 70))
  have HB2 := Lib.hid hb2
  have HS2 : Hid (UAt (w1.alloc (.cells #[.int .i64 0, .int .i64 0, .int .i64 0] 70)) sb s) := Lib.hid ((Touch.of_below hb2 (fun _ => False)).heap HS.out (fun c => c))
  clear hb1 hb2 c0 x0 HA HS
  go_wp2_with fail
  go_end0
  exact ⟨rfl, HS2.out, Touch.of_below HB2.out _⟩
/-- What Support hands to seen. -/
theorem sup1_any {sb gb : Nat} {s : Int} (M : Mgr w mg lim L S) (hg : w.heap[gb]? = some (.cells #[.pointer (some ⟨mg, 0, none⟩)] 23 (0, 0))) (h : UAt w sb s) (r : Int) :
    Calls Try.prog 37 #[.int .i64 r, .pointer (some ⟨gb, 0, none⟩), .pointer (some ⟨sb, 0, none⟩)] w fun e w' => e = .returned (.tuple #[]) ∧ UAt w' sb (sup1 L s r) ∧ Touch w w' (fun k => k = sb) := by
  unfold sup1
  by_cases hn : Ar.isN L r
  · rw [if_pos hn]
    obtain ⟨k, rfl⟩ : ∃ k : Nat, r = k := ⟨r.toNat, by have := hn.1; omega⟩
    have hk : k < L.length := by have := hn.2; omega
    rw [Ar.nd_at hk]
    exact sup1_in M hg h k hk
  · rw [if_neg hn]
    exact sup1_out M hg h r hn
end
end Go.Proofs.Ytiagkbmhfgdffaa

set_option linter.unusedVariables false
set_option linter.unusedSimpArgs false
namespace Go.Proofs.Ytiagkbmhfgdffaa
open Go Go.RowKit Go.Deep Go.Maps
section
variable {w w' W : World} {mg : Nat} {lim : Int} {L : List Nd} {S : Nat → Prop}

/-- How far the walk has come: V was visited. -/
structure SeenU (w0 W : World) (mb sb : Nat) (g : List Int → Int) (U V : List Int) : Prop where
  t : Touch w0 W (fun k => k = mb ∨ k = sb)
  m : IMap W mb V.length (vis V)
  s : UAt W sb (g V)
  nodup : V.Nodup
  sub : ∀ x ∈ V, x ∈ U
theorem SeenU.below {w0 W' : World} {mb sb : Nat} {g : List Int → Int} {U V : List Int} (I : SeenU w0 W mb sb g U V) (h : Below W.heap.size W W') : SeenU w0 W' mb sb g U V :=
  have t0 : Touch W W' (fun _ => False) := Touch.of_below h _
  ⟨I.t.step t0 (fun _ _ c => c.elim), I.m.touch t0 (fun c => c), t0.heap I.s (fun c => c), I.nodup, I.sub⟩

/-- What one step of the walk does: this text is printed for each of the visitors. -/
def DownU (w0 : World) (L : List Nd) (mb mbx vbx gbx dbx sb : Nat) (g : List Int → Int) (U : List Int) (f : Nat) : Prop :=
  ∀ (W : World) (r : Int) (V : List Int), SeenU w0 W mb sb g U V → r ∈ U → (Ar.isN L r → (r + 1).toNat < f) → 0 < f →
    Calls Try.prog 55 #[.int .i64 r, .pointer (some ⟨mbx, 0, none⟩), .pointer (some ⟨vbx, 0, none⟩), .pointer (some ⟨gbx, 0, none⟩), .pointer (some ⟨dbx, 0, none⟩)] W fun e w' =>
      e = .returned (.tuple #[]) ∧ Touch W w' (fun k => k = mb ∨ k = sb) ∧ SeenU w0 w' mb sb g U (Ar.dfs L f r V)
set_option maxRecDepth 100000 in
set_option maxHeartbeats 8000000 in
theorem down_su {w0 : World} {mb mbx vbx gbx dbx sb g2 : Nat} {U : List Int} (h5 : w0.heap[g2]? = some (.cells #[.pointer (some ⟨mg, 0, none⟩)] 23 (0, 0))) (n5 : ¬ (g2 = mb ∨ g2 = sb)) (C : SeenC w0 mg lim L S (.func (.func 37) #[] #[.pointer (some ⟨g2, 0, none⟩), .pointer (some ⟨sb, 0, none⟩)]) mb mbx vbx gbx dbx sb) (HU : Room L U) :
    ∀ f, DownU w0 L mb mbx vbx gbx dbx sb (fun V => V.foldl (sup1 L) 0) U f := by
  have HC := Lib.hid C
  have H5 := Lib.hid h5
  have N5 := Lib.hid n5
  have HHU := Lib.hid HU
  have hok := C.M.ok
  have HOK := Lib.hid hok
  clear C HU hok h5 n5
  intro f
  induction f with
  | zero => intro W r V _ _ _ h; omega
  | succ f ih =>
    intro W r V I hr hf _
    have IH := Lib.hid ih
    have x1 : W.cell? ⟨mbx, 0, none⟩ = some (.map (some mb)) := cell_at (I.t.heap HC.out.h1 HC.out.n1) 0 rfl
    have hfit := HHU.out.fit r hr
    have hlen : V.length < maxLen := Nat.lt_of_le_of_lt (len_sub V U I.nodup I.sub) HHU.out.few
    have HF := Lib.hid hfit
    have HLen := Lib.hid hlen
    have HM := Lib.hid I.m
    have HI := Lib.hid I
    have HR := Lib.hid hr
    have HFF := Lib.hid hf
    clear I hfit hlen hr hf ih
    by_cases hv : r ∈ V
    · have hl : (vis V r).getD 0 = 1 := by unfold vis; rw [if_pos hv]; rfl
      have he : Ar.dfs L (f + 1) r V = V := by unfold Ar.dfs; rw [if_pos hv]
      rw [he]
      clear he hv
      go_enter Try.func55, Try.ntmps55
      go_wp2_with (refine wpList_lookup_imap1 rfl (.tmp 8) (.tmp 9) rfl mb _ _ rfl HM.out r rfl HF.out ?_; rw [hl])
      refine bodyPost_ret (results_none rfl _ _ _) rfl ?_
      exact ⟨rfl, Touch.refl _ _, HI.out⟩
    · have hl : (vis V r).getD 0 = 0 := by unfold vis; rw [if_neg hv]; rfl
      have he : Ar.dfs L (f + 1) r V = if Ar.isN L r then Ar.dfs L f (Ar.nd L r).h (Ar.dfs L f (Ar.nd L r).l (V ++ [r])) else V ++ [r] := by
        show (if r ∈ V then V else if Ar.isN L r then Ar.dfs L f (Ar.nd L r).h (Ar.dfs L f (Ar.nd L r).l (V ++ [r])) else V ++ [r]) = _
        rw [if_neg hv]
      obtain ⟨D, hD⟩ : ∃ D, (if Ar.isN L r then Ar.dfs L f (Ar.nd L r).h (Ar.dfs L f (Ar.nd L r).l (V ++ [r])) else V ++ [r]) = D := ⟨_, rfl⟩
      rw [he, hD]
      have HD := Lib.hid hD
      clear hD
      have HV := Lib.hid hv
      clear he hv
      go_enter Try.func55, Try.ntmps55
      go_wp2_with (first | (refine wpList_lookup_imap1 rfl (.tmp 8) (.tmp 9) rfl mb _ _ rfl HM.out r rfl HF.out ?_; rw [hl]) | (refine wpList_update_imap rfl (.tmp 12) (.tmp 13) (.const (.int .i64 1)) rfl mb _ _ rfl HM.out HLen.out r 1 rfl rfl HF.out (fits_of (by decide) (by decide)) ?_; intro W2 im2 hg2; rw [vis_push] at im2; have t2 := (Touch.refl W (fun k => k = mb)).grown hg2 (fun k h => .inl (by cases h; rfl)); have T2 := HI.out.t.step t2 (fun i _ h => .inl h); have x2 : W2.cell? ⟨vbx, 0, none⟩ = some (.func (.func 37) #[] #[.pointer (some ⟨g2, 0, none⟩), .pointer (some ⟨sb, 0, none⟩)]) := cell_at (T2.heap HC.out.h2 HC.out.n2) 0 rfl; have IM2 := Lib.hid im2; have HT2 := Lib.hid T2; have Ht2 := Lib.hid t2; have BS2 := Lib.hid (t2.heap HI.out.s (fun h => HC.out.ne h.symm)); clear im2 hg2 t2 T2 x1))
      refine (sup1_any (HC.out.M.touch HT2.out HC.out.nS) (HT2.out.heap H5.out N5.out) BS2.out r).mono ?_
      rintro e W3 ⟨rfl, bs3, t3⟩
      have T3 := HT2.out.step t3 (fun i _ h => .inr h)
      have t03 := (Ht2.out.mono (S' := fun k => k = mb ∨ k = sb) (fun i _ h => .inl h)).step t3 (fun i _ h => .inr h)
      have I3 : SeenU w0 W3 mb sb (fun V => V.foldl (sup1 L) 0) U (V ++ [r]) := by
        refine ⟨T3, ?_, ?_, ?_, ?_⟩
        · rw [List.length_append]; exact IM2.out.touch t3 (fun h => HC.out.ne h)
        · show UAt W3 sb ((V ++ [r]).foldl (sup1 L) 0)
          rw [List.foldl_append]
          exact bs3
        · rw [List.nodup_append]
          exact ⟨HI.out.nodup, by simp, fun a ha b hb e => by rw [List.mem_singleton] at hb; subst hb; subst e; exact HV.out ha⟩
        · intro x hx
          rw [List.mem_append, List.mem_singleton] at hx
          rcases hx with hx | rfl
          · exact HI.out.sub x hx
          · exact HR.out
      have M3 := HC.out.M.touch T3 HC.out.nS
      obtain ⟨b, mb', bp, ES, MA⟩ := M3
      have c0 := MA.c0
      have HA := Lib.hid MA.ar
      have x3 : W3.cell? ⟨gbx, 0, none⟩ = some (.pointer (some ⟨mg, 0, none⟩)) := cell_at (T3.heap HC.out.h3 HC.out.n3) 0 rfl
      have HI3 := Lib.hid I3
      have Ht03 := Lib.hid t03
      clear I3 t03 MA t3 bs3 HT2 Ht2 BS2 IM2 T3 hl x2
      by_cases hn : Ar.isN L r
      · have hD := HD.out
        rw [if_pos hn] at hD
        have hff := HFF.out hn
        have hcl := HHU.out.cl r HR.out hn
        have hch := Ar.ok_child' HOK.out hn
        obtain ⟨k, rfl⟩ : ∃ k : Nat, r = k := ⟨r.toNat, by have := hn.1; omega⟩
        have hk : k < L.length := by have := hn.2; omega
        rw [Ar.nd_at hk] at hcl hch hD
        have HD2 := Lib.hid hD
        clear hD HD
        have HCL := Lib.hid hcl
        have HCH := Lib.hid hch
        have HFF2 := Lib.hid hff
        clear hcl hch hff hn
        go_wp2_with fail
        refine (get_in HA.out k hk).mono ?_
        rintro e W4 ⟨rfl, hb4⟩
        have I5 := (HI3.out.below hb4).below (Below.push (Below.refl _ _) (Nat.le_refl _) (.cells #[.int .i64 L[k].v, .int .i64 L[k].l, .int .i64 L[k].h] 70))
        have t5 := (Ht03.out.step (Touch.of_below hb4 (fun _ => False)) (fun _ _ c => c.elim)).alloc (.cells #[.int .i64 L[k].v, .int .i64 L[k].l, .int .i64 L[k].h] 70)
        have n5 := heap_alloc_new W4 (.cells #[.int .i64 L[k].v, .int .i64 L[k].l, .int .i64 L[k].h] 70)
        have l5 : w0.heap.size ≤ W4.heap.size := Nat.le_trans HI3.out.t.size hb4.size
        have HI5 := Lib.hid I5
        have Ht5 := Lib.hid t5
        have HN5 := Lib.hid n5
        clear I5 t5 n5 hb4 c0 x3 HA
        go_upto_region 4 with fail
        generalize W4.alloc (.cells #[.int .i64 L[k].v, .int .i64 L[k].l, .int .i64 L[k].h] 70) = W5 at *
        generalize W4.heap.size = gn at *
        have x4 : W5.cell? ⟨dbx, 0, none⟩ = some (.func (.func 55) #[] #[.pointer (some ⟨mbx, 0, none⟩), .pointer (some ⟨vbx, 0, none⟩), .pointer (some ⟨gbx, 0, none⟩), .pointer (some ⟨dbx, 0, none⟩)]) := cell_at (HI5.out.t.heap HC.out.h4 HC.out.n4) 0 rfl
        have y1 := cell_at HN5.out 1 (v := .int .i64 L[k].l) rfl
        have hgn : ¬ (gn = mb ∨ gn = sb) := by have := HC.out.lm; have := HC.out.ls; omega
        go_wp2_with fail
        refine (IH.out W5 L[k].l _ HI5.out HCL.out.1 (fun h => by have := h.1; have := HCH.out.1; have := HFF2.out; omega) (by have := HFF2.out; omega)).mono ?_
        rintro e W6 ⟨rfl, t6, I6⟩
        have HN6 := t6.heap HN5.out hgn
        have y2 := cell_at HN6 2 (v := .int .i64 L[k].h) rfl
        have x5 : W6.cell? ⟨dbx, 0, none⟩ = some (.func (.func 55) #[] #[.pointer (some ⟨mbx, 0, none⟩), .pointer (some ⟨vbx, 0, none⟩), .pointer (some ⟨gbx, 0, none⟩), .pointer (some ⟨dbx, 0, none⟩)]) := cell_at (I6.t.heap HC.out.h4 HC.out.n4) 0 rfl
        have HI6 := Lib.hid I6
        have Ht6 := Lib.hid (Ht5.out.step t6 (fun i _ h => h))
        clear I6 t6 HN6 x4 y1
        go_wp2_with fail
        refine (IH.out W6 L[k].h _ HI6.out HCL.out.2 (fun h => by have := h.1; have := HCH.out.2; have := HFF2.out; omega) (by have := HFF2.out; omega)).mono ?_
        rintro e W7 ⟨rfl, t7, I7⟩
        go_wp2_with fail
        go_end0
        exact ⟨rfl, Ht6.out.step t7 (fun i _ h => h), by rw [← HD2.out]; exact I7⟩
      · have hD := HD.out
        rw [if_neg hn] at hD
        have HD2 := Lib.hid hD
        clear hD HD
        go_wp2_with fail
        refine (get_out HA.out r hn).mono ?_
        rintro e W4 ⟨rfl, hb4⟩
        have I5 := (HI3.out.below hb4).below (Below.push (Below.refl _ _) (Nat.le_refl _) (.cells #[.int .i64 0, .int .i64 0, .int .i64 0] 70))
        have t5 := (Ht03.out.step (Touch.of_below hb4 (fun _ => False)) (fun _ _ c => c.elim)).alloc (.cells #[.int .i64 0, .int .i64 0, .int .i64 0] 70)
        have HI5 := Lib.hid I5
        have Ht5 := Lib.hid t5
        clear I5 t5 hb4 c0 x3 HA
        go_wp2_with fail
        go_end0
        exact ⟨rfl, Ht5.out, by rw [← HD2.out]; exact HI5.out⟩
end
end Go.Proofs.Ytiagkbmhfgdffaa

set_option linter.unusedVariables false
set_option linter.unusedSimpArgs false
namespace Go.Proofs.Ytiagkbmhfgdffaa
open Go Go.RowKit Go.Deep Go.Maps
section
variable {w w' W : World} {mg : Nat} {lim : Int} {L : List Nd} {S : Nat → Prop}

attribute [local go_sem] store_fn
set_option maxRecDepth 100000 in
set_option maxHeartbeats 4000000 in
theorem seen_su {sb g2 : Nat} (h5 : w.heap[g2]? = some (.cells #[.pointer (some ⟨mg, 0, none⟩)] 23 (0, 0))) (n5 : g2 ≠ sb) (M : Mgr w mg lim L S) (hb : UAt w sb 0) (hs : ¬ S sb) (r : Int) (hr : fits r) (hl : L.length < 100000000000) :
    Calls Try.prog 36 #[.pointer (some ⟨mg, 0, none⟩), .int .i64 r, .func (.func 37) #[] #[.pointer (some ⟨g2, 0, none⟩), .pointer (some ⟨sb, 0, none⟩)]] w fun e w' =>
      e = .returned (.tuple #[]) ∧ UAt w' sb ((Ar.under L r).foldl (sup1 L) 0) ∧ Touch w w' (fun k => k = sb) := by
  have HM := Lib.hid M
  have HB := Lib.hid hb
  have H5 := Lib.hid h5
  have L5 := Lib.hid (lt_of_heap h5)
  have N5 := Lib.hid n5
  have HR := Lib.hid (room M.ok hl hr)
  obtain ⟨k1, k2, k4, k5, km, kb, kz⟩ := five w (.cells #[.pointer (some ⟨mg, 0, none⟩)] 23) (.cells #[.func (.func 37) #[] #[.pointer (some ⟨g2, 0, none⟩), .pointer (some ⟨sb, 0, none⟩)]] 73) (.cells #[.map (some (w.heap.size + 1 + 1))] 93) (.cells #[.nilFunc] 73)
  have K1 := Lib.hid k1
  have K2 := Lib.hid k2
  have K4 := Lib.hid k4
  have K5 := Lib.hid k5
  have Km := Lib.hid km
  have Kb := Lib.hid kb
  have Kz := Lib.hid kz
  have HS := Lib.hid hs
  have HL := Lib.hid M.lt
  have hsb := lt_of_heap hb
  have HSB := Lib.hid hsb
  clear h5 n5 M hb hr hl k1 k2 k4 k5 km kb kz hs hsb
  have hmm : ∀ w : World, (Instr.makeMap 93 none).run Try.prog w = .ok (.map (some w.heap.size)) (w.alloc (.map #[] 0)) := @run_makeMap Try.prog 93
  go_enter Try.func36, Try.ntmps36
  go_upto_region 3 with fail
  generalize (((((w.alloc (.cells #[.pointer (some ⟨mg, 0, none⟩)] 23)).alloc (.cells #[.func (.func 37) #[] #[.pointer (some ⟨g2, 0, none⟩), .pointer (some ⟨sb, 0, none⟩)]] 73)).alloc (.map #[] 0)).alloc (.cells #[.map (some (w.heap.size + 1 + 1))] 93)).alloc (.cells #[.nilFunc] 73)) = w5 at *
  have y0 : w5.cell? ⟨w.heap.size + 1 + 1 + 1 + 1, 0, none⟩ = some .nilFunc := cell_at K5.out 0 rfl
  have f0 := free_at K5.out 0
  go_upto_region 4 with fail
  have q5 : (w5.setCell ⟨w.heap.size + 1 + 1 + 1 + 1, 0, none⟩ (.func (.func 55) #[] #[.pointer (some ⟨w.heap.size + 1 + 1 + 1, 0, none⟩), .pointer (some ⟨w.heap.size + 1, 0, none⟩), .pointer (some ⟨w.heap.size, 0, none⟩), .pointer (some ⟨w.heap.size + 1 + 1 + 1 + 1, 0, none⟩)])).heap[w.heap.size + 1 + 1 + 1 + 1]? = some (.cells #[.func (.func 55) #[] #[.pointer (some ⟨w.heap.size + 1 + 1 + 1, 0, none⟩), .pointer (some ⟨w.heap.size + 1, 0, none⟩), .pointer (some ⟨w.heap.size, 0, none⟩), .pointer (some ⟨w.heap.size + 1 + 1 + 1 + 1, 0, none⟩)]] 73 (0, 0)) := heap_setCell_same K5.out _
  have q1 := heap_setCell_other ⟨w.heap.size + 1 + 1 + 1 + 1, 0, none⟩ K1.out rfl (show w.heap.size ≠ w.heap.size + 1 + 1 + 1 + 1 by omega) (.func (.func 55) #[] #[.pointer (some ⟨w.heap.size + 1 + 1 + 1, 0, none⟩), .pointer (some ⟨w.heap.size + 1, 0, none⟩), .pointer (some ⟨w.heap.size, 0, none⟩), .pointer (some ⟨w.heap.size + 1 + 1 + 1 + 1, 0, none⟩)])
  have q2 := heap_setCell_other ⟨w.heap.size + 1 + 1 + 1 + 1, 0, none⟩ K2.out rfl (show w.heap.size + 1 ≠ w.heap.size + 1 + 1 + 1 + 1 by omega) (.func (.func 55) #[] #[.pointer (some ⟨w.heap.size + 1 + 1 + 1, 0, none⟩), .pointer (some ⟨w.heap.size + 1, 0, none⟩), .pointer (some ⟨w.heap.size, 0, none⟩), .pointer (some ⟨w.heap.size + 1 + 1 + 1 + 1, 0, none⟩)])
  have q4 := heap_setCell_other ⟨w.heap.size + 1 + 1 + 1 + 1, 0, none⟩ K4.out rfl (show w.heap.size + 1 + 1 + 1 ≠ w.heap.size + 1 + 1 + 1 + 1 by omega) (.func (.func 55) #[] #[.pointer (some ⟨w.heap.size + 1 + 1 + 1, 0, none⟩), .pointer (some ⟨w.heap.size + 1, 0, none⟩), .pointer (some ⟨w.heap.size, 0, none⟩), .pointer (some ⟨w.heap.size + 1 + 1 + 1 + 1, 0, none⟩)])
  have qm := Km.out.touch ((Touch.refl w5 (fun k => k = w.heap.size + 1 + 1 + 1 + 1)).setCell (p := ⟨w.heap.size + 1 + 1 + 1 + 1, 0, none⟩) (.inl rfl) (.func (.func 55) #[] #[.pointer (some ⟨w.heap.size + 1 + 1 + 1, 0, none⟩), .pointer (some ⟨w.heap.size + 1, 0, none⟩), .pointer (some ⟨w.heap.size, 0, none⟩), .pointer (some ⟨w.heap.size + 1 + 1 + 1 + 1, 0, none⟩)])) (show ¬ (w.heap.size + 1 + 1 = w.heap.size + 1 + 1 + 1 + 1) by omega)
  have qb : Below w.heap.size w (w5.setCell ⟨w.heap.size + 1 + 1 + 1 + 1, 0, none⟩ (.func (.func 55) #[] #[.pointer (some ⟨w.heap.size + 1 + 1 + 1, 0, none⟩), .pointer (some ⟨w.heap.size + 1, 0, none⟩), .pointer (some ⟨w.heap.size, 0, none⟩), .pointer (some ⟨w.heap.size + 1 + 1 + 1 + 1, 0, none⟩)])) := Below.setCell Kb.out (show w.heap.size ≤ w.heap.size + 1 + 1 + 1 + 1 by omega) _
  have qz : (w5.setCell ⟨w.heap.size + 1 + 1 + 1 + 1, 0, none⟩ (.func (.func 55) #[] #[.pointer (some ⟨w.heap.size + 1 + 1 + 1, 0, none⟩), .pointer (some ⟨w.heap.size + 1, 0, none⟩), .pointer (some ⟨w.heap.size, 0, none⟩), .pointer (some ⟨w.heap.size + 1 + 1 + 1 + 1, 0, none⟩)])).heap.size = w.heap.size + 1 + 1 + 1 + 1 + 1 := by rw [← Kz.out]; simp
  have Q1 := Lib.hid q1
  have Q2 := Lib.hid q2
  have Q4 := Lib.hid q4
  have Q5 := Lib.hid q5
  have Qm := Lib.hid qm
  have Qb := Lib.hid qb
  have Qz := Lib.hid qz
  clear q1 q2 q4 q5 qm qb qz K1 K2 K4 K5 Km Kb Kz y0 f0
  generalize w5.setCell ⟨w.heap.size + 1 + 1 + 1 + 1, 0, none⟩ (.func (.func 55) #[] #[.pointer (some ⟨w.heap.size + 1 + 1 + 1, 0, none⟩), .pointer (some ⟨w.heap.size + 1, 0, none⟩), .pointer (some ⟨w.heap.size, 0, none⟩), .pointer (some ⟨w.heap.size + 1 + 1 + 1 + 1, 0, none⟩)]) = w6 at *
  have x6 : w6.cell? ⟨w.heap.size + 1 + 1 + 1 + 1, 0, none⟩ = some (.func (.func 55) #[] #[.pointer (some ⟨w.heap.size + 1 + 1 + 1, 0, none⟩), .pointer (some ⟨w.heap.size + 1, 0, none⟩), .pointer (some ⟨w.heap.size, 0, none⟩), .pointer (some ⟨w.heap.size + 1 + 1 + 1 + 1, 0, none⟩)]) := cell_at Q5.out 0 rfl
  have b6 : UAt w6 sb 0 := (Touch.of_below Qb.out (fun _ => False)).heap HB.out (fun c => c)
  have HB6 := Lib.hid b6
  clear b6
  have C : Hid (SeenC w6 mg lim L S (.func (.func 37) #[] #[.pointer (some ⟨g2, 0, none⟩), .pointer (some ⟨sb, 0, none⟩)]) (w.heap.size + 1 + 1) (w.heap.size + 1 + 1 + 1) (w.heap.size + 1) w.heap.size (w.heap.size + 1 + 1 + 1 + 1) sb) := by
    have z := Qz.out
    have z2 := HSB.out
    exact Lib.hid ⟨HM.out.below Qb.out, Q4.out, Q2.out, Q1.out, Q5.out, by omega, by omega, by omega, by omega, fun k hk c => by have := HL.out k hk; rcases c with c | c; omega; exact HS.out (c ▸ hk), by omega, by omega, by omega⟩
  have I : Hid (SeenU w6 w6 (w.heap.size + 1 + 1) sb (fun V => V.foldl (sup1 L) 0) (roomU L r) []) :=
    Lib.hid ⟨Touch.refl _ _, Qm.out, by simpa using HB6.out, by simp, by simp⟩
  clear Q1 Q2 Q4 Q5 Qm HB6
  go_wp2_with fail
  refine (down_su ((Touch.of_below Qb.out (fun _ => False)).heap H5.out (fun c => c)) (fun c => by have := L5.out; rcases c with c | c; omega; exact N5.out c) C.out HR.out (L.length + 2) w6 r [] I.out (by simp [roomU]) (fun h => by have := h.1; have := h.2; omega) (by omega)).mono ?_
  rintro e w7 ⟨rfl, t7, I7⟩
  go_wp2_with fail
  go_end0
  refine ⟨rfl, I7.s, (Touch.of_below Qb.out (fun k => k = sb)).step t7 (fun i hi h => ?_)⟩
  rcases h with h | h
  · omega
  · exact h
end
end Go.Proofs.Ytiagkbmhfgdffaa

set_option linter.unusedVariables false
set_option linter.unusedSimpArgs false
namespace Go.Proofs.Ytiagkbmhfgdffaa
open Go Go.RowKit Go.Deep Go.Maps
section
variable {w w' W : World} {mg : Nat} {lim : Int} {L : List Nd} {S : Nat → Prop}
def suppF (L : List Nd) (r : Int) : Int := if Ar.isb L r = true then (Ar.under L r).foldl (sup1 L) 0 else 0
set_option maxRecDepth 100000 in
set_option maxHeartbeats 4000000 in
theorem support_any (M : Mgr w mg lim L S) (r : Int) (hr : fits r) (hl : L.length < 100000000000) :
    Calls Try.prog 16 #[.pointer (some ⟨mg, 0, none⟩), .int .i64 r] w fun e w' => e = .returned (.int .u64 (suppF L r)) ∧ Below w.heap.size w w' := by
  have HM := Lib.hid M
  have HR := Lib.hid hr
  have HL := Lib.hid hl
  have HS : Hid (∀ k, S k → k < w.heap.size) := Lib.hid M.lt
  have kb : Below w.heap.size w (w.alloc (.cells #[.pointer (some ⟨mg, 0, none⟩)] 23)) := Below.push (Below.refl _ _) (Nat.le_refl _) _
  have k0 := heap_alloc_new w (.cells #[.pointer (some ⟨mg, 0, none⟩)] 23)
  have Kb := Lib.hid kb
  have K0 := Lib.hid k0
  clear M hr hl kb k0
  unfold suppF
  cases hi : Ar.isb L r
  · have HI := Lib.hid hi
    rw [if_neg (by simp)]
    clear hi
    go_enter Try.func16, Try.ntmps16
    go_wp2_with fail
    generalize w.alloc (.cells #[.pointer (some ⟨mg, 0, none⟩)] 23) = w1 at *
    refine (is_any (HM.out.below Kb.out) r HR.out HL.out).mono ?_
    rintro e w2 ⟨rfl, hb2⟩
    rw [HI.out]
    have HB2 := Lib.hid (Below.seq Kb.out (Nat.le_refl _) hb2)
    clear hb2
    go_wp2_with fail
    go_ret
    exact ⟨rfl, HB2.out⟩
  · have HI := Lib.hid hi
    rw [if_pos rfl]
    clear hi
    go_enter Try.func16, Try.ntmps16
    go_wp2_with fail
    generalize w.alloc (.cells #[.pointer (some ⟨mg, 0, none⟩)] 23) = w1 at *
    refine (is_any (HM.out.below Kb.out) r HR.out HL.out).mono ?_
    rintro e w2 ⟨rfl, hb2⟩
    rw [HI.out]
    have k2 := (Touch.of_below hb2 (fun _ => False)).heap K0.out (fun c => c)
    have q2 := heap_alloc_lt (.cells #[.int .u64 0] 38) k2
    have hu := heap_alloc_new w2 (.cells #[.int .u64 0] 38)
    have x2 : (w2.alloc (.cells #[.int .u64 0] 38)).cell? ⟨w.heap.size, 0, none⟩ = some (.pointer (some ⟨mg, 0, none⟩)) := cell_at q2 0 rfl
    have hb3 := Below.seq (Below.seq Kb.out (Nat.le_refl _) hb2) (Nat.le_refl _) (Below.push (Below.refl _ w2) (Nat.le_refl _) (.cells #[.int .u64 0] 38))
    have l2 := lt_of_heap k2
    have z2 : w.heap.size ≤ w2.heap.size := (Below.seq Kb.out (Nat.le_refl _) hb2).size
    have Q2 := Lib.hid q2
    have HU : Hid (UAt (w2.alloc (.cells #[.int .u64 0] 38)) w2.heap.size 0) := Lib.hid hu
    have HB3 := Lib.hid hb3
    clear hb2 k2 q2 hu hb3
    go_upto_region 4 with fail
    generalize w2.alloc (.cells #[.int .u64 0] 38) = w3 at *
    generalize w2.heap.size = sb at *
    go_wp2_with fail
    refine (seen_su (g2 := w.heap.size) Q2.out (by omega) (HM.out.below HB3.out) HU.out (fun h => by have := HS.out _ h; omega) r HR.out HL.out).mono ?_
    rintro e w4 ⟨rfl, h4, t4⟩
    have x4 : w4.cell? ⟨sb, 0, none⟩ = some (.int .u64 ((Ar.under L r).foldl (sup1 L) 0)) := cell_at h4 0 rfl
    have HB4 := Lib.hid (((Touch.of_below HB3.out (fun k => w.heap.size ≤ k)).step t4 (fun i hi h => by omega)).below (B := w.heap.size) (Nat.le_refl _) (fun k hk h => by omega))
    clear h4 t4 x2
    go_wp2_with fail
    go_ret
    exact ⟨rfl, HB4.out⟩
end
end Go.Proofs.Ytiagkbmhfgdffaa

set_option linter.unusedVariables false
set_option linter.unusedSimpArgs false
namespace Go.Proofs.Ytiagkbmhfgdffaa
open Go Go.RowKit Go.Deep Go.Maps
section
variable {lim : Int} {L : List Nd}
theorem bo_fits (hl : L.length < 100000000000) {x : Int} (h : Ar.Bo L x) : fits x := by
  have := h.has
  unfold Ar.has Ar.low at this
  exact fits_of (by omega) (by omega)
theorem toldF_0 {L' : List Nd} {x : Int} : toldF (L', x, 0) = (L', x, 0) := rfl
theorem toldF_50 {L' : List Nd} {x : Int} : toldF (L', x, 50) = (L', 0, 50) := rfl
/-- What a call is told: it could be done, there was no room, or it may not be done. -/
def Told (lim : Int) (L : List Nd) (may : Bool) (r : List Nd × Int × Int) (is : List Nd → Int → Prop) : Prop :=
  Ar.Ok r.1 ∧ L <+: r.1 ∧ ((r.2.2 = 0 ∧ may = true ∧ is r.1 r.2.1) ∨ (r.2.2 = 50 ∧ r.2.1 = 0 ∧ may = true ∧ lim ≤ r.1.length) ∨ (r.2.2 = 1 ∧ r.2.1 = 0 ∧ may = false ∧ r.1 = L))
theorem iteF_told (ok : Ar.Ok L) (f g h : Int) : Told lim L (mayb L 0 [f, g, h]) (iteF lim L f g h) (fun L' x => Ar.IteIs L' f g h x) := by
  unfold iteF
  cases hm : mayb L 0 [f, g, h]
  · rw [if_neg (by simp)]
    exact ⟨ok, List.prefix_refl L, .inr (.inr ⟨rfl, rfl, rfl, rfl⟩)⟩
  · rw [if_pos rfl]
    have hb := (mayb_all ok hm).1
    have hv := vm_nonneg ok f g h
    obtain ⟨⟨L', x, e⟩, hr⟩ : ∃ p, Ar.ite lim 13 L f g h = p := ⟨_, rfl⟩
    rw [hr]
    obtain ⟨ok', hp, ⟨rfl, hI, _⟩ | ⟨rfl, rfl, hl⟩⟩ := Ar.ite_spec 13 L f g h ok (hb _ (by simp)) (hb _ (by simp)) (hb _ (by simp)) (by omega) L' x e hr
    · exact ⟨ok', hp, .inl ⟨rfl, rfl, hI⟩⟩
    · exact ⟨ok', hp, .inr (.inl ⟨rfl, rfl, rfl, hl⟩)⟩
theorem rstF_told (ok : Ar.Ok L) (f v : Int) (d : Bool) : Told lim L (mayb L v [f]) (rstF lim L f v d) (fun L' x => Ar.RstIs L' f v d x) := by
  unfold rstF
  cases hm : mayb L v [f]
  · rw [if_neg (by simp)]
    exact ⟨ok, List.prefix_refl L, .inr (.inr ⟨rfl, rfl, rfl, rfl⟩)⟩
  · rw [if_pos rfl]
    obtain ⟨hb, h0, h12⟩ := mayb_all ok hm
    have hv := var_nonneg ok f
    obtain ⟨⟨L', x, e⟩, hr⟩ : ∃ p, Ar.rst lim v d 13 L f = p := ⟨_, rfl⟩
    rw [hr]
    obtain ⟨ok', hp, ⟨rfl, hI⟩ | ⟨rfl, rfl, hl⟩⟩ := Ar.rst_spec v d h0 h12 13 L f ok (hb _ (by simp)) (by omega) L' x e hr
    · exact ⟨ok', hp, .inl ⟨rfl, rfl, hI⟩⟩
    · exact ⟨ok', hp, .inr (.inl ⟨rfl, rfl, rfl, hl⟩)⟩
theorem varF_told (ok : Ar.Ok L) (v : Int) : Told lim L (mayb L v []) (varF lim L v) (fun L' x => Ar.Bo L' x ∧ ∀ t, Ar.ev t L' x = t v) := by
  unfold varF
  cases hm : mayb L v []
  · rw [if_neg (by simp)]
    exact ⟨ok, List.prefix_refl L, .inr (.inr ⟨rfl, rfl, rfl, rfl⟩)⟩
  · rw [if_pos rfl]
    obtain ⟨_, h0, h12⟩ := mayb_all ok hm
    obtain ⟨⟨L', x, e⟩, hr⟩ : ∃ p, Ar.mk lim L v (-1) (-2) = p := ⟨_, rfl⟩
    rw [hr]
    have e1 : Ar.var L (-1) = 12 := by unfold Ar.var; rw [if_neg (Ar.isN_not_neg (by decide))]
    have e2 : Ar.var L (-2) = 12 := by unfold Ar.var; rw [if_neg (Ar.isN_not_neg (by decide))]
    obtain ⟨ok', hp, ⟨rfl, hB, _, hev, _⟩ | ⟨rfl, rfl, rfl, hl⟩⟩ := Ar.mk_bo ok h0 h12 .no .yes (by omega) (by omega) hr
    · refine ⟨ok', hp, .inl ⟨rfl, rfl, hB, fun t => ?_⟩⟩
      show Ar.ev t L' x = t v
      rw [hev t]
      have a1 : Ar.ev t L (-1) = false := rfl
      have a2 : Ar.ev t L (-2) = true := rfl
      rw [a1, a2]
      cases t v <;> rfl
    · exact ⟨ok', hp, .inr (.inl ⟨rfl, rfl, rfl, hl⟩)⟩
theorem iteF_len {B : Nat} (hB : lim < B) (f g h : Int) (hl : L.length < B) : (iteF lim L f g h).1.length < B := by
  unfold iteF
  split
  · rw [toldF_eq]; exact ite_len hB 13 L f g h hl
  · exact hl
theorem rstF_len {B : Nat} (hB : lim < B) (f v : Int) (d : Bool) (hl : L.length < B) : (rstF lim L f v d).1.length < B := by
  unfold rstF
  split
  · rw [toldF_eq]; exact rst_len hB v d 13 L f hl
  · exact hl
end
end Go.Proofs.Ytiagkbmhfgdffaa

set_option linter.unusedVariables false
set_option linter.unusedSimpArgs false
namespace Go.Proofs.Ytiagkbmhfgdffaa
open Go Go.RowKit Go.Deep Go.Maps
section
variable {w w' W : World} {mg : Nat} {lim : Int} {L : List Nd} {S : Nat → Prop}
def exF (lim : Int) (L : List Nd) (f v : Int) : List Nd × Int × Int :=
  if (rstF lim L f v false).2.2 ≠ 0 then ((rstF lim L f v false).1, 0, (rstF lim L f v false).2.2) else
  if (rstF lim (rstF lim L f v false).1 f v true).2.2 ≠ 0 then ((rstF lim (rstF lim L f v false).1 f v true).1, 0, (rstF lim (rstF lim L f v false).1 f v true).2.2) else
  iteF lim (rstF lim (rstF lim L f v false).1 f v true).1 (rstF lim L f v false).2.1 (-2) (rstF lim (rstF lim L f v false).1 f v true).2.1
set_option maxRecDepth 100000 in
set_option maxHeartbeats 4000000 in
theorem halves_or (hlim : lim < 100000000000) (M : Mgr w mg lim L S) (hl : L.length < 100000000000) {f : Int} (v : Int) (hf : fits f) :
    Calls Try.prog 44 #[.pointer (some ⟨mg, 0, none⟩), .int .i64 f, .int .i64 v, .func (.func 51) #[.pointer (some ⟨mg, 0, none⟩)] #[]] w (OpPost w mg lim S (exF lim L f v)) := by
  have HR0 := Lib.hid (Restrict_any hlim M hl v false hf)
  have T0 := rstF_told (lim := lim) M.ok f v false
  have hl0 := rstF_len (lim := lim) (B := 100000000000) hlim f v false hl
  have HT0 := Lib.hid T0
  have HL0 := Lib.hid hl0
  have HLim := Lib.hid hlim
  have HF := Lib.hid hf
  have HX : Hid (exF lim L f v = if (rstF lim L f v false).2.2 ≠ 0 then ((rstF lim L f v false).1, 0, (rstF lim L f v false).2.2) else
    if (rstF lim (rstF lim L f v false).1 f v true).2.2 ≠ 0 then ((rstF lim (rstF lim L f v false).1 f v true).1, 0, (rstF lim (rstF lim L f v false).1 f v true).2.2) else
    iteF lim (rstF lim (rstF lim L f v false).1 f v true).1 (rstF lim L f v false).2.1 (-2) (rstF lim (rstF lim L f v false).1 f v true).2.1) := Lib.hid rfl
  clear M hl hlim hf T0 hl0
  generalize exF lim L f v = R at *
  generalize rstF lim L f v false = r0 at *
  go_enter Try.func44, Try.ntmps44
  go_wp2_with fail
  refine HR0.out.mono ?_
  rintro e w1 ⟨ev, rfl, M1, t1, he1⟩
  have HE1 := Lib.hid he1
  have HM1 := Lib.hid M1
  have Ht1 := Lib.hid t1
  clear M1 t1 HR0
  rcases he1 with ⟨h0, rfl⟩ | ⟨hn, rfl⟩ | ⟨hn, fb, fv, rfl, -⟩
  · have H0 := Lib.hid h0
    clear h0
    have HR1 := Lib.hid (Restrict_any HLim.out HM1.out HL0.out v true HF.out)
    have HT1 := Lib.hid (rstF_told (lim := lim) HM1.out.ok f v true)
    have HL1 := Lib.hid (rstF_len (lim := lim) (B := 100000000000) HLim.out f v true HL0.out)
    generalize rstF lim r0.1 f v true = r1 at *
    go_wp2_with fail
    refine HR1.out.mono ?_
    rintro e w2 ⟨ev2, rfl, M2, t2, he2⟩
    have HE2 := Lib.hid he2
    have HM2 := Lib.hid M2
    have Ht2 := Lib.hid t2
    clear M2 t2 HR1
    rcases he2 with ⟨h1, rfl⟩ | ⟨hn, rfl⟩ | ⟨hn, fb, fv, rfl, -⟩
    · have H1 := Lib.hid h1
      clear h1
      have hx0 : fits r0.2.1 := by
        obtain ⟨_, _, h | h | h⟩ := HT0.out
        · exact bo_fits HL0.out h.2.2.cx
        · have := h.1; rw [H0.out] at this; exact absurd this (by decide)
        · have := h.1; rw [H0.out] at this; exact absurd this (by decide)
      have hx1 : fits r1.2.1 := by
        obtain ⟨_, _, h | h | h⟩ := HT1.out
        · exact bo_fits HL1.out h.2.2.cx
        · have := h.1; rw [H1.out] at this; exact absurd this (by decide)
        · have := h.1; rw [H1.out] at this; exact absurd this (by decide)
      have HO := Lib.hid (Or_any HLim.out HM2.out HL1.out hx0 hx1)
      have hR : R = iteF lim r1.1 r0.2.1 (-2) r1.2.1 := by
        rw [HX.out, if_neg (by rw [H0.out]; decide), if_neg (by rw [H1.out]; decide)]
      have HRR := Lib.hid hR
      clear hx0 hx1 hR
      go_wp2_with fail
      refine HO.out.mono ?_
      rintro e w3 ⟨ev3, rfl, hp⟩
      have HP := Lib.hid hp
      clear hp
      go_wp2_with fail
      go_ret2
      rw [HRR.out]
      exact OpPost.step Ht1.out (OpPost.step Ht2.out ⟨ev3, rfl, HP.out⟩)
    all_goals
      have hne : r1.2.2 ≠ 0 := by first | exact hn | (rw [hn]; decide)
      have hR : R = (r1.1, 0, r1.2.2) := by rw [HX.out, if_neg (by rw [H0.out]; decide), if_pos hne]
      have HRR := Lib.hid hR
      clear hne hR hn
      go_wp2_with fail
      go_ret2
      rw [HRR.out]
      exact OpPost.step Ht1.out ⟨_, rfl, HM2.out, Ht2.out, HE2.out⟩
  all_goals
    have hne : r0.2.2 ≠ 0 := by first | exact hn | (rw [hn]; decide)
    have hR : R = (r0.1, 0, r0.2.2) := by rw [HX.out, if_pos hne]
    have HRR := Lib.hid hR
    clear hne hR hn
    go_wp2_with fail
    go_ret2
    rw [HRR.out]
    exact ⟨_, rfl, HM1.out, Ht1.out, HE1.out⟩
set_option maxHeartbeats 1000000 in
theorem Exists_any (hlim : lim < 100000000000) (M : Mgr w mg lim L S) (hl : L.length < 100000000000) {f : Int} (v : Int) (hf : fits f) :
    Calls Try.prog 27 #[.pointer (some ⟨mg, 0, none⟩), .int .i64 f, .int .i64 v] w (OpPost w mg lim S (exF lim L f v)) := by
  have HI := Lib.hid (halves_or hlim M hl v hf)
  clear M hl hlim hf
  generalize exF lim L f v = r at *
  go_enter Try.func27, Try.ntmps27
  go_wp2_with fail
  refine HI.out.mono ?_
  rintro e w1 ⟨ev, rfl, hp⟩
  have HP := Lib.hid hp
  clear hp
  go_wp2_with fail
  go_ret2
  exact ⟨ev, rfl, HP.out⟩
end
end Go.Proofs.Ytiagkbmhfgdffaa

set_option linter.unusedVariables false
set_option linter.unusedSimpArgs false
namespace Go.Proofs.Ytiagkbmhfgdffaa
open Go Go.RowKit Go.Deep Go.Maps
section
variable {w w' W : World} {mg : Nat} {lim : Int} {L : List Nd} {S : Nat → Prop}
set_option maxHeartbeats 1000000 in
theorem clo_compose (hlim : lim < 100000000000) (M : Mgr w mg lim L S) (hl : L.length < 100000000000) {gb cb : Nat} {g a b : Int} (h1 : w.heap[gb]? = some (.cells #[.pointer (some ⟨mg, 0, none⟩)] 23 (0, 0))) (h2 : w.heap[cb]? = some (.cells #[.int .i64 g] 3 (0, 0))) (hg : fits g) (ha : fits a) (hb : fits b) :
    Calls Try.prog 45 #[.int .i64 a, .int .i64 b, .pointer (some ⟨gb, 0, none⟩), .pointer (some ⟨cb, 0, none⟩)] w (OpPost w mg lim S (iteF lim L g b a)) := by
  have x1 : w.cell? ⟨gb, 0, none⟩ = some (.pointer (some ⟨mg, 0, none⟩)) := cell_at h1 0 rfl
  have x2 : w.cell? ⟨cb, 0, none⟩ = some (.int .i64 g) := cell_at h2 0 rfl
  have HI := Lib.hid (Ite_any hlim M hl hg hb ha)
  clear M hl hlim h1 h2 hg ha hb
  generalize iteF lim L g b a = r at *
  go_enter Try.func45, Try.ntmps45
  go_wp2_with fail
  refine HI.out.mono ?_
  rintro e w1 ⟨ev, rfl, hp⟩
  have HP := Lib.hid hp
  clear hp
  go_wp2_with fail
  go_ret2
  exact ⟨ev, rfl, HP.out⟩
end
end Go.Proofs.Ytiagkbmhfgdffaa

set_option linter.unusedVariables false
set_option linter.unusedSimpArgs false
namespace Go.Proofs.Ytiagkbmhfgdffaa
open Go Go.RowKit Go.Deep Go.Maps
section
variable {w w' W : World} {mg : Nat} {lim : Int} {L : List Nd} {S : Nat → Prop}
def coF (lim : Int) (L : List Nd) (f v g : Int) : List Nd × Int × Int :=
  if (rstF lim L f v false).2.2 ≠ 0 then ((rstF lim L f v false).1, 0, (rstF lim L f v false).2.2) else
  if (rstF lim (rstF lim L f v false).1 f v true).2.2 ≠ 0 then ((rstF lim (rstF lim L f v false).1 f v true).1, 0, (rstF lim (rstF lim L f v false).1 f v true).2.2) else
  iteF lim (rstF lim (rstF lim L f v false).1 f v true).1 g (rstF lim (rstF lim L f v false).1 f v true).2.1 (rstF lim L f v false).2.1
set_option maxRecDepth 100000 in
set_option maxHeartbeats 4000000 in
theorem halves_co (hlim : lim < 100000000000) (M : Mgr w mg lim L S) (hl : L.length < 100000000000) {gb cb : Nat} {g f : Int} (v : Int) (hf : fits f) (hg : fits g) (h1 : w.heap[gb]? = some (.cells #[.pointer (some ⟨mg, 0, none⟩)] 23 (0, 0))) (h2 : w.heap[cb]? = some (.cells #[.int .i64 g] 3 (0, 0))) (n1 : ¬ S gb) (n2 : ¬ S cb) :
    Calls Try.prog 44 #[.pointer (some ⟨mg, 0, none⟩), .int .i64 f, .int .i64 v, .func (.func 45) #[] #[.pointer (some ⟨gb, 0, none⟩), .pointer (some ⟨cb, 0, none⟩)]] w (OpPost w mg lim S (coF lim L f v g)) := by
  have HR0 := Lib.hid (Restrict_any hlim M hl v false hf)
  have T0 := rstF_told (lim := lim) M.ok f v false
  have hl0 := rstF_len (lim := lim) (B := 100000000000) hlim f v false hl
  have HT0 := Lib.hid T0
  have HL0 := Lib.hid hl0
  have HLim := Lib.hid hlim
  have HF := Lib.hid hf
  have HG := Lib.hid hg
  have K1 := Lib.hid h1
  have K2 := Lib.hid h2
  have N1 := Lib.hid n1
  have N2 := Lib.hid n2
  have HX : Hid (coF lim L f v g = if (rstF lim L f v false).2.2 ≠ 0 then ((rstF lim L f v false).1, 0, (rstF lim L f v false).2.2) else
    if (rstF lim (rstF lim L f v false).1 f v true).2.2 ≠ 0 then ((rstF lim (rstF lim L f v false).1 f v true).1, 0, (rstF lim (rstF lim L f v false).1 f v true).2.2) else
    iteF lim (rstF lim (rstF lim L f v false).1 f v true).1 g (rstF lim (rstF lim L f v false).1 f v true).2.1 (rstF lim L f v false).2.1) := Lib.hid rfl
  clear M hl hlim hf hg h1 h2 n1 n2 T0 hl0
  generalize coF lim L f v g = R at *
  generalize rstF lim L f v false = r0 at *
  go_enter Try.func44, Try.ntmps44
  go_wp2_with fail
  refine HR0.out.mono ?_
  rintro e w1 ⟨ev, rfl, M1, t1, he1⟩
  have HE1 := Lib.hid he1
  have HM1 := Lib.hid M1
  have Ht1 := Lib.hid t1
  clear M1 t1 HR0
  rcases he1 with ⟨h0, rfl⟩ | ⟨hn, rfl⟩ | ⟨hn, fb, fv, rfl, -⟩
  · have H0 := Lib.hid h0
    clear h0
    have HR1 := Lib.hid (Restrict_any HLim.out HM1.out HL0.out v true HF.out)
    have HT1 := Lib.hid (rstF_told (lim := lim) HM1.out.ok f v true)
    have HL1 := Lib.hid (rstF_len (lim := lim) (B := 100000000000) HLim.out f v true HL0.out)
    generalize rstF lim r0.1 f v true = r1 at *
    go_wp2_with fail
    refine HR1.out.mono ?_
    rintro e w2 ⟨ev2, rfl, M2, t2, he2⟩
    have HE2 := Lib.hid he2
    have HM2 := Lib.hid M2
    have Ht2 := Lib.hid t2
    clear M2 t2 HR1
    rcases he2 with ⟨h1, rfl⟩ | ⟨hn, rfl⟩ | ⟨hn, fb, fv, rfl, -⟩
    · have H1 := Lib.hid h1
      clear h1
      have hx0 : fits r0.2.1 := by
        obtain ⟨_, _, h | h | h⟩ := HT0.out
        · exact bo_fits HL0.out h.2.2.cx
        · have := h.1; rw [H0.out] at this; exact absurd this (by decide)
        · have := h.1; rw [H0.out] at this; exact absurd this (by decide)
      have hx1 : fits r1.2.1 := by
        obtain ⟨_, _, h | h | h⟩ := HT1.out
        · exact bo_fits HL1.out h.2.2.cx
        · have := h.1; rw [H1.out] at this; exact absurd this (by decide)
        · have := h.1; rw [H1.out] at this; exact absurd this (by decide)
      have l1 := lt_of_heap K1.out
      have l2 := lt_of_heap K2.out
      have p1 := Ht2.out.heap (Ht1.out.heap K1.out N1.out) (fun c => c.elim N1.out (fun c => by omega))
      have p2 := Ht2.out.heap (Ht1.out.heap K2.out N2.out) (fun c => c.elim N2.out (fun c => by omega))
      have HO := Lib.hid (clo_compose HLim.out HM2.out HL1.out p1 p2 HG.out hx0 hx1)
      clear p1 p2 l1 l2
      have hR : R = iteF lim r1.1 g r1.2.1 r0.2.1 := by
        rw [HX.out, if_neg (by rw [H0.out]; decide), if_neg (by rw [H1.out]; decide)]
      have HRR := Lib.hid hR
      clear hx0 hx1 hR
      go_wp2_with fail
      refine HO.out.mono ?_
      rintro e w3 ⟨ev3, rfl, hp⟩
      have HP := Lib.hid hp
      clear hp
      go_wp2_with fail
      go_ret2
      rw [HRR.out]
      exact OpPost.step Ht1.out (OpPost.step Ht2.out ⟨ev3, rfl, HP.out⟩)
    all_goals
      have hne : r1.2.2 ≠ 0 := by first | exact hn | (rw [hn]; decide)
      have hR : R = (r1.1, 0, r1.2.2) := by rw [HX.out, if_neg (by rw [H0.out]; decide), if_pos hne]
      have HRR := Lib.hid hR
      clear hne hR hn
      go_wp2_with fail
      go_ret2
      rw [HRR.out]
      exact OpPost.step Ht1.out ⟨_, rfl, HM2.out, Ht2.out, HE2.out⟩
  all_goals
    have hne : r0.2.2 ≠ 0 := by first | exact hn | (rw [hn]; decide)
    have hR : R = (r0.1, 0, r0.2.2) := by rw [HX.out, if_pos hne]
    have HRR := Lib.hid hR
    clear hne hR hn
    go_wp2_with fail
    go_ret2
    rw [HRR.out]
    exact ⟨_, rfl, HM1.out, Ht1.out, HE1.out⟩
end
end Go.Proofs.Ytiagkbmhfgdffaa

set_option linter.unusedVariables false
set_option linter.unusedSimpArgs false
namespace Go.Proofs.Ytiagkbmhfgdffaa
open Go Go.RowKit Go.Deep Go.Maps
section
variable {w w' W : World} {mg : Nat} {lim : Int} {L : List Nd} {S : Nat → Prop}
def cpF (lim : Int) (L : List Nd) (f v g : Int) : List Nd × Int × Int := if mayb L v [f, g] = true then coF lim L f v g else (L, 0, 1)
theorem two_in (w : World) (o1 o2 : Obj) : ((w.alloc o1).alloc o2).heap[w.heap.size]? = some o1 ∧ ((w.alloc o1).alloc o2).heap[w.heap.size + 1]? = some o2 ∧ Below w.heap.size w ((w.alloc o1).alloc o2) := by
  have sz : (w.alloc o1).heap.size = w.heap.size + 1 := by simp
  have h2 := heap_alloc_new (w.alloc o1) o2
  rw [sz] at h2
  exact ⟨heap_alloc_lt _ (heap_alloc_new w o1), h2, Below.push (Below.push (Below.refl _ _) (Nat.le_refl _) _) (Nat.le_refl _) _⟩
set_option maxRecDepth 100000 in
set_option maxHeartbeats 4000000 in
theorem Compose_any (hlim : lim < 100000000000) (M : Mgr w mg lim L S) (hl : L.length < 100000000000) {f g : Int} (v : Int) (hf : fits f) (hg : fits g) :
    Calls Try.prog 22 #[.pointer (some ⟨mg, 0, none⟩), .int .i64 f, .int .i64 v, .int .i64 g] w (OpPost w mg lim S (cpF lim L f v g)) := by
  have HM := Lib.hid M
  have HL := Lib.hid hl
  have HLim := Lib.hid hlim
  have HFf := Lib.hid hf
  have HG := Lib.hid hg
  have HS : Hid (∀ k, S k → k < w.heap.size) := Lib.hid M.lt
  have hF : Hid (∀ x ∈ [f, g], fits x) := Lib.hid (by
    intro x hx
    simp only [List.mem_cons, List.not_mem_nil, or_false] at hx
    rcases hx with rfl | rfl <;> assumption)
  obtain ⟨k1, k2, kb⟩ := two_in w (.cells #[.pointer (some ⟨mg, 0, none⟩)] 23) (.cells #[.int .i64 g] 3)
  have x1 : ((w.alloc (.cells #[.pointer (some ⟨mg, 0, none⟩)] 23)).alloc (.cells #[.int .i64 g] 3)).cell? ⟨w.heap.size, 0, none⟩ = some (.pointer (some ⟨mg, 0, none⟩)) := cell_at k1 0 rfl
  have x2 : ((w.alloc (.cells #[.pointer (some ⟨mg, 0, none⟩)] 23)).alloc (.cells #[.int .i64 g] 3)).cell? ⟨w.heap.size + 1, 0, none⟩ = some (.int .i64 g) := cell_at k2 0 rfl
  have K1 := Lib.hid k1
  have K2 := Lib.hid k2
  have Kb := Lib.hid kb
  clear M hl hlim hf hg k1 k2 kb
  have HRR : Hid (cpF lim L f v g = if mayb L v [f, g] = true then coF lim L f v g else (L, 0, 1)) := Lib.hid rfl
  generalize cpF lim L f v g = R at *
  go_enter Try.func22, Try.ntmps22
  go_upto_region 1 with fail
  generalize (w.alloc (.cells #[.pointer (some ⟨mg, 0, none⟩)] 23)).alloc (.cells #[.int .i64 g] 3) = wA at *
  have hI := ints_new wA [f, g] (by unfold maxLen; simp)
  have hB : Below wA.heap.size wA (wA.alloc (.cells ([f, g].map (Value.int .i64)).toArray 3)) := Below.push (Below.refl _ _) (Nat.le_refl _) _
  simp only [List.map_cons, List.map_nil] at hI hB
  have HI := Lib.hid hI
  have HB := Lib.hid (Below.seq Kb.out (Nat.le_refl _) hB)
  have HBA := Lib.hid hB
  clear hI hB
  go_wp2_with fail
  generalize wA.alloc (.cells #[.int .i64 f, .int .i64 g] 3) = w1 at *
  refine (may_any (HM.out.below HB.out) v HI.out hF.out HL.out).mono ?_
  rintro e w2 ⟨rfl, hb2⟩
  have HB2 := Lib.hid (Below.seq HB.out (Nat.le_refl _) hb2)
  have HA2 := Lib.hid (Below.seq HBA.out (Nat.le_refl _) hb2)
  have q1 := (Touch.of_below HA2.out (fun _ => False)).heap K1.out (fun c => c)
  have q2 := (Touch.of_below HA2.out (fun _ => False)).heap K2.out (fun c => c)
  have x3 : w2.cell? ⟨w.heap.size, 0, none⟩ = some (.pointer (some ⟨mg, 0, none⟩)) := cell_at q1 0 rfl
  have HH := Lib.hid (halves_co HLim.out (HM.out.below HB2.out) HL.out v HFf.out HG.out q1 q2 (fun h => by have := HS.out _ h; omega) (fun h => by have := HS.out _ h; omega))
  clear hb2 HI HB x1 x2 q1 q2
  cases hm : mayb L v [f, g]
  · have hE : (if mayb L v [f, g] = true then coF lim L f v g else (L, 0, 1)) = (L, 0, 1) := by rw [hm]; rfl
    have HE := Lib.hid hE
    clear hm hE
    go_wp2_with fail
    go_ret2
    rw [HRR.out, HE.out]
    exact op_bad HM.out HB2.out
  · have hE : (if mayb L v [f, g] = true then coF lim L f v g else (L, 0, 1)) = coF lim L f v g := by rw [hm]; rfl
    have HE := Lib.hid hE
    clear hm hE
    go_wp2_with fail
    refine HH.out.mono ?_
    rintro e w3 ⟨ev, rfl, hp⟩
    have HP := Lib.hid hp
    clear hp
    go_wp2_with fail
    go_ret2
    rw [HRR.out, HE.out]
    exact OpPost.lift HB2.out ⟨ev, rfl, HP.out⟩
end
end Go.Proofs.Ytiagkbmhfgdffaa

set_option linter.unusedVariables false
set_option linter.unusedSimpArgs false
namespace Go.Proofs.Ytiagkbmhfgdffaa
open Go Go.RowKit Go.Deep Go.Maps
section
variable {w w' W : World} {mg : Nat} {lim : Int} {L : List Nd} {S : Nat → Prop}
def xoF (lim : Int) (L : List Nd) (f g : Int) : List Nd × Int × Int :=
  if mayb L 0 [f, g] = true then (if (iteF lim L g (-1) (-2)).2.2 ≠ 0 then ((iteF lim L g (-1) (-2)).1, 0, (iteF lim L g (-1) (-2)).2.2) else iteF lim (iteF lim L g (-1) (-2)).1 f (iteF lim L g (-1) (-2)).2.1 g) else (L, 0, 1)
set_option maxRecDepth 100000 in
set_option maxHeartbeats 4000000 in
theorem Xor_any (hlim : lim < 100000000000) (M : Mgr w mg lim L S) (hl : L.length < 100000000000) {f g : Int} (hf : fits f) (hg : fits g) :
    Calls Try.prog 23 #[.pointer (some ⟨mg, 0, none⟩), .int .i64 f, .int .i64 g] w (OpPost w mg lim S (xoF lim L f g)) := by
  have HM := Lib.hid M
  have HL := Lib.hid hl
  have HLim := Lib.hid hlim
  have HFf := Lib.hid hf
  have HG := Lib.hid hg
  have hF : Hid (∀ x ∈ [f, g], fits x) := Lib.hid (by
    intro x hx
    simp only [List.mem_cons, List.not_mem_nil, or_false] at hx
    rcases hx with rfl | rfl <;> assumption)
  have HT := Lib.hid (iteF_told (lim := lim) M.ok g (-1) (-2))
  have HL0 := Lib.hid (iteF_len (lim := lim) (B := 100000000000) hlim g (-1) (-2) hl)
  have HRR : Hid (xoF lim L f g = if mayb L 0 [f, g] = true then (if (iteF lim L g (-1) (-2)).2.2 ≠ 0 then ((iteF lim L g (-1) (-2)).1, 0, (iteF lim L g (-1) (-2)).2.2) else iteF lim (iteF lim L g (-1) (-2)).1 f (iteF lim L g (-1) (-2)).2.1 g) else (L, 0, 1)) := Lib.hid rfl
  generalize xoF lim L f g = R at *
  have hI := ints_new w [f, g] (by unfold maxLen; simp)
  have hB : Below w.heap.size w (w.alloc (.cells ([f, g].map (Value.int .i64)).toArray 3)) := Below.push (Below.refl _ _) (Nat.le_refl _) _
  simp only [List.map_cons, List.map_nil] at hI hB
  have HI := Lib.hid hI
  have HB := Lib.hid hB
  clear M hl hlim hf hg hI hB
  go_enter Try.func23, Try.ntmps23
  go_wp2_with fail
  generalize w.alloc (.cells #[.int .i64 f, .int .i64 g] 3) = w1 at *
  refine (may_any (HM.out.below HB.out) 0 HI.out hF.out HL.out).mono ?_
  rintro e w2 ⟨rfl, hb2⟩
  have HB2 := Lib.hid (Below.seq HB.out (Nat.le_refl _) hb2)
  have HN := Lib.hid (Not_any HLim.out (HM.out.below HB2.out) HL.out HG.out)
  clear hb2 HI HB
  cases hm : mayb L 0 [f, g]
  · have HE : Hid (R = (L, 0, 1)) := Lib.hid (by rw [HRR.out, hm]; rfl)
    clear hm
    go_wp2_with fail
    go_ret2
    rw [HE.out]
    exact op_bad HM.out HB2.out
  · have HE : Hid (R = if (iteF lim L g (-1) (-2)).2.2 ≠ 0 then ((iteF lim L g (-1) (-2)).1, 0, (iteF lim L g (-1) (-2)).2.2) else iteF lim (iteF lim L g (-1) (-2)).1 f (iteF lim L g (-1) (-2)).2.1 g) := Lib.hid (by rw [HRR.out, if_pos hm])
    clear hm HRR
    generalize iteF lim L g (-1) (-2) = r0 at *
    go_wp2_with fail
    refine HN.out.mono ?_
    rintro e w3 ⟨ev, rfl, M3, t3, he3⟩
    have HM3 := Lib.hid M3
    have Ht3 := Lib.hid t3
    have HE3 := Lib.hid he3
    clear M3 t3
    rcases he3 with ⟨h0, rfl⟩ | ⟨hn, rfl⟩ | ⟨hn, fb, fv, rfl, -⟩
    · have hx0 : fits r0.2.1 := by
        obtain ⟨_, _, h | h | h⟩ := HT.out
        · exact bo_fits HL0.out h.2.2.cx
        · have := h.1; rw [h0] at this; exact absurd this (by decide)
        · have := h.1; rw [h0] at this; exact absurd this (by decide)
      have HE2 : Hid (R = iteF lim r0.1 f r0.2.1 g) := Lib.hid (by rw [HE.out, if_neg (by rw [h0]; decide)])
      have HO := Lib.hid (Ite_any HLim.out HM3.out HL0.out HFf.out hx0 HG.out)
      clear hx0 h0 HE
      go_wp2_with fail
      refine HO.out.mono ?_
      rintro e w4 ⟨ev4, rfl, hp⟩
      have HP := Lib.hid hp
      clear hp
      go_wp2_with fail
      go_ret2
      rw [HE2.out]
      exact OpPost.lift HB2.out (OpPost.step Ht3.out ⟨ev4, rfl, HP.out⟩)
    all_goals
      have hne : r0.2.2 ≠ 0 := by first | exact hn | (rw [hn]; decide)
      have HE2 : Hid (R = (r0.1, 0, r0.2.2)) := Lib.hid (by rw [HE.out, if_pos hne])
      clear hne hn HE
      go_wp2_with fail
      go_ret2
      rw [HE2.out]
      exact OpPost.lift HB2.out ⟨_, rfl, HM3.out, Ht3.out, HE3.out⟩
end
end Go.Proofs.Ytiagkbmhfgdffaa

set_option linter.unusedVariables false
set_option linter.unusedSimpArgs false
namespace Go.Proofs.Ytiagkbmhfgdffaa
theorem ok_nil : Ar.Ok [] := ⟨List.nodup_nil, fun i h => absurd h (Nat.not_lt_zero _)⟩
theorem odd_isb {r : Int} (h1 : r ≠ -1) (h2 : r ≠ -2) : Ar.isb [] r = false := by
  cases h : Ar.isb [] r
  · rfl
  · cases (Ar.isb_iff ok_nil r).1 h with
    | no => exact absurd rfl h1
    | yes => exact absurd rfl h2
    | node hn _ _ => have := hn.1; have := hn.2; simp at this; omega
theorem odd_may {r v : Int} {xs : List Int} (h1 : r ≠ -1) (h2 : r ≠ -2) (hx : r ∈ xs) : mayb [] v xs = false := by
  unfold mayb
  have : xs.all (Ar.isb []) = false := by
    cases h : xs.all (Ar.isb [])
    · rfl
    · rw [List.all_eq_true] at h
      have := h r hx
      rw [odd_isb h1 h2] at this; cases this
  rw [this]; rfl
theorem odd_ite {lim r f g h : Int} (h1 : r ≠ -1) (h2 : r ≠ -2) (hx : r ∈ [f, g, h]) : iteF lim [] f g h = ([], 0, 1) := by
  unfold iteF; rw [odd_may h1 h2 hx]; rfl
theorem odd_rst {lim r v : Int} {d : Bool} (h1 : r ≠ -1) (h2 : r ≠ -2) : rstF lim [] r v d = ([], 0, 1) := by
  unfold rstF; rw [odd_may h1 h2 (List.mem_singleton.2 rfl)]; rfl
theorem odd_cp {lim r v g : Int} (h1 : r ≠ -1) (h2 : r ≠ -2) : cpF lim [] r v g = ([], 0, 1) := by
  unfold cpF; rw [odd_may h1 h2 (List.mem_cons_self ..)]; rfl
theorem odd_xo {lim r g : Int} (h1 : r ≠ -1) (h2 : r ≠ -2) : xoF lim [] r g = ([], 0, 1) := by
  unfold xoF; rw [odd_may h1 h2 (List.mem_cons_self ..)]; rfl
theorem odd_supp {r : Int} (h1 : r ≠ -1) (h2 : r ≠ -2) : suppF [] r = 0 := by
  unfold suppF; rw [odd_isb h1 h2]; rfl
end Go.Proofs.Ytiagkbmhfgdffaa
