/- Walks of package node, the calls that only read: what each answers of an arena. -/
import Derived.Test.YtknoigebkpapoaaDoorRows
import Derived.Test.YtknoigebkpapoaaDoorWd
import Derived.Deep.QuietTactic
import Derived.BigQuiet
set_option linter.unusedVariables false
set_option linter.unusedSimpArgs false
namespace Go.Proofs.YtknoigebkpapoaaDoor
open Go.RowKit

/-- An arena in memory: its box b, the row of nodes, the table of places. -/
structure ArenaAt (w : World) (b : Nat) (lim : Int) (L : List Nd) (vl : Value) (bp : Nat) (PL : List Nat) (cp : Nat) (tl : List Value) : Prop where
  box : w.heap[b]? = some (.cells #[.int .i64 lim, vl, .slice (some ⟨bp, 0, none⟩) PL.length cp] 91 (0, 0))
  row : w.ownsRow 0 57 3 vl L.length (cellsOf L)
  plc : w.heap[bp]? = some (.cells (PL.map (fun (n : Nat) => Value.int .i64 (n : Int)) ++ tl).toArray 3 (0, 0))
  tab : Ar.Tab hsh PL L L.length
  half : 2 * L.length < PL.length
  small : PL.length ≤ 16 + 4 * L.length
  few : L.length ≤ 100000000000
  big : 16 ≤ PL.length
  ap1 : vl.ownBlock ≠ some b
  ap2 : vl.ownBlock ≠ some bp
  ap3 : b ≠ bp
  ok : Ar.Ok L

def foot (b : Nat) (vl : Value) (bp : Nat) (k : Nat) : Prop := k = b ∨ vl.ownBlock = some k ∨ k = bp

/-- A number of the table. -/
theorem place_cell {w : World} {bp : Nat} {PL : List Nat} {tl : List Value} (h : w.heap[bp]? = some (.cells (PL.map (fun (n : Nat) => Value.int .i64 (n : Int)) ++ tl).toArray 3 (0, 0))) (s : Nat) (hs : s < PL.length) :
    w.cell? ⟨bp, s, none⟩ = some (.int .i64 (PL[s] : Nat)) :=
  cell_at h s (by rw [List.getElem?_toArray, List.getElem?_append_left (by simpa using hs), List.getElem?_map, List.getElem?_eq_getElem hs]; rfl)

/-- An arena, all of whose blocks are of S. -/
def Arena (w : World) (b : Nat) (lim : Int) (L : List Nd) (S : Nat → Prop) : Prop :=
  ∃ vl bp PL cp tl, ArenaAt w b lim L vl bp PL cp tl ∧ ∀ k, foot b vl bp k → S k

theorem ArenaAt.touch {w w' : World} {S : Nat → Prop} {b : Nat} {lim : Int} {L : List Nd} {vl : Value} {bp : Nat} {PL : List Nat} {cp : Nat} {tl : List Value} (A : ArenaAt w b lim L vl bp PL cp tl) (t : Touch w w' S)
    (hs : ∀ k, foot b vl bp k → ¬ S k) : ArenaAt w' b lim L vl bp PL cp tl :=
  { A with box := t.heap A.box (hs _ (.inl rfl)), row := ownsRow_touch A.row t (fun k h => hs _ (.inr (.inl h))), plc := t.heap A.plc (hs _ (.inr (.inr rfl))) }
theorem Arena.touch {w w' : World} {S S' : Nat → Prop} {b : Nat} {lim : Int} {L : List Nd} (A : Arena w b lim L S) (t : Touch w w' S') (hs : ∀ k, k < w.heap.size → S k → ¬ S' k) : Arena w' b lim L S := by
  obtain ⟨vl, bp, PL, cp, tl, A, hf⟩ := A
  refine ⟨vl, bp, PL, cp, tl, A.touch t (fun k hk => ?_), hf⟩
  rcases hk with rfl | hk | rfl
  · exact hs _ (lt_of_heap A.box) (hf _ (.inl rfl))
  · exact hs _ (A.row.lt k hk).2 (hf _ (.inr (.inl hk)))
  · exact hs _ (lt_of_heap A.plc) (hf _ (.inr (.inr rfl)))
theorem Arena.mono {w : World} {S S' : Nat → Prop} {b : Nat} {lim : Int} {L : List Nd} (A : Arena w b lim L S) (h : ∀ k, S k → S' k) : Arena w b lim L S' := by
  obtain ⟨vl, bp, PL, cp, tl, A, hf⟩ := A
  exact ⟨vl, bp, PL, cp, tl, A, fun k hk => h _ (hf k hk)⟩
theorem Arena.lt {w : World} {S : Nat → Prop} {b : Nat} {lim : Int} {L : List Nd} (A : Arena w b lim L S) : b < w.heap.size := by
  obtain ⟨vl, bp, PL, cp, tl, A, hf⟩ := A; exact lt_of_heap A.box
theorem Arena.ok {w : World} {S : Nat → Prop} {b : Nat} {lim : Int} {L : List Nd} (A : Arena w b lim L S) : Ar.Ok L := by
  obtain ⟨vl, bp, PL, cp, tl, A, hf⟩ := A; exact A.ok

section
variable {w : World} {b : Nat} {lim : Int} {L : List Nd} {vl : Value} {bp : Nat} {PL : List Nat} {cp : Nat} {tl : List Value}
theorem ArenaAt.lt (A : ArenaAt w b lim L vl bp PL cp tl) : b < w.heap.size := lt_of_heap A.box
theorem ArenaAt.c0 (A : ArenaAt w b lim L vl bp PL cp tl) : w.cell? ⟨b, 0, none⟩ = some (.int .i64 lim) := cell_at A.box 0 rfl
theorem ArenaAt.c1 (A : ArenaAt w b lim L vl bp PL cp tl) : w.cell? ⟨b, 1, none⟩ = some vl := cell_at A.box 1 rfl
theorem ArenaAt.c2 (A : ArenaAt w b lim L vl bp PL cp tl) : w.cell? ⟨b, 2, none⟩ = some (.slice (some ⟨bp, 0, none⟩) PL.length cp) := cell_at A.box 2 rfl
theorem ArenaAt.shape (A : ArenaAt w b lim L vl bp PL cp tl) : (∃ ao cap, vl = .slice ao L.length cap) ∧ L.length ≤ 9223372036854775807 := by
  rcases A.row.2 with ⟨rfl, h⟩ | ⟨g, cap, cur, rfl, _, _, h1, h2, _⟩
  · exact ⟨⟨none, 0, by rw [h]⟩, by omega⟩
  · unfold maxLen at h2; exact ⟨⟨_, _, rfl⟩, by omega⟩
theorem row_node {w : World} {T : TypeId} {L : List Nd} {vl : Value} (hr : w.ownsRow 0 T 3 vl L.length (cellsOf L)) (k : Nat) (hk : k < L.length) :
    ∃ bl cap, vl = .slice (some ⟨bl, 0, none⟩) L.length cap ∧ bl < w.heap.size ∧ L.length ≤ 9223372036854775807 ∧
      w.cell? ⟨bl, k * 3, none⟩ = some (.int .i64 L[k].v) ∧ w.cell? ⟨bl, k * 3 + 1, none⟩ = some (.int .i64 L[k].l) ∧ w.cell? ⟨bl, k * 3 + 2, none⟩ = some (.int .i64 L[k].h) := by
  obtain ⟨h0, h1, h2⟩ := cellsOf_get L k hk
  have hr' := hr
  rcases hr.2 with ⟨rfl, h⟩ | ⟨g, cap, cur, rfl, _, hg, hc1, hc2, _⟩
  · omega
  · have hc := hr'.cells (g := g) rfl
    have e : ∀ j, (⟨g, 0, none⟩ : Addr).add j = ⟨g, j, none⟩ := fun j => by unfold Addr.add; split <;> simp_all
    unfold maxLen at hc2
    exact ⟨g, cap, rfl, lt_of_heap hg, by omega, by rw [← e]; exact hc _ _ h0, by rw [← e]; exact hc _ _ h1, by rw [← e]; exact hc _ _ h2⟩
theorem ArenaAt.node (A : ArenaAt w b lim L vl bp PL cp tl) (k : Nat) (hk : k < L.length) :
    ∃ bl cap, vl = .slice (some ⟨bl, 0, none⟩) L.length cap ∧ bl < w.heap.size ∧ L.length ≤ 9223372036854775807 ∧
      w.cell? ⟨bl, k * 3, none⟩ = some (.int .i64 L[k].v) ∧ w.cell? ⟨bl, k * 3 + 1, none⟩ = some (.int .i64 L[k].l) ∧ w.cell? ⟨bl, k * 3 + 2, none⟩ = some (.int .i64 L[k].h) := by
  exact row_node A.row k hk
end

section
variable {w : World} {b : Nat} {lim : Int} {L : List Nd} {S : Nat → Prop}

set_option maxHeartbeats 400000 in
theorem get_in (A : Arena w b lim L S) (k : Nat) (hk : k < L.length) :
    Calls Tryd.prog 29 #[.pointer (some ⟨b, 0, none⟩), .int .i64 k] w fun e w' =>
      e = .returned (.tuple #[.agg #[.int .i64 L[k].v, .int .i64 L[k].l, .int .i64 L[k].h], .bool true]) ∧ Below w.heap.size w w' := by
  obtain ⟨vl, bp, PL, cp, tl, A, hf⟩ := A
  have hb := A.lt
  have h1 := A.c1
  obtain ⟨bl, cap, rfl, hbl, hn, e0, e1, e2⟩ := A.node k hk
  clear A hf
  go_enter Tryd.func29, Tryd.ntmps29
  go_wp2
  exact bodyPost_ret (v := .tuple #[.agg #[.int .i64 L[k].v, .int .i64 L[k].l, .int .i64 L[k].h], .bool true]) (by simp [results, Tryd.results29, go_sem]) rfl ⟨rfl, (Below.refl _ _).alloc (Nat.le_refl _) _⟩

set_option maxHeartbeats 400000 in
theorem get_out (A : Arena w b lim L S) (r : Int) (hr : ¬ Ar.isN L r) :
    Calls Tryd.prog 29 #[.pointer (some ⟨b, 0, none⟩), .int .i64 r] w fun e w' =>
      e = .returned (.tuple #[.agg #[.int .i64 0, .int .i64 0, .int .i64 0], .bool false]) ∧ Below w.heap.size w w' := by
  obtain ⟨vl, bp, PL, cp, tl, A, hf⟩ := A
  have hb := A.lt
  have h1 := A.c1
  obtain ⟨⟨ao, cap, rfl⟩, hn⟩ := A.shape
  clear A hf
  unfold Ar.isN at hr
  by_cases h0 : r < 0
  · clear hr
    go_enter Tryd.func29, Tryd.ntmps29
    go_wp2
    exact bodyPost_ret (v := .tuple #[.agg #[.int .i64 0, .int .i64 0, .int .i64 0], .bool false]) (by simp [results, Tryd.results29, go_sem]) rfl ⟨rfl, (Below.refl _ _).alloc (Nat.le_refl _) _⟩
  · have h2 : (L.length : Int) ≤ r := by omega
    clear hr
    go_enter Tryd.func29, Tryd.ntmps29
    go_wp2
    exact bodyPost_ret (v := .tuple #[.agg #[.int .i64 0, .int .i64 0, .int .i64 0], .bool false]) (by simp [results, Tryd.results29, go_sem]) rfl ⟨rfl, (Below.refl _ _).alloc (Nat.le_refl _) _⟩

theorem term_most (w : World) : Calls Tryd.prog 33 #[.int .i64 1099511627776] w fun e w' => e = .returned (.int .i64 (-1099511627777)) ∧ w = w' := by
  go_enter Tryd.func33, Tryd.ntmps33
  go_wp2
  go_ret
  exact ⟨rfl, rfl⟩

set_option maxHeartbeats 400000 in
theorem has_any (A : Arena w b lim L S) (r : Int) :
    Calls Tryd.prog 31 #[.pointer (some ⟨b, 0, none⟩), .int .i64 r] w fun e w' => e = .returned (.bool (decide (Ar.has L r))) ∧ w = w' := by
  obtain ⟨vl, bp, PL, cp, tl, A, hf⟩ := A
  have h1 := A.c1
  obtain ⟨⟨ao, cap, rfl⟩, hn⟩ := A.shape
  clear A hf
  by_cases h0 : r < -1099511627777
  · go_enter Tryd.func31, Tryd.ntmps31
    go_wp2_with (go_at_call 33; refine (term_most _).mono ?_; rintro e w' ⟨rfl, rfl⟩)
    go_ret
    exact ⟨ret_eq (show Value.bool false = _ by congr 1; exact (decide_eq_false (by unfold Ar.has Ar.low; omega)).symm), rfl⟩
  · have h0' : -1099511627777 ≤ r := by omega
    clear h0
    go_enter Tryd.func31, Tryd.ntmps31
    go_wp2_with (go_at_call 33; refine (term_most _).mono ?_; rintro e w' ⟨rfl, rfl⟩)
    go_ret
    exact ⟨ret_eq (show Value.bool (decide (r < (L.length : Int))) = _ by congr 1; simp [Ar.has, Ar.low, h0']), rfl⟩

theorem Ar.nd_at {L : List Nd} {k : Nat} (h : k < L.length) : Ar.nd L k = L[k] := by simp [Ar.nd, List.getD, h]

set_option maxHeartbeats 400000 in
theorem var_any (A : Arena w b lim L S) (r : Int) :
    Calls Tryd.prog 30 #[.pointer (some ⟨b, 0, none⟩), .int .i64 r] w fun e w' => e = .returned (.int .i64 (Ar.var L r)) ∧ Below w.heap.size w w' := by
  by_cases h : Ar.isN L r
  · have hv : Ar.var L r = (Ar.nd L r).v := by simp [Ar.var, h]
    rw [hv]
    obtain ⟨k, rfl⟩ : ∃ k : Nat, r = k := ⟨r.toNat, by unfold Ar.isN at h; omega⟩
    have hk : k < L.length := by unfold Ar.isN at h; omega
    rw [Ar.nd_at hk]
    clear h hv
    go_enter Tryd.func30, Tryd.ntmps30
    go_wp2_with (go_at_call 29; refine (get_in A k hk).mono ?_; rintro e w' ⟨rfl, hb⟩)
    go_ret
    exact ⟨rfl, (hb.alloc hb.size _)⟩
  · have hv : Ar.var L r = 12 := by simp [Ar.var, h]
    rw [hv]
    clear hv
    go_enter Tryd.func30, Tryd.ntmps30
    go_wp2_with (go_at_call 29; refine (get_out A r h).mono ?_; rintro e w' ⟨rfl, hb⟩)
    go_ret
    exact ⟨rfl, (hb.alloc hb.size _)⟩

set_option maxHeartbeats 400000 in
theorem len_any (A : Arena w b lim L S) :
    Calls Tryd.prog 27 #[.pointer (some ⟨b, 0, none⟩)] w fun e w' => e = .returned (.int .i64 L.length) ∧ w = w' := by
  obtain ⟨vl, bp, PL, cp, tl, A, hf⟩ := A
  have h1 := A.c1
  obtain ⟨⟨ao, cap, rfl⟩, hn⟩ := A.shape
  clear A hf
  go_enter Tryd.func27, Tryd.ntmps27
  go_wp2
  go_ret
  exact ⟨rfl, rfl⟩
end

end Go.Proofs.YtknoigebkpapoaaDoor
