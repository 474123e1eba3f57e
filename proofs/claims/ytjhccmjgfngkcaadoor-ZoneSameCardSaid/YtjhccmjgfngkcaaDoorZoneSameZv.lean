/- Rows of ints and zones in memory; what the small printed functions of a zone come to; own. -/
import Derived.Test.YtjhccmjgfngkcaaDoorPZoneSamex2
import Derived.Test.YtjhccmjgfngkcaaDoorPZoneSamex3
import Derived.Test.YtjhccmjgfngkcaaDoorPZoneSamex4
import Derived.Test.YtjhccmjgfngkcaaDoorPZoneSamex11
import Derived.Test.YtjhccmjgfngkcaaDoorPZoneSamex16
import Derived.Test.YtjhccmjgfngkcaaDoorPZoneSamex8
import Derived.Test.YtjhccmjgfngkcaaDoorZoneSameZb
import Derived.Test.YtjhccmjgfngkcaaDoorPm
import Derived.Test.YtjhccmjgfngkcaaDoorWLast
import Derived.Test.YtjhccmjgfngkcaaDoorWMore
import Derived.Test.YtjhccmjgfngkcaaDoorWFour
set_option linter.unusedVariables false
set_option linter.unusedSimpArgs false
namespace Go.Proofs.YtjhccmjgfngkcaaDoor.PZoneSame
open Go Go.RowKit Go.Shelf Go.Deep Go.Proofs.YtjhccmjgfngkcaaDoorW.PrintWords Go.Proofs.YtjhccmjgfngkcaaDoorW.PrintLast Go.Proofs.YtjhccmjgfngkcaaDoorW.PrintMore
open Zn (botN wholeB wholeB_iff nearZ upd)
variable {w : World}
attribute [local go_sem] Oper.semAt_some

theorem psh {B : Nat} {a w : World} (h : Below B a w) (h0 : B ≤ a.heap.size) (o : Obj) : Below B a (w.alloc o) := h.alloc (Nat.le_trans h0 h.size) o
theorem cells2 {w1 : World} {b : Nat} {x y : Value} {T : TypeId} (h : w1.heap[b]? = some (.cells #[x, y] T (0, 0))) : w1.cell? ⟨b, 0, none⟩ = some x ∧ w1.cell? ⟨b, 1, none⟩ = some y ∧ w1.frozen? ⟨b, 0, none⟩ = false ∧ w1.frozen? ⟨b, 1, none⟩ = false :=
  ⟨hp_cell h 0 rfl, hp_cell h 1 rfl, hp_free h 0, hp_free h 1⟩
theorem zput {w1 : World} {b : Nat} {x y : Value} {T : TypeId} (h : w1.heap[b]? = some (.cells #[x, y] T (0, 0))) (u v : Value) : ((w1.setCell ⟨b, 0, none⟩ u).setCell ⟨b, 1, none⟩ v).heap[b]? = some (.cells #[u, v] T (0, 0)) := by
  have h1 := blk_set h 0 u
  have h2 := blk_set h1 1 v
  simpa using h2
/-- A zone in a heap cell is what a function answers. -/
theorem zret {fn : Func} {p : Tmp} (h : fn.results = #[.cell p 27]) (tmps : Array Value) (w : World) (g : Nat) {x y : Value} (hg : w.heap[g]? = some (.cells #[x, y] 27 (0, 0))) (hp : tmps.getD p undef = .pointer (some ⟨g, 0, none⟩)) :
    (results fn tmps).run Tryd.prog w = .ok (.agg #[x, y]) w := results_cell_row h tmps w g _ _ _ _ hp hg Tryd.underlying27 rfl (by kernel_rfl)
/-- A region that draws in a round, whose last operation stores into what it reads. -/
theorem start_round {P : Program} {ops : Array Oper} {Q : Exit → Act → World → Prop} {S : World → Prop} {ds : List Nat} {l' n' : Nat} {id n : Nat} {a : Act} {w : World} (l : Array Bool) (hm : P.follows .mixedOrders = true) (hn : ops.size = n) (hl : Array.replicate n false = l)
    (hd : noDefer ops = true) (hlo : ¬ LetsOut Q) (hS : S w.drew)
    (h : S w.drew → wpAnyLast P .any ops Q S ds n l a w.drew) : (Code.region id ops true).wpIn (Fence.wide.inRound l') n' P Q a w := by
  subst hn
  subst hl
  exact region_round hm (noDefer_spec hd) hlo (wpAny_of_last _ _ _ _ (h hS))

def IntsAt (w : World) (v : Value) (l : List Int) : Prop :=
  ∃ ao c, v = .slice ao l.length c ∧ l.length ≤ c ∧ l.length ≤ 9223372036854775807 ∧ (l ≠ [] → ∃ b off, ao = some ⟨b, off, none⟩ ∧ b < w.heap.size ∧ ∀ j, j < l.length → w.cell? ⟨b, off + j, none⟩ = some (.int .i64 (l.getD j 0)))
theorem IntsAt.below {w w' : World} {v : Value} {l : List Int} (h : IntsAt w v l) (hb : Below w.heap.size w w') : IntsAt w' v l := by
  obtain ⟨ao, c, e, h0, h1, h2⟩ := h
  refine ⟨ao, c, e, h0, h1, fun hn => ?_⟩
  obtain ⟨b, off, e2, h3, h4⟩ := h2 hn
  exact ⟨b, off, e2, Nat.lt_of_lt_of_le h3 hb.size, fun j hj => (hb.cell (p := ⟨b, off + j, none⟩) h3).trans (h4 j hj)⟩
theorem IntsAt.row {w : World} {v : Value} {l : List Int} (h : IntsAt w v l) : ∃ A c, v = .slice A l.length c ∧ l.length ≤ c ∧ Kd.C (Kd.int .i64) w A l.length l := by
  obtain ⟨ao, c, e, h0, h1, h2⟩ := h
  refine ⟨ao, c, e, h0, rfl, h1, fun hn => ?_⟩
  obtain ⟨b, off, e2, h3, h4⟩ := h2 (by intro e; rw [e] at hn; simp at hn)
  refine ⟨_, e2, fun j p hj => ⟨[.int .i64 p], rfl, rfl, fun i u hu => ?_⟩⟩
  have hjl : j < l.length := (List.getElem?_eq_some_iff.1 hj).1
  cases i with
  | zero =>
    have := h4 j hjl
    simp at hu
    subst hu
    show w.cell? ((⟨b, off, none⟩ : Addr).add (j * 1 + 0)) = some (.int .i64 p)
    rw [show (⟨b, off, none⟩ : Addr).add (j * 1 + 0) = ⟨b, off + j, none⟩ from by unfold Addr.add; split <;> simp_all, this]
    simp [List.getD, hj]
  | succ i => simp at hu
theorem own_ints {wr : World} {base : Nat} {v : Value} {l : List Int} (h : wr.ownsRow base 3 1 v l.length (l.map (Value.int .i64))) : IntsAt wr v l := by
  have h' := h
  rcases h.2 with ⟨rfl, hn⟩ | ⟨g, cap, cur, rfl, hb1, hgg, h1, h2, h3⟩
  · obtain rfl : l = [] := List.length_eq_zero_iff.1 hn
    exact ⟨none, 0, rfl, by simp, by simp, fun h => absurd rfl h⟩
  · unfold maxLen at h2
    refine ⟨_, _, rfl, h1, by omega, fun _ => ⟨g, 0, rfl, blk_lt hgg, fun j hj => ?_⟩⟩
    have hc := h'.cells (g := g) rfl
    have := hc j (.int .i64 (l.getD j 0)) (by simp [List.getD, hj])
    rw [Addr.add_lit] at this
    exact this
theorem ints_of_row {base : Nat} {ok : Nat → Prop} {v : Value} {l : List Int} (h : Kd.R (Kd.int .i64) 3 w base ok v l) : IntsAt w v l := by
  obtain ⟨A, c, rfl, hc, hC⟩ := Kd.R_reads h
  obtain ⟨inner, ho⟩ := Kd.R_own h
  rcases ho.2 with ⟨e, hn⟩ | ⟨g, cap, cur, e, hb1, hgg, h1, h2, h3⟩
  · obtain rfl : l = [] := List.length_eq_zero_iff.1 hn
    exact ⟨A, c, rfl, hc, by simp, fun h => absurd rfl h⟩
  · injection e with e1 e2 e3
    subst e1
    unfold maxLen at h2
    refine ⟨_, _, rfl, hc, by omega, fun hne => ⟨g, 0, rfl, blk_lt hgg, fun j hj => ?_⟩⟩
    obtain ⟨_, _, hC⟩ := hC
    obtain ⟨a, ea, hr⟩ := hC (by omega)
    injection ea with ea
    subst ea
    obtain ⟨cs, hl, hcs, hcell⟩ := hr j (l.getD j 0) (by simp [List.getD, hj])
    have hcs' : cs = [.int .i64 (l.getD j 0)] := hcs
    subst hcs'
    have := hcell 0 _ rfl
    rw [Addr.add_lit] at this
    simpa [Kd.int, Kd.scalar] using this

theorem ints_of_C {A : Option Addr} {c : Nat} {l : List Int} (h : Kd.C (Kd.int .i64) w A l.length l) (hc : l.length ≤ c) : IntsAt w (.slice A l.length c) l := by
  obtain ⟨_, h1, h2⟩ := h
  refine ⟨A, c, rfl, hc, h1, fun hn => ?_⟩
  have h0 : 0 < l.length := List.length_pos_iff.2 hn
  obtain ⟨a, rfl, hr⟩ := h2 h0
  obtain ⟨b, o, sp⟩ := a
  have cells : ∀ j, j < l.length → w.cell? ((⟨b, o, sp⟩ : Addr).add j) = some (.int .i64 (l.getD j 0)) := fun j hj => by
    obtain ⟨cs, hl, hcs, hcell⟩ := hr j (l.getD j 0) (by simp [List.getD, hj])
    have hcs' : cs = [.int .i64 (l.getD j 0)] := hcs
    subst hcs'
    have := hcell 0 _ rfl
    simpa [Kd.int, Kd.scalar] using this
  have c0 := cells 0 h0
  obtain rfl : sp = none := by simpa [Addr.add] using World.cell?_spot c0
  refine ⟨b, o, rfl, ?_, fun j hj => ?_⟩
  · have := World.block_lt_of_cell? w _ c0
    simpa [Addr.add] using this
  · have := cells j hj
    rwa [Addr.add_lit] at this
/-- A zone, as a value. -/
def ZAt (w : World) (v : Value) (N : Int) (L : List Int) : Prop := ∃ s, v = .agg #[.int .i64 N, s] ∧ IntsAt w s L
theorem ZAt.below {w w' : World} {v : Value} {N : Int} {l : List Int} (h : ZAt w v N l) (hb : Below w.heap.size w w') : ZAt w' v N l := by
  obtain ⟨s, e, h⟩ := h
  exact ⟨s, e, h.below hb⟩
theorem ZAt.row {v : Value} {N : Int} {l : List Int} (h : ZAt w v N l) : ∃ A c, v = .agg #[.int .i64 N, .slice A l.length c] ∧ l.length ≤ c ∧ Kd.C (Kd.int .i64) w A l.length l := by
  obtain ⟨s, rfl, h⟩ := h
  obtain ⟨A, c, rfl, h1, h2⟩ := h.row
  exact ⟨A, c, rfl, h1, h2⟩
theorem IntsAt.set {w : World} {A : Option Addr} {n c : Nat} {l : List Int} (h : IntsAt w (.slice A n c) l) (p : Addr) (v : Value) (hp : ∀ a, A = some a → l ≠ [] → a.block ≠ p.block) : IntsAt (w.setCell p v) (.slice A n c) l := by
  obtain ⟨ao, c', e, h0, h1, h2⟩ := h
  injection e with e1 e2 e3
  refine ⟨ao, c', by rw [← e1, ← e2, ← e3], h0, h1, fun hn => ?_⟩
  obtain ⟨b, off, e4, h3, h4⟩ := h2 hn
  refine ⟨b, off, e4, by simpa using h3, fun j hj => ?_⟩
  exact (World.cell?_of_block (a := ⟨b, off + j, none⟩) (Below.heap_setCell w p v b (hp ⟨b, off, none⟩ (by rw [e1, e4]) hn))).trans (h4 j hj)
theorem IntsAt.kept {w W' : World} {v : Value} {l : List Int} (h : IntsAt w v l) (hk : ∀ k, k < w.heap.size → (∀ a n c, v = .slice (some a) n c → l ≠ [] → a.block ≠ k) ∨ W'.heap[k]? = w.heap[k]?) : IntsAt W' v l := by
  obtain ⟨ao, c', e, h0, h1, h2⟩ := h
  refine ⟨ao, c', e, h0, h1, fun hn => ?_⟩
  obtain ⟨b, off, e4, h3, h4⟩ := h2 hn
  have hb : W'.heap[b]? = w.heap[b]? := by
    rcases hk b h3 with h | h
    · exact absurd rfl (h ⟨b, off, none⟩ _ _ (by rw [e, e4]) hn)
    · exact h
  refine ⟨b, off, e4, ?_, fun j hj => (World.cell?_of_block (a := ⟨b, off + j, none⟩) hb).trans (h4 j hj)⟩
  have h5 : w.heap[b]? = some w.heap[b] := Array.getElem?_eq_getElem h3
  exact hp_lt (hb.trans h5)
/-- A zone whose row is of the call's own. -/
def ZNew (B : Nat) (w : World) (v : Value) (N : Int) (L : List Int) : Prop := ∃ A c, v = .agg #[.int .i64 N, .slice A L.length c] ∧ IntsAt w (.slice A L.length c) L ∧ ∀ a, A = some a → L ≠ [] → B ≤ a.block
theorem ZNew.zat {B : Nat} {v : Value} {N : Int} {L : List Int} (h : ZNew B w v N L) : ZAt w v N L := by
  obtain ⟨A, c, rfl, h1, _⟩ := h
  exact ⟨_, rfl, h1⟩
theorem ZNew.below {B : Nat} {w' : World} {v : Value} {N : Int} {L : List Int} (h : ZNew B w v N L) (hb : Below w.heap.size w w') : ZNew B w' v N L := by
  obtain ⟨A, c, rfl, h1, h2⟩ := h
  exact ⟨A, c, rfl, h1.below hb, h2⟩
theorem ZNew.lower {B B' : Nat} {v : Value} {N : Int} {L : List Int} (h : ZNew B w v N L) (hb : B' ≤ B) : ZNew B' w v N L := by
  obtain ⟨A, c, rfl, h1, h2⟩ := h
  exact ⟨A, c, rfl, h1, fun a e hn => Nat.le_trans hb (h2 a e hn)⟩
/-- What answers a zone. -/
def ZPost (w : World) (z : Int × List Int) (e : Ending) (w' : World) : Prop := ∃ v, e = .returned v ∧ ZNew w.heap.size w' v z.1 z.2 ∧ Below w.heap.size w w'

theorem Bottom_any (N : Int) (w : World) : Calls Tryd.prog 27 #[.int .i64 N] w fun e w' => ∃ v, e = .returned (.agg #[.int .i64 (botN N), v]) ∧ IntsAt w' v [] ∧ Below w.heap.size w w' := by
  refine (zone_Bottom.calls N (botN N) [] w ?_).mono ?_
  · unfold zone_Bottom.f zone_may.f botN
    by_cases h0 : 0 ≤ N
    · by_cases h6 : N ≤ 6
      · simp [h0, h6]
      · simp [h0, h6]
    · simp [h0]
  · rintro e w' ⟨v, rfl, hr, hb⟩
    exact ⟨v, rfl, ints_of_row hr, hb⟩
theorem wrap_id {x : Int} (h0 : -9223372036854775808 ≤ x) (h1 : x < 9223372036854775808) : wrap64 x = x := by unfold wrap64; omega
theorem whole_any {v : Value} {N : Int} {L : List Int} (h : ZAt w v N L) : Calls Tryd.prog 54 #[v] w fun e w' => e = .returned (.bool (wholeB N L)) ∧ Below w.heap.size w w' := by
  obtain ⟨A, c, rfl, hc, hC⟩ := h.row
  refine zone_Zone_whole.calls N A c L _ w hC hc ?_
  unfold zone_Zone_whole.f zone_may.f wholeB
  by_cases h0 : 0 ≤ N
  · by_cases h6 : N ≤ 6
    · obtain ⟨k, rfl⟩ := Int.eq_ofNat_of_zero_le h0
      have hk : k ≤ 6 := by omega
      have e1 : wrap64 ((k : Int) + 1) = ((k + 1 : Nat) : Int) := by rw [wrap_id (by omega) (by omega)]; omega
      have e2 : wrap64 (((k + 1 : Nat) : Int) * ((k + 1 : Nat) : Int)) = (((k + 1) * (k + 1) : Nat) : Int) := by
        rw [← Int.natCast_mul]
        have : (k + 1) * (k + 1) ≤ 49 := Nat.mul_le_mul (by omega : k + 1 ≤ 7) (by omega : k + 1 ≤ 7)
        exact wrap_id (by omega) (by omega)
      simp only [e1, e2]
      simp [h0, h6]
      by_cases hl : L.length = (k + 1) * (k + 1)
      · simp [hl]
      · have : ¬ ((L.length : Int) = ((k : Int) + 1) * ((k : Int) + 1)) := by
          intro e; apply hl; have : ((L.length : Nat) : Int) = (((k + 1) * (k + 1) : Nat) : Int) := by rw [e]; simp
          omega
        simp [hl, this]
    · simp [h0, h6]
  · simp [h0]
theorem none_any {v : Value} {N : Int} {L : List Int} (h : ZAt w v N L) : Calls Tryd.prog 68 #[v] w fun e w' => e = .returned (.bool (decide (L = []))) ∧ Below w.heap.size w w' := by
  obtain ⟨A, c, rfl, hc, hC⟩ := h.row
  refine zone_none.calls N A c L _ w hC hc ?_
  unfold zone_none.f
  cases L with
  | nil => simp
  | cons x l => simp; omega
theorem Near_any (a : Int) (w : World) : Calls Tryd.prog 57 #[.int .i64 a] w fun e w' => e = .returned (.int .i64 (nearZ a)) ∧ Below w.heap.size w w' := by
  refine bound_Near.calls a _ w ?_
  unfold bound_Near.f nearZ
  split
  · rfl
  · rw [show mx a (-2305843009213693952) = max a (-2305843009213693952) by unfold mx; split <;> omega]

/-- A row of ints in one block of its own kind, from its beginning. -/
def RowB (W : World) (g M : Nat) (E : Nat → Int) : Prop := ∃ cur : Array Value, W.heap[g]? = some (.cells cur 3 (0, 0)) ∧ ∀ j, j < M → cur[j]? = some (.int .i64 (E j))
theorem RowB.cell {W : World} {g M : Nat} {E : Nat → Int} (h : RowB W g M E) (j : Nat) (hj : j < M) : W.cell? ⟨g, j, none⟩ = some (.int .i64 (E j)) := by
  obtain ⟨cur, h1, h2⟩ := h
  exact hp_cell h1 j (h2 j hj)
theorem RowB.free {W : World} {g M : Nat} {E : Nat → Int} (h : RowB W g M E) (j : Nat) : W.frozen? ⟨g, j, none⟩ = false := by
  obtain ⟨cur, h1, h2⟩ := h
  exact hp_free h1 j
theorem RowB.lt {W : World} {g M : Nat} {E : Nat → Int} (h : RowB W g M E) : g < W.heap.size := by
  obtain ⟨cur, h1, h2⟩ := h
  exact hp_lt h1
theorem RowB.below {W W' : World} {g M : Nat} {E : Nat → Int} (h : RowB W g M E) (hb : Below W.heap.size W W') : RowB W' g M E := by
  obtain ⟨cur, h1, h2⟩ := h
  exact ⟨cur, (hb.block _ (hp_lt h1)).trans h1, h2⟩
theorem RowB.far {W : World} {g M : Nat} {E : Nat → Int} (h : RowB W g M E) {p : Addr} (hp : g ≠ p.block) (v : Value) : RowB (W.setCell p v) g M E := by
  obtain ⟨cur, h1, h2⟩ := h
  exact ⟨cur, (Below.heap_setCell W p v g hp).trans h1, h2⟩
theorem RowB.store {W : World} {g M : Nat} {E : Nat → Int} (h : RowB W g M E) (x : Nat) (v : Int) : RowB (W.setCell ⟨g, x, none⟩ (.int .i64 v)) g M (upd E x v) := by
  obtain ⟨cur, h1, h2⟩ := h
  refine ⟨cur.setIfInBounds x (.int .i64 v), blk_set h1 x _, fun j hj => ?_⟩
  unfold upd
  by_cases e : x = j
  · subst e
    have := (Array.getElem?_eq_some_iff.1 (h2 x hj)).1
    simp [this]
  · rw [if_neg (fun c => e c.symm), Array.getElem?_setIfInBounds_ne e]
    exact h2 j hj
theorem row_own {β : Type} (g M : Nat) (E : β → Nat → Int) : Own (fun (s : β) W => RowB W g M (E s)) := fun s X Y row hs hg hrow => by
  obtain ⟨cur, h1, h2⟩ := hs
  exact ⟨cur, (hg.block g (Array.getElem?_eq_some_iff.1 h1).1 (fun e' => by obtain ⟨o, ho, hc⟩ := hrow g e'.symm; rw [h1] at ho; cases ho; cases hc)).trans h1, h2⟩
theorem RowB.ext {W : World} {g M : Nat} {E E' : Nat → Int} (h : RowB W g M E) (he : ∀ j, j < M → E j = E' j) : RowB W g M E' := by
  obtain ⟨cur, h1, h2⟩ := h
  exact ⟨cur, h1, fun j hj => by rw [h2 j hj, he j hj]⟩
/-- The row as a list. -/
theorem RowB.ints {W : World} {g M cap : Nat} {E : Nat → Int} (h : RowB W g M E) (hM : M ≤ cap) (hs : M ≤ 1000000) : IntsAt W (.slice (some ⟨g, 0, none⟩) M cap) ((List.range M).map E) := by
  refine ⟨some ⟨g, 0, none⟩, cap, by simp, by simpa using hM, by simp; omega, fun _ => ⟨g, 0, rfl, h.lt, fun j hj => ?_⟩⟩
  have hj' : j < M := by simpa using hj
  rw [Nat.zero_add, h.cell j hj']
  simp [List.getD, hj']

set_option maxHeartbeats 2000000 in
theorem own_any {v : Value} {N : Int} {L : List Int} (h : ZAt w v N L) (hL : L ≠ []) (hlen : L.length ≤ 1000000000000) :
    Calls Tryd.prog 55 #[v] w fun e w' => ∃ g cc, e = .returned (.agg #[.int .i64 N, .slice (some ⟨g, 0, none⟩) L.length cc]) ∧ L.length ≤ cc ∧ w.heap.size + 2 ≤ g ∧ RowB w' g L.length (fun j => L.getD j 0) ∧ Below w.heap.size w w' := by
  obtain ⟨s, rfl, ao, c, rfl, hc, -, hx⟩ := h
  obtain ⟨b, off, rfl, hb, hcell⟩ := hx hL
  have hlen0 : L.length ≠ 0 := by intro e; exact hL (List.length_eq_zero_iff.1 e)
  have CL : ∀ W', Below w.heap.size w W' → Calls Tryd.prog 96 #[.slice (some ⟨b, off, none⟩) L.length c] W' fun e w' => ∃ g cc, e = .returned (.slice (some ⟨g, 0, none⟩) L.length cc) ∧ L.length ≤ cc ∧ W'.heap.size ≤ g ∧ RowB w' g L.length (fun j => L.getD j 0) ∧ Below W'.heap.size W' w' := by
    intro W' hW
    refine (clone_ints (xs := L) (g := b) (o := off) (cp := c) (fun j hj => ?_) hlen).mono ?_
    · rw [(hW.cell (p := ⟨b, off + j, none⟩) hb)]
      rw [hcell j hj]
      simp [List.getD, hj]
    · rintro e w' ⟨ao, cc, rfl, ho, hbl⟩
      have ho' := ho
      rcases ho.2 with ⟨e, hn⟩ | ⟨g, cap, cur, e, hb1, hgg, h1, h2, h3⟩
      · exact absurd hn hlen0
      · injection e with e1 e2 e3
        subst e1; subst e3
        refine ⟨g, _, rfl, h1, hb1, ⟨cur, hgg, fun j hj => ?_⟩, hbl⟩
        have := ho'.cells (g := g) rfl j (.int .i64 (L.getD j 0)) (by simp [List.getD, hj])
        rw [Addr.add_lit, Nat.zero_add] at this
        simpa [World.cell?, hgg] using this
  have HC := Lib.hid CL
  clear CL hcell hx
  go_enter Tryd.func55, Tryd.ntmps55
  go_wp2_with fail
  have bZ := blk_alloc (blk_new w (.cells #[.int .i64 N, .slice (some ⟨b, off, none⟩) L.length c] 27)) (.cells #[.int .i64 0, .slice none 0 0] 27)
  have bR := blk_new (w.alloc (.cells #[.int .i64 N, .slice (some ⟨b, off, none⟩) L.length c] 27)) (.cells #[.int .i64 0, .slice none 0 0] 27)
  have cur : Below w.heap.size w ((w.alloc (.cells #[.int .i64 N, .slice (some ⟨b, off, none⟩) L.length c] 27)).alloc (.cells #[.int .i64 0, .slice none 0 0] 27)) := psh (psh (Below.refl _ _) (Nat.le_refl _) _) (Nat.le_refl _) _
  have hsz : ((w.alloc (.cells #[.int .i64 N, .slice (some ⟨b, off, none⟩) L.length c] 27)).alloc (.cells #[.int .i64 0, .slice none 0 0] 27)).heap.size = w.heap.size + 2 := by simp
  simp only [World.size_alloc] at bR
  obtain ⟨W0, hW0⟩ : ∃ W0, (w.alloc (.cells #[.int .i64 N, .slice (some ⟨b, off, none⟩) L.length c] 27)).alloc (.cells #[.int .i64 0, .slice none 0 0] 27) = W0 := ⟨_, rfl⟩
  rw [hW0] at bZ bR cur hsz ⊢
  clear hW0
  have z0 := hp_cell bZ 0 (v := .int .i64 N) rfl
  have z1 := hp_cell bZ 1 (v := .slice (some ⟨b, off, none⟩) L.length c) rfl
  replace cur : Below w.heap.size w W0.drew := cur.drew
  have r0 := cells2 bR
  go_region_held3 (fun w' => w'.cell? ⟨w.heap.size, 0, none⟩ = some (.int .i64 N) ∧ w'.cell? ⟨w.heap.size, 1, none⟩ = some (.slice (some ⟨b, off, none⟩) L.length c))
    (first | exact ⟨z0, z1⟩ | go_keep)
    (first | (go_at_call 96; refine (HC.out _ cur).mono ?_; rintro e w1 ⟨g, cc, rfl, hcc, hg, hrow, hb0⟩; have hb := seq ((Below.refl W0.heap.size W0).drew) hb0; have bR1 := blk_below bR hb; have z0' := cell_below hb z0; have z1' := cell_below hb z1; obtain ⟨r10, r11, r12, r13⟩ := cells2 bR1; have HR := Lib.hid hrow; have HB := Lib.hid hb0))
  have bR2 := zput bR1 (.int .i64 N) (.slice (some ⟨g, 0, none⟩) L.length cc)
  have HR2 := Lib.hid ((HR.out.far (p := ⟨w.heap.size + 1, 0, none⟩) (by show g ≠ w.heap.size + 1; simp at hg; omega) (.int .i64 N)).far (p := ⟨w.heap.size + 1, 1, none⟩) (by show g ≠ w.heap.size + 1; simp at hg; omega) (.slice (some ⟨g, 0, none⟩) L.length cc))
  have HB2 := Lib.hid (((cur.trans (HB.out.mono (by simp; omega))).setCell (p := ⟨w.heap.size + 1, 0, none⟩) (by simp) (.int .i64 N)).setCell (p := ⟨w.heap.size + 1, 1, none⟩) (by simp) (.slice (some ⟨g, 0, none⟩) L.length cc))
  generalize (w1.setCell ⟨w.heap.size + 1, 0, none⟩ (.int .i64 N)).setCell ⟨w.heap.size + 1, 1, none⟩ (.slice (some ⟨g, 0, none⟩) L.length cc) = WF at *
  obtain ⟨y0, y1, y2, y3⟩ := cells2 bR2
  go_wp2_with fail
  exact bodyPost_ret (zret rfl _ _ (w.heap.size + 1) bR2 rfl) rfl ⟨g, cc, rfl, hcc, by simp at hg; omega, HR2.out, HB2.out⟩
/-- A zone that a call has answered is laid into the box of an elder block. -/
theorem zfin {s b B : Nat} {w W : World} {T : TypeId} {u0 v0 : Value} {N : Int} {A : Option Addr} {c : Nat} {L : List Int} (hb : W.heap[b]? = some (.cells #[u0, v0] T (0, 0))) (hi : ZNew B W (.agg #[.int .i64 N, .slice A L.length c]) N L) (cur : Below s w W) (hs : s ≤ b) (hB : b < B) (hsB : s ≤ B) :
    ((W.setCell ⟨b, 0, none⟩ (.int .i64 N)).setCell ⟨b, 1, none⟩ (.slice A L.length c)).heap[b]? = some (.cells #[.int .i64 N, .slice A L.length c] T (0, 0)) ∧
    ZNew B ((W.setCell ⟨b, 0, none⟩ (.int .i64 N)).setCell ⟨b, 1, none⟩ (.slice A L.length c)) (.agg #[.int .i64 N, .slice A L.length c]) N L ∧
    Below s w ((W.setCell ⟨b, 0, none⟩ (.int .i64 N)).setCell ⟨b, 1, none⟩ (.slice A L.length c)) := by
  refine ⟨zput hb _ _, ?_, (cur.setCell (p := ⟨b, 0, none⟩) hs _).setCell (p := ⟨b, 1, none⟩) hs _⟩
  obtain ⟨A', c', e, h1, h2⟩ := hi
  injection e with e
  simp at e
  obtain ⟨rfl, rfl⟩ := e
  have hne : ∀ a, A = some a → L ≠ [] → a.block ≠ b := fun a e hn => by have := h2 a e hn; omega
  exact ⟨A, c, rfl, (h1.set ⟨b, 0, none⟩ _ hne).set ⟨b, 1, none⟩ _ hne, h2⟩
theorem ZNew.form {B : Nat} {v : Value} {N : Int} {L : List Int} (h : ZNew B w v N L) : ∃ A c, v = .agg #[.int .i64 N, .slice A L.length c] := by
  obtain ⟨A, c, e, _⟩ := h
  exact ⟨A, c, e⟩
end Go.Proofs.YtjhccmjgfngkcaaDoor.PZoneSame
