/- Texts of this claim, one behind the other: Bu, Mp, Bv, Bx, By, Bz, Bo, Bq. -/
import Derived.Test.YtiagkbmhfgdffaaGb
import Derived.Test.YtiagkbmhfgdffaaGa
import Derived.Test.YtiagkbmhfgdffaaRows
import Derived.Maps.OwnOps
import Derived.Maps.OwnSet
import Derived.Test.YtiagkbmhfgdffaaBi
import Derived.Test.YtiagkbmhfgdffaaBs1
set_option linter.unusedVariables false
set_option linter.unusedSimpArgs false
namespace Go.Proofs.Ytiagkbmhfgdffaa
namespace Ar
variable {L L' : List Nd} {lim : Int}

/-- What is visited from a ref on, in order, behind what was visited. -/
def dfs (L : List Nd) : Nat → Int → List Int → List Int
  | 0, _, V => V
  | f + 1, r, V => if r ∈ V then V else if isN L r then dfs L f (nd L r).h (dfs L f (nd L r).l (V ++ [r])) else V ++ [r]

/-- What a walk from a ref comes to: what was visited stays ahead; no ref twice; what is new lies below the ref, and its children were visited. -/
structure Seen (L : List Nd) (r : Int) (V V' : List Int) : Prop where
  pre : V <+: V'
  nodup : V'.Nodup
  self : r ∈ V'
  each : ∀ x ∈ V', x ∈ V ∨ (Reach L [r] x ∧ (isN L x → (nd L x).l ∈ V' ∧ (nd L x).h ∈ V'))

theorem Reach.from {r s x : Int} (hs : Reach L [r] s) (h : Reach L [s] x) : Reach L [r] x := by
  induction h with
  | root hm => rw [List.mem_singleton] at hm; rw [hm]; exact hs
  | low _ hn ih => exact .low ih hn
  | high _ hn ih => exact .high ih hn

theorem ok_child' (ok : Ok L) {r : Int} (hn : isN L r) : (nd L r).l < r ∧ (nd L r).h < r := by
  have := ok_child ok hn
  exact ⟨by omega, by omega⟩

theorem dfs_seen (ok : Ok L) : ∀ (f : Nat) (r : Int) (V : List Int), (isN L r → (r + 1).toNat < f) → 0 < f → V.Nodup → Seen L r V (dfs L f r V) := by
  intro f
  induction f with
  | zero => intro r V _ h0 _; omega
  | succ f ih =>
    intro r V hf _ hV
    unfold dfs
    by_cases h1 : r ∈ V
    · rw [if_pos h1]
      exact ⟨List.prefix_refl V, hV, h1, fun x hx => .inl hx⟩
    · rw [if_neg h1]
      have hV1 : (V ++ [r]).Nodup := by
        rw [List.nodup_append]
        exact ⟨hV, by simp, fun a ha b hb e => by rw [List.mem_singleton] at hb; subst hb; subst e; exact h1 ha⟩
      by_cases hn : isN L r
      · rw [if_pos hn]
        have hr := hf hn
        have hr0 := hn.1
        obtain ⟨c1, c2⟩ := ok_child' ok hn
        obtain ⟨p1, n1, s1, e1⟩ := ih (nd L r).l (V ++ [r]) (fun h => by have := h.1; omega) (by omega) hV1
        generalize dfs L f (nd L r).l (V ++ [r]) = A at *
        obtain ⟨p2, n2, s2, e2⟩ := ih (nd L r).h A (fun h => by have := h.1; omega) (by omega) n1
        generalize dfs L f (nd L r).h A = B at *
        have hA : r ∈ A := p1.subset (by simp)
        have rl : Reach L [r] (nd L r).l := .low (.root (by simp)) hn
        have rh : Reach L [r] (nd L r).h := .high (.root (by simp)) hn
        refine ⟨(List.prefix_append V [r]).trans (p1.trans p2), n2, p2.subset hA, fun x hx => ?_⟩
        rcases e2 x hx with hx | ⟨hx, hc⟩
        · rcases e1 x hx with hx | ⟨hx, hc⟩
          · rw [List.mem_append, List.mem_singleton] at hx
            rcases hx with hx | rfl
            · exact .inl hx
            · exact .inr ⟨.root (by simp), fun _ => ⟨p2.subset s1, s2⟩⟩
          · exact .inr ⟨rl.from hx, fun h => ⟨p2.subset (hc h).1, p2.subset (hc h).2⟩⟩
        · exact .inr ⟨rh.from hx, hc⟩
      · rw [if_neg hn]
        refine ⟨List.prefix_append V [r], hV1, by simp, fun x hx => ?_⟩
        rw [List.mem_append, List.mem_singleton] at hx
        rcases hx with hx | rfl
        · exact .inl hx
        · exact .inr ⟨.root (by simp), fun h => absurd h hn⟩

/-- Fuel that is enough is as good as more. -/
theorem dfs_fuel (ok : Ok L) : ∀ (f g : Nat) (r : Int) (V : List Int), (isN L r → (r + 1).toNat < f) → 0 < f → f ≤ g → dfs L g r V = dfs L f r V := by
  intro f
  induction f with
  | zero => intro g r V _ h0 _; omega
  | succ f ih =>
    intro g r V hf _ hg
    obtain ⟨g, rfl⟩ : ∃ k, g = k + 1 := ⟨g - 1, by omega⟩
    unfold dfs
    by_cases h1 : r ∈ V
    · rw [if_pos h1, if_pos h1]
    · rw [if_neg h1, if_neg h1]
      by_cases hn : isN L r
      · rw [if_pos hn, if_pos hn]
        have hr := hf hn
        have hr0 := hn.1
        obtain ⟨c1, c2⟩ := ok_child' ok hn
        rw [ih g (nd L r).l (V ++ [r]) (fun h => by have := h.1; omega) (by omega) (by omega), ih g (nd L r).h _ (fun h => by have := h.1; omega) (by omega) (by omega)]
      · rw [if_neg hn, if_neg hn]

/-- All that lies below a ref, in the order in which it is visited. -/
def under (L : List Nd) (r : Int) : List Int := dfs L (L.length + 2) r []
theorem under_seen (ok : Ok L) (r : Int) : Seen L r [] (under L r) :=
  dfs_seen ok _ r [] (fun h => by have := h.2; have := h.1; omega) (by omega) (by simp)
/-- May a ref stand in a diagram of booleans? -/
def okr (x : Int) : Bool := decide (0 ≤ x) || (x == -1 || x == -2)
def isb (L : List Nd) (r : Int) : Bool := decide (has L r) && (under L r).all okr

theorem reach_lt (ok : Ok L) {r x : Int} (hr : r < L.length) (h : Reach L [r] x) : x < L.length := by
  induction h with
  | root hm => rw [List.mem_singleton] at hm; rw [hm]; exact hr
  | low _ hn ih => have := (ok_child' ok hn).1; omega
  | high _ hn ih => have := (ok_child' ok hn).2; omega
theorem reach_bo {r x : Int} (hr : Bo L r) (h : Reach L [r] x) : Bo L x := by
  induction h with
  | root hm => rw [List.mem_singleton] at hm; rw [hm]; exact hr
  | low _ hn ih => exact (ih.child hn).1
  | high _ hn ih => exact (ih.child hn).2
theorem bo_okr {x : Int} (h : Bo L x) : okr x = true := by
  unfold okr
  by_cases hn : isN L x
  · rw [decide_eq_true hn.1]; rfl
  · rcases h.leaf hn with rfl | rfl <;> decide
theorem isb_iff (ok : Ok L) (r : Int) : isb L r = true ↔ Bo L r := by
  unfold isb
  have hs := under_seen ok r
  rw [Bool.and_eq_true, decide_eq_true_eq, List.all_eq_true]
  constructor
  · rintro ⟨hh, ha⟩
    have each : ∀ x ∈ under L r, Reach L [r] x ∧ (isN L x → (nd L x).l ∈ under L r ∧ (nd L x).h ∈ under L r) := fun x hx => by
      rcases hs.each x hx with h | h
      · simp at h
      · exact h
    have main : ∀ (n : Nat) (x : Int), (x + 1).toNat ≤ n → x ∈ under L r → Bo L x := by
      intro n
      induction n with
      | zero =>
        intro x hx hm
        have h := ha x hm
        unfold okr at h
        rw [Bool.or_eq_true, Bool.or_eq_true, decide_eq_true_eq, beq_iff_eq, beq_iff_eq] at h
        rcases h with h | rfl | rfl
        · omega
        · exact .no
        · exact .yes
      | succ n ih =>
        intro x hx hm
        have h := ha x hm
        unfold okr at h
        rw [Bool.or_eq_true, Bool.or_eq_true, decide_eq_true_eq, beq_iff_eq, beq_iff_eq] at h
        rcases h with h | rfl | rfl
        · have hn : isN L x := ⟨h, reach_lt ok hh.2 (each x hm).1⟩
          obtain ⟨m1, m2⟩ := (each x hm).2 hn
          obtain ⟨c1, c2⟩ := ok_child' ok hn
          exact .node hn (ih _ (by omega) m1) (ih _ (by omega) m2)
        · exact .no
        · exact .yes
    exact main _ r (Nat.le_refl _) hs.self
  · intro hb
    refine ⟨hb.has, fun x hx => ?_⟩
    rcases hs.each x hx with h | h
    · simp at h
    · exact bo_okr (reach_bo hb h.1)
end Ar
end Go.Proofs.Ytiagkbmhfgdffaa

set_option linter.unusedVariables false
set_option linter.unusedSimpArgs false
namespace Go.Proofs.Ytiagkbmhfgdffaa
open Go.RowKit Go.Maps

def fits (x : Int) : Prop := (Lit.int .i64 x).wf = true
theorem fits_of {x : Int} (h0 : -9223372036854775808 ≤ x) (h1 : x ≤ 9223372036854775807) : fits x := WalkArith.wf_i64 (by omega)

/-- Block b is a map of at most n entries that holds just f. -/
def IMap (w : World) (b n : Nat) (f : Int → Option Int) : Prop :=
  ∃ D : DataW Unit, w.ownsMap Try.prog 3 (plainElem Try.prog 3) b n D ∧ IsMap D ∧ ∀ x, fits x → has D (.int .i64 x) = (f x).isSome ∧ ∀ y, f x = some y → ∀ z, D.atKey (.int .i64 x) z = .lit (.int .i64 y)

theorem IMap.touch {w w' : World} {b n : Nat} {f : Int → Option Int} {S : Nat → Prop} (h : IMap w b n f) (t : Touch w w' S) (hs : ¬ S b) : IMap w' b n f := by
  obtain ⟨D, ⟨es, clock, hb, F, hsz, hD⟩, h2⟩ := h
  exact ⟨D, ⟨es, clock, t.heap hb hs, F, hsz, hD⟩, h2⟩
theorem IMap.lt {w : World} {b n : Nat} {f : Int → Option Int} (h : IMap w b n f) : b < w.heap.size := by
  obtain ⟨D, h1, _⟩ := h; exact h1.lt
theorem IMap.mono {w : World} {b n m : Nat} {f : Int → Option Int} (h : IMap w b n f) (hm : n ≤ m) : IMap w b m f := by
  obtain ⟨D, h1, h2⟩ := h; exact ⟨D, h1.mono hm, h2⟩
theorem IMap.made (w : World) : IMap (w.alloc (.map #[] 0)) w.heap.size 0 (fun _ => none) :=
  ⟨.map [], World.ownsMap_made _ _ _ _, ⟨[], rfl⟩, fun x _ => ⟨rfl, fun y h => by cases h⟩⟩

theorem keyed_int : Keyed Try.prog 3 := int_keyed Try.underlying3

theorem wpList_lookup_imap {w : World} {ops : Array Oper} {rest : List Oper} {o : Oper} {a : Act} {Q : Exit → Act → World → Prop} (hg : o.guard = none) (m x : Operand)
    (hop : o.op = Op.lookup 93 m x true) (b n : Nat) (f : Int → Option Int) (hm : a.eval m = .map (some b)) (hmap : IMap w b n f) (k : Int) (hx : a.eval x = .int .i64 k) (hk : fits k)
    (hK : wpList Try.prog ops Q rest (a.put o.dst (.tuple #[.int .i64 ((f k).getD 0), .bool (f k).isSome])) w) : wpList Try.prog ops Q (o :: rest) a w := by
  obtain ⟨D, hown, hD, hf⟩ := hmap
  obtain ⟨v, ps, hrun, hv⟩ := hown.look_ok keyed_int Try.underlying93 (z := .int .i64 0) (by kernel_rfl) (zd := .lit (.int .i64 0)) (zp := []) (plainElem_int Try.underlying3 (by decide)) (key := .int .i64 k) (kl := .int .i64 k) (keyOf_int_mk Try.underlying3 hk)
  obtain ⟨hh, hat⟩ := hf k hk
  have hv' : v = .int .i64 ((f k).getD 0) := by
    obtain ⟨c, rfl, hc, _⟩ := plainElem_int_inv Try.underlying3 hv
    cases hfk : f k with
    | none =>
      rw [hfk] at hh
      have := atKey_of_not_has (by simpa using hh) (.lit (.int .i64 0))
      rw [this] at hc
      simp at hc
      simp [hc.1]
    | some y =>
      have := hat y hfk (.lit (.int .i64 0))
      rw [this] at hc
      simp at hc
      simp [hc.1]
  rw [hh] at hrun
  subst hv'
  refine wpList_plain hg fun K' hK' => ?_
  unfold Oper.wp
  simp [execOp, hop, hm, hx, hrun, Result.andThen]
  exact hK' _ _ hK

theorem wpList_update_imap {w : World} {ops : Array Oper} {rest : List Oper} {o : Oper} {a : Act} {Q : Exit → Act → World → Prop} (hg : o.guard = none) (m x v : Operand)
    (hop : o.op = Op.mapUpdate 93 m x v) (b n : Nat) (f : Int → Option Int) (hm : a.eval m = .map (some b)) (hmap : IMap w b n f) (hn : n < maxLen) (k y : Int) (hx : a.eval x = .int .i64 k) (hv : a.eval v = .int .i64 y) (hk : fits k) (hy : fits y)
    (hK : ∀ w', IMap w' b (n + 1) (fun z => if z = k then some y else f z) → w.grownBy w' (some b) → wpList Try.prog ops Q rest (a.put o.dst undef) w') : wpList Try.prog ops Q (o :: rest) a w := by
  obtain ⟨D, hown, hD, hf⟩ := hmap
  have hkl : keyOf Try.prog 3 (.int .i64 k) = some (.int .i64 k) := keyOf_int_mk Try.underlying3 hk
  refine wpList_mapUpdate_own w hg m x v 93 hop 3 3 keyed_int Try.underlying93 (plainElem Try.prog 3) b n D hm hown hn (.int .i64 k) (.int .i64 y) (.int .i64 k) hx hv hkl (.lit (.int .i64 y)) [] (plainElem_int Try.underlying3 hy) (fun w' h1 h2 => ?_)
  have hkk : WideAt.IsKeyLit (.int .i64 k) := keyed_int.key hkl
  refine hK w' ⟨_, h1, hD.put _ _, fun z hz => ?_⟩ h2
  show has _ _ = (if z = k then some y else f z).isSome ∧ ∀ y', (if z = k then some y else f z) = some y' → ∀ z', _
  by_cases hzk : z = k
  · subst hzk
    rw [if_pos rfl]
    exact ⟨by rw [has_put_same hD hkk]; rfl, fun y' h z' => by cases h; exact atKey_put_same hD hkk _ _⟩
  · have hne : Lit.int .i64 z ≠ Lit.int .i64 k := fun e => hzk (by cases e; rfl)
    rw [if_neg hzk, has_put_other hne]
    exact ⟨(hf z hz).1, fun y' h z' => by rw [atKey_put_other hne]; exact (hf z hz).2 y' h z'⟩
end Go.Proofs.Ytiagkbmhfgdffaa

set_option linter.unusedVariables false
set_option linter.unusedSimpArgs false
namespace Go.Proofs.Ytiagkbmhfgdffaa
open Go Go.RowKit Go.Deep Go.Maps
section
variable {w w' W : World} {mg : Nat} {lim : Int} {L : List Nd} {S : Nat → Prop}

theorem wpList_lookup_imap1 {w : World} {ops : Array Oper} {rest : List Oper} {o : Oper} {a : Act} {Q : Exit → Act → World → Prop} (hg : o.guard = none) (m x : Operand)
    (hop : o.op = Op.lookup 93 m x false) (b n : Nat) (f : Int → Option Int) (hm : a.eval m = .map (some b)) (hmap : IMap w b n f) (k : Int) (hx : a.eval x = .int .i64 k) (hk : fits k)
    (hK : wpList Try.prog ops Q rest (a.put o.dst (.int .i64 ((f k).getD 0))) w) : wpList Try.prog ops Q (o :: rest) a w := by
  obtain ⟨D, hown, hD, hf⟩ := hmap
  refine wpList_lookup_own_int w hg m x 93 hop 3 3 .i64 keyed_int Try.underlying93 Try.underlying3 (by kernel_rfl) b n D hm hown (.int .i64 k) (.int .i64 k) hx (keyOf_int_mk Try.underlying3 hk) (fun c hc _ => ?_)
  obtain ⟨hh, hat⟩ := hf k hk
  have : c = (f k).getD 0 := by
    cases hfk : f k with
    | none =>
      rw [hfk] at hh
      have := atKey_of_not_has (by simpa using hh) (.lit (.int .i64 0))
      rw [this] at hc
      simp at hc
      simp [hc]
    | some y =>
      have := hat y hfk (.lit (.int .i64 0))
      rw [this] at hc
      simp at hc
      simp [hc]
  rw [this]
  exact hK

/-- The map of what was visited. -/
def vis (V : List Int) (x : Int) : Option Int := if x ∈ V then some 1 else none
theorem vis_push (V : List Int) (r : Int) : (fun z => if z = r then some 1 else vis V z) = vis (V ++ [r]) := by
  funext z
  unfold vis
  by_cases h : z = r
  · rw [if_pos h, if_pos (by simp [h])]
  · rw [if_neg h]
    by_cases h2 : z ∈ V
    · rw [if_pos h2, if_pos (by simp [h2])]
    · rw [if_neg h2, if_neg (by simp [h2, h])]

def BoolAt (w : World) (b : Nat) (v : Bool) : Prop := w.heap[b]? = some (.cells #[.bool v] 4 (0, 0))
/-- What Is hands to seen: each ref must be one that may stand in a diagram of booleans. -/
theorem is1_any {sb : Nat} {ok : Bool} (h : BoolAt w sb ok) (r : Int) :
    Calls Try.prog 49 #[.int .i64 r, .pointer (some ⟨sb, 0, none⟩)] w fun e w' => e = .returned (.tuple #[]) ∧ BoolAt w' sb (ok && Ar.okr r) ∧ Touch w w' (fun k => k = sb) := by
  have x0 : w.cell? ⟨sb, 0, none⟩ = some (.bool ok) := cell_at h 0 rfl
  have f0 := free_at h 0
  have fin : ∀ v : Bool, BoolAt (w.setCell ⟨sb, 0, none⟩ (.bool v)) sb v ∧ Touch w (w.setCell ⟨sb, 0, none⟩ (.bool v)) (fun k => k = sb) := fun v =>
    ⟨heap_setCell_same h _, (Touch.refl w (fun k => k = sb)).setCell (p := ⟨sb, 0, none⟩) (.inl rfl) _⟩
  have FIN := Lib.hid fin
  clear fin h
  unfold Ar.okr
  cases ok
  · go_enter Try.func49, Try.ntmps49
    go_wp2_with fail
    go_end0
    exact ⟨rfl, FIN.out _⟩
  · cases d1 : decide (0 ≤ r)
    · cases d2 : (r == -1)
      · go_enter Try.func49, Try.ntmps49
        go_wp2_with fail
        go_end0
        exact ⟨rfl, FIN.out _⟩
      · go_enter Try.func49, Try.ntmps49
        go_wp2_with fail
        go_end0
        exact ⟨rfl, FIN.out _⟩
    · go_enter Try.func49, Try.ntmps49
      go_wp2_with fail
      go_end0
      exact ⟨rfl, FIN.out _⟩
/-- What the walk of seen has captured, ahead of its first step; mb: the map's block, sb: what the visitor writes. -/
structure SeenC (w0 : World) (mg : Nat) (lim : Int) (L : List Nd) (S : Nat → Prop) (vf : Value) (mb mbx vbx gbx dbx sb : Nat) : Prop where
  M : Mgr w0 mg lim L S
  h1 : w0.heap[mbx]? = some (.cells #[.map (some mb)] 93 (0, 0))
  h2 : w0.heap[vbx]? = some (.cells #[vf] 73 (0, 0))
  h3 : w0.heap[gbx]? = some (.cells #[.pointer (some ⟨mg, 0, none⟩)] 23 (0, 0))
  h4 : w0.heap[dbx]? = some (.cells #[.func (.func 55) #[] #[.pointer (some ⟨mbx, 0, none⟩), .pointer (some ⟨vbx, 0, none⟩), .pointer (some ⟨gbx, 0, none⟩), .pointer (some ⟨dbx, 0, none⟩)]] 73 (0, 0))
  n1 : ¬ (mbx = mb ∨ mbx = sb)
  n2 : ¬ (vbx = mb ∨ vbx = sb)
  n3 : ¬ (gbx = mb ∨ gbx = sb)
  n4 : ¬ (dbx = mb ∨ dbx = sb)
  nS : ∀ k, S k → ¬ (k = mb ∨ k = sb)
  lm : mb < w0.heap.size
  ls : sb < w0.heap.size
  ne : mb ≠ sb
/-- The refs that may be visited. -/
structure Room (L : List Nd) (U : List Int) : Prop where
  few : U.length < maxLen
  fit : ∀ x ∈ U, fits x
  cl : ∀ x ∈ U, Ar.isN L x → (Ar.nd L x).l ∈ U ∧ (Ar.nd L x).h ∈ U
theorem len_sub : ∀ (l u : List Int), l.Nodup → (∀ x ∈ l, x ∈ u) → l.length ≤ u.length
  | [], _, _, _ => Nat.zero_le _
  | a :: l, u, hn, hs => by
    have ha := hs a (List.mem_cons_self ..)
    have hn' := List.nodup_cons.1 hn
    have := len_sub l (u.erase a) hn'.2 (fun x hx => (List.mem_erase_of_ne (fun e => hn'.1 (by rw [← e]; exact hx))).2 (hs x (List.mem_cons_of_mem _ hx)))
    rw [List.length_erase_of_mem ha] at this
    have hp : 0 < u.length := List.length_pos_of_mem ha
    simp only [List.length_cons]
    omega
/-- How far the walk has come: V was visited. -/
structure SeenI (w0 W : World) (mb sb : Nat) (g : List Int → Bool) (U V : List Int) : Prop where
  t : Touch w0 W (fun k => k = mb ∨ k = sb)
  m : IMap W mb V.length (vis V)
  s : BoolAt W sb (g V)
  nodup : V.Nodup
  sub : ∀ x ∈ V, x ∈ U
end
end Go.Proofs.Ytiagkbmhfgdffaa

set_option linter.unusedVariables false
set_option linter.unusedSimpArgs false
namespace Go.Proofs.Ytiagkbmhfgdffaa
open Go Go.RowKit Go.Deep Go.Maps
section
variable {w w' W : World} {mg : Nat} {lim : Int} {L : List Nd} {S : Nat → Prop}

theorem SeenI.below {w0 W' : World} {mb sb : Nat} {g : List Int → Bool} {U V : List Int} (I : SeenI w0 W mb sb g U V) (h : Below W.heap.size W W') : SeenI w0 W' mb sb g U V :=
  have t0 : Touch W W' (fun _ => False) := Touch.of_below h _
  ⟨I.t.step t0 (fun _ _ c => c.elim), I.m.touch t0 (fun c => c), t0.heap I.s (fun c => c), I.nodup, I.sub⟩

/-- What one step of the walk does: this text is printed for each of the visitors. -/
def DownTo (w0 : World) (L : List Nd) (mb mbx vbx gbx dbx sb : Nat) (g : List Int → Bool) (U : List Int) (f : Nat) : Prop :=
  ∀ (W : World) (r : Int) (V : List Int), SeenI w0 W mb sb g U V → r ∈ U → (Ar.isN L r → (r + 1).toNat < f) → 0 < f →
    Calls Try.prog 55 #[.int .i64 r, .pointer (some ⟨mbx, 0, none⟩), .pointer (some ⟨vbx, 0, none⟩), .pointer (some ⟨gbx, 0, none⟩), .pointer (some ⟨dbx, 0, none⟩)] W fun e w' =>
      e = .returned (.tuple #[]) ∧ Touch W w' (fun k => k = mb ∨ k = sb) ∧ SeenI w0 w' mb sb g U (Ar.dfs L f r V)
set_option maxRecDepth 100000 in
set_option maxHeartbeats 8000000 in
theorem down_is {w0 : World} {mb mbx vbx gbx dbx sb : Nat} {U : List Int} (h0 : Bool) (C : SeenC w0 mg lim L S (.func (.func 49) #[] #[.pointer (some ⟨sb, 0, none⟩)]) mb mbx vbx gbx dbx sb) (HU : Room L U) :
    ∀ f, DownTo w0 L mb mbx vbx gbx dbx sb (fun V => h0 && V.all Ar.okr) U f := by
  have HC := Lib.hid C
  have HHU := Lib.hid HU
  have hok := C.M.ok
  have HOK := Lib.hid hok
  clear C HU hok
  intro f
  induction f with
  | zero => intro W r V _ _ _ h; omega
  | succ f ih =>
    intro W r V I hr hf _
    have IH := Lib.hid ih
    have x1 : W.cell? ⟨mbx, 0, none⟩ = some (.map (some mb)) := cell_at (I.t.heap HC.out.h1 HC.out.n1) 0 rfl
    have hfit := HHU.out.fit r hr
    have hlen : V.length < maxLen := Nat.lt_of_le_of_lt (len_sub V U I.nodup I.sub) HHU.out.few
    have HF := Lib.hid hfit
    have HLen := Lib.hid hlen
    have HM := Lib.hid I.m
    have HI := Lib.hid I
    have HR := Lib.hid hr
    have HFF := Lib.hid hf
    clear I hfit hlen hr hf ih
    by_cases hv : r ∈ V
    · have hl : (vis V r).getD 0 = 1 := by unfold vis; rw [if_pos hv]; rfl
      have he : Ar.dfs L (f + 1) r V = V := by unfold Ar.dfs; rw [if_pos hv]
      rw [he]
      clear he hv
      go_enter Try.func55, Try.ntmps55
      go_wp2_with (refine wpList_lookup_imap1 rfl (.tmp 8) (.tmp 9) rfl mb _ _ rfl HM.out r rfl HF.out ?_; rw [hl])
      refine bodyPost_ret (results_none rfl _ _ _) rfl ?_
      exact ⟨rfl, Touch.refl _ _, HI.out⟩
    · have hl : (vis V r).getD 0 = 0 := by unfold vis; rw [if_neg hv]; rfl
      have he : Ar.dfs L (f + 1) r V = if Ar.isN L r then Ar.dfs L f (Ar.nd L r).h (Ar.dfs L f (Ar.nd L r).l (V ++ [r])) else V ++ [r] := by
        show (if r ∈ V then V else if Ar.isN L r then Ar.dfs L f (Ar.nd L r).h (Ar.dfs L f (Ar.nd L r).l (V ++ [r])) else V ++ [r]) = _
        rw [if_neg hv]
      obtain ⟨D, hD⟩ : ∃ D, (if Ar.isN L r then Ar.dfs L f (Ar.nd L r).h (Ar.dfs L f (Ar.nd L r).l (V ++ [r])) else V ++ [r]) = D := ⟨_, rfl⟩
      rw [he, hD]
      have HD := Lib.hid hD
      clear hD
      have HV := Lib.hid hv
      clear he hv
      go_enter Try.func55, Try.ntmps55
      go_wp2_with (first | (refine wpList_lookup_imap1 rfl (.tmp 8) (.tmp 9) rfl mb _ _ rfl HM.out r rfl HF.out ?_; rw [hl]) | (refine wpList_update_imap rfl (.tmp 12) (.tmp 13) (.const (.int .i64 1)) rfl mb _ _ rfl HM.out HLen.out r 1 rfl rfl HF.out (fits_of (by decide) (by decide)) ?_; intro W2 im2 hg2; rw [vis_push] at im2; have t2 := (Touch.refl W (fun k => k = mb)).grown hg2 (fun k h => .inl (by cases h; rfl)); have T2 := HI.out.t.step t2 (fun i _ h => .inl h); have x2 : W2.cell? ⟨vbx, 0, none⟩ = some (.func (.func 49) #[] #[.pointer (some ⟨sb, 0, none⟩)]) := cell_at (T2.heap HC.out.h2 HC.out.n2) 0 rfl; have IM2 := Lib.hid im2; have HT2 := Lib.hid T2; have Ht2 := Lib.hid t2; have BS2 := Lib.hid (t2.heap HI.out.s (fun h => HC.out.ne h.symm)); clear im2 hg2 t2 T2 x1))
      refine (is1_any BS2.out r).mono ?_
      rintro e W3 ⟨rfl, bs3, t3⟩
      have T3 := HT2.out.step t3 (fun i _ h => .inr h)
      have t03 := (Ht2.out.mono (S' := fun k => k = mb ∨ k = sb) (fun i _ h => .inl h)).step t3 (fun i _ h => .inr h)
      have I3 : SeenI w0 W3 mb sb (fun V => h0 && V.all Ar.okr) U (V ++ [r]) := by
        refine ⟨T3, ?_, ?_, ?_, ?_⟩
        · rw [List.length_append]; exact IM2.out.touch t3 (fun h => HC.out.ne h)
        · show BoolAt W3 sb (h0 && (V ++ [r]).all Ar.okr)
          rw [List.all_append]
          simpa [Bool.and_assoc] using bs3
        · rw [List.nodup_append]
          exact ⟨HI.out.nodup, by simp, fun a ha b hb e => by rw [List.mem_singleton] at hb; subst hb; subst e; exact HV.out ha⟩
        · intro x hx
          rw [List.mem_append, List.mem_singleton] at hx
          rcases hx with hx | rfl
          · exact HI.out.sub x hx
          · exact HR.out
      have M3 := HC.out.M.touch T3 HC.out.nS
      obtain ⟨b, mb', bp, ES, MA⟩ := M3
      have c0 := MA.c0
      have HA := Lib.hid MA.ar
      have x3 : W3.cell? ⟨gbx, 0, none⟩ = some (.pointer (some ⟨mg, 0, none⟩)) := cell_at (T3.heap HC.out.h3 HC.out.n3) 0 rfl
      have HI3 := Lib.hid I3
      have Ht03 := Lib.hid t03
      clear I3 t03 MA t3 bs3 HT2 Ht2 BS2 IM2 T3 hl x2
      by_cases hn : Ar.isN L r
      · have hD := HD.out
        rw [if_pos hn] at hD
        have hff := HFF.out hn
        have hcl := HHU.out.cl r HR.out hn
        have hch := Ar.ok_child' HOK.out hn
        obtain ⟨k, rfl⟩ : ∃ k : Nat, r = k := ⟨r.toNat, by have := hn.1; omega⟩
        have hk : k < L.length := by have := hn.2; omega
        rw [Ar.nd_at hk] at hcl hch hD
        have HD2 := Lib.hid hD
        clear hD HD
        have HCL := Lib.hid hcl
        have HCH := Lib.hid hch
        have HFF2 := Lib.hid hff
        clear hcl hch hff hn
        go_wp2_with fail
        refine (get_in HA.out k hk).mono ?_
        rintro e W4 ⟨rfl, hb4⟩
        have I5 := (HI3.out.below hb4).below (Below.push (Below.refl _ _) (Nat.le_refl _) (.cells #[.int .i64 L[k].v, .int .i64 L[k].l, .int .i64 L[k].h] 70))
        have t5 := (Ht03.out.step (Touch.of_below hb4 (fun _ => False)) (fun _ _ c => c.elim)).alloc (.cells #[.int .i64 L[k].v, .int .i64 L[k].l, .int .i64 L[k].h] 70)
        have n5 := heap_alloc_new W4 (.cells #[.int .i64 L[k].v, .int .i64 L[k].l, .int .i64 L[k].h] 70)
        have l5 : w0.heap.size ≤ W4.heap.size := Nat.le_trans HI3.out.t.size hb4.size
        have HI5 := Lib.hid I5
        have Ht5 := Lib.hid t5
        have HN5 := Lib.hid n5
        clear I5 t5 n5 hb4 c0 x3 HA
        go_upto_region 4 with fail
        generalize W4.alloc (.cells #[.int .i64 L[k].v, .int .i64 L[k].l, .int .i64 L[k].h] 70) = W5 at *
        generalize W4.heap.size = gn at *
        have x4 : W5.cell? ⟨dbx, 0, none⟩ = some (.func (.func 55) #[] #[.pointer (some ⟨mbx, 0, none⟩), .pointer (some ⟨vbx, 0, none⟩), .pointer (some ⟨gbx, 0, none⟩), .pointer (some ⟨dbx, 0, none⟩)]) := cell_at (HI5.out.t.heap HC.out.h4 HC.out.n4) 0 rfl
        have y1 := cell_at HN5.out 1 (v := .int .i64 L[k].l) rfl
        have hgn : ¬ (gn = mb ∨ gn = sb) := by have := HC.out.lm; have := HC.out.ls; omega
        go_wp2_with fail
        refine (IH.out W5 L[k].l _ HI5.out HCL.out.1 (fun h => by have := h.1; have := HCH.out.1; have := HFF2.out; omega) (by have := HFF2.out; omega)).mono ?_
        rintro e W6 ⟨rfl, t6, I6⟩
        have HN6 := t6.heap HN5.out hgn
        have y2 := cell_at HN6 2 (v := .int .i64 L[k].h) rfl
        have x5 : W6.cell? ⟨dbx, 0, none⟩ = some (.func (.func 55) #[] #[.pointer (some ⟨mbx, 0, none⟩), .pointer (some ⟨vbx, 0, none⟩), .pointer (some ⟨gbx, 0, none⟩), .pointer (some ⟨dbx, 0, none⟩)]) := cell_at (I6.t.heap HC.out.h4 HC.out.n4) 0 rfl
        have HI6 := Lib.hid I6
        have Ht6 := Lib.hid (Ht5.out.step t6 (fun i _ h => h))
        clear I6 t6 HN6 x4 y1
        go_wp2_with fail
        refine (IH.out W6 L[k].h _ HI6.out HCL.out.2 (fun h => by have := h.1; have := HCH.out.2; have := HFF2.out; omega) (by have := HFF2.out; omega)).mono ?_
        rintro e W7 ⟨rfl, t7, I7⟩
        go_wp2_with fail
        go_end0
        exact ⟨rfl, Ht6.out.step t7 (fun i _ h => h), by rw [← HD2.out]; exact I7⟩
      · have hD := HD.out
        rw [if_neg hn] at hD
        have HD2 := Lib.hid hD
        clear hD HD
        go_wp2_with fail
        refine (get_out HA.out r hn).mono ?_
        rintro e W4 ⟨rfl, hb4⟩
        have I5 := (HI3.out.below hb4).below (Below.push (Below.refl _ _) (Nat.le_refl _) (.cells #[.int .i64 0, .int .i64 0, .int .i64 0] 70))
        have t5 := (Ht03.out.step (Touch.of_below hb4 (fun _ => False)) (fun _ _ c => c.elim)).alloc (.cells #[.int .i64 0, .int .i64 0, .int .i64 0] 70)
        have HI5 := Lib.hid I5
        have Ht5 := Lib.hid t5
        clear I5 t5 hb4 c0 x3 HA
        go_wp2_with fail
        go_end0
        exact ⟨rfl, Ht5.out, by rw [← HD2.out]; exact HI5.out⟩
end
end Go.Proofs.Ytiagkbmhfgdffaa

set_option linter.unusedVariables false
set_option linter.unusedSimpArgs false
namespace Go.Proofs.Ytiagkbmhfgdffaa
open Go Go.RowKit Go.Deep Go.Maps
section
variable {w w' W : World} {mg : Nat} {lim : Int} {L : List Nd} {S : Nat → Prop}

theorem store_fn {P : Program} (w : World) (a : Addr) (fn : Fn) (first captured : Array Value) (m : Mode) : (store a (.func fn first captured) m).run P w = stored P w a (.func fn first captured) m := run_store P w a _ m rfl
attribute [local go_sem] store_fn
theorem five (w : World) (o1 o2 o4 o5 : Obj) : ((((w.alloc o1).alloc o2).alloc (.map #[] 0)).alloc o4 |>.alloc o5).heap[w.heap.size]? = some o1 ∧ ((((w.alloc o1).alloc o2).alloc (.map #[] 0)).alloc o4 |>.alloc o5).heap[w.heap.size + 1]? = some o2 ∧
    ((((w.alloc o1).alloc o2).alloc (.map #[] 0)).alloc o4 |>.alloc o5).heap[w.heap.size + 1 + 1 + 1]? = some o4 ∧ ((((w.alloc o1).alloc o2).alloc (.map #[] 0)).alloc o4 |>.alloc o5).heap[w.heap.size + 1 + 1 + 1 + 1]? = some o5 ∧
    IMap ((((w.alloc o1).alloc o2).alloc (.map #[] 0)).alloc o4 |>.alloc o5) (w.heap.size + 1 + 1) 0 (vis []) ∧ Below w.heap.size w ((((w.alloc o1).alloc o2).alloc (.map #[] 0)).alloc o4 |>.alloc o5) ∧
    ((((w.alloc o1).alloc o2).alloc (.map #[] 0)).alloc o4 |>.alloc o5).heap.size = w.heap.size + 1 + 1 + 1 + 1 + 1 := by
  have sz : ∀ (W : World) (o : Obj), (W.alloc o).heap.size = W.heap.size + 1 := fun W o => by simp
  have h1 := heap_alloc_new w o1
  have h2 := heap_alloc_new (w.alloc o1) o2
  have h4 := heap_alloc_new (((w.alloc o1).alloc o2).alloc (.map #[] 0)) o4
  have h5 := heap_alloc_new ((((w.alloc o1).alloc o2).alloc (.map #[] 0)).alloc o4) o5
  have hm := IMap.made ((w.alloc o1).alloc o2)
  rw [sz] at h2
  rw [sz, sz, sz] at h4
  rw [sz, sz, sz, sz] at h5
  have hv : vis [] = fun _ => none := by funext x; simp [vis]
  rw [sz, sz, ← hv] at hm
  refine ⟨heap_alloc_lt _ (heap_alloc_lt _ (heap_alloc_lt _ (heap_alloc_lt _ h1))), heap_alloc_lt _ (heap_alloc_lt _ (heap_alloc_lt _ h2)), heap_alloc_lt _ h4, h5, ?_, ?_, ?_⟩
  · exact hm.touch (((Touch.refl _ (fun _ => False)).alloc o4).alloc o5) (fun h => h)
  · exact Below.push (Below.push (Below.push (Below.push (Below.push (Below.refl _ _) (Nat.le_refl _) o1) (Nat.le_refl _) o2) (Nat.le_refl _) (.map #[] 0)) (Nat.le_refl _) o4) (Nat.le_refl _) o5
  · rw [sz, sz, sz, sz, sz]

def roomU (L : List Nd) (r : Int) : List Int := r :: (L.map Nd.l ++ L.map Nd.h)
theorem room (ok : Ar.Ok L) (hl : L.length < 100000000000) {r : Int} (hr : fits r) : Room L (roomU L r) := by
  refine ⟨?_, ?_, ?_⟩
  · unfold roomU maxLen; simp; omega
  · intro x hx
    have key : ∀ n ∈ L, fits n.l ∧ fits n.h := by
      intro n hn
      obtain ⟨i, hi, rfl⟩ := List.getElem_of_mem hn
      have := ok.each i hi
      unfold Ar.low at this
      exact ⟨fits_of (by omega) (by omega), fits_of (by omega) (by omega)⟩
    unfold roomU at hx
    rw [List.mem_cons, List.mem_append, List.mem_map, List.mem_map] at hx
    rcases hx with rfl | ⟨n, hn, rfl⟩ | ⟨n, hn, rfl⟩
    · exact hr
    · exact (key n hn).1
    · exact (key n hn).2
  · intro x _ hn
    obtain ⟨k, rfl⟩ : ∃ k : Nat, x = k := ⟨x.toNat, by have := hn.1; omega⟩
    have hk : k < L.length := by have := hn.2; omega
    rw [Ar.nd_at hk]
    exact ⟨List.mem_cons_of_mem _ (List.mem_append_left _ (List.mem_map_of_mem (List.getElem_mem hk))), List.mem_cons_of_mem _ (List.mem_append_right _ (List.mem_map_of_mem (List.getElem_mem hk)))⟩

set_option maxRecDepth 100000 in
set_option maxHeartbeats 4000000 in
theorem seen_is {sb : Nat} (h0 : Bool) (M : Mgr w mg lim L S) (hb : BoolAt w sb h0) (hs : ¬ S sb) (r : Int) (hr : fits r) (hl : L.length < 100000000000) :
    Calls Try.prog 36 #[.pointer (some ⟨mg, 0, none⟩), .int .i64 r, .func (.func 49) #[] #[.pointer (some ⟨sb, 0, none⟩)]] w fun e w' =>
      e = .returned (.tuple #[]) ∧ BoolAt w' sb (h0 && (Ar.under L r).all Ar.okr) ∧ Touch w w' (fun k => k = sb) := by
  have HM := Lib.hid M
  have HB := Lib.hid hb
  have HR := Lib.hid (room M.ok hl hr)
  obtain ⟨k1, k2, k4, k5, km, kb, kz⟩ := five w (.cells #[.pointer (some ⟨mg, 0, none⟩)] 23) (.cells #[.func (.func 49) #[] #[.pointer (some ⟨sb, 0, none⟩)]] 73) (.cells #[.map (some (w.heap.size + 1 + 1))] 93) (.cells #[.nilFunc] 73)
  have K1 := Lib.hid k1
  have K2 := Lib.hid k2
  have K4 := Lib.hid k4
  have K5 := Lib.hid k5
  have Km := Lib.hid km
  have Kb := Lib.hid kb
  have Kz := Lib.hid kz
  have HS := Lib.hid hs
  have HL := Lib.hid M.lt
  have hsb := lt_of_heap hb
  have HSB := Lib.hid hsb
  clear M hb hr hl k1 k2 k4 k5 km kb kz hs hsb
  have hmm : ∀ w : World, (Instr.makeMap 93 none).run Try.prog w = .ok (.map (some w.heap.size)) (w.alloc (.map #[] 0)) := @run_makeMap Try.prog 93
  go_enter Try.func36, Try.ntmps36
  go_upto_region 3 with fail
  generalize (((((w.alloc (.cells #[.pointer (some ⟨mg, 0, none⟩)] 23)).alloc (.cells #[.func (.func 49) #[] #[.pointer (some ⟨sb, 0, none⟩)]] 73)).alloc (.map #[] 0)).alloc (.cells #[.map (some (w.heap.size + 1 + 1))] 93)).alloc (.cells #[.nilFunc] 73)) = w5 at *
  have y0 : w5.cell? ⟨w.heap.size + 1 + 1 + 1 + 1, 0, none⟩ = some .nilFunc := cell_at K5.out 0 rfl
  have f0 := free_at K5.out 0
  go_upto_region 4 with fail
  have q5 : (w5.setCell ⟨w.heap.size + 1 + 1 + 1 + 1, 0, none⟩ (.func (.func 55) #[] #[.pointer (some ⟨w.heap.size + 1 + 1 + 1, 0, none⟩), .pointer (some ⟨w.heap.size + 1, 0, none⟩), .pointer (some ⟨w.heap.size, 0, none⟩), .pointer (some ⟨w.heap.size + 1 + 1 + 1 + 1, 0, none⟩)])).heap[w.heap.size + 1 + 1 + 1 + 1]? = some (.cells #[.func (.func 55) #[] #[.pointer (some ⟨w.heap.size + 1 + 1 + 1, 0, none⟩), .pointer (some ⟨w.heap.size + 1, 0, none⟩), .pointer (some ⟨w.heap.size, 0, none⟩), .pointer (some ⟨w.heap.size + 1 + 1 + 1 + 1, 0, none⟩)]] 73 (0, 0)) := heap_setCell_same K5.out _
  have q1 := heap_setCell_other ⟨w.heap.size + 1 + 1 + 1 + 1, 0, none⟩ K1.out rfl (show w.heap.size ≠ w.heap.size + 1 + 1 + 1 + 1 by omega) (.func (.func 55) #[] #[.pointer (some ⟨w.heap.size + 1 + 1 + 1, 0, none⟩), .pointer (some ⟨w.heap.size + 1, 0, none⟩), .pointer (some ⟨w.heap.size, 0, none⟩), .pointer (some ⟨w.heap.size + 1 + 1 + 1 + 1, 0, none⟩)])
  have q2 := heap_setCell_other ⟨w.heap.size + 1 + 1 + 1 + 1, 0, none⟩ K2.out rfl (show w.heap.size + 1 ≠ w.heap.size + 1 + 1 + 1 + 1 by omega) (.func (.func 55) #[] #[.pointer (some ⟨w.heap.size + 1 + 1 + 1, 0, none⟩), .pointer (some ⟨w.heap.size + 1, 0, none⟩), .pointer (some ⟨w.heap.size, 0, none⟩), .pointer (some ⟨w.heap.size + 1 + 1 + 1 + 1, 0, none⟩)])
  have q4 := heap_setCell_other ⟨w.heap.size + 1 + 1 + 1 + 1, 0, none⟩ K4.out rfl (show w.heap.size + 1 + 1 + 1 ≠ w.heap.size + 1 + 1 + 1 + 1 by omega) (.func (.func 55) #[] #[.pointer (some ⟨w.heap.size + 1 + 1 + 1, 0, none⟩), .pointer (some ⟨w.heap.size + 1, 0, none⟩), .pointer (some ⟨w.heap.size, 0, none⟩), .pointer (some ⟨w.heap.size + 1 + 1 + 1 + 1, 0, none⟩)])
  have qm := Km.out.touch ((Touch.refl w5 (fun k => k = w.heap.size + 1 + 1 + 1 + 1)).setCell (p := ⟨w.heap.size + 1 + 1 + 1 + 1, 0, none⟩) (.inl rfl) (.func (.func 55) #[] #[.pointer (some ⟨w.heap.size + 1 + 1 + 1, 0, none⟩), .pointer (some ⟨w.heap.size + 1, 0, none⟩), .pointer (some ⟨w.heap.size, 0, none⟩), .pointer (some ⟨w.heap.size + 1 + 1 + 1 + 1, 0, none⟩)])) (show ¬ (w.heap.size + 1 + 1 = w.heap.size + 1 + 1 + 1 + 1) by omega)
  have qb : Below w.heap.size w (w5.setCell ⟨w.heap.size + 1 + 1 + 1 + 1, 0, none⟩ (.func (.func 55) #[] #[.pointer (some ⟨w.heap.size + 1 + 1 + 1, 0, none⟩), .pointer (some ⟨w.heap.size + 1, 0, none⟩), .pointer (some ⟨w.heap.size, 0, none⟩), .pointer (some ⟨w.heap.size + 1 + 1 + 1 + 1, 0, none⟩)])) := Below.setCell Kb.out (show w.heap.size ≤ w.heap.size + 1 + 1 + 1 + 1 by omega) _
  have qz : (w5.setCell ⟨w.heap.size + 1 + 1 + 1 + 1, 0, none⟩ (.func (.func 55) #[] #[.pointer (some ⟨w.heap.size + 1 + 1 + 1, 0, none⟩), .pointer (some ⟨w.heap.size + 1, 0, none⟩), .pointer (some ⟨w.heap.size, 0, none⟩), .pointer (some ⟨w.heap.size + 1 + 1 + 1 + 1, 0, none⟩)])).heap.size = w.heap.size + 1 + 1 + 1 + 1 + 1 := by rw [← Kz.out]; simp
  have Q1 := Lib.hid q1
  have Q2 := Lib.hid q2
  have Q4 := Lib.hid q4
  have Q5 := Lib.hid q5
  have Qm := Lib.hid qm
  have Qb := Lib.hid qb
  have Qz := Lib.hid qz
  clear q1 q2 q4 q5 qm qb qz K1 K2 K4 K5 Km Kb Kz y0 f0
  generalize w5.setCell ⟨w.heap.size + 1 + 1 + 1 + 1, 0, none⟩ (.func (.func 55) #[] #[.pointer (some ⟨w.heap.size + 1 + 1 + 1, 0, none⟩), .pointer (some ⟨w.heap.size + 1, 0, none⟩), .pointer (some ⟨w.heap.size, 0, none⟩), .pointer (some ⟨w.heap.size + 1 + 1 + 1 + 1, 0, none⟩)]) = w6 at *
  have x6 : w6.cell? ⟨w.heap.size + 1 + 1 + 1 + 1, 0, none⟩ = some (.func (.func 55) #[] #[.pointer (some ⟨w.heap.size + 1 + 1 + 1, 0, none⟩), .pointer (some ⟨w.heap.size + 1, 0, none⟩), .pointer (some ⟨w.heap.size, 0, none⟩), .pointer (some ⟨w.heap.size + 1 + 1 + 1 + 1, 0, none⟩)]) := cell_at Q5.out 0 rfl
  have b6 : BoolAt w6 sb h0 := (Touch.of_below Qb.out (fun _ => False)).heap HB.out (fun c => c)
  have HB6 := Lib.hid b6
  clear b6
  have C : Hid (SeenC w6 mg lim L S (.func (.func 49) #[] #[.pointer (some ⟨sb, 0, none⟩)]) (w.heap.size + 1 + 1) (w.heap.size + 1 + 1 + 1) (w.heap.size + 1) w.heap.size (w.heap.size + 1 + 1 + 1 + 1) sb) := by
    have z := Qz.out
    have z2 := HSB.out
    exact Lib.hid ⟨HM.out.below Qb.out, Q4.out, Q2.out, Q1.out, Q5.out, by omega, by omega, by omega, by omega, fun k hk c => by have := HL.out k hk; rcases c with c | c; omega; exact HS.out (c ▸ hk), by omega, by omega, by omega⟩
  have I : Hid (SeenI w6 w6 (w.heap.size + 1 + 1) sb (fun V => h0 && V.all Ar.okr) (roomU L r) []) :=
    Lib.hid ⟨Touch.refl _ _, Qm.out, by simpa using HB6.out, by simp, by simp⟩
  clear Q1 Q2 Q4 Q5 Qm HB6
  go_wp2_with fail
  refine (down_is h0 C.out HR.out (L.length + 2) w6 r [] I.out (by simp [roomU]) (fun h => by have := h.1; have := h.2; omega) (by omega)).mono ?_
  rintro e w7 ⟨rfl, t7, I7⟩
  go_wp2_with fail
  go_end0
  refine ⟨rfl, I7.s, (Touch.of_below Qb.out (fun k => k = sb)).step t7 (fun i hi h => ?_)⟩
  rcases h with h | h
  · omega
  · exact h
end
end Go.Proofs.Ytiagkbmhfgdffaa

set_option linter.unusedVariables false
set_option linter.unusedSimpArgs false
namespace Go.Proofs.Ytiagkbmhfgdffaa
open Go Go.RowKit Go.Deep Go.Maps
section
variable {w w' W : World} {mg : Nat} {lim : Int} {L : List Nd} {S : Nat → Prop}

set_option maxRecDepth 100000 in
set_option maxHeartbeats 4000000 in
theorem is_any (M : Mgr w mg lim L S) (r : Int) (hr : fits r) (hl : L.length < 100000000000) :
    Calls Try.prog 25 #[.pointer (some ⟨mg, 0, none⟩), .int .i64 r] w fun e w' => e = .returned (.bool (Ar.isb L r)) ∧ Below w.heap.size w w' := by
  have HM := Lib.hid M
  have HR := Lib.hid hr
  have HL := Lib.hid hl
  have HS : Hid (∀ k, S k → k < w.heap.size) := Lib.hid M.lt
  obtain ⟨b, mb, bp, ES, MA⟩ := M
  have c0 := MA.c0
  have HA := Lib.hid MA.ar
  clear MA hr hl
  go_enter Try.func25, Try.ntmps25
  go_wp2_with fail
  refine (has_any HA.out r).mono ?_
  rintro e w1 ⟨rfl, rfl⟩
  go_upto_region 2 with fail
  have k1 := heap_alloc_new w (.cells #[.bool (decide (Ar.has L r))] 4)
  have kb : Below w.heap.size w (w.alloc (.cells #[.bool (decide (Ar.has L r))] 4)) := Below.push (Below.refl _ _) (Nat.le_refl _) _
  have K1 : Hid (BoolAt (w.alloc (.cells #[.bool (decide (Ar.has L r))] 4)) w.heap.size (decide (Ar.has L r))) := Lib.hid k1
  have Kb := Lib.hid kb
  clear k1 kb c0 HA
  generalize w.alloc (.cells #[.bool (decide (Ar.has L r))] 4) = w2 at *
  go_wp2_with fail
  refine (seen_is (decide (Ar.has L r)) (HM.out.below Kb.out) K1.out (fun h => by have := HS.out _ h; omega) r HR.out HL.out).mono ?_
  rintro e w3 ⟨rfl, h3, t3⟩
  have x3 : w3.cell? ⟨w.heap.size, 0, none⟩ = some (.bool (decide (Ar.has L r) && (Ar.under L r).all Ar.okr)) := cell_at h3 0 rfl
  have HB3 := Lib.hid (((Touch.of_below Kb.out (fun k => w.heap.size ≤ k)).step t3 (fun i hi h => by omega)).below (B := w.heap.size) (Nat.le_refl _) (fun k hk h => by omega))
  clear h3 t3 K1 Kb
  go_wp2_with fail
  go_ret
  exact ⟨rfl, HB3.out⟩
/-- May an operation be done: are all refs diagrams of booleans, is it a variable? -/
def mayb (L : List Nd) (v : Int) (xs : List Int) : Bool := xs.all (Ar.isb L) && (decide (0 ≤ v) && decide (v < 12))
set_option maxRecDepth 100000 in
set_option maxHeartbeats 4000000 in
theorem may_any (M : Mgr w mg lim L S) (v : Int) {u : Value} {xs : List Int} (hx : Ints w u xs) (hf : ∀ x ∈ xs, fits x) (hl : L.length < 100000000000) :
    Calls Try.prog 40 #[.pointer (some ⟨mg, 0, none⟩), .int .i64 v, u] w fun e w' => e = .returned (.bool (mayb L v xs)) ∧ Below w.heap.size w w' := by
  have HM := Lib.hid M
  have HF := Lib.hid hf
  have HL := Lib.hid hl
  obtain ⟨ao, c, rfl, h1, h2, h3⟩ := hx
  have H3 := Lib.hid h3
  unfold maxLen at h2
  clear M hf hl h3
  go_enter Try.func40, Try.ntmps40
  go_wp2_with fail
  go_loopg [8, 11] xs.length (fun gk v8 i wr => ∃ k : Nat, i = .int .i64 k ∧ k + gk = xs.length ∧ Hid (Below w.heap.size w wr) ∧ Hid ((xs.take k).all (Ar.isb L) = true))
  case atStart => exact ⟨0, rfl, by omega, Lib.hid (Below.refl _ _), Lib.hid rfl⟩
  case round =>
    obtain ⟨k, rfl, hk, HW, HT⟩ := hrel
    by_cases hlt : k < xs.length
    · obtain ⟨b, o, rfl, hc⟩ := H3.out k hlt
      have hc2 : wr.cell? ⟨b, o + k, none⟩ = some (.int .i64 xs[k]) := (HW.out.cell (p := ⟨b, o + k, none⟩) (World.block_lt_of_cell? w _ hc)).trans hc
      have ht : (xs.take (k + 1)).all (Ar.isb L) = Ar.isb L xs[k] := by
        rw [List.take_add_one, List.getElem?_eq_getElem hlt, List.all_append, HT.out]; simp
      have HT1 := Lib.hid ht
      clear hc ht
      cases hi : Ar.isb L xs[k]
      · have HI := Lib.hid hi
        clear hi
        go_wp2_with fail
        refine (is_any (HM.out.below HW.out) xs[k] (HF.out _ (List.getElem_mem hlt)) HL.out).mono ?_
        rintro e w2 ⟨rfl, hb2⟩
        rw [HI.out]
        have HB2 := Lib.hid (Below.seq HW.out (Nat.le_refl _) hb2)
        have hm : mayb L v xs = false := by
          unfold mayb
          have : xs.all (Ar.isb L) = false := by
            cases h : xs.all (Ar.isb L)
            · rfl
            · rw [List.all_eq_true] at h
              have := h _ (List.getElem_mem hlt)
              rw [HI.out] at this; cases this
          rw [this]; rfl
        have HMM := Lib.hid hm
        clear hb2 hm hc2
        go_wp2_with fail
        go_ret
        exact ⟨by rw [HMM.out]; rfl, HB2.out⟩
      · have HI := Lib.hid hi
        clear hi
        go_wp2_with fail
        refine (is_any (HM.out.below HW.out) xs[k] (HF.out _ (List.getElem_mem hlt)) HL.out).mono ?_
        rintro e w2 ⟨rfl, hb2⟩
        rw [HI.out]
        have HB2 := Lib.hid (Below.seq HW.out (Nat.le_refl _) hb2)
        have HT2 : Hid ((xs.take (k + 1)).all (Ar.isb L) = true) := by rw [HT1.out, HI.out]; exact Lib.hid rfl
        clear hb2 hc2
        go_wp2_with fail
        go_roundg (gk - 1)
        case measure => omega
        case rel => exact ⟨k + 1, by go_num, by omega, HB2, HT2⟩
    · obtain rfl : k = xs.length := by omega
      have hall := HT.out
      rw [List.take_length] at hall
      have HA := Lib.hid hall
      clear hall
      by_cases c1 : 0 ≤ v
      · have d1 : decide (0 ≤ v) = true := decide_eq_true c1
        go_wp2_with fail
        go_ret
        exact ⟨by unfold mayb; rw [HA.out, d1]; rfl, HW.out⟩
      · have d1 : decide (0 ≤ v) = false := decide_eq_false c1
        go_wp2_with fail
        go_ret
        exact ⟨by unfold mayb; rw [HA.out, d1]; rfl, HW.out⟩
end
end Go.Proofs.Ytiagkbmhfgdffaa

set_option linter.unusedVariables false
set_option linter.unusedSimpArgs false
namespace Go.Proofs.Ytiagkbmhfgdffaa
open Go Go.RowKit Go.Deep Go.Maps
section
variable {w w' W : World} {mg : Nat} {lim : Int} {L : List Nd} {S : Nat → Prop}

theorem toldF_eq (r : List Nd × Int × Int) : toldF r = (r.1, if r.2.2 = 0 then r.2.1 else 0, if r.2.2 = 0 then 0 else if r.2.2 = 50 then 50 else 1) := by
  obtain ⟨a, b, c⟩ := r
  unfold toldF
  dsimp only
  by_cases h : c = 0
  · rw [if_pos h, if_pos h, if_pos h, h]
  · rw [if_neg h, if_neg h, if_neg h]
    by_cases h2 : c = 50
    · rw [if_pos h2, if_pos h2]
    · rw [if_neg h2, if_neg h2]
theorem op_bad {w1 : World} (M : Mgr w mg lim L S) (hb : Below w.heap.size w w1) : OpPost w mg lim S (L, 0, 1) (.returned (.tuple #[.int .i64 0, .iface 51 (.int .i64 1)])) w1 :=
  ⟨_, rfl, (M.below hb).mono (fun k hk => .inl hk) (fun k hk => by
    rcases hk with hk | hk
    · have := M.lt k hk; have := hb.size; omega
    · exact hk.2), Touch.of_below hb S, .inr (.inl ⟨rfl, rfl⟩)⟩
/-- What told makes of what a call left. -/
theorem op_told {w1 w2 : World} {r : List Nd × Int × Int} {e : Ending} (hb : Below w.heap.size w w1) (h : ∃ ev, Mgr w2 mg lim r.1 (fun k => S k ∨ (w1.heap.size ≤ k ∧ k < w2.heap.size)) ∧ Touch w1 w2 S ∧ ErrAt w2 ev r.2.2) (ht : ∃ ev, e = .returned (.tuple #[.int .i64 (if r.2.2 = 0 then r.2.1 else 0), ev]) ∧ ErrAt w2 ev (if r.2.2 = 0 then 0 else if r.2.2 = 50 then 50 else 1)) :
    OpPost w mg lim S (toldF r) e w2 := by
  rw [toldF_eq]
  obtain ⟨_, M, t, _⟩ := h
  obtain ⟨ev, rfl, he⟩ := ht
  exact OpPost.lift hb ⟨ev, rfl, M, t, he⟩
theorem ints_new (w : World) (xs : List Int) (hx : xs.length ≤ maxLen) : Ints (w.alloc (.cells (xs.map (Value.int .i64)).toArray 3)) (.slice (some ⟨w.heap.size, 0, none⟩) xs.length xs.length) xs :=
  ⟨_, _, rfl, Nat.le_refl _, hx, fun i hi => ⟨w.heap.size, 0, rfl, by rw [Nat.zero_add]; exact cell_at (heap_alloc_new w _) i (by simp [hi])⟩⟩
theorem mayb_all {v : Int} {xs : List Int} (ok : Ar.Ok L) (h : mayb L v xs = true) : (∀ x ∈ xs, Ar.Bo L x) ∧ 0 ≤ v ∧ v < 12 := by
  unfold mayb at h
  rw [Bool.and_eq_true, Bool.and_eq_true, List.all_eq_true, decide_eq_true_eq, decide_eq_true_eq] at h
  exact ⟨fun x hx => (Ar.isb_iff ok x).1 (h.1 x hx), h.2⟩

theorem var_nonneg (ok : Ar.Ok L) (r : Int) : 0 ≤ Ar.var L r := by
  unfold Ar.var
  split
  · rename_i h
    obtain ⟨k, rfl⟩ : ∃ k : Nat, r = k := ⟨r.toNat, by have := h.1; omega⟩
    have hk : k < L.length := by have := h.2; omega
    rw [Ar.nd_at hk]
    exact (ok.each k hk).1
  · decide
theorem vm_nonneg (ok : Ar.Ok L) (f g h : Int) : 0 ≤ Ar.vm L f g h := by
  have h1 := var_nonneg ok f
  have h2 := var_nonneg ok g
  have h3 := var_nonneg ok h
  unfold Ar.vm
  omega
def iteF (lim : Int) (L : List Nd) (f g h : Int) : List Nd × Int × Int := if mayb L 0 [f, g, h] = true then toldF (Ar.ite lim 13 L f g h) else (L, 0, 1)
set_option maxRecDepth 100000 in
set_option maxHeartbeats 4000000 in
theorem Ite_any (hlim : lim < 100000000000) (M : Mgr w mg lim L S) (hl : L.length < 100000000000) {f g h : Int} (hf : fits f) (hg : fits g) (hh : fits h) :
    Calls Try.prog 20 #[.pointer (some ⟨mg, 0, none⟩), .int .i64 f, .int .i64 g, .int .i64 h] w (OpPost w mg lim S (iteF lim L f g h)) := by
  have HM := Lib.hid M
  have HL := Lib.hid hl
  have HLim := Lib.hid hlim
  have hI := ints_new w [f, g, h] (by unfold maxLen; simp)
  have hB : Below w.heap.size w (w.alloc (.cells ([f, g, h].map (Value.int .i64)).toArray 3)) := Below.push (Below.refl _ _) (Nat.le_refl _) _
  have hF : ∀ x ∈ [f, g, h], fits x := by
    intro x hx
    simp only [List.mem_cons, List.not_mem_nil, or_false] at hx
    rcases hx with rfl | rfl | rfl <;> assumption
  simp only [List.map_cons, List.map_nil] at hI hB
  have HI := Lib.hid hI
  have HB := Lib.hid hB
  have HF := Lib.hid hF
  clear M hl hlim hI hB hF hf hg hh
  unfold iteF
  cases hm : mayb L 0 [f, g, h]
  · have HMB := Lib.hid hm
    rw [if_neg (by simp)]
    clear hm
    go_enter Try.func20, Try.ntmps20
    go_wp2_with fail
    generalize w.alloc (.cells #[.int .i64 f, .int .i64 g, .int .i64 h] 3) = w1 at *
    refine (may_any (HM.out.below HB.out) 0 HI.out HF.out HL.out).mono ?_
    rintro e w2 ⟨rfl, hb2⟩
    rw [HMB.out]
    have HB2 := Lib.hid (Below.seq HB.out (Nat.le_refl _) hb2)
    clear hb2
    go_wp2_with fail
    go_ret2
    exact op_bad HM.out HB2.out
  · have HMB := Lib.hid hm
    have HBO := Lib.hid (mayb_all HM.out.ok hm).1
    rw [if_pos rfl]
    clear hm
    go_enter Try.func20, Try.ntmps20
    go_wp2_with fail
    generalize w.alloc (.cells #[.int .i64 f, .int .i64 g, .int .i64 h] 3) = w1 at *
    refine (may_any (HM.out.below HB.out) 0 HI.out HF.out HL.out).mono ?_
    rintro e w2 ⟨rfl, hb2⟩
    rw [HMB.out]
    have HB2 := Lib.hid (Below.seq HB.out (Nat.le_refl _) hb2)
    clear hb2 HI HB
    go_wp2_with fail
    refine (ite_to HLim.out 13 w2 L S f g h (HM.out.below HB2.out) (HBO.out _ (by simp)) (HBO.out _ (by simp)) (HBO.out _ (by simp)) (by have := vm_nonneg HM.out.ok f g h; omega) HL.out).mono ?_
    rintro e w3 ⟨ev, rfl, M3, t3, he⟩
    have HE := Lib.hid he
    have H3 := Lib.hid (show ∃ ev, Mgr w3 mg lim (Ar.ite lim 13 L f g h).1 (fun k => S k ∨ (w2.heap.size ≤ k ∧ k < w3.heap.size)) ∧ Touch w2 w3 S ∧ ErrAt w3 ev (Ar.ite lim 13 L f g h).2.2 from ⟨ev, M3, t3, he⟩)
    clear M3 t3 he
    generalize Ar.ite lim 13 L f g h = r at *
    go_wp2_with fail
    refine (told_any w3 _ _ ev HE.out).mono ?_
    rintro e w4 ⟨ev4, rfl, he4, rfl⟩
    have H4 := Lib.hid he4
    clear he4
    obtain ⟨z, hz⟩ : ∃ z, (if r.2.2 = 0 then r.2.1 else 0) = z := ⟨_, rfl⟩
    rw [hz]
    have HZ := Lib.hid hz
    clear hz
    go_wp2_with fail
    go_ret2
    exact op_told HB2.out H3.out ⟨ev4, by rw [HZ.out]; rfl, H4.out⟩
end
end Go.Proofs.Ytiagkbmhfgdffaa

set_option linter.unusedVariables false
set_option linter.unusedSimpArgs false
namespace Go.Proofs.Ytiagkbmhfgdffaa
open Go Go.RowKit Go.Deep Go.Maps
section
variable {w w' W : World} {mg : Nat} {lim : Int} {L : List Nd} {S : Nat → Prop}
theorem fits_no : fits (-1) := fits_of (by decide) (by decide)
theorem fits_yes : fits (-2) := fits_of (by decide) (by decide)
set_option maxHeartbeats 1000000 in
theorem Not_any (hlim : lim < 100000000000) (M : Mgr w mg lim L S) (hl : L.length < 100000000000) {f : Int} (hf : fits f) :
    Calls Try.prog 18 #[.pointer (some ⟨mg, 0, none⟩), .int .i64 f] w (OpPost w mg lim S (iteF lim L f (-1) (-2))) := by
  have HI := Lib.hid (Ite_any hlim M hl hf fits_no fits_yes)
  clear M hl hlim
  generalize iteF lim L f (-1) (-2) = r at *
  go_enter Try.func18, Try.ntmps18
  go_wp2_with fail
  refine HI.out.mono ?_
  rintro e w1 ⟨ev, rfl, hp⟩
  have HP := Lib.hid hp
  clear hp
  go_wp2_with fail
  go_ret2
  exact ⟨ev, rfl, HP.out⟩
set_option maxHeartbeats 1000000 in
theorem And_any (hlim : lim < 100000000000) (M : Mgr w mg lim L S) (hl : L.length < 100000000000) {f g : Int} (hf : fits f) (hg : fits g) :
    Calls Try.prog 19 #[.pointer (some ⟨mg, 0, none⟩), .int .i64 f, .int .i64 g] w (OpPost w mg lim S (iteF lim L f g (-1))) := by
  have HI := Lib.hid (Ite_any hlim M hl hf hg fits_no)
  clear M hl hlim
  generalize iteF lim L f g (-1) = r at *
  go_enter Try.func19, Try.ntmps19
  go_wp2_with fail
  refine HI.out.mono ?_
  rintro e w1 ⟨ev, rfl, hp⟩
  have HP := Lib.hid hp
  clear hp
  go_wp2_with fail
  go_ret2
  exact ⟨ev, rfl, HP.out⟩
set_option maxHeartbeats 1000000 in
theorem Or_any (hlim : lim < 100000000000) (M : Mgr w mg lim L S) (hl : L.length < 100000000000) {f g : Int} (hf : fits f) (hg : fits g) :
    Calls Try.prog 51 #[.pointer (some ⟨mg, 0, none⟩), .int .i64 f, .int .i64 g] w (OpPost w mg lim S (iteF lim L f (-2) g)) := by
  have HI := Lib.hid (Ite_any hlim M hl hf fits_yes hg)
  clear M hl hlim
  generalize iteF lim L f (-2) g = r at *
  go_enter Try.func51, Try.ntmps51
  go_wp2_with fail
  refine HI.out.mono ?_
  rintro e w1 ⟨ev, rfl, hp⟩
  have HP := Lib.hid hp
  clear hp
  go_wp2_with fail
  go_ret2
  exact ⟨ev, rfl, HP.out⟩
def rstF (lim : Int) (L : List Nd) (f v : Int) (d : Bool) : List Nd × Int × Int := if mayb L v [f] = true then toldF (Ar.rst lim v d 13 L f) else (L, 0, 1)
set_option maxRecDepth 100000 in
set_option maxHeartbeats 4000000 in
theorem Restrict_any (hlim : lim < 100000000000) (M : Mgr w mg lim L S) (hl : L.length < 100000000000) {f : Int} (v : Int) (d : Bool) (hf : fits f) :
    Calls Try.prog 21 #[.pointer (some ⟨mg, 0, none⟩), .int .i64 f, .int .i64 v, .bool d] w (OpPost w mg lim S (rstF lim L f v d)) := by
  have HM := Lib.hid M
  have HL := Lib.hid hl
  have HLim := Lib.hid hlim
  have hI := ints_new w [f] (by unfold maxLen; simp)
  have hB : Below w.heap.size w (w.alloc (.cells ([f].map (Value.int .i64)).toArray 3)) := Below.push (Below.refl _ _) (Nat.le_refl _) _
  have hF : ∀ x ∈ [f], fits x := by
    intro x hx
    simp only [List.mem_cons, List.not_mem_nil, or_false] at hx
    subst hx; assumption
  simp only [List.map_cons, List.map_nil] at hI hB
  have HI := Lib.hid hI
  have HB := Lib.hid hB
  have HF := Lib.hid hF
  clear M hl hlim hI hB hF hf
  unfold rstF
  cases hm : mayb L v [f]
  · have HMB := Lib.hid hm
    rw [if_neg (by simp)]
    clear hm
    go_enter Try.func21, Try.ntmps21
    go_wp2_with fail
    generalize w.alloc (.cells #[.int .i64 f] 3) = w1 at *
    refine (may_any (HM.out.below HB.out) v HI.out HF.out HL.out).mono ?_
    rintro e w2 ⟨rfl, hb2⟩
    rw [HMB.out]
    have HB2 := Lib.hid (Below.seq HB.out (Nat.le_refl _) hb2)
    clear hb2
    go_wp2_with fail
    go_ret2
    exact op_bad HM.out HB2.out
  · have HMB := Lib.hid hm
    have HBO := Lib.hid (mayb_all HM.out.ok hm).1
    have HVV := Lib.hid (mayb_all HM.out.ok hm).2
    rw [if_pos rfl]
    clear hm
    go_enter Try.func21, Try.ntmps21
    go_wp2_with fail
    generalize w.alloc (.cells #[.int .i64 f] 3) = w1 at *
    refine (may_any (HM.out.below HB.out) v HI.out HF.out HL.out).mono ?_
    rintro e w2 ⟨rfl, hb2⟩
    rw [HMB.out]
    have HB2 := Lib.hid (Below.seq HB.out (Nat.le_refl _) hb2)
    clear hb2 HI HB
    go_wp2_with fail
    refine (rst_to HLim.out HVV.out.1 HVV.out.2 d 13 w2 L S f (HM.out.below HB2.out) (HBO.out _ (by simp)) (by have := var_nonneg HM.out.ok f; omega) HL.out).mono ?_
    rintro e w3 ⟨ev, rfl, M3, t3, he⟩
    have HE := Lib.hid he
    have H3 := Lib.hid (show ∃ ev, Mgr w3 mg lim (Ar.rst lim v d 13 L f).1 (fun k => S k ∨ (w2.heap.size ≤ k ∧ k < w3.heap.size)) ∧ Touch w2 w3 S ∧ ErrAt w3 ev (Ar.rst lim v d 13 L f).2.2 from ⟨ev, M3, t3, he⟩)
    clear M3 t3 he
    generalize Ar.rst lim v d 13 L f = r at *
    go_wp2_with fail
    refine (told_any w3 _ _ ev HE.out).mono ?_
    rintro e w4 ⟨ev4, rfl, he4, rfl⟩
    have H4 := Lib.hid he4
    clear he4
    obtain ⟨z, hz⟩ : ∃ z, (if r.2.2 = 0 then r.2.1 else 0) = z := ⟨_, rfl⟩
    rw [hz]
    have HZ := Lib.hid hz
    clear hz
    go_wp2_with fail
    go_ret2
    exact op_told HB2.out H3.out ⟨ev4, by rw [HZ.out]; rfl, H4.out⟩
def varF (lim : Int) (L : List Nd) (v : Int) : List Nd × Int × Int := if mayb L v [] = true then toldF (Ar.mk lim L v (-1) (-2)) else (L, 0, 1)
set_option maxRecDepth 100000 in
set_option maxHeartbeats 4000000 in
theorem Var_any (M : Mgr w mg lim L S) (hl : L.length < 100000000000) (v : Int) :
    Calls Try.prog 26 #[.pointer (some ⟨mg, 0, none⟩), .int .i64 v] w (OpPost w mg lim S (varF lim L v)) := by
  have HM := Lib.hid M
  have HL := Lib.hid hl
  have HI : Hid (Ints w (.slice none 0 0) []) := Lib.hid ⟨none, 0, rfl, Nat.le_refl _, Nat.zero_le _, fun i hi => absurd hi (Nat.not_lt_zero _)⟩
  have HF : Hid (∀ x ∈ ([] : List Int), fits x) := Lib.hid (fun x hx => by simp at hx)
  clear M hl
  unfold varF
  cases hm : mayb L v []
  · have HMB := Lib.hid hm
    rw [if_neg (by simp)]
    clear hm
    go_enter Try.func26, Try.ntmps26
    go_wp2_with fail
    refine (may_any HM.out v HI.out HF.out HL.out).mono ?_
    rintro e w2 ⟨rfl, hb2⟩
    rw [HMB.out]
    have HB2 := Lib.hid hb2
    clear hb2
    go_wp2_with fail
    go_ret2
    exact op_bad HM.out HB2.out
  · have HMB := Lib.hid hm
    rw [if_pos rfl]
    clear hm
    go_enter Try.func26, Try.ntmps26
    go_wp2_with fail
    refine (may_any HM.out v HI.out HF.out HL.out).mono ?_
    rintro e w2 ⟨rfl, hb2⟩
    rw [HMB.out]
    have HB2 := Lib.hid hb2
    clear hb2
    obtain ⟨b, c0, hmk⟩ := mk_to (HM.out.below HB2.out) HL.out v (-1) (-2)
    have HMK := Lib.hid hmk
    clear hmk
    go_wp2_with fail
    refine HMK.out.mono ?_
    rintro e w3 ⟨ev, rfl, M3, t3, he⟩
    have HE := Lib.hid he
    have H3 := Lib.hid (show ∃ ev, Mgr w3 mg lim (Ar.mk lim L v (-1) (-2)).1 (fun k => S k ∨ (w2.heap.size ≤ k ∧ k < w3.heap.size)) ∧ Touch w2 w3 S ∧ ErrAt w3 ev (Ar.mk lim L v (-1) (-2)).2.2 from ⟨ev, M3, t3, he⟩)
    clear M3 t3 he HMK c0
    generalize Ar.mk lim L v (-1) (-2) = r at *
    go_wp2_with fail
    refine (told_any w3 _ _ ev HE.out).mono ?_
    rintro e w4 ⟨ev4, rfl, he4, rfl⟩
    have H4 := Lib.hid he4
    clear he4
    obtain ⟨z, hz⟩ : ∃ z, (if r.2.2 = 0 then r.2.1 else 0) = z := ⟨_, rfl⟩
    rw [hz]
    have HZ := Lib.hid hz
    clear hz
    go_wp2_with fail
    go_ret2
    exact op_told HB2.out H3.out ⟨ev4, by rw [HZ.out]; rfl, H4.out⟩
end
end Go.Proofs.Ytiagkbmhfgdffaa
