/- Texts of this claim, one behind the other: Ba, Me, Ei, Bm, Bt, Bb. -/
import Derived.Test.YtiagkbmhfgdffaaGa
import Derived.Test.YtiagkbmhfgdffaaRows
import Derived.Deep.QuietTactic
import Derived.BigQuiet
import Derived.LoopN
import Derived.Outline
import Derived.Test.YtiagkbmhfgdffaaWMore
import Derived.Test.YtiagkbmhfgdffaaWFour
import Derived.ChangeKeysEq
import Derived.Deep.RegionHeld3
import Derived.Deep.DrawnRows
import Derived.LaidEql
import Derived.Stop.Asserts
import Derived.RowKitTokens
import Derived.Deep.RegionWith
set_option linter.unusedVariables false
set_option linter.unusedSimpArgs false
namespace Go.Proofs.Ytiagkbmhfgdffaa
namespace Ar
variable {L L' : List Nd} {lim : Int}

/-- A diagram of booleans. -/
inductive Bo (L : List Nd) : Int → Prop
  | no : Bo L (-1)
  | yes : Bo L (-2)
  | node {r : Int} : isN L r → Bo L (nd L r).l → Bo L (nd L r).h → Bo L r

theorem isN_not_neg {r : Int} (h : r < 0) : ¬ isN L r := fun c => by have := c.1; omega
theorem Bo.child {r : Int} (h : Bo L r) (hn : isN L r) : Bo L (nd L r).l ∧ Bo L (nd L r).h := by
  cases h with
  | no => exact absurd hn (isN_not_neg (by decide))
  | yes => exact absurd hn (isN_not_neg (by decide))
  | node _ h1 h2 => exact ⟨h1, h2⟩
theorem Bo.leaf {r : Int} (h : Bo L r) (hn : ¬ isN L r) : r = -1 ∨ r = -2 := by
  cases h with
  | no => exact .inl rfl
  | yes => exact .inr rfl
  | node h _ _ => exact absurd h hn
theorem Bo.has {r : Int} (h : Bo L r) : has L r := by
  by_cases hn : isN L r
  · exact ⟨by have := hn.1; unfold low; omega, hn.2⟩
  · rcases h.leaf hn with rfl | rfl <;> exact ⟨by decide, by omega⟩
theorem Bo.lt {r : Int} (h : Bo L r) : r < L.length := h.has.2
theorem Bo.pre (hp : L <+: L') {r : Int} (h : Bo L r) : Bo L' r := by
  induction h with
  | no => exact .no
  | yes => exact .yes
  | node hn _ _ ih1 ih2 =>
    have := hp.length_le
    have e := nd_pre hp hn.2
    exact .node ⟨hn.1, by have := hn.2; omega⟩ (by rw [e]; exact ih1) (by rw [e]; exact ih2)
theorem isN_pre (hp : L <+: L') {r : Int} (h : r < L.length) : isN L' r ↔ isN L r := by
  have := hp.length_le
  exact ⟨fun c => ⟨c.1, h⟩, fun c => ⟨c.1, by omega⟩⟩
theorem var_node {r : Int} (hn : isN L r) : var L r = (nd L r).v := by unfold var; rw [if_pos hn]
theorem var_leaf {r : Int} (hn : ¬ isN L r) : var L r = 12 := by unfold var; rw [if_neg hn]
theorem var_le (ok : Ok L) (r : Int) : 0 ≤ var L r ∧ var L r ≤ 12 := by
  by_cases hn : isN L r
  · have := ok_child ok hn; rw [var_node hn]; omega
  · rw [var_leaf hn]; omega

/-- What a diagram says. -/
def ev (t : Int → Bool) (L : List Nd) (r : Int) : Bool := decide (walk t L r = -2)
theorem ev_no (t : Int → Bool) (L : List Nd) : ev t L (-1) = false := by unfold ev; rw [walk_not (isN_not_neg (by decide))]; rfl
theorem ev_yes (t : Int → Bool) (L : List Nd) : ev t L (-2) = true := by unfold ev; rw [walk_not (isN_not_neg (by decide))]; rfl
theorem ev_node (ok : Ok L) {t : Int → Bool} {r : Int} (hn : isN L r) : ev t L r = if t (nd L r).v then ev t L (nd L r).h else ev t L (nd L r).l := by
  unfold ev; rw [walk_node ok hn]; split <;> rfl
theorem ev_pre (ok : Ok L) (hp : L <+: L') {t : Int → Bool} {r : Int} (h : r < L.length) : ev t L' r = ev t L r := by unfold ev; rw [walk_pre ok hp h]
theorem walk_bo (ok : Ok L) {r : Int} (h : Bo L r) (t : Int → Bool) : walk t L r = -1 ∨ walk t L r = -2 := by
  induction h with
  | no => left; rw [walk_not (isN_not_neg (by decide))]
  | yes => right; rw [walk_not (isN_not_neg (by decide))]
  | node hn _ _ ih1 ih2 => rw [walk_node ok hn]; split <;> assumption
theorem canonB (ok : Ok L) {r s : Int} (hr : Bo L r) (hs : Bo L s) (h : ∀ t, ev t L r = ev t L s) : r = s := by
  refine canon ok (r.toNat + s.toNat + 1) r s (by omega) (by omega) hr.has hs.has (fun t => ?_)
  have e := h t
  unfold ev at e
  rcases walk_bo ok hr t with a | a <;> rcases walk_bo ok hs t with b | b <;> rw [a, b] at e ⊢ <;> exact absurd e (by decide)
theorem ev_indep (ok : Ok L) {v : Int} {x : Bool} {r : Int} (hl : r < L.length) (hv : v < var L r) (t : Int → Bool) : ev (fun i => if i = v then x else t i) L r = ev t L r := by
  unfold ev; rw [walk_indep ok v x (r.toNat + 1) r (by omega) hl hv t]

/-- What a diagram is, if a variable is so. -/
def half (L : List Nd) (r v : Int) (b : Bool) : Int := if isN L r ∧ (nd L r).v = v then (if b then (nd L r).h else (nd L r).l) else r
theorem half_bo {r : Int} (h : Bo L r) (v : Int) (b : Bool) : Bo L (half L r v b) := by
  unfold half
  split
  · rename_i c
    have := h.child c.1
    split
    · exact this.2
    · exact this.1
  · exact h
theorem half_ev (ok : Ok L) {r v : Int} {b : Bool} (hr : Bo L r) (hv : v ≤ var L r) (h12 : v < 12) (t : Int → Bool) : ev t L (half L r v b) = ev (fun i => if i = v then b else t i) L r := by
  unfold half
  by_cases c : isN L r ∧ (nd L r).v = v
  · rw [if_pos c, ev_node ok (t := fun i => if i = v then b else t i) c.1, if_pos c.2]
    have hc := ok_child ok c.1
    have hch := hr.child c.1
    cases b
    · simp only [Bool.false_eq_true, if_false]
      rw [ev_indep ok hch.1.lt (by omega)]
    · simp only [if_true]
      rw [ev_indep ok hch.2.lt (by omega)]
  · rw [if_neg c, ev_indep ok hr.lt]
    by_cases hn : isN L r
    · have hne : (nd L r).v ≠ v := fun e => c ⟨hn, e⟩
      rw [var_node hn] at hv ⊢; omega
    · rw [var_leaf hn]; exact h12
theorem half_var (ok : Ok L) {r v : Int} {b : Bool} (hv : v ≤ var L r) (h12 : v < 12) : v < var L (half L r v b) := by
  unfold half
  by_cases c : isN L r ∧ (nd L r).v = v
  · rw [if_pos c]
    have hc := ok_child ok c.1
    split <;> omega
  · rw [if_neg c]
    by_cases hn : isN L r
    · have hne : (nd L r).v ≠ v := fun e => c ⟨hn, e⟩
      rw [var_node hn] at hv ⊢; omega
    · rw [var_leaf hn]; exact h12
theorem half_pre (hp : L <+: L') {r : Int} (h : r < L.length) (v : Int) (b : Bool) : half L' r v b = half L r v b := by
  unfold half
  rw [nd_pre hp h]
  by_cases hn : isN L r
  · simp only [(isN_pre hp h).2 hn, hn]
  · simp only [show ¬ isN L' r from fun c => hn ((isN_pre hp h).1 c), hn]

/-! a node made of two halves -/
theorem mk_bo (ok : Ok L) {v lo hi x e : Int} (h0 : 0 ≤ v) (h12 : v < 12) (hl : Bo L lo) (hh : Bo L hi) (h1 : v < var L lo) (h2 : v < var L hi) (h : mk lim L v lo hi = (L', x, e)) :
    Ok L' ∧ L <+: L' ∧ ((e = 0 ∧ Bo L' x ∧ v ≤ var L' x ∧ (∀ t, ev t L' x = if t v then ev t L hi else ev t L lo) ∧ (L' = L ∨ L' = L ++ [⟨v, lo, hi⟩])) ∨ (e = 50 ∧ x = 0 ∧ L' = L ∧ lim ≤ L.length)) := by
  have ok' : Ok L' := by have := mk_ok (lim := lim) ok v lo hi; rw [h] at this; exact this
  have hp : L <+: L' := by have := mk_prefix lim L v lo hi; rw [h] at this; exact this
  refine ⟨ok', hp, ?_⟩
  have ho : ordered L v lo hi := ⟨hl.has, hh.has, h1, h2⟩
  by_cases he : e = 0
  · subst he
    left
    have hw := fun t => (mk_walk (t := t) ok h).2.2
    have hev : ∀ t, ev t L' x = if t v then ev t L hi else ev t L lo := fun t => by
      unfold ev
      rw [hw t]
      split
      · rw [walk_pre ok hp hh.lt]
      · rw [walk_pre ok hp hl.lt]
    refine ⟨rfl, ?_, ?_, hev, ?_⟩
    all_goals
      rcases mk_cases lim L v lo hi with ⟨n, hn, e⟩ | ⟨_, _, _, ⟨rfl, e⟩ | ⟨_, hm, e⟩ | ⟨hne, hm, _, e⟩⟩ <;> rw [e] at h <;> simp only [Prod.mk.injEq] at h
      · exact absurd h.2.2 hn
      · obtain ⟨rfl, rfl, _⟩ := h
        first | exact hl | omega | exact .inl rfl
      · obtain ⟨rfl, rfl, _⟩ := h
        have hi' := List.idxOf_lt_length_of_mem hm
        have hn : isN L ((L.idxOf (⟨v, lo, hi⟩ : Nd) : Nat) : Int) := ⟨by omega, by omega⟩
        have hnd : nd L ((L.idxOf (⟨v, lo, hi⟩ : Nd) : Nat) : Int) = ⟨v, lo, hi⟩ := by rw [nd_at hi', List.getElem_idxOf hi']
        first
          | exact .node hn (by rw [hnd]; exact hl) (by rw [hnd]; exact hh)
          | (rw [var_node hn, hnd]; exact Int.le_refl _)
          | exact .inl rfl
      · obtain ⟨rfl, rfl, _⟩ := h
        have hi' : L.length < (L ++ [(⟨v, lo, hi⟩ : Nd)]).length := by simp
        have hn : isN (L ++ [(⟨v, lo, hi⟩ : Nd)]) (L.length : Int) := ⟨by omega, by omega⟩
        have hnd : nd (L ++ [(⟨v, lo, hi⟩ : Nd)]) (L.length : Int) = ⟨v, lo, hi⟩ := by rw [nd_at hi']; simp
        first
          | exact .node hn (by rw [hnd]; exact hl.pre hp) (by rw [hnd]; exact hh.pre hp)
          | (rw [var_node hn, hnd]; exact Int.le_refl _)
          | exact .inr rfl
  · right
    unfold mk at h
    rw [if_neg (by omega), if_neg (fun c => c ho)] at h
    split at h
    · simp only [Prod.mk.injEq] at h; exact absurd h.2.2.symm he
    · split at h
      · simp only [Prod.mk.injEq] at h; exact absurd h.2.2.symm he
      · split at h
        · rename_i c
          simp only [Prod.mk.injEq] at h
          exact ⟨h.2.2.symm, h.2.1.symm, h.1.symm, c⟩
        · simp only [Prod.mk.injEq] at h; exact absurd h.2.2.symm he
/-- A node whose halves are a diagram's is that diagram. -/
theorem mk_back (ok : Ok L) {v x : Int} (h0 : 0 ≤ v) (h12 : v < 12) (hx : Bo L x) (hv : v ≤ var L x) : mk lim L v (half L x v false) (half L x v true) = (L, x, 0) := by
  have ho : ordered L v (half L x v false) (half L x v true) := ⟨(half_bo hx v false).has, (half_bo hx v true).has, half_var ok hv h12, half_var ok hv h12⟩
  unfold mk
  rw [if_neg (by omega), if_neg (fun c => c ho)]
  by_cases c : isN L x ∧ (nd L x).v = v
  · have hc := ok_child ok c.1
    have e1 : half L x v false = (nd L x).l := by unfold half; rw [if_pos c]; rfl
    have e2 : half L x v true = (nd L x).h := by unfold half; rw [if_pos c]; rfl
    rw [e1, e2, if_neg hc.2.2.1]
    have hk : x.toNat < L.length := by have := c.1.1; have := c.1.2; omega
    have hm : L[x.toNat] = (⟨v, (nd L x).l, (nd L x).h⟩ : Nd) := by
      have : nd L x = L[x.toNat] := by
        have := nd_at (L := L) hk
        rwa [Int.toNat_of_nonneg c.1.1] at this
      rw [this] at c ⊢
      cases hL : L[x.toNat]
      rw [hL] at c
      simp only at c
      rw [c.2]
    have hmem : (⟨v, (nd L x).l, (nd L x).h⟩ : Nd) ∈ L := hm ▸ List.getElem_mem hk
    rw [if_pos hmem, ← hm, ok.nodup.idxOf_getElem x.toNat hk, Int.toNat_of_nonneg c.1.1]
  · have e : ∀ b, half L x v b = x := fun b => by unfold half; rw [if_neg c]
    rw [e, e, if_pos rfl]

/-! if .. then .. else -/
def vm (L : List Nd) (f g h : Int) : Int := min (min (var L f) (var L g)) (var L h)
def ite (lim : Int) : Nat → List Nd → Int → Int → Int → List Nd × Int × Int
  | 0, L, _, _, _ => (L, 0, 0)
  | n + 1, L, f, g, h =>
    if f = -2 ∨ g = h then (L, g, 0) else if f = -1 then (L, h, 0) else if g = -2 ∧ h = -1 then (L, f, 0) else
    if (ite lim n L (half L f (vm L f g h) false) (half L g (vm L f g h) false) (half L h (vm L f g h) false)).2.2 ≠ 0 then
      ((ite lim n L (half L f (vm L f g h) false) (half L g (vm L f g h) false) (half L h (vm L f g h) false)).1, 0, (ite lim n L (half L f (vm L f g h) false) (half L g (vm L f g h) false) (half L h (vm L f g h) false)).2.2) else
    if (ite lim n (ite lim n L (half L f (vm L f g h) false) (half L g (vm L f g h) false) (half L h (vm L f g h) false)).1 (half L f (vm L f g h) true) (half L g (vm L f g h) true) (half L h (vm L f g h) true)).2.2 ≠ 0 then
      ((ite lim n (ite lim n L (half L f (vm L f g h) false) (half L g (vm L f g h) false) (half L h (vm L f g h) false)).1 (half L f (vm L f g h) true) (half L g (vm L f g h) true) (half L h (vm L f g h) true)).1, 0, (ite lim n (ite lim n L (half L f (vm L f g h) false) (half L g (vm L f g h) false) (half L h (vm L f g h) false)).1 (half L f (vm L f g h) true) (half L g (vm L f g h) true) (half L h (vm L f g h) true)).2.2) else
    mk lim (ite lim n (ite lim n L (half L f (vm L f g h) false) (half L g (vm L f g h) false) (half L h (vm L f g h) false)).1 (half L f (vm L f g h) true) (half L g (vm L f g h) true) (half L h (vm L f g h) true)).1 (vm L f g h)
      (ite lim n L (half L f (vm L f g h) false) (half L g (vm L f g h) false) (half L h (vm L f g h) false)).2.1
      (ite lim n (ite lim n L (half L f (vm L f g h) false) (half L g (vm L f g h) false) (half L h (vm L f g h) false)).1 (half L f (vm L f g h) true) (half L g (vm L f g h) true) (half L h (vm L f g h) true)).2.1

/-- The ways of ite. -/
theorem ite_way (n : Nat) (L : List Nd) (f g h : Int) {r : List Nd × Int × Int} (e : ite lim (n + 1) L f g h = r) :
    ((f = -2 ∨ g = h) ∧ r = (L, g, 0)) ∨ (¬ (f = -2 ∨ g = h) ∧ f = -1 ∧ r = (L, h, 0)) ∨ (¬ (f = -2 ∨ g = h) ∧ f ≠ -1 ∧ g = -2 ∧ h = -1 ∧ r = (L, f, 0)) ∨
    (¬ (f = -2 ∨ g = h) ∧ f ≠ -1 ∧ ¬ (g = -2 ∧ h = -1) ∧ ∃ L1 lo e1, ite lim n L (half L f (vm L f g h) false) (half L g (vm L f g h) false) (half L h (vm L f g h) false) = (L1, lo, e1) ∧
      ((e1 ≠ 0 ∧ r = (L1, 0, e1)) ∨ (e1 = 0 ∧ ∃ L2 hi e2, ite lim n L1 (half L f (vm L f g h) true) (half L g (vm L f g h) true) (half L h (vm L f g h) true) = (L2, hi, e2) ∧
        ((e2 ≠ 0 ∧ r = (L2, 0, e2)) ∨ (e2 = 0 ∧ r = mk lim L2 (vm L f g h) lo hi))))) := by
  rw [ite] at e
  by_cases c1 : f = -2 ∨ g = h
  · rw [if_pos c1] at e; exact .inl ⟨c1, e.symm⟩
  · rw [if_neg c1] at e
    by_cases c2 : f = -1
    · rw [if_pos c2] at e; exact .inr (.inl ⟨c1, c2, e.symm⟩)
    · rw [if_neg c2] at e
      by_cases c3 : g = -2 ∧ h = -1
      · rw [if_pos c3] at e; exact .inr (.inr (.inl ⟨c1, c2, c3.1, c3.2, e.symm⟩))
      · rw [if_neg c3] at e
        refine .inr (.inr (.inr ⟨c1, c2, c3, ?_⟩))
        obtain ⟨L1, lo, e1, h1⟩ : ∃ L1 lo e1, ite lim n L (half L f (vm L f g h) false) (half L g (vm L f g h) false) (half L h (vm L f g h) false) = (L1, lo, e1) := ⟨_, _, _, rfl⟩
        refine ⟨L1, lo, e1, h1, ?_⟩
        rw [h1] at e
        dsimp only at e
        by_cases z1 : e1 = 0
        · rw [if_neg (fun c => c z1)] at e
          refine .inr ⟨z1, ?_⟩
          obtain ⟨L2, hi, e2, h2⟩ : ∃ L2 hi e2, ite lim n L1 (half L f (vm L f g h) true) (half L g (vm L f g h) true) (half L h (vm L f g h) true) = (L2, hi, e2) := ⟨_, _, _, rfl⟩
          refine ⟨L2, hi, e2, h2, ?_⟩
          rw [h2] at e
          dsimp only at e
          by_cases z2 : e2 = 0
          · rw [if_neg (fun c => c z2)] at e; exact .inr ⟨z2, e.symm⟩
          · rw [if_pos z2] at e; exact .inl ⟨z2, e.symm⟩
        · rw [if_pos z1] at e; exact .inl ⟨z1, e.symm⟩

def iteV (t : Int → Bool) (L : List Nd) (f g h : Int) : Bool := if ev t L f then ev t L g else ev t L h
/-- That a diagram is 'if f then g else h'. -/
structure IteIs (L : List Nd) (f g h x : Int) : Prop where
  cf : Bo L f
  cg : Bo L g
  ch : Bo L h
  cx : Bo L x
  cev : ∀ t, Ar.ev t L x = iteV t L f g h
theorem IteIs.pre (ok : Ok L) (hp : L <+: L') {f g h x : Int} (I : IteIs L f g h x) : IteIs L' f g h x :=
  ⟨I.cf.pre hp, I.cg.pre hp, I.ch.pre hp, I.cx.pre hp, fun t => by
    unfold iteV
    rw [ev_pre ok hp I.cx.lt, ev_pre ok hp I.cf.lt, ev_pre ok hp I.cg.lt, ev_pre ok hp I.ch.lt]; exact I.cev t⟩
theorem vm_le (L : List Nd) (f g h : Int) : vm L f g h ≤ var L f ∧ vm L f g h ≤ var L g ∧ vm L f g h ≤ var L h ∧ (vm L f g h = var L f ∨ vm L f g h = var L g ∨ vm L f g h = var L h) := by
  unfold vm; omega
theorem vm_lt (ok : Ok L) {f g h : Int} (hf : Bo L f) (c1 : ¬ (f = -2 ∨ g = h)) (c2 : f ≠ -1) : 0 ≤ vm L f g h ∧ vm L f g h < 12 := by
  have hn : isN L f := by
    apply Classical.byContradiction
    intro hn
    rcases hf.leaf hn with e | e
    · exact c2 e
    · exact c1 (.inl e)
  have hc := ok_child ok hn
  have := vm_le L f g h
  have hv := var_node hn
  have a := var_le ok g
  have b := var_le ok h
  omega
theorem iteV_half (ok : Ok L) {f g h v : Int} {b : Bool} (hf : Bo L f) (hg : Bo L g) (hh : Bo L h) (h1 : v ≤ var L f) (h2 : v ≤ var L g) (h3 : v ≤ var L h) (h12 : v < 12) (t : Int → Bool) :
    iteV t L (half L f v b) (half L g v b) (half L h v b) = iteV (fun i => if i = v then b else t i) L f g h := by
  unfold iteV
  rw [half_ev ok hf h1 h12, half_ev ok hg h2 h12, half_ev ok hh h3 h12]
theorem at_self (t : Int → Bool) (v : Int) : (fun i => if i = v then t v else t i) = t := by
  funext i
  split
  · rename_i h; rw [h]
  · rfl
/-- What ite makes. -/
theorem ite_spec : ∀ (n : Nat) (L : List Nd) (f g h : Int), Ok L → Bo L f → Bo L g → Bo L h → 12 < vm L f g h + n → ∀ L' x e, ite lim n L f g h = (L', x, e) →
    Ok L' ∧ L <+: L' ∧ ((e = 0 ∧ IteIs L' f g h x ∧ vm L f g h ≤ var L' x) ∨ (e = 50 ∧ x = 0 ∧ lim ≤ L'.length))
  | 0, L, f, g, h, ok, hf, hg, hh, hn, L', x, e, hr => by
    have := vm_le L f g h
    have := var_le ok f
    omega
  | n + 1, L, f, g, h, ok, hf, hg, hh, hn, L', x, e, hr => by
    have hv := vm_le L f g h
    rcases ite_way n L f g h hr with ⟨c, e1⟩ | ⟨c, c2, e1⟩ | ⟨c, c2, c3, c4, e1⟩ | ⟨c, c2, c3, L1, lo, e1, h1, hrest⟩
    · simp only [Prod.mk.injEq] at e1
      obtain ⟨rfl, rfl, rfl⟩ := e1
      refine ⟨ok, List.prefix_refl _, .inl ⟨rfl, ⟨hf, hg, hh, hg, fun t => ?_⟩, by omega⟩⟩
      unfold iteV
      rcases c with rfl | rfl
      · rw [ev_yes]; rfl
      · split <;> rfl
    · simp only [Prod.mk.injEq] at e1
      obtain ⟨rfl, rfl, rfl⟩ := e1
      refine ⟨ok, List.prefix_refl _, .inl ⟨rfl, ⟨hf, hg, hh, hh, fun t => ?_⟩, by omega⟩⟩
      unfold iteV
      rw [c2, ev_no]; rfl
    · simp only [Prod.mk.injEq] at e1
      obtain ⟨rfl, rfl, rfl⟩ := e1
      refine ⟨ok, List.prefix_refl _, .inl ⟨rfl, ⟨hf, hg, hh, hf, fun t => ?_⟩, by omega⟩⟩
      unfold iteV
      rw [c3, c4, ev_yes, ev_no]; cases ev t L' x <;> rfl
    · have hb := vm_lt (g := g) (h := h) ok hf c c2
      have hva : ∀ b, vm L f g h + 1 ≤ vm L (half L f (vm L f g h) b) (half L g (vm L f g h) b) (half L h (vm L f g h) b) := fun b => by
        have a1 := half_var (b := b) ok hv.1 hb.2
        have a2 := half_var (b := b) ok hv.2.1 hb.2
        have a3 := half_var (b := b) ok hv.2.2.1 hb.2
        unfold vm at a1 a2 a3 ⊢
        omega
      obtain ⟨ok1, hp1, s1⟩ := ite_spec n L _ _ _ ok (half_bo hf _ false) (half_bo hg _ false) (half_bo hh _ false) (by have := hva false; omega) L1 lo e1 h1
      rcases hrest with ⟨z1, e2⟩ | ⟨z1, L2, hi, e2, h2, hrest⟩
      · simp only [Prod.mk.injEq] at e2
        obtain ⟨rfl, rfl, rfl⟩ := e2
        refine ⟨ok1, hp1, .inr ?_⟩
        rcases s1 with ⟨s1, _⟩ | ⟨s1, _, s2⟩
        · exact absurd s1 z1
        · exact ⟨s1, rfl, s2⟩
      · rcases s1 with ⟨_, I1, v1⟩ | ⟨s1, _⟩
        case inr => omega
        have bf := half_bo hf (vm L f g h) true
        have bg := half_bo hg (vm L f g h) true
        have bh := half_bo hh (vm L f g h) true
        have evm : vm L1 (half L f (vm L f g h) true) (half L g (vm L f g h) true) (half L h (vm L f g h) true) = vm L (half L f (vm L f g h) true) (half L g (vm L f g h) true) (half L h (vm L f g h) true) := by
          unfold vm
          rw [var_pre hp1 (show (half L f (min (min (var L f) (var L g)) (var L h)) true) < L.length from bf.lt), var_pre hp1 (show (half L g (min (min (var L f) (var L g)) (var L h)) true) < L.length from bg.lt), var_pre hp1 (show (half L h (min (min (var L f) (var L g)) (var L h)) true) < L.length from bh.lt)]
        obtain ⟨ok2, hp2, s2⟩ := ite_spec n L1 _ _ _ ok1 (bf.pre hp1) (bg.pre hp1) (bh.pre hp1) (by have := hva true; omega) L2 hi e2 h2
        rcases hrest with ⟨z2, e3⟩ | ⟨z2, e3⟩
        · simp only [Prod.mk.injEq] at e3
          obtain ⟨rfl, rfl, rfl⟩ := e3
          refine ⟨ok2, hp1.trans hp2, .inr ?_⟩
          rcases s2 with ⟨s2, _⟩ | ⟨s2, _, s3⟩
          · exact absurd s2 z2
          · exact ⟨s2, rfl, s3⟩
        · rcases s2 with ⟨_, I2, v2⟩ | ⟨s2, _⟩
          case inr => omega
          have blo : Bo L2 lo := I1.cx.pre hp2
          have hlo : vm L f g h < var L2 lo := by rw [var_pre hp2 I1.cx.lt]; have := hva false; omega
          have hhi : vm L f g h < var L2 hi := by have := hva true; omega
          obtain ⟨ok', hp', s3⟩ := mk_bo ok2 hb.1 hb.2 blo I2.cx hlo hhi e3.symm
          refine ⟨ok', (hp1.trans hp2).trans hp', ?_⟩
          rcases s3 with ⟨s3, bx, vx, ex, _⟩ | ⟨s3, s4, s5, s6⟩
          · refine .inl ⟨s3, ⟨hf.pre ((hp1.trans hp2).trans hp'), hg.pre ((hp1.trans hp2).trans hp'), hh.pre ((hp1.trans hp2).trans hp'), bx, fun t => ?_⟩, vx⟩
            rw [ex t]
            have back : iteV t L' f g h = iteV t L f g h := by
              unfold iteV
              rw [ev_pre ok ((hp1.trans hp2).trans hp') hf.lt, ev_pre ok ((hp1.trans hp2).trans hp') hg.lt, ev_pre ok ((hp1.trans hp2).trans hp') hh.lt]
            rw [back]
            have i1 := I1.cev t
            have i2 := I2.cev t
            have j1 : iteV t L1 (half L f (vm L f g h) false) (half L g (vm L f g h) false) (half L h (vm L f g h) false) = iteV t L (half L f (vm L f g h) false) (half L g (vm L f g h) false) (half L h (vm L f g h) false) := by
              unfold iteV
              rw [ev_pre ok hp1 (half_bo hf _ false).lt, ev_pre ok hp1 (half_bo hg _ false).lt, ev_pre ok hp1 (half_bo hh _ false).lt]
            have j2 : iteV t L2 (half L f (vm L f g h) true) (half L g (vm L f g h) true) (half L h (vm L f g h) true) = iteV t L (half L f (vm L f g h) true) (half L g (vm L f g h) true) (half L h (vm L f g h) true) := by
              unfold iteV
              rw [ev_pre ok (hp1.trans hp2) bf.lt, ev_pre ok (hp1.trans hp2) bg.lt, ev_pre ok (hp1.trans hp2) bh.lt]
            rw [j1, iteV_half ok hf hg hh hv.1 hv.2.1 hv.2.2.1 hb.2] at i1
            rw [j2, iteV_half ok hf hg hh hv.1 hv.2.1 hv.2.2.1 hb.2] at i2
            cases ht : t (vm L f g h)
            · simp only [Bool.false_eq_true, if_false]
              rw [ev_pre ok1 hp2 I1.cx.lt, i1, ← ht, at_self]
            · simp only [if_true]
              rw [i2, ← ht, at_self]
          · exact .inr ⟨s3, s4, by rw [s5]; exact s6⟩
theorem IteIs.uniq (ok : Ok L) {f g h x y : Int} (I : IteIs L f g h x) (J : IteIs L f g h y) : x = y :=
  canonB ok I.cx J.cx (fun t => (I.cev t).trans (J.cev t).symm)
/-- A variable that a function does not hang on does not stand in its diagram's root. -/
theorem root_var (ok : Ok L) {x v : Int} (hx : Bo L x) (h12 : v ≤ 12) (h : ∀ u b t, u < v → ev (fun i => if i = u then b else t i) L x = ev t L x) : v ≤ var L x := by
  by_cases hn : isN L x
  · rw [var_node hn]
    apply Classical.byContradiction
    intro hlt
    have hc := ok_child ok hn
    have hch := hx.child hn
    have key : ∀ (b : Bool) t, ev t L (if b then (nd L x).h else (nd L x).l) = ev t L x := fun b t => by
      have e := h (nd L x).v b t (by omega)
      rw [ev_node ok hn, if_pos rfl] at e
      cases b
      · simp only [Bool.false_eq_true, if_false] at e ⊢
        rw [← e, ev_indep ok hch.1.lt (by omega)]
      · simp only [if_true] at e ⊢
        rw [← e, ev_indep ok hch.2.lt (by omega)]
    exact hc.2.2.1 (canonB ok hch.1 hch.2 (fun t => (key false t).trans (key true t).symm))
  · rw [var_leaf hn]; exact h12
theorem IteIs.var (ok : Ok L) {f g h x : Int} (I : IteIs L f g h x) : vm L f g h ≤ Ar.var L x := by
  have hv := vm_le L f g h
  have := var_le ok f
  refine root_var ok I.cx (by omega) (fun u b t hu => ?_)
  rw [I.cev, I.cev]
  unfold iteV
  rw [ev_indep ok I.cf.lt (by omega), ev_indep ok I.cg.lt (by omega), ev_indep ok I.ch.lt (by omega)]
/-- What is there already is found, and nothing comes. -/
theorem ite_there : ∀ (n : Nat) (L : List Nd) (f g h x : Int), Ok L → 12 < vm L f g h + n → IteIs L f g h x → ite lim n L f g h = (L, x, 0)
  | 0, L, f, g, h, x, ok, hn, I => by
    have := vm_le L f g h
    have := var_le ok f
    omega
  | n + 1, L, f, g, h, x, ok, hn, I => by
    have hv := vm_le L f g h
    have triv : ∀ y, IteIs L f g h y → (L, y, (0 : Int)) = (L, x, 0) := fun y J => by rw [J.uniq ok I]
    rcases ite_way n L f g h (lim := lim) rfl with ⟨c, e1⟩ | ⟨c, c2, e1⟩ | ⟨c, c2, c3, c4, e1⟩ | ⟨c, c2, c3, L1, lo, e1, h1, hrest⟩
    · rw [e1]
      refine triv g ⟨I.cf, I.cg, I.ch, I.cg, fun t => ?_⟩
      unfold iteV
      rcases c with rfl | rfl
      · rw [ev_yes]; rfl
      · split <;> rfl
    · rw [e1]
      refine triv h ⟨I.cf, I.cg, I.ch, I.ch, fun t => ?_⟩
      unfold iteV
      rw [c2, ev_no]; rfl
    · rw [e1]
      refine triv f ⟨I.cf, I.cg, I.ch, I.cf, fun t => ?_⟩
      unfold iteV
      rw [c3, c4, ev_yes, ev_no]; cases ev t L f <;> rfl
    · have hb := vm_lt (g := g) (h := h) ok I.cf c c2
      have hx := I.var ok
      have hva : ∀ b, vm L f g h + 1 ≤ vm L (half L f (vm L f g h) b) (half L g (vm L f g h) b) (half L h (vm L f g h) b) := fun b => by
        have a1 := half_var (b := b) ok hv.1 hb.2
        have a2 := half_var (b := b) ok hv.2.1 hb.2
        have a3 := half_var (b := b) ok hv.2.2.1 hb.2
        unfold vm at a1 a2 a3 ⊢
        omega
      have J : ∀ b, IteIs L (half L f (vm L f g h) b) (half L g (vm L f g h) b) (half L h (vm L f g h) b) (half L x (vm L f g h) b) := fun b =>
        ⟨half_bo I.cf _ b, half_bo I.cg _ b, half_bo I.ch _ b, half_bo I.cx _ b, fun t => by
          rw [half_ev ok I.cx hx hb.2, I.cev, iteV_half ok I.cf I.cg I.ch hv.1 hv.2.1 hv.2.2.1 hb.2]⟩
      have r1 := ite_there n L _ _ _ _ ok (by have := hva false; omega) (J false)
      have r2 := ite_there n L _ _ _ _ ok (by have := hva true; omega) (J true)
      rw [r1] at h1
      simp only [Prod.mk.injEq] at h1
      obtain ⟨rfl, rfl, rfl⟩ := h1
      rcases hrest with ⟨z, _⟩ | ⟨_, L2, hi, e2, h2, hrest⟩
      · exact absurd rfl z
      · rw [r2] at h2
        simp only [Prod.mk.injEq] at h2
        obtain ⟨rfl, rfl, rfl⟩ := h2
        rcases hrest with ⟨z, _⟩ | ⟨_, e⟩
        · exact absurd rfl z
        · rw [e, mk_back ok hb.1 hb.2 I.cx hx]

/-! a bit that is known -/
def rst (lim : Int) (v : Int) (b : Bool) : Nat → List Nd → Int → List Nd × Int × Int
  | 0, L, _ => (L, 0, 0)
  | n + 1, L, f =>
    if ¬ isN L f ∨ v ≤ (nd L f).v then (L, half L f v b, 0) else
    if (rst lim v b n L (nd L f).l).2.2 ≠ 0 then ((rst lim v b n L (nd L f).l).1, 0, (rst lim v b n L (nd L f).l).2.2) else
    if (rst lim v b n (rst lim v b n L (nd L f).l).1 (nd L f).h).2.2 ≠ 0 then ((rst lim v b n (rst lim v b n L (nd L f).l).1 (nd L f).h).1, 0, (rst lim v b n (rst lim v b n L (nd L f).l).1 (nd L f).h).2.2) else
    mk lim (rst lim v b n (rst lim v b n L (nd L f).l).1 (nd L f).h).1 (nd L f).v (rst lim v b n L (nd L f).l).2.1 (rst lim v b n (rst lim v b n L (nd L f).l).1 (nd L f).h).2.1
theorem rst_way (v : Int) (b : Bool) (n : Nat) (L : List Nd) (f : Int) {r : List Nd × Int × Int} (e : rst lim v b (n + 1) L f = r) :
    ((¬ isN L f ∨ v ≤ (nd L f).v) ∧ r = (L, half L f v b, 0)) ∨ (isN L f ∧ (nd L f).v < v ∧ ∃ L1 lo e1, rst lim v b n L (nd L f).l = (L1, lo, e1) ∧
      ((e1 ≠ 0 ∧ r = (L1, 0, e1)) ∨ (e1 = 0 ∧ ∃ L2 hi e2, rst lim v b n L1 (nd L f).h = (L2, hi, e2) ∧ ((e2 ≠ 0 ∧ r = (L2, 0, e2)) ∨ (e2 = 0 ∧ r = mk lim L2 (nd L f).v lo hi))))) := by
  rw [rst] at e
  by_cases c : ¬ isN L f ∨ v ≤ (nd L f).v
  · rw [if_pos c] at e; exact .inl ⟨c, e.symm⟩
  · rw [if_neg c] at e
    refine .inr ⟨Classical.byContradiction fun h => c (.inl h), by omega, ?_⟩
    obtain ⟨L1, lo, e1, h1⟩ : ∃ L1 lo e1, rst lim v b n L (nd L f).l = (L1, lo, e1) := ⟨_, _, _, rfl⟩
    refine ⟨L1, lo, e1, h1, ?_⟩
    rw [h1] at e
    dsimp only at e
    by_cases z1 : e1 = 0
    · rw [if_neg (fun c => c z1)] at e
      refine .inr ⟨z1, ?_⟩
      obtain ⟨L2, hi, e2, h2⟩ : ∃ L2 hi e2, rst lim v b n L1 (nd L f).h = (L2, hi, e2) := ⟨_, _, _, rfl⟩
      refine ⟨L2, hi, e2, h2, ?_⟩
      rw [h2] at e
      dsimp only at e
      by_cases z2 : e2 = 0
      · rw [if_neg (fun c => c z2)] at e; exact .inr ⟨z2, e.symm⟩
      · rw [if_pos z2] at e; exact .inl ⟨z2, e.symm⟩
    · rw [if_pos z1] at e; exact .inl ⟨z1, e.symm⟩
/-- That a diagram is another one, with a bit that is known. -/
structure RstIs (L : List Nd) (f v : Int) (b : Bool) (x : Int) : Prop where
  cf : Bo L f
  cx : Bo L x
  cev : ∀ t, Ar.ev t L x = Ar.ev (fun i => if i = v then b else t i) L f
theorem RstIs.pre (ok : Ok L) (hp : L <+: L') {f v x : Int} {b : Bool} (I : RstIs L f v b x) : RstIs L' f v b x :=
  ⟨I.cf.pre hp, I.cx.pre hp, fun t => by rw [ev_pre ok hp I.cx.lt, ev_pre ok hp I.cf.lt]; exact I.cev t⟩
theorem RstIs.uniq (ok : Ok L) {f v x y : Int} {b : Bool} (I : RstIs L f v b x) (J : RstIs L f v b y) : x = y :=
  canonB ok I.cx J.cx (fun t => (I.cev t).trans (J.cev t).symm)
theorem RstIs.var (ok : Ok L) {f v x : Int} {b : Bool} (I : RstIs L f v b x) : Ar.var L f ≤ Ar.var L x := by
  have := var_le ok f
  refine root_var ok I.cx (by omega) (fun u c t hu => ?_)
  rw [I.cev, I.cev]
  by_cases e : u = v
  · subst e
    congr 1
    funext i
    by_cases hi : i = u <;> simp [hi]
  · rw [show (fun i => if i = v then b else if i = u then c else t i) = (fun i => if i = u then c else (fun i => if i = v then b else t i) i) by
      funext i
      by_cases h1 : i = v
      · have : ¬ v = u := fun h => e h.symm
        simp [h1, this]
      · simp [h1], ev_indep ok I.cf.lt (by omega)]
theorem half_rst (ok : Ok L) {f v : Int} {b : Bool} (hf : Bo L f) (h12 : v < 12) (c : ¬ isN L f ∨ v ≤ (nd L f).v) : RstIs L f v b (half L f v b) := by
  have hv : v ≤ var L f := by
    by_cases hn : isN L f
    · rw [var_node hn]; rcases c with c | c
      · exact absurd hn c
      · exact c
    · rw [var_leaf hn]; omega
  exact ⟨hf, half_bo hf _ b, fun t => half_ev ok hf hv h12 t⟩
theorem rst_comm {u v : Int} {b c : Bool} (h : u ≠ v) (t : Int → Bool) : (fun i => if i = v then b else if i = u then c else t i) = (fun i => if i = u then c else if i = v then b else t i) := by
  funext i
  by_cases h1 : i = v
  · have : ¬ v = u := fun e => h e.symm
    simp [h1, this]
  · simp [h1]
theorem rst_spec (v : Int) (b : Bool) (hv0 : 0 ≤ v) (h12 : v < 12) : ∀ (n : Nat) (L : List Nd) (f : Int), Ok L → Bo L f → 12 < var L f + n → ∀ L' x e, rst lim v b n L f = (L', x, e) →
    Ok L' ∧ L <+: L' ∧ ((e = 0 ∧ RstIs L' f v b x) ∨ (e = 50 ∧ x = 0 ∧ lim ≤ L'.length))
  | 0, L, f, ok, hf, hn, L', x, e, hr => by
    have := var_le ok f
    omega
  | n + 1, L, f, ok, hf, hn, L', x, e, hr => by
    rcases rst_way v b n L f hr with ⟨c, e1⟩ | ⟨hN, hlt, L1, lo, e1, h1, hrest⟩
    · simp only [Prod.mk.injEq] at e1
      obtain ⟨rfl, rfl, rfl⟩ := e1
      exact ⟨ok, List.prefix_refl _, .inl ⟨rfl, half_rst ok hf h12 c⟩⟩
    · have hc := ok_child ok hN
      have hch := hf.child hN
      have hvn := var_node hN
      obtain ⟨ok1, hp1, s1⟩ := rst_spec v b hv0 h12 n L _ ok hch.1 (by omega) L1 lo e1 h1
      rcases hrest with ⟨z1, e2⟩ | ⟨z1, L2, hi, e2, h2, hrest⟩
      · simp only [Prod.mk.injEq] at e2
        obtain ⟨rfl, rfl, rfl⟩ := e2
        refine ⟨ok1, hp1, .inr ?_⟩
        rcases s1 with ⟨s1, _⟩ | ⟨s1, _, s2⟩
        · exact absurd s1 z1
        · exact ⟨s1, rfl, s2⟩
      · rcases s1 with ⟨_, I1⟩ | ⟨s1, _⟩
        case inr => omega
        obtain ⟨ok2, hp2, s2⟩ := rst_spec v b hv0 h12 n L1 _ ok1 (hch.2.pre hp1) (by rw [var_pre hp1 hch.2.lt]; omega) L2 hi e2 h2
        rcases hrest with ⟨z2, e3⟩ | ⟨z2, e3⟩
        · simp only [Prod.mk.injEq] at e3
          obtain ⟨rfl, rfl, rfl⟩ := e3
          refine ⟨ok2, hp1.trans hp2, .inr ?_⟩
          rcases s2 with ⟨s2, _⟩ | ⟨s2, _, s3⟩
          · exact absurd s2 z2
          · exact ⟨s2, rfl, s3⟩
        · rcases s2 with ⟨_, I2⟩ | ⟨s2, _⟩
          case inr => omega
          have blo : Bo L2 lo := I1.cx.pre hp2
          have hlo : (nd L f).v < var L2 lo := by
            rw [var_pre hp2 I1.cx.lt]
            have := I1.var ok1
            rw [var_pre hp1 hch.1.lt] at this
            omega
          have hhi : (nd L f).v < var L2 hi := by
            have := I2.var ok2
            rw [var_pre (hp1.trans hp2) hch.2.lt] at this
            omega
          obtain ⟨ok', hp', s3⟩ := mk_bo ok2 hc.1 hc.2.1 blo I2.cx hlo hhi e3.symm
          refine ⟨ok', (hp1.trans hp2).trans hp', ?_⟩
          rcases s3 with ⟨s3, bx, vx, ex, _⟩ | ⟨s3, s4, s5, s6⟩
          · refine .inl ⟨s3, ⟨hf.pre ((hp1.trans hp2).trans hp'), bx, fun t => ?_⟩⟩
            rw [ex t, ev_pre ok ((hp1.trans hp2).trans hp') hf.lt, ev_node ok hN]
            have i1 := I1.cev t
            have i2 := I2.cev t
            rw [ev_pre ok hp1 hch.1.lt] at i1
            rw [ev_pre ok (hp1.trans hp2) hch.2.lt] at i2
            rw [if_neg (show ¬ (nd L f).v = v by omega), i2, ev_pre ok1 hp2 I1.cx.lt, i1]
          · exact .inr ⟨s3, s4, by rw [s5]; exact s6⟩
theorem rst_there (v : Int) (b : Bool) (hv0 : 0 ≤ v) (h12 : v < 12) : ∀ (n : Nat) (L : List Nd) (f x : Int), Ok L → 12 < var L f + n → RstIs L f v b x → rst lim v b n L f = (L, x, 0)
  | 0, L, f, x, ok, hn, I => by
    have := var_le ok f
    omega
  | n + 1, L, f, x, ok, hn, I => by
    rcases rst_way v b n L f (lim := lim) rfl with ⟨c, e1⟩ | ⟨hN, hlt, L1, lo, e1, h1, hrest⟩
    · rw [e1, (half_rst ok I.cf h12 c).uniq ok I]
    · have hc := ok_child ok hN
      have hch := I.cf.child hN
      have hvn := var_node hN
      have hx := I.var ok
      have J : ∀ c : Bool, RstIs L (if c then (nd L f).h else (nd L f).l) v b (half L x (nd L f).v c) := fun c => by
        have hcb : Bo L (if c then (nd L f).h else (nd L f).l) := by cases c; exact hch.1; exact hch.2
        refine ⟨hcb, half_bo I.cx _ c, fun t => ?_⟩
        rw [half_ev ok I.cx (by omega) hc.2.1, I.cev, ev_node ok hN, if_neg (show ¬ (nd L f).v = v by omega), if_pos rfl, rst_comm (show (nd L f).v ≠ v by omega)]
        cases c
        · simp only [Bool.false_eq_true, if_false]; rw [ev_indep ok hch.1.lt (by omega)]
        · simp only [if_true]; rw [ev_indep ok hch.2.lt (by omega)]
      have J0 : RstIs L (nd L f).l v b (half L x (nd L f).v false) := J false
      have J1 : RstIs L (nd L f).h v b (half L x (nd L f).v true) := J true
      have r1 := rst_there v b hv0 h12 n L _ _ ok (by omega) J0
      have r2 := rst_there v b hv0 h12 n L _ _ ok (by omega) J1
      rw [r1] at h1
      simp only [Prod.mk.injEq] at h1
      obtain ⟨rfl, rfl, rfl⟩ := h1
      rcases hrest with ⟨z, _⟩ | ⟨_, L2, hi, e2, h2, hrest⟩
      · exact absurd rfl z
      · rw [r2] at h2
        simp only [Prod.mk.injEq] at h2
        obtain ⟨rfl, rfl, rfl⟩ := h2
        rcases hrest with ⟨z, _⟩ | ⟨_, e⟩
        · exact absurd rfl z
        · rw [e, mk_back ok hc.1 hc.2.1 I.cx (by omega)]
end Ar
end Go.Proofs.Ytiagkbmhfgdffaa

set_option linter.unusedVariables false
set_option linter.unusedSimpArgs false
namespace Go.Proofs.Ytiagkbmhfgdffaa
open Go Go.RowKit Go.Deep Go.Proofs.YtiagkbmhfgdffaaW.PrintWords Go.Proofs.YtiagkbmhfgdffaaW.PrintLast Go.Proofs.YtiagkbmhfgdffaaW.PrintMore

/-- What stands in a place. -/
structure Ent where
  is : Bool
  k0 : Int
  k1 : Int
  k2 : Int
  v : Int
def Ent.cells (e : Ent) : List Value := [.bool e.is, .int .i64 e.k0, .int .i64 e.k1, .int .i64 e.k2, .int .i64 e.v]
def entCells (ES : List Ent) : List Value := ES.flatMap Ent.cells
theorem entCells_cons (e : Ent) (l : List Ent) : entCells (e :: l) = [.bool e.is, .int .i64 e.k0, .int .i64 e.k1, .int .i64 e.k2, .int .i64 e.v] ++ entCells l := by simp [entCells, Ent.cells]
theorem entCells_length (ES : List Ent) : (entCells ES).length = ES.length * 5 := by
  induction ES with
  | nil => rfl
  | cons a l ih => rw [entCells_cons, List.length_append, ih]; simp only [List.length_cons, List.length_nil]; omega
theorem entCells_get (ES : List Ent) (k : Nat) (h : k < ES.length) :
    (entCells ES)[k * 5]? = some (.bool ES[k].is) ∧ (entCells ES)[k * 5 + 1]? = some (.int .i64 ES[k].k0) ∧ (entCells ES)[k * 5 + 2]? = some (.int .i64 ES[k].k1) ∧ (entCells ES)[k * 5 + 3]? = some (.int .i64 ES[k].k2) ∧ (entCells ES)[k * 5 + 4]? = some (.int .i64 ES[k].v) := by
  induction ES generalizing k with
  | nil => simp at h
  | cons a l ih =>
    rw [entCells_cons]
    cases k with
    | zero => simp
    | succ k =>
      have := ih k (by simpa using h)
      rw [show (k + 1) * 5 = k * 5 + 5 from by omega]
      simpa [List.getElem?_append] using this
theorem entCells_set (ES : List Ent) (k : Nat) (h : k < ES.length) (e : Ent) :
    (((((entCells ES).set (k * 5) (.bool e.is)).set (k * 5 + 1) (.int .i64 e.k0)).set (k * 5 + 2) (.int .i64 e.k1)).set (k * 5 + 3) (.int .i64 e.k2)).set (k * 5 + 4) (.int .i64 e.v) = entCells (ES.set k e) := by
  induction ES generalizing k with
  | nil => simp at h
  | cons a l ih =>
    cases k with
    | zero => simp [entCells_cons]
    | succ k =>
      have := ih k (by simpa using h)
      rw [show (k + 1) * 5 = k * 5 + 1 + 1 + 1 + 1 + 1 from by omega, List.set_cons_succ, entCells_cons, entCells_cons, ← this]
      rfl

/-- A memo in memory. -/
structure MemoAt (w : World) (mb bp : Nat) (ES : List Ent) : Prop where
  box : w.heap[mb]? = some (.cells #[.slice (some ⟨bp, 0, none⟩) ES.length ES.length] 87 (0, 0))
  row : w.heap[bp]? = some (.cells (entCells ES).toArray 119 (0, 0))
  pos : 1 ≤ ES.length
  few : ES.length ≤ 65536
  ap : mb ≠ bp
theorem MemoAt.touch {w w' : World} {S : Nat → Prop} {mb bp : Nat} {ES : List Ent} (M : MemoAt w mb bp ES) (t : Touch w w' S) (h1 : ¬ S mb) (h2 : ¬ S bp) : MemoAt w' mb bp ES :=
  { M with box := t.heap M.box h1, row := t.heap M.row h2 }
theorem MemoAt.below {w w' : World} {mb bp : Nat} {ES : List Ent} (M : MemoAt w mb bp ES) (h : Below w.heap.size w w') : MemoAt w' mb bp ES :=
  M.touch (Touch.of_below h (fun _ => False)) (fun c => c) (fun c => c)
theorem MemoAt.c0 {w : World} {mb bp : Nat} {ES : List Ent} (M : MemoAt w mb bp ES) : w.cell? ⟨mb, 0, none⟩ = some (.slice (some ⟨bp, 0, none⟩) ES.length ES.length) := cell_at M.box 0 rfl
theorem MemoAt.ent {w : World} {mb bp : Nat} {ES : List Ent} (M : MemoAt w mb bp ES) (k : Nat) (h : k < ES.length) :
    w.cell? ⟨bp, k * 5, none⟩ = some (.bool ES[k].is) ∧ w.cell? ⟨bp, k * 5 + 1, none⟩ = some (.int .i64 ES[k].k0) ∧ w.cell? ⟨bp, k * 5 + 2, none⟩ = some (.int .i64 ES[k].k1) ∧ w.cell? ⟨bp, k * 5 + 3, none⟩ = some (.int .i64 ES[k].k2) ∧ w.cell? ⟨bp, k * 5 + 4, none⟩ = some (.int .i64 ES[k].v) := by
  obtain ⟨e0, e1, e2, e3, e4⟩ := entCells_get ES k h
  exact ⟨cell_at M.row _ (by simpa using e0), cell_at M.row _ (by simpa using e1), cell_at M.row _ (by simpa using e2), cell_at M.row _ (by simpa using e3), cell_at M.row _ (by simpa using e4)⟩

def mstep (h k : Int) : Int := IntKind.u64.wrap (IntKind.u64.wrap (h * 31) + IntKind.u64.wrap k)
def mhash (k0 k1 k2 : Int) : Int := mstep (mstep (IntKind.u64.wrap (IntKind.u64.wrap k0)) k1) k2
def mslot (k0 k1 k2 : Int) (n : Nat) : Nat := (mhash k0 k1 k2).toNat % n
theorem mstep_nonneg (h k : Int) : 0 ≤ mstep h k := by unfold mstep; rw [IntKind.wrap_u64]; exact Int.emod_nonneg _ (by decide)
theorem mslot_lt (k0 k1 k2 : Int) {n : Nat} (h : 1 ≤ n) : mslot k0 k1 k2 n < n := Nat.mod_lt _ h
theorem mslot_at (k0 k1 k2 : Int) (n : Nat) (h0 : 1 ≤ n) (h1 : n ≤ 65536) : wrap64 ((mhash k0 k1 k2).tmod (n : Int)) = (mslot k0 k1 k2 n : Nat) := by
  have h' : 0 ≤ mhash k0 k1 k2 := mstep_nonneg _ _
  unfold mslot
  rw [Int.tmod_eq_emod_of_nonneg h']
  have := Int.emod_lt_of_pos (mhash k0 k1 k2) (show (0 : Int) < n by omega)
  have := Int.emod_nonneg (mhash k0 k1 k2) (show (n : Int) ≠ 0 by omega)
  unfold wrap64
  rw [Int.natCast_emod, Int.toNat_of_nonneg h']
  omega

def keyEq (x0 x1 x2 y0 y1 y2 : Int) : Bool := x0 == y0 && (x1 == y1 && x2 == y2)
theorem keyEq_iff (x0 x1 x2 y0 y1 y2 : Int) : keyEq x0 x1 x2 y0 y1 y2 = true ↔ x0 = y0 ∧ x1 = y1 ∧ x2 = y2 := by simp [keyEq]
theorem info_int3 : ∃ i, Try.prog.info? 3 = some i := by
  have h : (Try.prog.info? 3).isSome = true := by kernel_rfl
  exact Option.isSome_iff_exists.1 h
theorem cells_int3 : Try.prog.cellsOf 3 = 1 := by kernel_rfl
theorem eq_key (w : World) (x0 x1 x2 y0 y1 y2 : Int) :
    (Op.equalIn 10000 95 (.agg #[.int .i64 x0, .int .i64 x1, .int .i64 x2]) (.agg #[.int .i64 y0, .int .i64 y1, .int .i64 y2])).run Try.prog w = .ok (keyEq x0 x1 x2 y0 y1 y2) w := by
  obtain ⟨i, hi⟩ := info_int3
  rw [run_equalIn_array w 9999 _ _ Try.underlying95 hi, cells_int3]
  have hu := Try.underlying3
  have p : ∀ (a b c : Value) (w : World), (part 3 #[a, b, c] 0).run Try.prog w = .ok a w ∧ (part 3 #[a, b, c] 1).run Try.prog w = .ok b w ∧ (part 3 #[a, b, c] 2).run Try.prog w = .ok c w := fun a b c w => ⟨by kernel_rfl, by kernel_rfl, by kernel_rfl⟩
  have e : ∀ (a b : Int) (w : World), (Op.equalIn 9999 3 (.int .i64 a) (.int .i64 b)).run Try.prog w = .ok (a == b) w := fun a b w => run_equalIn_int w 9998 _ _ _ _ _ hu
  show (Op.eqItems 9999 3 1 _ _ [0, 1, 2]).run Try.prog w = _
  simp only [Op.eqItems, Nat.mul_one, Sem.run_bind, (p _ _ _ _).1, (p _ _ _ _).2.1, (p _ _ _ _).2.2, e, Result.andThen_ok, keyEq]
  have p1 := fun (a b c : Value) (w : World) => (p a b c w).2.1
  have p2 := fun (a b c : Value) (w : World) => (p a b c w).2.2
  by_cases h0 : x0 = y0 <;> by_cases h1 : x1 = y1 <;> by_cases h2 : x2 = y2 <;> simp [h0, h1, h2, p1, p2, e]
attribute [local go_sem high] eq_key

section
variable {w : World} {mb bp : Nat} {ES : List Ent}
set_option maxHeartbeats 1000000 in
theorem slot_any (M : MemoAt w mb bp ES) (k0 k1 k2 : Int) :
    Calls Try.prog 69 #[.pointer (some ⟨mb, 0, none⟩), .agg #[.int .i64 k0, .int .i64 k1, .int .i64 k2]] w fun e w' => e = .returned (.int .i64 (mslot k0 k1 k2 ES.length)) ∧ Below w.heap.size w w' := by
  have h0 := M.c0
  have hp := M.pos
  have hf := M.few
  have hb := lt_of_heap M.box
  have HM := Lib.hid M
  clear M
  generalize ES.length = n at *
  have i0 : ∀ w, (Instr.index 95 (.agg #[.int .i64 k0, .int .i64 k1, .int .i64 k2]) (.int .i64 0)).run Try.prog w = .ok (.int .i64 k0) w := fun _ => by kernel_rfl
  have i1 : ∀ w, (Instr.index 95 (.agg #[.int .i64 k0, .int .i64 k1, .int .i64 k2]) (.int .i64 1)).run Try.prog w = .ok (.int .i64 k1) w := fun _ => by kernel_rfl
  have i2 : ∀ w, (Instr.index 95 (.agg #[.int .i64 k0, .int .i64 k1, .int .i64 k2]) (.int .i64 2)).run Try.prog w = .ok (.int .i64 k2) w := fun _ => by kernel_rfl
  go_enter Try.func69, Try.ntmps69
  go_wp2
  refine wp_loop_rounds 4 ?_
  rw [rounds_succ]
  go_wp2
  rw [rounds_succ]
  go_wp2
  rw [rounds_succ]
  go_wp2
  rw [rounds_succ]
  go_wp2
  go_ret
  exact ⟨ret_eq (congrArg (Value.int .i64) (mslot_at k0 k1 k2 n hp hf)), (Below.refl _ _).alloc (Nat.le_refl _) _⟩

/-- What stands for a key. -/
def mget (ES : List Ent) (k0 k1 k2 : Int) : Option Int :=
  if h : mslot k0 k1 k2 ES.length < ES.length then (if ES[mslot k0 k1 k2 ES.length].is = true ∧ ES[mslot k0 k1 k2 ES.length].k0 = k0 ∧ ES[mslot k0 k1 k2 ES.length].k1 = k1 ∧ ES[mslot k0 k1 k2 ES.length].k2 = k2 then some ES[mslot k0 k1 k2 ES.length].v else none) else none
def mput (ES : List Ent) (k0 k1 k2 v : Int) : List Ent := ES.set (mslot k0 k1 k2 ES.length) ⟨true, k0, k1, k2, v⟩
set_option maxRecDepth 100000 in
set_option maxHeartbeats 2000000 in
theorem get_any (M : MemoAt w mb bp ES) (k0 k1 k2 : Int) :
    Calls Try.prog 57 #[.pointer (some ⟨mb, 0, none⟩), .agg #[.int .i64 k0, .int .i64 k1, .int .i64 k2]] w fun e w' => e = .returned (.tuple #[.int .i64 ((mget ES k0 k1 k2).getD 0), .bool (mget ES k0 k1 k2).isSome]) ∧ Below w.heap.size w w' := by
  have h0 := M.c0
  have hb := lt_of_heap M.box
  have hp := M.pos
  have hf := M.few
  have hk := mslot_lt k0 k1 k2 M.pos
  obtain ⟨e0, e1, e2, e3, e4⟩ := M.ent _ hk
  have HM := Lib.hid M
  clear M
  have hn : (ES.length : Int) ≤ 65536 := by omega
  have hs0 : (0 : Int) ≤ (mslot k0 k1 k2 ES.length : Nat) := by omega
  have hs1 : ((mslot k0 k1 k2 ES.length : Nat) : Int) < (ES.length : Nat) := by omega
  have hg : mget ES k0 k1 k2 = if ES[mslot k0 k1 k2 ES.length].is = true ∧ ES[mslot k0 k1 k2 ES.length].k0 = k0 ∧ ES[mslot k0 k1 k2 ES.length].k1 = k1 ∧ ES[mslot k0 k1 k2 ES.length].k2 = k2 then some ES[mslot k0 k1 k2 ES.length].v else none := by unfold mget; rw [dif_pos hk]
  have HS := Lib.hid (fun (W : World) (h : Below w.heap.size w W) => slot_any (HM.out.below h) k0 k1 k2)
  generalize ES[mslot k0 k1 k2 ES.length] = x at *
  generalize mslot k0 k1 k2 ES.length = s at *
  generalize ES.length = n at *
  have HG := Lib.hid hg
  clear hg HM
  obtain ⟨b0, c0, c1, c2, v⟩ := x
  dsimp only at e0 e1 e2 e3 e4 HG
  go_enter Try.func57, Try.ntmps57
  go_wp2_with fail
  have kk := heap_alloc_new w (.cells #[.int .i64 k0, .int .i64 k1, .int .i64 k2] 95)
  have HB : Below w.heap.size w (w.alloc (.cells #[.int .i64 k0, .int .i64 k1, .int .i64 k2] 95)) := (Below.refl _ _).alloc (Nat.le_refl _) _
  obtain ⟨x0, x1, x2⟩ : (w.alloc (.cells #[.int .i64 k0, .int .i64 k1, .int .i64 k2] 95)).cell? ⟨w.heap.size, 0, none⟩ = some (.int .i64 k0) ∧ (w.alloc (.cells #[.int .i64 k0, .int .i64 k1, .int .i64 k2] 95)).cell? ⟨w.heap.size, 1, none⟩ = some (.int .i64 k1) ∧ (w.alloc (.cells #[.int .i64 k0, .int .i64 k1, .int .i64 k2] 95)).cell? ⟨w.heap.size, 2, none⟩ = some (.int .i64 k2) := ⟨cell_at kk 0 rfl, cell_at kk 1 rfl, cell_at kk 2 rfl⟩
  have ce : ∀ {a : Addr} {u : Value}, w.cell? a = some u → (w.alloc (.cells #[.int .i64 k0, .int .i64 k1, .int .i64 k2] 95)).cell? a = some u := fun h => (HB.cell (World.block_lt_of_cell? _ _ h)).trans h
  replace h0 := ce h0
  replace e0 := ce e0
  replace e1 := ce e1
  replace e2 := ce e2
  replace e3 := ce e3
  replace e4 := ce e4
  clear ce kk
  have HS2 := Lib.hid (HS.out _ HB)
  generalize w.alloc (.cells #[.int .i64 k0, .int .i64 k1, .int .i64 k2] 95) = W at *
  have HB0 := Lib.hid HB
  clear HB
  refine start_ (n := 11) (S := fun w' => w'.cell? ⟨mb, 0, none⟩ = some (.slice (some ⟨bp, 0, none⟩) n n) ∧ w'.cell? ⟨w.heap.size, 0, none⟩ = some (.int .i64 k0) ∧ w'.cell? ⟨w.heap.size, 1, none⟩ = some (.int .i64 k1) ∧ w'.cell? ⟨w.heap.size, 2, none⟩ = some (.int .i64 k2) ∧ w'.cell? ⟨bp, s * 5, none⟩ = some (.bool b0) ∧ w'.cell? ⟨bp, s * 5 + 1, none⟩ = some (.int .i64 c0) ∧ w'.cell? ⟨bp, s * 5 + 2, none⟩ = some (.int .i64 c1) ∧ w'.cell? ⟨bp, s * 5 + 3, none⟩ = some (.int .i64 c2) ∧ w'.cell? ⟨bp, s * 5 + 4, none⟩ = some (.int .i64 v)) (ds := [10]) #[false, false, false, false, false, false, false, false, false, false, false] (by kernel_rfl) rfl rfl ⟨cell_below ((Below.refl W.heap.size W).drew) h0, cell_below ((Below.refl W.heap.size W).drew) x0, cell_below ((Below.refl W.heap.size W).drew) x1, cell_below ((Below.refl W.heap.size W).drew) x2, cell_below ((Below.refl W.heap.size W).drew) e0, cell_below ((Below.refl W.heap.size W).drew) e1, cell_below ((Below.refl W.heap.size W).drew) e2, cell_below ((Below.refl W.heap.size W).drew) e3, cell_below ((Below.refl W.heap.size W).drew) e4⟩ (fun hHeld => ?_)
  refine pure_ (i := 0) (N := some 7) (v := ?_) (a' := ?_) #[true, false, false, false, false, false, false, false, false, false, false] rfl rfl (by kernel_rfl) (fun _ _ _ h => h) (Or.inl ⟨by rfl, ?_⟩) ?_ ?_
  rotate_left
  · intro w'
    go_simp
    with_reducible rfl
  rotate_left
  · simp only [Act.put, List.setIfInBounds_toArray, List.set_cons_zero, List.set_cons_succ, i64_w, i32_w]
    rfl
  refine pure_ (i := 1) (N := some 8) (v := ?_) (a' := ?_) #[true, true, false, false, false, false, false, false, false, false, false] rfl rfl (by kernel_rfl) (fun _ _ _ h => h) (Or.inl ⟨by rfl, ?_⟩) ?_ ?_
  rotate_left
  · intro w'
    go_simp
    with_reducible rfl
  rotate_left
  · simp only [Act.put, List.setIfInBounds_toArray, List.set_cons_zero, List.set_cons_succ, i64_w, i32_w]
    rfl
  refine pure_ (i := 2) (N := some 9) (v := ?_) (a' := ?_) #[true, true, true, false, false, false, false, false, false, false, false] rfl rfl (by kernel_rfl) (fun _ _ _ h => h) (Or.inl ⟨by rfl, ?_⟩) ?_ ?_
  rotate_left
  · intro w'
    go_simp
    with_reducible rfl
  rotate_left
  · simp only [Act.put, List.setIfInBounds_toArray, List.set_cons_zero, List.set_cons_succ, i64_w, i32_w]
    rfl
  refine pure_ (i := 4) (N := some 11) (v := ?_) (a' := ?_) #[true, true, true, false, true, false, false, false, false, false, false] rfl rfl (by kernel_rfl) (fun _ _ _ h => h) (Or.inl ⟨by rfl, ?_⟩) ?_ ?_
  rotate_left
  · intro w'
    go_simp
    with_reducible rfl
  rotate_left
  · simp only [Act.put, List.setIfInBounds_toArray, List.set_cons_zero, List.set_cons_succ, i64_w, i32_w]
    rfl
  refine take_ (i := 3) (N := some 10) (v := ?_) (a' := ?_) #[true, true, true, true, true, false, false, false, false, false, false] rfl rfl (by kernel_rfl) (fun _ _ _ h => h) (Or.inl ⟨by rfl, ?_⟩) hHeld ?_ ?_
  rotate_left
  · rintro w' ⟨s0, s1, s2, s3, s4, s5, s6, s7, s8⟩
    go_simp
    with_reducible rfl
  rotate_left
  · simp only [Act.put, List.setIfInBounds_toArray, List.set_cons_zero, List.set_cons_succ, i64_w, i32_w]
    rfl
  refine take_ (i := 5) (N := some 12) (v := ?_) (a' := ?_) #[true, true, true, true, true, true, false, false, false, false, false] rfl rfl (by kernel_rfl) (fun _ _ _ h => h) (Or.inl ⟨by rfl, ?_⟩) hHeld ?_ ?_
  rotate_left
  · rintro w' ⟨s0, s1, s2, s3, s4, s5, s6, s7, s8⟩
    go_simp
    with_reducible rfl
  rotate_left
  · simp only [Act.put, List.setIfInBounds_toArray, List.set_cons_zero, List.set_cons_succ, i64_w, i32_w]
    rfl
  refine join_ (σ := Nat) 1 #[true, true, true, true, true, true, true, true, true, true, false] (fun zz => [(13, .int .i64 (s : Nat)), (6, .pointer (some ⟨zz, 0, none⟩)), (14, .pointer (some ⟨bp, s * 5, none⟩)), (15, .agg #[.bool b0, .int .i64 c0, .int .i64 c1, .int .i64 c2, .int .i64 v])]) (fun zz w' => Below W.heap.size W w' ∧ w'.heap[zz]? = some (.cells #[.bool false, .int .i64 0, .int .i64 0, .int .i64 0, .int .i64 0] 119 (0, 0)) ∧ W.heap.size ≤ zz) ?_ ?_
  rotate_left
  · intro hJ6_9
    refine join_ (σ := Unit) 2 #[true, true, true, true, true, true, true, true, true, false, false] (fun zz => [(13, .int .i64 (s : Nat)), (14, .pointer (some ⟨bp, s * 5, none⟩)), (15, .agg #[.bool b0, .int .i64 c0, .int .i64 c1, .int .i64 c2, .int .i64 v])]) (fun zz w' => Below W.heap.size W w') ?_ ?_
    rotate_left
    · intro hJ6
      refine join_ (σ := Nat) 4 #[true, true, true, true, true, true, false, false, false, true, false] (fun zz => [(6, .pointer (some ⟨zz, 0, none⟩))]) (fun zz w' => Below W.heap.size W w' ∧ w'.heap[zz]? = some (.cells #[.bool false, .int .i64 0, .int .i64 0, .int .i64 0, .int .i64 0] 119 (0, 0)) ∧ W.heap.size ≤ zz) ?_ ?_
      rotate_left
      · intro hJ9
        refine two_ (i := 6) (j := 9) (Ni := some 13) (Nj := some 6) #[true, true, true, true, true, true, true, false, false, false, false] #[true, true, true, true, true, true, false, false, false, true, false] rfl rfl rfl rfl (by kernel_rfl) (by decide) (by decide) (fun K hK => ?_) (fun K hK => ?_)
        · skip
          refine goes_ Try.func69 (by kernel_rfl) rfl #[.pointer (some ⟨mb, 0, none⟩), .agg #[.int .i64 k0, .int .i64 k1, .int .i64 k2]] (by rfl) rfl rfl (by simp only [List.map_toArray, List.map_cons, List.map_nil]; rfl) ?_
          with_reducible refine (HS.out _ (seq HB0.out (by first | exact cur | exact (Below.refl _ _).drew))).mono ?_
          rintro e w3 ⟨rfl, hb⟩
          refine ⟨_, rfl, ?_⟩
          have cur3 := seq ((Below.refl W.heap.size W).drew) hb
          refine hK.out _ _ ⟨cell_below (cur3) h0, cell_below (cur3) x0, cell_below (cur3) x1, cell_below (cur3) x2, cell_below (cur3) e0, cell_below (cur3) e1, cell_below (cur3) e2, cell_below (cur3) e3, cell_below (cur3) e4⟩ (fun hHeld => ?_)
          clear hK K
          refine norm_ (a' := ?_) ?_ ?_
          rotate_left
          · show Act.put _ (some 13) _ = _
            simp only [Act.put, List.setIfInBounds_toArray, List.set_cons_zero, List.set_cons_succ, i64_w, i32_w]
            rfl
          refine pure_ (i := 7) (N := some 14) (v := ?_) (a' := ?_) #[true, true, true, true, true, true, true, true, false, false, false] rfl rfl (by kernel_rfl) (fun _ _ _ h => h) (Or.inl ⟨by rfl, ?_⟩) ?_ ?_
          rotate_left
          · intro w'
            go_simp
            with_reducible rfl
          rotate_left
          · simp only [Act.put, List.setIfInBounds_toArray, List.set_cons_zero, List.set_cons_succ, i64_w, i32_w]
            rfl
          refine take_ (i := 8) (N := some 15) (v := ?_) (a' := ?_) #[true, true, true, true, true, true, true, true, true, false, false] rfl rfl (by kernel_rfl) (fun _ _ _ h => h) (Or.inl ⟨by rfl, ?_⟩) hHeld ?_ ?_
          rotate_left
          · rintro w' ⟨s0, s1, s2, s3, s4, s5, s6, s7, s8⟩
            go_simp
            with_reducible rfl
          rotate_left
          · simp only [Act.put, List.setIfInBounds_toArray, List.set_cons_zero, List.set_cons_succ, i64_w, i32_w]
            rfl
          exact norm_ (by first | (simp only [putAll, Act.put, List.setIfInBounds_toArray, List.set_cons_zero, List.set_cons_succ]; done) | (simp only [putAll, Act.put, List.setIfInBounds_toArray, List.set_cons_zero, List.set_cons_succ]; rfl)) (hJ6 () _ cur3)
        · skip
          refine value_ (w1 := ?_) (v := ?_) (by rfl) rfl ?_ ?_
          rotate_left 2
          · go_simp
            constructor
            · rfl
            · rfl
          have cur3 := Below.push ((Below.refl W.heap.size W).drew) (Nat.le_refl _) (.cells #[.bool false, .int .i64 0, .int .i64 0, .int .i64 0, .int .i64 0] 119)
          refine hK.out _ _ ⟨cell_below (cur3) h0, cell_below (cur3) x0, cell_below (cur3) x1, cell_below (cur3) x2, cell_below (cur3) e0, cell_below (cur3) e1, cell_below (cur3) e2, cell_below (cur3) e3, cell_below (cur3) e4⟩ (fun hHeld => ?_)
          clear hK K
          refine norm_ (a' := ?_) ?_ ?_
          rotate_left
          · show Act.put _ (some 6) _ = _
            simp only [Act.put, List.setIfInBounds_toArray, List.set_cons_zero, List.set_cons_succ, i64_w, i32_w]
            rfl
          exact norm_ (by first | (simp only [putAll, Act.put, List.setIfInBounds_toArray, List.set_cons_zero, List.set_cons_succ]; done) | (simp only [putAll, Act.put, List.setIfInBounds_toArray, List.set_cons_zero, List.set_cons_succ]; rfl)) (hJ9 (W.drew.heap.size) _ ⟨cur3, blk_new _ _, ((Below.refl W.heap.size W).drew).size⟩)
      · skip
        rintro ga9 w1 ⟨cur, p9, q9⟩
        have hHeld : w1.cell? ⟨mb, 0, none⟩ = some (.slice (some ⟨bp, 0, none⟩) n n) ∧ w1.cell? ⟨w.heap.size, 0, none⟩ = some (.int .i64 k0) ∧ w1.cell? ⟨w.heap.size, 1, none⟩ = some (.int .i64 k1) ∧ w1.cell? ⟨w.heap.size, 2, none⟩ = some (.int .i64 k2) ∧ w1.cell? ⟨bp, s * 5, none⟩ = some (.bool b0) ∧ w1.cell? ⟨bp, s * 5 + 1, none⟩ = some (.int .i64 c0) ∧ w1.cell? ⟨bp, s * 5 + 2, none⟩ = some (.int .i64 c1) ∧ w1.cell? ⟨bp, s * 5 + 3, none⟩ = some (.int .i64 c2) ∧ w1.cell? ⟨bp, s * 5 + 4, none⟩ = some (.int .i64 v) := ⟨cell_below (cur) h0, cell_below (cur) x0, cell_below (cur) x1, cell_below (cur) x2, cell_below (cur) e0, cell_below (cur) e1, cell_below (cur) e2, cell_below (cur) e3, cell_below (cur) e4⟩
        refine norm_ (a' := ?_) ?_ ?_
        rotate_left
        · simp only [putAll, Act.put, List.setIfInBounds_toArray, List.set_cons_zero, List.set_cons_succ]
          rfl
        refine one_ (i := 6) (N := some 13) #[true, true, true, true, true, true, true, false, false, true, false] rfl rfl (by kernel_rfl) (by decide) (fun K hK => ?_)
        refine goes_ Try.func69 (by kernel_rfl) rfl #[.pointer (some ⟨mb, 0, none⟩), .agg #[.int .i64 k0, .int .i64 k1, .int .i64 k2]] (by rfl) rfl rfl (by simp only [List.map_toArray, List.map_cons, List.map_nil]; rfl) ?_
        with_reducible refine (HS.out _ (seq HB0.out (by first | exact cur | exact (Below.refl _ _).drew))).mono ?_
        rintro e w3 ⟨rfl, hb⟩
        refine ⟨_, rfl, ?_⟩
        have cur3 := seq (cur) hb
        have p3_9 := blk_below p9 hb
        refine hK.out _ _ ⟨cell_below (cur3) h0, cell_below (cur3) x0, cell_below (cur3) x1, cell_below (cur3) x2, cell_below (cur3) e0, cell_below (cur3) e1, cell_below (cur3) e2, cell_below (cur3) e3, cell_below (cur3) e4⟩ (fun hHeld => ?_)
        clear hK K
        refine norm_ (a' := ?_) ?_ ?_
        rotate_left
        · show Act.put _ (some 13) _ = _
          simp only [Act.put, List.setIfInBounds_toArray, List.set_cons_zero, List.set_cons_succ, i64_w, i32_w]
          rfl
        refine pure_ (i := 7) (N := some 14) (v := ?_) (a' := ?_) #[true, true, true, true, true, true, true, true, false, true, false] rfl rfl (by kernel_rfl) (fun _ _ _ h => h) (Or.inl ⟨by rfl, ?_⟩) ?_ ?_
        rotate_left
        · intro w'
          go_simp
          with_reducible rfl
        rotate_left
        · simp only [Act.put, List.setIfInBounds_toArray, List.set_cons_zero, List.set_cons_succ, i64_w, i32_w]
          rfl
        refine take_ (i := 8) (N := some 15) (v := ?_) (a' := ?_) #[true, true, true, true, true, true, true, true, true, true, false] rfl rfl (by kernel_rfl) (fun _ _ _ h => h) (Or.inl ⟨by rfl, ?_⟩) hHeld ?_ ?_
        rotate_left
        · rintro w' ⟨s0, s1, s2, s3, s4, s5, s6, s7, s8⟩
          go_simp
          with_reducible rfl
        rotate_left
        · simp only [Act.put, List.setIfInBounds_toArray, List.set_cons_zero, List.set_cons_succ, i64_w, i32_w]
          rfl
        exact norm_ (by first | (simp only [putAll, Act.put, List.setIfInBounds_toArray, List.set_cons_zero, List.set_cons_succ]; done) | (simp only [putAll, Act.put, List.setIfInBounds_toArray, List.set_cons_zero, List.set_cons_succ]; rfl)) (hJ6_9 ga9 _ ⟨cur3, p3_9, q9⟩)
    · skip
      rintro ⟨⟩ w1 cur
      have hHeld : w1.cell? ⟨mb, 0, none⟩ = some (.slice (some ⟨bp, 0, none⟩) n n) ∧ w1.cell? ⟨w.heap.size, 0, none⟩ = some (.int .i64 k0) ∧ w1.cell? ⟨w.heap.size, 1, none⟩ = some (.int .i64 k1) ∧ w1.cell? ⟨w.heap.size, 2, none⟩ = some (.int .i64 k2) ∧ w1.cell? ⟨bp, s * 5, none⟩ = some (.bool b0) ∧ w1.cell? ⟨bp, s * 5 + 1, none⟩ = some (.int .i64 c0) ∧ w1.cell? ⟨bp, s * 5 + 2, none⟩ = some (.int .i64 c1) ∧ w1.cell? ⟨bp, s * 5 + 3, none⟩ = some (.int .i64 c2) ∧ w1.cell? ⟨bp, s * 5 + 4, none⟩ = some (.int .i64 v) := ⟨cell_below (cur) h0, cell_below (cur) x0, cell_below (cur) x1, cell_below (cur) x2, cell_below (cur) e0, cell_below (cur) e1, cell_below (cur) e2, cell_below (cur) e3, cell_below (cur) e4⟩
      refine norm_ (a' := ?_) ?_ ?_
      rotate_left
      · simp only [putAll, Act.put, List.setIfInBounds_toArray, List.set_cons_zero, List.set_cons_succ]
        rfl
      refine one_ (i := 9) (N := some 6) #[true, true, true, true, true, true, true, true, true, true, false] rfl rfl (by kernel_rfl) (by decide) (fun K hK => ?_)
      refine value_ (w1 := ?_) (v := ?_) (by rfl) rfl ?_ ?_
      rotate_left 2
      · go_simp
        constructor
        · rfl
        · rfl
      have cur3 := Below.push (cur) (Nat.le_refl _) (.cells #[.bool false, .int .i64 0, .int .i64 0, .int .i64 0, .int .i64 0] 119)
      refine hK.out _ _ ⟨cell_below (cur3) h0, cell_below (cur3) x0, cell_below (cur3) x1, cell_below (cur3) x2, cell_below (cur3) e0, cell_below (cur3) e1, cell_below (cur3) e2, cell_below (cur3) e3, cell_below (cur3) e4⟩ (fun hHeld => ?_)
      clear hK K
      refine norm_ (a' := ?_) ?_ ?_
      rotate_left
      · show Act.put _ (some 6) _ = _
        simp only [Act.put, List.setIfInBounds_toArray, List.set_cons_zero, List.set_cons_succ, i64_w, i32_w]
        rfl
      exact norm_ (by first | (simp only [putAll, Act.put, List.setIfInBounds_toArray, List.set_cons_zero, List.set_cons_succ]; done) | (simp only [putAll, Act.put, List.setIfInBounds_toArray, List.set_cons_zero, List.set_cons_succ]; rfl)) (hJ6_9 (w1.heap.size) _ ⟨cur3, blk_new _ _, (cur).size⟩)
  rintro ga9 w1 ⟨cur, p9, q9⟩
  have hHeld : w1.cell? ⟨mb, 0, none⟩ = some (.slice (some ⟨bp, 0, none⟩) n n) ∧ w1.cell? ⟨w.heap.size, 0, none⟩ = some (.int .i64 k0) ∧ w1.cell? ⟨w.heap.size, 1, none⟩ = some (.int .i64 k1) ∧ w1.cell? ⟨w.heap.size, 2, none⟩ = some (.int .i64 k2) ∧ w1.cell? ⟨bp, s * 5, none⟩ = some (.bool b0) ∧ w1.cell? ⟨bp, s * 5 + 1, none⟩ = some (.int .i64 c0) ∧ w1.cell? ⟨bp, s * 5 + 2, none⟩ = some (.int .i64 c1) ∧ w1.cell? ⟨bp, s * 5 + 3, none⟩ = some (.int .i64 c2) ∧ w1.cell? ⟨bp, s * 5 + 4, none⟩ = some (.int .i64 v) := ⟨cell_below (cur) h0, cell_below (cur) x0, cell_below (cur) x1, cell_below (cur) x2, cell_below (cur) e0, cell_below (cur) e1, cell_below (cur) e2, cell_below (cur) e3, cell_below (cur) e4⟩
  refine norm_ (a' := ?_) ?_ ?_
  rotate_left
  · simp only [putAll, Act.put, List.setIfInBounds_toArray, List.set_cons_zero, List.set_cons_succ]
    rfl
  refine last_ (i := 10) (N := none) #[true, true, true, true, true, true, true, true, true, true, true] rfl rfl (by kernel_rfl) (by decide) (fun K hK => ?_)
  have u0 := (blk_cell p9 0).trans rfl
  have u1 := (blk_cell p9 1).trans rfl
  have u2 := (blk_cell p9 2).trans rfl
  have u3 := (blk_cell p9 3).trans rfl
  have u4 := (blk_cell p9 4).trans rfl
  have f0 := blk_frozen p9 0
  have f1 := blk_frozen p9 1
  have f2 := blk_frozen p9 2
  have f3 := blk_frozen p9 3
  have f4 := blk_frozen p9 4
  refine skip_ (w1 := ?_) (by rfl) rfl ?_ ?_
  rotate_left
  · go_simp
    rfl
  refine hK.out _ _ ?_
  clear hK K
  refine done_ (by kernel_rfl) ?_
  have HB1 : Hid (Below w.heap.size w w1) := Lib.hid (seq HB0.out cur)
  have l1 : w.heap.size ≤ ga9 := Nat.le_trans HB0.out.size q9
  have P9 := blk_set (blk_set (blk_set (blk_set (blk_set p9 0 (.bool b0)) 1 (.int .i64 c0)) 2 (.int .i64 c1)) 3 (.int .i64 c2)) 4 (.int .i64 v)
  have HB2 : Hid (Below w.heap.size w (((((w1.setCell ⟨ga9, 0, none⟩ (.bool b0)).setCell ⟨ga9, 1, none⟩ (.int .i64 c0)).setCell ⟨ga9, 2, none⟩ (.int .i64 c1)).setCell ⟨ga9, 3, none⟩ (.int .i64 c2)).setCell ⟨ga9, 4, none⟩ (.int .i64 v))) :=
    Lib.hid (((((HB1.out.setCell l1 _).setCell l1 _).setCell l1 _).setCell l1 _).setCell l1 _)
  have nx : w.heap.size ≠ ga9 := by have := World.block_lt_of_cell? _ _ x0; have : w.heap.size < W.heap.size := this; omega
  have y0 : (((((w1.setCell ⟨ga9, 0, none⟩ (.bool b0)).setCell ⟨ga9, 1, none⟩ (.int .i64 c0)).setCell ⟨ga9, 2, none⟩ (.int .i64 c1)).setCell ⟨ga9, 3, none⟩ (.int .i64 c2)).setCell ⟨ga9, 4, none⟩ (.int .i64 v)).cell? ⟨w.heap.size, 0, none⟩ = some (.int .i64 k0) := by
    rw [cell_set_ne _ (by exact nx), cell_set_ne _ (by exact nx), cell_set_ne _ (by exact nx), cell_set_ne _ (by exact nx), cell_set_ne _ (by exact nx)]; exact cell_below cur x0
  have y1 : (((((w1.setCell ⟨ga9, 0, none⟩ (.bool b0)).setCell ⟨ga9, 1, none⟩ (.int .i64 c0)).setCell ⟨ga9, 2, none⟩ (.int .i64 c1)).setCell ⟨ga9, 3, none⟩ (.int .i64 c2)).setCell ⟨ga9, 4, none⟩ (.int .i64 v)).cell? ⟨w.heap.size, 1, none⟩ = some (.int .i64 k1) := by
    rw [cell_set_ne _ (by exact nx), cell_set_ne _ (by exact nx), cell_set_ne _ (by exact nx), cell_set_ne _ (by exact nx), cell_set_ne _ (by exact nx)]; exact cell_below cur x1
  have y2 : (((((w1.setCell ⟨ga9, 0, none⟩ (.bool b0)).setCell ⟨ga9, 1, none⟩ (.int .i64 c0)).setCell ⟨ga9, 2, none⟩ (.int .i64 c1)).setCell ⟨ga9, 3, none⟩ (.int .i64 c2)).setCell ⟨ga9, 4, none⟩ (.int .i64 v)).cell? ⟨w.heap.size, 2, none⟩ = some (.int .i64 k2) := by
    rw [cell_set_ne _ (by exact nx), cell_set_ne _ (by exact nx), cell_set_ne _ (by exact nx), cell_set_ne _ (by exact nx), cell_set_ne _ (by exact nx)]; exact cell_below cur x2
  clear hHeld u0 u1 u2 u3 u4 f0 f1 f2 f3 f4 x0 x1 x2 e0 e1 e2 e3 e4 h0 p9 cur HB1 HS HS2
  generalize (((((w1.setCell ⟨ga9, 0, none⟩ (.bool b0)).setCell ⟨ga9, 1, none⟩ (.int .i64 c0)).setCell ⟨ga9, 2, none⟩ (.int .i64 c1)).setCell ⟨ga9, 3, none⟩ (.int .i64 c2)).setCell ⟨ga9, 4, none⟩ (.int .i64 v)) = w2 at *
  have u0 : w2.cell? ⟨ga9, 0, none⟩ = some (.bool b0) := (blk_cell P9 0).trans rfl
  have u1 : w2.cell? ⟨ga9, 1, none⟩ = some (.int .i64 c0) := (blk_cell P9 1).trans rfl
  have u2 : w2.cell? ⟨ga9, 2, none⟩ = some (.int .i64 c1) := (blk_cell P9 2).trans rfl
  have u3 : w2.cell? ⟨ga9, 3, none⟩ = some (.int .i64 c2) := (blk_cell P9 3).trans rfl
  have u4 : w2.cell? ⟨ga9, 4, none⟩ = some (.int .i64 v) := (blk_cell P9 4).trans rfl
  clear P9
  cases b0
  · go_wp2
    go_ret2
    refine ⟨?_, HB2.out⟩
    rw [HG.out, if_neg (by simp)]; rfl
  · obtain ⟨q, hq⟩ : ∃ q, keyEq c0 c1 c2 k0 k1 k2 = q := ⟨_, rfl⟩
    have hm : mget ES k0 k1 k2 = if q = true then some v else none := by
      rw [HG.out]
      have := keyEq_iff c0 c1 c2 k0 k1 k2
      rw [hq] at this
      by_cases c : q = true
      · rw [if_pos c, if_pos ⟨rfl, this.1 c⟩]
      · rw [if_neg c, if_neg (fun h => c (this.2 h.2))]
    have HM2 := Lib.hid hm
    clear hm HG
    cases q
    · go_wp2
      go_ret2
      refine ⟨?_, HB2.out⟩
      rw [HM2.out]; rfl
    · go_wp2
      go_ret2
      refine ⟨?_, HB2.out⟩
      rw [HM2.out]; rfl

theorem puts_ent (w : World) (bp s : Nat) (ES : List Ent) (h : w.heap[bp]? = some (.cells (entCells ES).toArray 119 (0, 0))) (hs : s < ES.length) (e : Ent) :
    (((((w.setCell ⟨bp, s * 5, none⟩ (.bool e.is)).setCell ⟨bp, s * 5 + 1, none⟩ (.int .i64 e.k0)).setCell ⟨bp, s * 5 + 2, none⟩ (.int .i64 e.k1)).setCell ⟨bp, s * 5 + 3, none⟩ (.int .i64 e.k2)).setCell ⟨bp, s * 5 + 4, none⟩ (.int .i64 e.v)).heap[bp]? = some (.cells (entCells (ES.set s e)).toArray 119 (0, 0)) := by
  have := blk_set (blk_set (blk_set (blk_set (blk_set h (s * 5) (.bool e.is)) (s * 5 + 1) (.int .i64 e.k0)) (s * 5 + 2) (.int .i64 e.k1)) (s * 5 + 3) (.int .i64 e.k2)) (s * 5 + 4) (.int .i64 e.v)
  rw [this]
  simp only [List.setIfInBounds_toArray]
  rw [entCells_set ES s hs e]
def PutPost (w : World) (mb bp : Nat) (ES' : List Ent) (e : Ending) (w' : World) : Prop := e = .returned (.tuple #[]) ∧ MemoAt w' mb bp ES' ∧ Touch w w' (fun k => k = bp)
set_option maxRecDepth 100000 in
set_option maxHeartbeats 2000000 in
theorem put_any (M : MemoAt w mb bp ES) (k0 k1 k2 v : Int) :
    Calls Try.prog 62 #[.pointer (some ⟨mb, 0, none⟩), .agg #[.int .i64 k0, .int .i64 k1, .int .i64 k2], .int .i64 v] w (PutPost w mb bp (mput ES k0 k1 k2 v)) := by
  have h0 := M.c0
  have hb := lt_of_heap M.box
  have hp := M.pos
  have hf := M.few
  have hk := mslot_lt k0 k1 k2 M.pos
  obtain ⟨e0, e1, e2, e3, e4⟩ := M.ent _ hk
  have HM := Lib.hid M
  have HR := Lib.hid M.row
  clear M
  have hs0 : (0 : Int) ≤ (mslot k0 k1 k2 ES.length : Nat) := by omega
  have hs1 : ((mslot k0 k1 k2 ES.length : Nat) : Int) < (ES.length : Nat) := by omega
  have hn : (ES.length : Int) ≤ 65536 := by omega
  have HG : Hid (mput ES k0 k1 k2 v = ES.set (mslot k0 k1 k2 ES.length) ⟨true, k0, k1, k2, v⟩) := Lib.hid rfl
  have HS := Lib.hid (fun (W : World) (h : Below w.heap.size w W) => slot_any (HM.out.below h) k0 k1 k2)
  generalize mput ES k0 k1 k2 v = ES' at *
  generalize ES[mslot k0 k1 k2 ES.length] = x at *
  generalize mslot k0 k1 k2 ES.length = s at *
  have HHK := Lib.hid hk
  obtain ⟨n, hn'⟩ : ∃ n, ES.length = n := ⟨_, rfl⟩
  rw [hn'] at h0 hp hf hs1 hn
  have HN := Lib.hid hn'
  clear hn' hk
  obtain ⟨b0, c0, c1, c2, v0⟩ := x
  dsimp only at e0 e1 e2 e3 e4
  go_enter Try.func62, Try.ntmps62
  go_wp2_with fail
  have kk := heap_alloc_new w (.cells #[.int .i64 k0, .int .i64 k1, .int .i64 k2] 95)
  have HB : Below w.heap.size w (w.alloc (.cells #[.int .i64 k0, .int .i64 k1, .int .i64 k2] 95)) := (Below.refl _ _).alloc (Nat.le_refl _) _
  obtain ⟨x0, x1, x2⟩ : (w.alloc (.cells #[.int .i64 k0, .int .i64 k1, .int .i64 k2] 95)).cell? ⟨w.heap.size, 0, none⟩ = some (.int .i64 k0) ∧ (w.alloc (.cells #[.int .i64 k0, .int .i64 k1, .int .i64 k2] 95)).cell? ⟨w.heap.size, 1, none⟩ = some (.int .i64 k1) ∧ (w.alloc (.cells #[.int .i64 k0, .int .i64 k1, .int .i64 k2] 95)).cell? ⟨w.heap.size, 2, none⟩ = some (.int .i64 k2) := ⟨cell_at kk 0 rfl, cell_at kk 1 rfl, cell_at kk 2 rfl⟩
  clear kk
  replace h0 := cell_below HB h0
  have HB0 := Lib.hid HB
  clear HB
  generalize w.alloc (.cells #[.int .i64 k0, .int .i64 k1, .int .i64 k2] 95) = W at *
  refine start_ (n := 12) (S := fun w' => w'.cell? ⟨mb, 0, none⟩ = some (.slice (some ⟨bp, 0, none⟩) n n) ∧ w'.cell? ⟨w.heap.size, 0, none⟩ = some (.int .i64 k0) ∧ w'.cell? ⟨w.heap.size, 1, none⟩ = some (.int .i64 k1) ∧ w'.cell? ⟨w.heap.size, 2, none⟩ = some (.int .i64 k2)) (ds := [11]) #[false, false, false, false, false, false, false, false, false, false, false, false] (by kernel_rfl) rfl rfl ⟨cell_below ((Below.refl W.heap.size W).drew) h0, cell_below ((Below.refl W.heap.size W).drew) x0, cell_below ((Below.refl W.heap.size W).drew) x1, cell_below ((Below.refl W.heap.size W).drew) x2⟩ (fun hHeld => ?_)
  refine pure_ (i := 0) (N := some 6) (v := ?_) (a' := ?_) #[true, false, false, false, false, false, false, false, false, false, false, false] rfl rfl (by kernel_rfl) (fun _ _ _ h => h) (Or.inl ⟨by rfl, ?_⟩) ?_ ?_
  rotate_left
  · intro w'
    go_simp
    with_reducible rfl
  rotate_left
  · simp only [Act.put, List.setIfInBounds_toArray, List.set_cons_zero, List.set_cons_succ, i64_w, i32_w]
    rfl
  refine pure_ (i := 1) (N := some 7) (v := ?_) (a' := ?_) #[true, true, false, false, false, false, false, false, false, false, false, false] rfl rfl (by kernel_rfl) (fun _ _ _ h => h) (Or.inl ⟨by rfl, ?_⟩) ?_ ?_
  rotate_left
  · intro w'
    go_simp
    with_reducible rfl
  rotate_left
  · simp only [Act.put, List.setIfInBounds_toArray, List.set_cons_zero, List.set_cons_succ, i64_w, i32_w]
    rfl
  refine pure_ (i := 2) (N := some 8) (v := ?_) (a' := ?_) #[true, true, true, false, false, false, false, false, false, false, false, false] rfl rfl (by kernel_rfl) (fun _ _ _ h => h) (Or.inl ⟨by rfl, ?_⟩) ?_ ?_
  rotate_left
  · intro w'
    go_simp
    with_reducible rfl
  rotate_left
  · simp only [Act.put, List.setIfInBounds_toArray, List.set_cons_zero, List.set_cons_succ, i64_w, i32_w]
    rfl
  refine pure_ (i := 4) (N := some 10) (v := ?_) (a' := ?_) #[true, true, true, false, true, false, false, false, false, false, false, false] rfl rfl (by kernel_rfl) (fun _ _ _ h => h) (Or.inl ⟨by rfl, ?_⟩) ?_ ?_
  rotate_left
  · intro w'
    go_simp
    with_reducible rfl
  rotate_left
  · simp only [Act.put, List.setIfInBounds_toArray, List.set_cons_zero, List.set_cons_succ, i64_w, i32_w]
    rfl
  refine pure_ (i := 8) (N := some 14) (v := ?_) (a' := ?_) #[true, true, true, false, true, false, false, false, true, false, false, false] rfl rfl (by kernel_rfl) (fun _ _ _ h => h) (Or.inl ⟨by rfl, ?_⟩) ?_ ?_
  rotate_left
  · intro w'
    go_simp
    with_reducible rfl
  rotate_left
  · simp only [Act.put, List.setIfInBounds_toArray, List.set_cons_zero, List.set_cons_succ, i64_w, i32_w]
    rfl
  refine take_ (i := 3) (N := some 9) (v := ?_) (a' := ?_) #[true, true, true, true, true, false, false, false, true, false, false, false] rfl rfl (by kernel_rfl) (fun _ _ _ h => h) (Or.inl ⟨by rfl, ?_⟩) hHeld ?_ ?_
  rotate_left
  · rintro w' ⟨s0, s1, s2, s3⟩
    go_simp
    with_reducible rfl
  rotate_left
  · simp only [Act.put, List.setIfInBounds_toArray, List.set_cons_zero, List.set_cons_succ, i64_w, i32_w]
    rfl
  refine take_ (i := 5) (N := some 11) (v := ?_) (a' := ?_) #[true, true, true, true, true, true, false, false, true, false, false, false] rfl rfl (by kernel_rfl) (fun _ _ _ h => h) (Or.inl ⟨by rfl, ?_⟩) hHeld ?_ ?_
  rotate_left
  · rintro w' ⟨s0, s1, s2, s3⟩
    go_simp
    with_reducible rfl
  rotate_left
  · simp only [Act.put, List.setIfInBounds_toArray, List.set_cons_zero, List.set_cons_succ, i64_w, i32_w]
    rfl
  refine take_ (i := 7) (N := some 13) (v := ?_) (a' := ?_) #[true, true, true, true, true, true, false, true, true, false, false, false] rfl rfl (by kernel_rfl) (fun _ _ _ h => h) (Or.inl ⟨by rfl, ?_⟩) hHeld ?_ ?_
  rotate_left
  · rintro w' ⟨s0, s1, s2, s3⟩
    go_simp
    with_reducible rfl
  rotate_left
  · simp only [Act.put, List.setIfInBounds_toArray, List.set_cons_zero, List.set_cons_succ, i64_w, i32_w]
    rfl
  refine pure_ (i := 9) (N := some 15) (v := ?_) (a' := ?_) #[true, true, true, true, true, true, false, true, true, true, false, false] rfl rfl (by kernel_rfl) (fun _ _ _ h => h) (Or.inl ⟨by rfl, ?_⟩) ?_ ?_
  rotate_left
  · intro w'
    go_simp
    with_reducible rfl
  rotate_left
  · simp only [Act.put, List.setIfInBounds_toArray, List.set_cons_zero, List.set_cons_succ, i64_w, i32_w]
    rfl
  refine one_ (i := 6) (N := some 12) #[true, true, true, true, true, true, true, true, true, true, false, false] rfl rfl (by kernel_rfl) (by decide) (fun K hK => ?_)
  refine goes_ Try.func69 (by kernel_rfl) rfl #[.pointer (some ⟨mb, 0, none⟩), .agg #[.int .i64 k0, .int .i64 k1, .int .i64 k2]] (by rfl) rfl rfl (by simp only [List.map_toArray, List.map_cons, List.map_nil]; rfl) ?_
  with_reducible refine (HS.out _ (seq HB0.out ((Below.refl W.heap.size W).drew))).mono ?_
  rintro e w3 ⟨rfl, hb⟩
  refine ⟨_, rfl, ?_⟩
  have cur := seq ((Below.refl W.heap.size W).drew) hb
  clear hb
  refine hK.out _ _ ⟨cell_below cur h0, cell_below cur x0, cell_below cur x1, cell_below cur x2⟩ (fun hHeld => ?_)
  clear hK K
  refine norm_ (a' := ?_) ?_ ?_
  rotate_left
  · show Act.put _ (some 12) _ = _
    simp only [Act.put, List.setIfInBounds_toArray, List.set_cons_zero, List.set_cons_succ, i64_w, i32_w]
    rfl
  refine pure_ (i := 10) (N := some 16) (v := ?_) (a' := ?_) #[true, true, true, true, true, true, true, true, true, true, true, false] rfl rfl (by kernel_rfl) (fun _ _ _ h => h) (Or.inl ⟨by rfl, ?_⟩) ?_ ?_
  rotate_left
  · intro w'
    go_simp
    with_reducible rfl
  rotate_left
  · simp only [Act.put, List.setIfInBounds_toArray, List.set_cons_zero, List.set_cons_succ, i64_w, i32_w]
    rfl
  refine last_ (i := 11) (N := none) #[true, true, true, true, true, true, true, true, true, true, true, true] rfl rfl (by kernel_rfl) (by decide) (fun K hK => ?_)
  have u0 := cell_below (seq HB0.out cur) e0
  have u1 := cell_below (seq HB0.out cur) e1
  have u2 := cell_below (seq HB0.out cur) e2
  have u3 := cell_below (seq HB0.out cur) e3
  have u4 := cell_below (seq HB0.out cur) e4
  have PR := blk_below HR.out (seq HB0.out cur)
  have f0 := blk_frozen PR (s * 5)
  have f1 := blk_frozen PR (s * 5 + 1)
  have f2 := blk_frozen PR (s * 5 + 2)
  have f3 := blk_frozen PR (s * 5 + 3)
  have f4 := blk_frozen PR (s * 5 + 4)
  refine skip_ (w1 := ?_) (by rfl) rfl ?_ ?_
  rotate_left
  · go_simp
    rfl
  refine hK.out _ _ ?_
  clear hK K
  refine done_ (by kernel_rfl) ?_
  have HT := Touch.of_below (seq HB0.out cur) (fun k => k = bp)
  have HT2 := Lib.hid HT
  have HR2 := Lib.hid PR
  clear HT PR u0 u1 u2 u3 u4 f0 f1 f2 f3 f4 hHeld cur h0
  go_wp2
  go_end0
  refine ⟨rfl, ?_, ((((HT2.out.setCell (.inl rfl) _).setCell (.inl rfl) _).setCell (.inl rfl) _).setCell (.inl rfl) _).setCell (.inl rfl) _⟩
  have hk := HHK.out
  rw [HG.out]
  refine ⟨?_, ?_, by simpa using HM.out.pos, by simpa using HM.out.few, HM.out.ap⟩
  · rw [List.length_set]
    have hne := HM.out.ap
    exact blk_far (blk_far (blk_far (blk_far (blk_far (HT2.out.heap HM.out.box hne) hne _) hne _) hne _) hne _) hne _
  · exact puts_ent _ bp s ES HR2.out hk ⟨true, k0, k1, k2, v⟩

end
end Go.Proofs.Ytiagkbmhfgdffaa

set_option linter.unusedVariables false
set_option linter.unusedSimpArgs false
namespace Go.Proofs.Ytiagkbmhfgdffaa
open Go.RowKit Go.Extern.Stop Go.Stop Go.Extern

theorem run_equalIn_errno {P : Program} (w : World) (d : Nat) {ti tn : TypeId} {ms : Array (String × TypeId)} {i : TypeInfo} {k : IntKind} (a b : Int)
    (hi : P.underlying ti = some (.interface ms)) (hn : P.underlying tn = some (.int k)) (hinfo : P.info? tn = some i) (hcomp : i.comparable = true) :
    (Op.equalIn (d + 2) ti (.iface tn (.int k a)) (.iface tn (.int k b))).run P w = .ok (a == b) w := by
  simp [Op.equalIn, run_underlying hi, run_underlying hn, typeInfo, hinfo, hcomp]
theorem run_eql_errno {P : Program} (w : World) {ti tn : TypeId} {ms : Array (String × TypeId)} {i : TypeInfo} {k : IntKind} (a b : Int)
    (hi : P.underlying ti = some (.interface ms)) (hn : P.underlying tn = some (.int k)) (hinfo : P.info? tn = some i) (hcomp : i.comparable = true) :
    (binOp .eql ti (.iface tn (.int k a)) (.iface tn (.int k b))).run P w = .ok (.bool (a == b)) w := by
  simp only [binOp]
  simp [Op.equal, Op.maxDepth, run_equalIn_errno w 9998 a b hi hn hinfo hcomp]

theorem ei_typeOf (v : Value) (w : World) : (Extern.ReflectliteType.typeOf #[.iface 51 v]).run Try.prog w = .ok (.iface 102 (.agg #[.pointer (some ⟨0, 51, none⟩)])) w := by kernel_rfl
open Extern.ReflectliteType in
/-- What the model has for rtype's Comparable. -/
def eiCmp : Array Value → Sem Value := Extern.ReflectliteType.method fun t => do Rtype.noPackHeld "Comparable" t; pure (.bool (← typeInfo t).comparable)
theorem ei_comparable (w : World) : (eiCmp #[.agg #[.pointer (some ⟨0, 51, none⟩)]]).run Try.prog w = .ok (.bool true) w := by kernel_rfl
theorem ei_methodComparable (v : Value) (w : World) : (Go.method 255 102 v "Comparable").run Try.prog w = .ok (90, v) w := by kernel_rfl
theorem ei_comp : (Try.prog.info? 51).map (·.comparable) = some true := by kernel_rfl
theorem ei_noIs (v : Value) (xT : TypeId) (w : World) : (Instr.typeAssert (.iface 51 v) xT 104 true).run Try.prog w = .ok (.tuple #[.nilIface, .bool false]) w := run_typeAssert_lacksB Try.underlying104 (by kernel_rfl) (by kernel_rfl) v xT w
theorem ei_noUnwrap (v : Value) (xT : TypeId) (w : World) : (Instr.typeAssert (.iface 51 v) xT 107 true).run Try.prog w = .ok (.tuple #[.nilIface, .bool false]) w := run_typeAssert_lacksB Try.underlying107 (by kernel_rfl) (by kernel_rfl) v xT w
theorem ei_noUnwraps (v : Value) (xT : TypeId) (w : World) : (Instr.typeAssert (.iface 51 v) xT 109 true).run Try.prog w = .ok (.tuple #[.nilIface, .bool false]) w := run_typeAssert_lacksB Try.underlying109 (by kernel_rfl) (by kernel_rfl) v xT w
theorem ei_faultNoIs (v : Value) (xT : TypeId) (w : World) : (Instr.typeAssert (.iface 114 v) xT 104 true).run Try.prog w = .ok (.tuple #[.nilIface, .bool false]) w := run_typeAssert_lacksB Try.underlying104 (by kernel_rfl) (by kernel_rfl) v xT w
theorem ei_faultUnwrap (v : Value) (xT : TypeId) (w : World) : (Instr.typeAssert (.iface 114 v) xT 107 true).run Try.prog w = .ok (.tuple #[.iface 114 v, .bool true]) w := run_typeAssert_hasB Try.underlying107 (by kernel_rfl) v xT w
theorem ei_methodUnwrap (v : Value) (w : World) : (Go.method 255 114 v "Unwrap").run Try.prog w = .ok (100, v) w := by kernel_rfl

set_option maxRecDepth 100000 in
set_option maxHeartbeats 1000000 in
theorem is_errno (n m : Int) (d : Bool) (hd : (n == m) = d) (w : World) :
    Calls Try.prog 24 #[.iface 51 (.int .i64 n), .iface 51 (.int .i64 m)] w fun e w' => e = .returned (.bool d) ∧ w = w' := by
  obtain ⟨i, hi, hcmp⟩ := Option.map_eq_some_iff.1 ei_comp
  have h8 := @run_callFunc_extern Try.prog 46 _ Extern.ReflectliteType.typeOf Try.func46 (by kernel_rfl) (by kernel_rfl) (by kernel_rfl) (by kernel_rfl)
  have h32 := @run_callFunc_extern Try.prog 90 _ eiCmp Try.func90 (by kernel_rfl) (by kernel_rfl) (by kernel_rfl) (by kernel_rfl)
  have tT := ei_typeOf
  have cT := ei_comparable
  have mR := ei_methodComparable
  have nE := ei_noIs
  have uE := ei_noUnwrap
  have vE := ei_noUnwraps
  have heq := run_eql_errno (P := Try.prog) w n m Try.underlying44 Try.underlying51 hi hcmp
  rw [hd] at heq
  clear hd
  cases d
  · go_enter Try.func24, Try.ntmps24
    go_wp2
    refine wp_loop_rounds 1 ?_
    rw [rounds_succ]
    go_wp2
    go_ret
    exact ⟨rfl, rfl⟩
  · go_enter Try.func24, Try.ntmps24
    go_wp2
    refine wp_loop_rounds 1 ?_
    rw [rounds_succ]
    go_wp2
    go_ret
    exact ⟨rfl, rfl⟩
theorem ei_eqlF (fb : Nat) (m : Int) (w : World) : (binOp .eql 44 (.iface 114 (.pointer (some ⟨fb, 0, none⟩))) (.iface 51 (.int .i64 m))).run Try.prog w = .ok (.bool false) w :=
  run_eql_iface_types (P := Try.prog) _ _ _ _ Try.underlying44 (by decide) w
def FaultIs (w : World) (fb : Nat) (n : Int) : Prop := ∃ v, FaultAt w fb v n

set_option maxRecDepth 100000 in
set_option maxHeartbeats 1000000 in
theorem is_fault (fb : Nat) (v n m : Int) (d : Bool) (hd : (n == m) = d) (w : World) (hf : FaultAt w fb v n) :
    Calls Try.prog 24 #[.iface 114 (.pointer (some ⟨fb, 0, none⟩)), .iface 51 (.int .i64 m)] w fun e w' => e = .returned (.bool d) ∧ w = w' := by
  obtain ⟨i, hi, hcmp⟩ := Option.map_eq_some_iff.1 ei_comp
  have h8 := @run_callFunc_extern Try.prog 46 _ Extern.ReflectliteType.typeOf Try.func46 (by kernel_rfl) (by kernel_rfl) (by kernel_rfl) (by kernel_rfl)
  have h32 := @run_callFunc_extern Try.prog 90 _ eiCmp Try.func90 (by kernel_rfl) (by kernel_rfl) (by kernel_rfl) (by kernel_rfl)
  have tT := ei_typeOf
  have cT := ei_comparable
  have mR := ei_methodComparable
  have nE := ei_noIs
  have uE := ei_noUnwrap
  have vE := ei_noUnwraps
  have nF := ei_faultNoIs
  have uF := ei_faultUnwrap
  have mU := ei_methodUnwrap
  have heq := run_eql_errno (P := Try.prog) w n m Try.underlying44 Try.underlying51 hi hcmp
  have hne : (binOp .eql 44 (.iface 114 (.pointer (some ⟨fb, 0, none⟩))) (.iface 51 (.int .i64 m))).run Try.prog w = .ok (.bool false) w := ei_eqlF fb m w
  have h2 : w.cell? ⟨fb, 2, none⟩ = some (.iface 51 (.int .i64 n)) := cell_at hf 2 rfl
  rw [hd] at heq
  clear hd hf
  cases d
  · go_enter Try.func24, Try.ntmps24
    go_wp2
    refine wp_loop_rounds 2 ?_
    rw [rounds_succ]
    go_wp2
    rw [rounds_succ]
    go_wp2
    go_ret
    exact ⟨rfl, rfl⟩
  · go_enter Try.func24, Try.ntmps24
    go_wp2
    refine wp_loop_rounds 2 ?_
    rw [rounds_succ]
    go_wp2
    rw [rounds_succ]
    go_wp2
    go_ret
    exact ⟨rfl, rfl⟩
end Go.Proofs.Ytiagkbmhfgdffaa

set_option linter.unusedVariables false
set_option linter.unusedSimpArgs false
namespace Go.Proofs.Ytiagkbmhfgdffaa
open Go Go.RowKit Go.Deep

/-- What stands in a place of the memo is right. -/
def KeyOk (L : List Nd) (e : Ent) : Prop :=
  if e.k2 = -9 then 0 ≤ e.k1 ∧ e.k1 < 12 ∧ Ar.RstIs L e.k0 e.k1 false e.v else if e.k2 = -10 then 0 ≤ e.k1 ∧ e.k1 < 12 ∧ Ar.RstIs L e.k0 e.k1 true e.v else Ar.IteIs L e.k0 e.k1 e.k2 e.v
def MemoOk (L : List Nd) (ES : List Ent) : Prop := ∀ e ∈ ES, e.is = true → KeyOk L e
theorem KeyOk.pre {L L' : List Nd} (ok : Ar.Ok L) (hp : L <+: L') {e : Ent} (h : KeyOk L e) : KeyOk L' e := by
  unfold KeyOk at h ⊢
  split
  · rename_i c; rw [if_pos c] at h; exact ⟨h.1, h.2.1, h.2.2.pre ok hp⟩
  · rename_i c; rw [if_neg c] at h
    split
    · rename_i c; rw [if_pos c] at h; exact ⟨h.1, h.2.1, h.2.2.pre ok hp⟩
    · rename_i c; rw [if_neg c] at h; exact h.pre ok hp
theorem MemoOk.pre {L L' : List Nd} (ok : Ar.Ok L) (hp : L <+: L') {ES : List Ent} (h : MemoOk L ES) : MemoOk L' ES := fun e he hi => (h e he hi).pre ok hp
theorem mget_some {ES : List Ent} {k0 k1 k2 x : Int} (h : mget ES k0 k1 k2 = some x) : ∃ e ∈ ES, e.is = true ∧ e.k0 = k0 ∧ e.k1 = k1 ∧ e.k2 = k2 ∧ e.v = x := by
  unfold mget at h
  split at h
  · rename_i hs
    split at h
    · rename_i hc
      simp only [Option.some.injEq] at h
      exact ⟨_, List.getElem_mem hs, hc.1, hc.2.1, hc.2.2.1, hc.2.2.2, h⟩
    · cases h
  · cases h
theorem MemoOk.ite {L : List Nd} {ES : List Ent} (h : MemoOk L ES) {f g k x : Int} (hk : Ar.Bo L k) (hg : mget ES f g k = some x) : Ar.IteIs L f g k x := by
  obtain ⟨e, he, hi, rfl, rfl, rfl, rfl⟩ := mget_some hg
  have := h e he hi
  have hl : -2 ≤ e.k2 := by
    by_cases hn : Ar.isN L e.k2
    · have := hn.1; omega
    · rcases hk.leaf hn with c | c <;> omega
  unfold KeyOk at this
  rwa [if_neg (by omega), if_neg (by omega)] at this
theorem MemoOk.rst {L : List Nd} {ES : List Ent} (h : MemoOk L ES) {f v x : Int} {b : Bool} (hg : mget ES f v (if b then -10 else -9) = some x) : Ar.RstIs L f v b x := by
  obtain ⟨e, he, hi, rfl, rfl, hk, rfl⟩ := mget_some hg
  have := h e he hi
  unfold KeyOk at this
  cases b
  · rw [if_pos (by simpa using hk)] at this; exact this.2.2
  · rw [if_neg (by rw [hk]; decide), if_pos (by simpa using hk)] at this; exact this.2.2
theorem MemoOk.put {L : List Nd} {ES : List Ent} (h : MemoOk L ES) {k0 k1 k2 x : Int} (hk : KeyOk L ⟨true, k0, k1, k2, x⟩) : MemoOk L (mput ES k0 k1 k2 x) := by
  intro e he hi
  unfold mput at he
  rcases List.mem_or_eq_of_mem_set he with he | rfl
  · exact h e he hi
  · exact hk

/-- A manager in memory: its box, its arena, its memo; all its blocks are of S. -/
structure MgrAt (w : World) (mg b mb bp : Nat) (lim : Int) (L : List Nd) (ES : List Ent) (S : Nat → Prop) : Prop where
  box : w.heap[mg]? = some (.cells #[.pointer (some ⟨b, 0, none⟩), .pointer (some ⟨mb, 0, none⟩)] 62 (0, 0))
  ar : Arena w b lim L (fun k => S k ∧ k ≠ mg ∧ k ≠ mb ∧ k ≠ bp)
  me : MemoAt w mb bp ES
  mok : MemoOk L ES
  smg : S mg
  smb : S mb
  sbp : S bp
  n1 : mg ≠ mb
  n2 : mg ≠ bp
  lt : ∀ k, S k → k < w.heap.size
def Mgr (w : World) (mg : Nat) (lim : Int) (L : List Nd) (S : Nat → Prop) : Prop := ∃ b mb bp ES, MgrAt w mg b mb bp lim L ES S

section
variable {w w' : World} {mg b mb bp : Nat} {lim : Int} {L : List Nd} {ES : List Ent} {S S' : Nat → Prop}
theorem MgrAt.touch (M : MgrAt w mg b mb bp lim L ES S) (t : Touch w w' S') (hs : ∀ k, S k → ¬ S' k) : MgrAt w' mg b mb bp lim L ES S :=
  { M with box := t.heap M.box (hs _ M.smg), ar := M.ar.touch t (fun k _ h => hs k h.1), me := M.me.touch t (hs _ M.smb) (hs _ M.sbp), lt := fun k h => Nat.lt_of_lt_of_le (M.lt k h) t.size }
theorem MgrAt.below (M : MgrAt w mg b mb bp lim L ES S) (h : Below w.heap.size w w') : MgrAt w' mg b mb bp lim L ES S :=
  M.touch (Touch.of_below h (fun _ => False)) (fun _ _ c => c)
theorem Mgr.touch (M : Mgr w mg lim L S) (t : Touch w w' S') (hs : ∀ k, S k → ¬ S' k) : Mgr w' mg lim L S := by
  obtain ⟨b, mb, bp, ES, M⟩ := M; exact ⟨b, mb, bp, ES, M.touch t hs⟩
theorem Mgr.below (M : Mgr w mg lim L S) (h : Below w.heap.size w w') : Mgr w' mg lim L S := by
  obtain ⟨b, mb, bp, ES, M⟩ := M; exact ⟨b, mb, bp, ES, M.below h⟩
theorem MgrAt.mono (M : MgrAt w mg b mb bp lim L ES S) (h : ∀ k, S k → S' k) (hl : ∀ k, S' k → k < w.heap.size) : MgrAt w mg b mb bp lim L ES S' :=
  { M with ar := M.ar.mono (fun k hk => ⟨h k hk.1, hk.2⟩), smg := h _ M.smg, smb := h _ M.smb, sbp := h _ M.sbp, lt := hl }
theorem Mgr.mono (M : Mgr w mg lim L S) (h : ∀ k, S k → S' k) (hl : ∀ k, S' k → k < w.heap.size) : Mgr w mg lim L S' := by
  obtain ⟨b, mb, bp, ES, M⟩ := M; exact ⟨b, mb, bp, ES, M.mono h hl⟩
theorem Mgr.ok (M : Mgr w mg lim L S) : Ar.Ok L := by obtain ⟨b, mb, bp, ES, M⟩ := M; exact M.ar.ok
theorem Mgr.lt (M : Mgr w mg lim L S) : ∀ k, S k → k < w.heap.size := by obtain ⟨b, mb, bp, ES, M⟩ := M; exact M.lt
theorem MgrAt.c0 (M : MgrAt w mg b mb bp lim L ES S) : w.cell? ⟨mg, 0, none⟩ = some (.pointer (some ⟨b, 0, none⟩)) := cell_at M.box 0 rfl
theorem MgrAt.c1 (M : MgrAt w mg b mb bp lim L ES S) : w.cell? ⟨mg, 1, none⟩ = some (.pointer (some ⟨mb, 0, none⟩)) := cell_at M.box 1 rfl
/-- Arenas' blocks exist. -/
theorem Arena.clip {w : World} {b : Nat} {lim : Int} {L : List Nd} {S : Nat → Prop} (A : Arena w b lim L S) : Arena w b lim L (fun k => S k ∧ k < w.heap.size) := by
  obtain ⟨vl, bp, PL, A, hf⟩ := A
  refine ⟨vl, bp, PL, A, fun k hk => ⟨hf k hk, ?_⟩⟩
  rcases hk with rfl | hk | rfl
  · exact lt_of_heap A.box
  · exact (A.row.lt k hk).2
  · exact lt_of_heap A.plc
/-- What the arena becomes, the manager becomes. -/
theorem MgrAt.grown (M : MgrAt w mg b mb bp lim L ES S) {L' : List Nd} (hp : L <+: L') (A : Arena w' b lim L' (fun k => (S k ∧ k ≠ mg ∧ k ≠ mb ∧ k ≠ bp) ∨ w.heap.size ≤ k)) (t : Touch w w' (fun k => S k ∧ k ≠ mg ∧ k ≠ mb ∧ k ≠ bp)) :
    MgrAt w' mg b mb bp lim L' ES (fun k => S k ∨ (w.heap.size ≤ k ∧ k < w'.heap.size)) := by
  have l1 := M.lt _ M.smg
  have l2 := M.lt _ M.smb
  have l3 := M.lt _ M.sbp
  refine ⟨t.heap M.box (fun c => c.2.1 rfl), ?_, M.me.touch t (fun c => c.2.2.1 rfl) (fun c => c.2.2.2 rfl), M.mok.pre M.ar.ok hp, .inl M.smg, .inl M.smb, .inl M.sbp, M.n1, M.n2, ?_⟩
  · refine A.clip.mono (fun k hk => ?_)
    obtain ⟨hk, hl⟩ := hk
    rcases hk with hk | hk
    · exact ⟨.inl hk.1, hk.2⟩
    · exact ⟨.inr ⟨hk, hl⟩, by omega, by omega, by omega⟩
  · intro k hk
    have := t.size
    rcases hk with hk | hk
    · have := M.lt k hk; omega
    · exact hk.2

/-- An error in memory: its number. -/
def ErrAt (w : World) (ev : Value) (n : Int) : Prop :=
  (n = 0 ∧ ev = .nilIface) ∨ (n = 1 ∧ ev = .iface 51 (.int .i64 1)) ∨ (n ≠ 0 ∧ ∃ fb v, ev = .iface 114 (.pointer (some ⟨fb, 0, none⟩)) ∧ FaultAt w fb v n)
/-- What a call leaves that may make nodes. -/
def OpPost (w : World) (mg : Nat) (lim : Int) (S : Nat → Prop) (r : List Nd × Int × Int) (e : Ending) (w' : World) : Prop :=
  ∃ ev, e = .returned (.tuple #[.int .i64 r.2.1, ev]) ∧ Mgr w' mg lim r.1 (fun k => S k ∨ (w.heap.size ≤ k ∧ k < w'.heap.size)) ∧ Touch w w' S ∧ ErrAt w' ev r.2.2
theorem OpPost.lift {w1 : World} {r : List Nd × Int × Int} {e : Ending} (hb : Below w.heap.size w w1) (h : OpPost w1 mg lim S r e w') : OpPost w mg lim S r e w' := by
  obtain ⟨ev, he, M, t, hr⟩ := h
  refine ⟨ev, he, M.mono (fun k hk => ?_) (fun k hk => ?_), (Touch.of_below hb S).trans t (fun _ _ h => h), hr⟩
  · have := hb.size
    rcases hk with hk | hk
    · exact .inl hk
    · exact .inr ⟨by omega, hk.2⟩
  · rcases hk with hk | hk
    · exact M.lt k (.inl hk)
    · exact hk.2
/-- A call that came behind another one. -/
theorem OpPost.step {w1 : World} {r : List Nd × Int × Int} {e : Ending} (t1 : Touch w w1 S) (h : OpPost w1 mg lim (fun k => S k ∨ (w.heap.size ≤ k ∧ k < w1.heap.size)) r e w') : OpPost w mg lim S r e w' := by
  obtain ⟨ev, he, M, t, hr⟩ := h
  refine ⟨ev, he, M.mono (fun k hk => ?_) (fun k hk => ?_), t1.trans t (fun k hk h => ?_), hr⟩
  · have := t1.size
    have := t.size
    rcases hk with (hk | hk) | hk
    · exact .inl hk
    · exact .inr ⟨hk.1, by omega⟩
    · exact .inr ⟨by omega, hk.2⟩
  · rcases hk with hk | hk
    · exact M.lt k (.inl (.inl hk))
    · exact hk.2
  · rcases h with h | h
    · exact h
    · omega

theorem arena_any (M : Mgr w mg lim L S) : Calls Try.prog 28 #[.pointer (some ⟨mg, 0, none⟩)] w fun e w' => (∃ b, e = .returned (.pointer (some ⟨b, 0, none⟩)) ∧ Arena w b lim L S) ∧ w = w' := by
  obtain ⟨b, mb, bp, ES, M⟩ := M
  have h0 := M.c0
  have HA := Lib.hid (M.ar.mono (S' := S) (fun k h => h.1))
  clear M
  go_enter Try.func28, Try.ntmps28
  go_wp2
  go_ret
  exact ⟨⟨b, rfl, HA.out⟩, rfl⟩
def evB (bits r : Int) (L : List Nd) : Bool := decide (Ar.wk (bt bits) L (r.toNat + 1) r = -2)
set_option maxHeartbeats 1000000 in
theorem eval_any (M : Mgr w mg lim L S) (r bits : Int) : Calls Try.prog 15 #[.pointer (some ⟨mg, 0, none⟩), .int .i64 r, .int .u64 bits] w fun e w' => e = .returned (.bool (evB bits r L)) ∧ Below w.heap.size w w' := by
  obtain ⟨b, mb, bp, ES, M⟩ := M
  have h0 := M.c0
  have HA := Lib.hid M.ar
  clear M
  go_enter Try.func15, Try.ntmps15
  go_wp2_with fail
  refine (walk_any HA.out r bits).mono ?_
  rintro e w1 ⟨rfl, hb1⟩
  have HB := Lib.hid hb1
  clear hb1
  go_wp2_with fail
  go_ret
  exact ⟨ret_eq (show Value.bool (Ar.wk (bt bits) L (r.toNat + 1) r == -2) = _ from rfl), HB.out⟩
set_option maxHeartbeats 1000000 in
theorem half_any (M : Mgr w mg lim L S) (r v : Int) (d : Bool) :
    Calls Try.prog 61 #[.pointer (some ⟨mg, 0, none⟩), .int .i64 r, .int .i64 v, .bool d] w fun e w' => e = .returned (.int .i64 (Ar.half L r v d)) ∧ Below w.heap.size w w' := by
  obtain ⟨b, mb, bp, ES, M⟩ := M
  have h0 := M.c0
  have HA := Lib.hid M.ar
  clear M
  by_cases hn : Ar.isN L r
  · obtain ⟨k, rfl⟩ : ∃ k : Nat, r = k := ⟨r.toNat, by unfold Ar.isN at hn; omega⟩
    have hk : k < L.length := by unfold Ar.isN at hn; omega
    have hg := get_in HA.out k hk
    have e := Ar.nd_at (L := L) hk
    obtain ⟨n, en⟩ : ∃ n, L[k] = n := ⟨_, rfl⟩
    rw [en] at e hg
    have hh : Ar.half L k v d = if n.v = v then (if d then n.h else n.l) else k := by
      unfold Ar.half
      rw [e]
      by_cases c : n.v = v
      · rw [if_pos ⟨hn, c⟩, if_pos c]
      · rw [if_neg (fun h => c h.2), if_neg c]
    have HH := Lib.hid hh
    have HG := Lib.hid hg
    clear hh e en hg
    by_cases c : n.v = v
    · have c1 : (n.v != v) = false := by simp [c]
      have HC := Lib.hid c
      clear c
      go_enter Try.func61, Try.ntmps61
      go_wp2_with fail
      refine HG.out.mono ?_
      rintro e w1 ⟨rfl, hb1⟩
      have HB := Lib.hid (Below.push hb1 (Nat.le_refl _) (.cells #[.int .i64 n.v, .int .i64 n.l, .int .i64 n.h] 70))
      clear hb1
      cases d
      · go_wp2_with fail
        go_ret
        exact ⟨ret_eq (show Value.int .i64 n.l = _ by rw [HH.out, if_pos HC.out]; rfl), HB.out⟩
      · go_wp2_with fail
        go_ret
        exact ⟨ret_eq (show Value.int .i64 n.h = _ by rw [HH.out, if_pos HC.out]; rfl), HB.out⟩
    · have c1 : (n.v != v) = true := by simp [c]
      have HC := Lib.hid c
      clear c
      go_enter Try.func61, Try.ntmps61
      go_wp2_with fail
      refine HG.out.mono ?_
      rintro e w1 ⟨rfl, hb1⟩
      have HB := Lib.hid (Below.push hb1 (Nat.le_refl _) (.cells #[.int .i64 n.v, .int .i64 n.l, .int .i64 n.h] 70))
      clear hb1
      go_wp2_with fail
      go_ret
      exact ⟨ret_eq (show Value.int .i64 (k : Int) = _ by rw [HH.out, if_neg HC.out]), HB.out⟩
  · have HH : Hid (Ar.half L r v d = r) := Lib.hid (by unfold Ar.half; rw [if_neg (fun h => hn h.1)])
    have HG := Lib.hid (get_out HA.out r hn)
    clear hn
    go_enter Try.func61, Try.ntmps61
    go_wp2_with fail
    refine HG.out.mono ?_
    rintro e w1 ⟨rfl, hb1⟩
    have HB := Lib.hid (Below.push hb1 (Nat.le_refl _) (.cells #[.int .i64 0, .int .i64 0, .int .i64 0] 70))
    clear hb1
    go_wp2_with fail
    go_ret
    exact ⟨ret_eq (show Value.int .i64 r = _ by rw [HH.out]), HB.out⟩
end
end Go.Proofs.Ytiagkbmhfgdffaa

set_option linter.unusedVariables false
set_option linter.unusedSimpArgs false
namespace Go.Proofs.Ytiagkbmhfgdffaa
open Go Go.RowKit Go.Deep
section
variable {w w' : World} {mg b mb bp : Nat} {lim : Int} {L : List Nd} {ES : List Ent} {S S' : Nat → Prop}

def toldF (r : List Nd × Int × Int) : List Nd × Int × Int := if r.2.2 = 0 then r else if r.2.2 = 50 then (r.1, 0, 50) else (r.1, 0, 1)
theorem isErr (w : World) (ev : Value) (n m : Int) (d : Bool) (hn : n ≠ 0) (h : ErrAt w ev n) (hd : (n == m) = d) :
    Calls Try.prog 24 #[ev, .iface 51 (.int .i64 m)] w fun e w' => e = .returned (.bool d) ∧ w = w' := by
  rcases h with ⟨h, _⟩ | ⟨rfl, rfl⟩ | ⟨_, fb, v, rfl, hf⟩
  · exact absurd h hn
  · exact is_errno 1 m d hd w
  · exact is_fault fb v n m d hd w hf
def ToldPost (w : World) (x n : Int) (e : Ending) (w' : World) : Prop :=
  ∃ ev, e = .returned (.tuple #[.int .i64 (if n = 0 then x else 0), ev]) ∧ ErrAt w ev (if n = 0 then 0 else if n = 50 then 50 else 1) ∧ w = w'
theorem told_ret {x n : Int} (hn : ¬ n = 0) (ev : Value) : Ending.returned (.tuple #[.int .i64 0, ev]) = Ending.returned (.tuple #[.int .i64 (if n = 0 then x else 0), ev]) := by rw [if_neg hn]
set_option maxHeartbeats 1000000 in
theorem told_any (w : World) (x n : Int) (ev : Value) (h : ErrAt w ev n) :
    Calls Try.prog 41 #[.int .i64 x, ev] w (ToldPost w x n) := by
  by_cases hn : n = 0
  · subst hn
    have he : ev = .nilIface := by
      rcases h with ⟨_, h⟩ | ⟨h, _⟩ | ⟨h, _⟩
      · exact h
      · exact absurd h (by decide)
      · exact absurd rfl h
    subst he
    clear h
    go_enter Try.func41, Try.ntmps41
    go_wp2_with fail
    go_ret2
    exact ⟨_, rfl, .inl ⟨rfl, rfl⟩, rfl⟩
  · have HN := Lib.hid hn
    have HE := Lib.hid h
    by_cases h50 : n = 50
    · have HI := Lib.hid (isErr w ev n 50 true hn h (by simp [h50]))
      have H50 := Lib.hid h50
      rcases h with ⟨h, _⟩ | ⟨_, rfl⟩ | ⟨_, fb, v, rfl, -⟩
      · exact absurd h hn
      all_goals
        clear hn h50
        go_enter Try.func41, Try.ntmps41
        go_wp2_with fail
        refine HI.out.mono ?_
        rintro e w1 ⟨rfl, rfl⟩
        go_wp2_with fail
        go_ret2
        refine ⟨_, told_ret HN.out _, ?_, rfl⟩
        rw [if_neg HN.out, if_pos H50.out]
        have := HE.out
        rw [H50.out] at this
        exact this
    · have HI := Lib.hid (isErr w ev n 50 false hn h (by simp [h50]))
      have H50 := Lib.hid h50
      rcases h with ⟨h, _⟩ | ⟨_, rfl⟩ | ⟨_, fb, v, rfl, -⟩
      · exact absurd h hn
      all_goals
        clear hn h50
        go_enter Try.func41, Try.ntmps41
        go_wp2_with fail
        refine HI.out.mono ?_
        rintro e w1 ⟨rfl, rfl⟩
        go_wp2_with fail
        go_ret2
        refine ⟨_, told_ret HN.out _, ?_, rfl⟩
        rw [if_neg HN.out, if_neg H50.out]
        exact .inr (.inl ⟨rfl, rfl⟩)
/-- What both makes of two results. -/
def bothF (lim v : Int) (r0 r1 : List Nd × Int × Int) : List Nd × Int × Int :=
  if r0.2.2 ≠ 0 then (r0.1, 0, r0.2.2) else if r1.2.2 ≠ 0 then (r1.1, 0, r1.2.2) else Ar.mk lim r1.1 v r0.2.1 r1.2.1
theorem mk_to (M : Mgr w mg lim L S) (hfew : L.length < 100000000000) (v lo hi : Int) : ∃ b, w.cell? ⟨mg, 0, none⟩ = some (.pointer (some ⟨b, 0, none⟩)) ∧
    Calls Try.prog 50 #[.pointer (some ⟨b, 0, none⟩), .int .i64 v, .int .i64 lo, .int .i64 hi] w (OpPost w mg lim S (Ar.mk lim L v lo hi)) := by
  obtain ⟨b, mb, bp, ES, M⟩ := M
  refine ⟨b, M.c0, (mk_any M.ar v lo hi hfew).mono ?_⟩
  rintro e w' ⟨ev, rfl, A, t, h0, h1⟩
  refine ⟨ev, rfl, ⟨b, mb, bp, ES, M.grown (Ar.mk_prefix lim L v lo hi) A t⟩, t.mono (fun _ _ h => h.1), ?_⟩
  by_cases c : (Ar.mk lim L v lo hi).2.2 = 0
  · exact .inl ⟨c, h0 c⟩
  · obtain ⟨fb, he, _, hf⟩ := h1 c
    exact .inr (.inr ⟨c, fb, v, he, hf⟩)
end
end Go.Proofs.Ytiagkbmhfgdffaa

set_option linter.unusedVariables false
set_option linter.unusedSimpArgs false
namespace Go.Proofs.Ytiagkbmhfgdffaa
open Go Go.RowKit Go.Deep
section
variable {w w' : World} {mg b mb bp : Nat} {lim : Int} {L : List Nd} {ES : List Ent} {S S' : Nat → Prop}
theorem ErrAt.zero {w : World} {ev : Value} (h : ErrAt w ev 0) : ev = .nilIface := by
  rcases h with ⟨_, h⟩ | ⟨h, _⟩ | ⟨h, _⟩
  · exact h
  · exact absurd h (by decide)
  · exact absurd rfl h
theorem bothF_1 {lim v : Int} {L1 : List Nd} {lo e1 : Int} (h : ¬ e1 = 0) (r1 : List Nd × Int × Int) : bothF lim v (L1, lo, e1) r1 = (L1, 0, e1) := by unfold bothF; rw [if_pos h]
theorem bothF_2 {lim v : Int} {L1 L2 : List Nd} {lo hi e2 : Int} (h : ¬ e2 = 0) : bothF lim v (L1, lo, 0) (L2, hi, e2) = (L2, 0, e2) := by unfold bothF; rw [if_neg (fun c => c rfl), if_pos h]
theorem bothF_3 {lim v : Int} {L1 L2 : List Nd} {lo hi : Int} : bothF lim v (L1, lo, 0) (L2, hi, 0) = Ar.mk lim L2 v lo hi := by unfold bothF; rw [if_neg (fun c => c rfl), if_neg (fun c => c rfl)]
set_option maxRecDepth 100000 in
set_option maxHeartbeats 2000000 in
theorem both_ite {c0 c1 c2 c3 c4 : Nat} {v lo hi e1 e2 : Int} {L1 L2 : List Nd}
    (H0 : Calls Try.prog 60 #[.bool false, .pointer (some ⟨c0, 0, none⟩), .pointer (some ⟨c1, 0, none⟩), .pointer (some ⟨c2, 0, none⟩), .pointer (some ⟨c3, 0, none⟩), .pointer (some ⟨c4, 0, none⟩)] w (OpPost w mg lim S (L1, lo, e1)))
    (H1 : e1 = 0 → ∀ w1, Touch w w1 S → Mgr w1 mg lim L1 (fun k => S k ∨ (w.heap.size ≤ k ∧ k < w1.heap.size)) → Calls Try.prog 60 #[.bool true, .pointer (some ⟨c0, 0, none⟩), .pointer (some ⟨c1, 0, none⟩), .pointer (some ⟨c2, 0, none⟩), .pointer (some ⟨c3, 0, none⟩), .pointer (some ⟨c4, 0, none⟩)] w1 (OpPost w1 mg lim (fun k => S k ∨ (w.heap.size ≤ k ∧ k < w1.heap.size)) (L2, hi, e2)))
    (hfew : L2.length < 100000000000) :
    Calls Try.prog 59 #[.pointer (some ⟨mg, 0, none⟩), .int .i64 v, .func (.func 60) #[] #[.pointer (some ⟨c0, 0, none⟩), .pointer (some ⟨c1, 0, none⟩), .pointer (some ⟨c2, 0, none⟩), .pointer (some ⟨c3, 0, none⟩), .pointer (some ⟨c4, 0, none⟩)]] w (OpPost w mg lim S (bothF lim v (L1, lo, e1) (L2, hi, e2))) := by
  have G0 := Lib.hid H0
  have G1 := Lib.hid H1
  have GF := Lib.hid hfew
  clear H0 H1 hfew
  by_cases he : e1 = 0
  · subst he
    by_cases he2 : e2 = 0
    · subst he2
      rw [bothF_3]
      go_enter Try.func59, Try.ntmps59
      go_wp2_with fail
      refine G0.out.mono ?_
      rintro e w1 ⟨ev1, rfl, M1, T1, E1⟩
      obtain rfl := E1.zero
      have GM1 := Lib.hid M1
      have GT1 := Lib.hid T1
      clear M1 T1 E1
      go_wp2_with fail
      refine (G1.out (by first | trivial | rfl) w1 GT1.out GM1.out).mono ?_
      rintro e w2 ⟨ev2, rfl, M2, T2, E2⟩
      obtain rfl := E2.zero
      obtain ⟨b, hc, HC⟩ := mk_to M2 GF.out v lo hi
      have GC := Lib.hid HC
      have GT2 := Lib.hid T2
      clear HC T2 M2 E2
      go_wp2_with fail
      refine GC.out.mono ?_
      rintro e w3 ⟨ev3, rfl, M3, T3, E3⟩
      have G3 : Hid (OpPost w2 mg lim _ (Ar.mk lim L2 v lo hi) (.returned (.tuple #[.int .i64 (Ar.mk lim L2 v lo hi).2.1, ev3])) w3) := Lib.hid ⟨ev3, rfl, M3, T3, E3⟩
      clear M3 T3 E3 hc
      generalize Ar.mk lim L2 v lo hi = r at *
      go_wp2
      go_ret2
      exact OpPost.step GT1.out (OpPost.step GT2.out G3.out)
    · rw [bothF_2 he2]
      have HE2 := Lib.hid he2
      clear he2
      go_enter Try.func59, Try.ntmps59
      go_wp2_with fail
      refine G0.out.mono ?_
      rintro e w1 ⟨ev1, rfl, M1, T1, E1⟩
      obtain rfl := E1.zero
      have GM1 := Lib.hid M1
      have GT1 := Lib.hid T1
      clear M1 T1 E1
      go_wp2_with fail
      refine (G1.out (by first | trivial | rfl) w1 GT1.out GM1.out).mono ?_
      rintro e w2 ⟨ev2, rfl, M2, T2, E2⟩
      have GM2 := Lib.hid M2
      have GT2 := Lib.hid T2
      have GE2 := Lib.hid E2
      clear M2 T2
      rcases E2 with ⟨h, _⟩ | ⟨_, rfl⟩ | ⟨_, fb, u, rfl, _⟩
      · exact absurd h HE2.out
      all_goals
        go_wp2_with fail
        go_ret2
        exact OpPost.step GT1.out ⟨_, rfl, GM2.out, GT2.out, GE2.out⟩
  · rw [bothF_1 he]
    have HE := Lib.hid he
    clear he
    go_enter Try.func59, Try.ntmps59
    go_wp2_with fail
    refine G0.out.mono ?_
    rintro e w1 ⟨ev1, rfl, M1, T1, E1⟩
    have GM1 := Lib.hid M1
    have GT1 := Lib.hid T1
    have GE1 := Lib.hid E1
    clear M1 T1
    rcases E1 with ⟨h, _⟩ | ⟨_, rfl⟩ | ⟨_, fb, u, rfl, _⟩
    · exact absurd h HE.out
    all_goals
      go_wp2_with fail
      go_ret2
      exact ⟨_, rfl, GM1.out, GT1.out, GE1.out⟩
set_option maxRecDepth 100000 in
set_option maxHeartbeats 2000000 in
theorem both_rst {c0 c1 c2 c3 c4 : Nat} {v lo hi e1 e2 : Int} {L1 L2 : List Nd}
    (H0 : Calls Try.prog 63 #[.bool false, .pointer (some ⟨c0, 0, none⟩), .pointer (some ⟨c1, 0, none⟩), .pointer (some ⟨c2, 0, none⟩), .pointer (some ⟨c3, 0, none⟩), .pointer (some ⟨c4, 0, none⟩)] w (OpPost w mg lim S (L1, lo, e1)))
    (H1 : e1 = 0 → ∀ w1, Touch w w1 S → Mgr w1 mg lim L1 (fun k => S k ∨ (w.heap.size ≤ k ∧ k < w1.heap.size)) → Calls Try.prog 63 #[.bool true, .pointer (some ⟨c0, 0, none⟩), .pointer (some ⟨c1, 0, none⟩), .pointer (some ⟨c2, 0, none⟩), .pointer (some ⟨c3, 0, none⟩), .pointer (some ⟨c4, 0, none⟩)] w1 (OpPost w1 mg lim (fun k => S k ∨ (w.heap.size ≤ k ∧ k < w1.heap.size)) (L2, hi, e2)))
    (hfew : L2.length < 100000000000) :
    Calls Try.prog 59 #[.pointer (some ⟨mg, 0, none⟩), .int .i64 v, .func (.func 63) #[] #[.pointer (some ⟨c0, 0, none⟩), .pointer (some ⟨c1, 0, none⟩), .pointer (some ⟨c2, 0, none⟩), .pointer (some ⟨c3, 0, none⟩), .pointer (some ⟨c4, 0, none⟩)]] w (OpPost w mg lim S (bothF lim v (L1, lo, e1) (L2, hi, e2))) := by
  have G0 := Lib.hid H0
  have G1 := Lib.hid H1
  have GF := Lib.hid hfew
  clear H0 H1 hfew
  by_cases he : e1 = 0
  · subst he
    by_cases he2 : e2 = 0
    · subst he2
      rw [bothF_3]
      go_enter Try.func59, Try.ntmps59
      go_wp2_with fail
      refine G0.out.mono ?_
      rintro e w1 ⟨ev1, rfl, M1, T1, E1⟩
      obtain rfl := E1.zero
      have GM1 := Lib.hid M1
      have GT1 := Lib.hid T1
      clear M1 T1 E1
      go_wp2_with fail
      refine (G1.out (by first | trivial | rfl) w1 GT1.out GM1.out).mono ?_
      rintro e w2 ⟨ev2, rfl, M2, T2, E2⟩
      obtain rfl := E2.zero
      obtain ⟨b, hc, HC⟩ := mk_to M2 GF.out v lo hi
      have GC := Lib.hid HC
      have GT2 := Lib.hid T2
      clear HC T2 M2 E2
      go_wp2_with fail
      refine GC.out.mono ?_
      rintro e w3 ⟨ev3, rfl, M3, T3, E3⟩
      have G3 : Hid (OpPost w2 mg lim _ (Ar.mk lim L2 v lo hi) (.returned (.tuple #[.int .i64 (Ar.mk lim L2 v lo hi).2.1, ev3])) w3) := Lib.hid ⟨ev3, rfl, M3, T3, E3⟩
      clear M3 T3 E3 hc
      generalize Ar.mk lim L2 v lo hi = r at *
      go_wp2
      go_ret2
      exact OpPost.step GT1.out (OpPost.step GT2.out G3.out)
    · rw [bothF_2 he2]
      have HE2 := Lib.hid he2
      clear he2
      go_enter Try.func59, Try.ntmps59
      go_wp2_with fail
      refine G0.out.mono ?_
      rintro e w1 ⟨ev1, rfl, M1, T1, E1⟩
      obtain rfl := E1.zero
      have GM1 := Lib.hid M1
      have GT1 := Lib.hid T1
      clear M1 T1 E1
      go_wp2_with fail
      refine (G1.out (by first | trivial | rfl) w1 GT1.out GM1.out).mono ?_
      rintro e w2 ⟨ev2, rfl, M2, T2, E2⟩
      have GM2 := Lib.hid M2
      have GT2 := Lib.hid T2
      have GE2 := Lib.hid E2
      clear M2 T2
      rcases E2 with ⟨h, _⟩ | ⟨_, rfl⟩ | ⟨_, fb, u, rfl, _⟩
      · exact absurd h HE2.out
      all_goals
        go_wp2_with fail
        go_ret2
        exact OpPost.step GT1.out ⟨_, rfl, GM2.out, GT2.out, GE2.out⟩
  · rw [bothF_1 he]
    have HE := Lib.hid he
    clear he
    go_enter Try.func59, Try.ntmps59
    go_wp2_with fail
    refine G0.out.mono ?_
    rintro e w1 ⟨ev1, rfl, M1, T1, E1⟩
    have GM1 := Lib.hid M1
    have GT1 := Lib.hid T1
    have GE1 := Lib.hid E1
    clear M1 T1
    rcases E1 with ⟨h, _⟩ | ⟨_, rfl⟩ | ⟨_, fb, u, rfl, _⟩
    · exact absurd h HE.out
    all_goals
      go_wp2_with fail
      go_ret2
      exact ⟨_, rfl, GM1.out, GT1.out, GE1.out⟩
end
end Go.Proofs.Ytiagkbmhfgdffaa
