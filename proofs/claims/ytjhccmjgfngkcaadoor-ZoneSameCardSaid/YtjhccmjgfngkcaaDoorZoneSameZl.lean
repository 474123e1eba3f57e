/- A loop over all places of a row, which each round writes in its place: one law for all such loops. -/
import Derived.Test.YtjhccmjgfngkcaaDoorZoneSameZv
set_option linter.unusedVariables false
set_option linter.unusedSimpArgs false
namespace Go.Proofs.YtjhccmjgfngkcaaDoor.PZoneSame
open Go Go.RowKit Go.Shelf Go.Deep Go.Proofs.YtjhccmjgfngkcaaDoorW.PrintWords Go.Proofs.YtjhccmjgfngkcaaDoorW.PrintLast Go.Proofs.YtjhccmjgfngkcaaDoorW.PrintMore
open Zn (botN wholeB wholeB_iff nearZ upd)
variable {w : World}
attribute [local go_sem] Oper.semAt_some
theorem gtrans {A B C : World} {row : Option Nat} (h : A.grownBy B row) (k : B.grownBy C row) : A.grownBy C row :=
  ⟨k.os.trans h.os, k.tape.trans h.tape, k.output.trans h.output, Nat.le_trans h.size k.size, fun i hi hr => (k.block i (Nat.lt_of_lt_of_le hi h.size) hr).trans (h.block i hi hr)⟩
theorem gkeeps {A B : World} {g M : Nat} {E : Nat → Int} (h : A.grownBy B (some g)) (hr : RowB A g M E) : KeepsOthers A B := by
  refine ⟨h.size, fun k o hk hc => ?_⟩
  by_cases e : k = g
  · subst e
    obtain ⟨cur, h1, _⟩ := hr
    rw [h1] at hk
    cases hk
    cases hc
  · exact (h.block k (hp_lt hk) (fun c => e (Option.some.inj c))).trans hk
theorem gheap {A B : World} {g k : Nat} {o : Obj} (h : A.grownBy B (some g)) (hk : A.heap[k]? = some o) (e : k ≠ g) : B.heap[k]? = some o := (h.block k (hp_lt hk) (fun c => e (Option.some.inj c))).trans hk
theorem gbelow {A B C : World} {g s : Nat} (h : Below s A B) (k : B.grownBy C (some g)) (hs : s ≤ g) (hA : s ≤ B.heap.size) : Below s A C := h.grown k hA (fun q e => by cases e; exact hs)

theorem most_rc (m x : Nat) (w : World) : Calls Tryd.prog 58 #[.agg #[.int .i64 (Zn.row m x), .int .i64 (Zn.col m x)]] w fun e w' => e = .returned (.int .i64 (mostZ (x / m) (x % m))) ∧ Below w.heap.size w w' := most_to (x / m) (x % m) w
theorem gset (W : World) (g j : Nat) (v : Value) : W.grownBy (W.setCell ⟨g, j, none⟩ v) (some g) :=
  ⟨rfl, rfl, rfl, by simp, fun k _ hk => Below.heap_setCell W ⟨g, j, none⟩ v k (fun e => hk (by rw [e]))⟩
theorem loop_ghost {F : Fence} {n : Nat} {P : Program} {Q : Exit → Act → World → Prop} {c : Code} (I : Nat → Act → World → Prop)
    (hr : ∀ j a w, I j a w → c.wpIn F n P (Exit.then (fun a' w' => ∃ j', j' < j ∧ I j' a' w') Q) a w) (j : Nat) (a : Act) (w : World) (h : I j a w) : (Code.loop c).wpIn F n P Q a w := by
  have key : ∀ f j a w, j < f → I j a w → Code.roundsIn F n P c Q f a w := by
    intro f
    induction f with
    | zero => intro j a w hj; omega
    | succ f ih =>
      intro j a w hj hI
      rw [roundsIn_succ]
      refine wpIn_mono (hr j a w hI) (fun e a' w' he => ?_)
      cases e with
      | normal =>
        obtain ⟨j', h1, h2⟩ := he
        exact ih j' a' w' (by omega) h2
      | exit id => exact he
      | goto l => exact he
      | ret => exact he
      | panic ch => exact he
      | outgrown => exact he
  exact wpIn_loop_rounds (j + 1) (key (j + 1) j a w (by omega) h)
/-- A round ends at its end alone. -/
def Ends (G : World → Prop) : Exit → Act → World → Prop
  | .normal, _, W => G W
  | _, _, _ => False
set_option maxHeartbeats 2000000 in
theorem range_all {gop : Operand} {ps : Array Tmp} {assign body : Code} {Q : Exit → Act → World → Prop} {a : Act} {W0 : World} {n : Nat} (hn : 6 ≤ n) {m : Nat} (hm : 0 < m) (hm7 : m ≤ 7) {Bz gr : Nat} {D : Nat → Int} (h : (Nat → Int) → Nat → Int) (Inv : (Nat → Int) → Prop)
    (hg : a.eval gop = .func (.func 97) #[] #[.pointer (some ⟨Bz, 0, none⟩)]) (hps : ps.size = 2) (hB : W0.cell? ⟨Bz, 0, none⟩ = some (.int .i64 ((m : Int) - 1))) (hBz : Bz < W0.heap.size) (hne : Bz ≠ gr) (hrow : RowB W0 gr (m * m) D) (h0 : Inv D)
    (hInv : ∀ E x, x < m * m → Inv E → Inv (upd E x (h E x)))
    (fr : Nat → Nat → Act)
    (hassign : ∀ (l : Nat) (x : Fin (m * m)) (W : World) (K : Act → World → Prop), K (fr x.val W.heap.size) (W.alloc (.cells #[.int .i64 (Zn.row m x.val), .int .i64 (Zn.col m x.val)] 74)) →
      assign.wpIn (Fence.wide.inRound l) (n - 1 - 1) Tryd.prog (Exit.then K (fun _ _ _ => False)) { tmps := (ps.zip (Zn.enc m x)).foldl (fun t (p, v) => t.setIfInBounds p v) a.tmps, defers := [] } W)
    (hbody : ∀ (l : Nat) (x Bx : Nat) (E : Nat → Int) (W : World), x < m * m → W0.heap.size ≤ Bx → W.heap[Bx]? = some (.cells #[.int .i64 (Zn.row m x), .int .i64 (Zn.col m x)] 74 (0, 0)) → RowB W gr (m * m) E → W0.grownBy W (some gr) → Inv E →
      body.wpIn (Fence.wide.inRound l) (n - 1 - 1) Tryd.prog (Ends fun W' => W.grownBy W' (some gr) ∧ RowB W' gr (m * m) (upd E x (h E x))) (fr x Bx) W)
    (hdone : ∀ (Dm : Nat) (W : World), W0.heap.size ≤ Dm → W0.grownBy W (some gr) → RowB W gr (m * m) (Zn.folds h D (Zn.upto (Zn.ix m hm) (m * m))) → W.heap[Dm]? = some (.deferred (some [])) → Q .normal { a with defers := { target := .collected Dm, args := #[] } :: a.defers } W) :
    (Code.rangeFunc gop ps assign body).wpIn Fence.wide n Tryd.prog Q a W0 := by
  have h1 : 1 ≤ n := by omega
  have hgl := hrow.lt
  refine wpIn_rangeFunc_ownH rfl h1 (gf := 97) (lb := #[.pointer (some ⟨Bz, 0, none⟩)]) hg trivial (enters_of Tryd.func97 (by kernel_rfl) rfl)
    (all_stops (n - 1) (by omega) Bz m hm hm7 W0 hBz hB) Zn.Keeps.t (fun W l o o' hl _ _ _ => World.putObj_heap_other (by omega)) (Below.refl _ _) (fun x => by rw [hps]; rfl)
    (fun pre W => RowB W gr (m * m) (Zn.folds h D pre) ∧ W0.grownBy W (some gr) ∧ Inv (Zn.folds h D pre))
    (fun c pre W => False)
    (OwnFrom.and (Own.from (row_own (β := List (Fin (m * m))) gr (m * m) (fun pre => Zn.folds h D pre)) _) (OwnFrom.and ?own2 (fun _ _ _ _ h _ _ => h)))
    (fun c _ _ _ _ h _ _ => h.elim)
    ⟨hrow, ⟨rfl, rfl, rfl, Nat.le_refl _, fun _ _ _ => rfl⟩, h0⟩
    (fun x a' W => ∃ Bx, W0.heap.size ≤ Bx ∧ W.heap[Bx]? = some (.cells #[.int .i64 (Zn.row m x.val), .int .i64 (Zn.col m x.val)] 74 (0, 0)) ∧ a' = fr x.val Bx)
    (fun x a' _ X Y row hs hg hr => by obtain ⟨Bx, h1, h2, h3⟩ := hs; exact ⟨Bx, h1, cells_own (β := Unit) Bx _ _ () X Y row h2 hg (fun r e => (hr r e).2), h3⟩)
    ?assign ?body ?done ?stop
  case own2 =>
    intro pre X Y row hs hg2 hr
    exact ⟨hg2.os.trans hs.os, hg2.tape.trans hs.tape, hg2.output.trans hs.output, Nat.le_trans hs.size hg2.size, fun i hi hne2 => (hg2.block i (Nat.lt_of_lt_of_le hi hs.size) (fun e => by have := (hr i e.symm).1; omega)).trans (hs.block i hi hne2)⟩
  case assign =>
    rintro l pre x W K ⟨hR, hG, hI⟩ hK
    refine hassign l x W K (hK _ _ ((KeepsOthers.alloc _ _).from _) (Below.heap_alloc _ _ _ (Nat.lt_of_lt_of_le hBz hG.size)) ⟨?_, ?_, hI⟩ ⟨W.heap.size, hG.size, World.alloc_heap_new W _, rfl⟩)
    · exact hR.below ((Below.refl _ W).alloc (Nat.le_refl _) _)
    · exact gtrans hG (grown_of_below ((Below.refl _ W).alloc (Nat.le_refl _) _) _)
  case body =>
    rintro l pre x a' W hl ⟨r, hr⟩ ⟨hR, hG, hI⟩ ⟨Bx, hBx, bX, rfl⟩ hlt
    refine wpIn_mono (hbody l x.val Bx _ W x.isLt hBx bX hR hG hI) (fun e a'' W' he => ?_)
    cases e <;> first | exact he.elim | skip
    obtain ⟨hG2, hR2⟩ := he
    refine ⟨(gkeeps hG2 hR).from _, hG2.block _ (Nat.lt_of_lt_of_le hBz hG.size) (fun c => hne (Option.some.inj c)), ?_, gtrans hG hG2, ?_⟩
    · rw [Zn.folds_snoc]; exact hR2
    · rw [Zn.folds_snoc]; exact hInv _ _ x.isLt hI
  case done =>
    rintro Dd ys W hD rfl ⟨hR, hG, hI⟩ hK
    exact hdone Dd W hD hG hR hK
  case stop =>
    rintro Dd c pre W hD _ hf hK
    exact hf.elim
end Go.Proofs.YtjhccmjgfngkcaaDoor.PZoneSame
