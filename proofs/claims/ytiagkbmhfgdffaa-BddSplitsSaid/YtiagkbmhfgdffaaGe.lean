/- Texts of this claim, one behind the other: Va, Vb, Vc, Vd, Vk. -/
import Derived.Test.YtiagkbmhfgdffaaGd
set_option linter.unusedVariables false
set_option linter.unusedSimpArgs false
namespace Go.Proofs.Ytiagkbmhfgdffaa
section
variable {lim : Int} {L : List Nd}

/-- Bits, with one as it is told. -/
def st (t : Int → Bool) (v : Int) (b : Bool) : Int → Bool := fun i => if i = v then b else t i
theorem mayb_iff (ok : Ar.Ok L) {v : Int} {xs : List Int} : mayb L v xs = true ↔ (∀ x ∈ xs, Ar.Bo L x) ∧ 0 ≤ v ∧ v < 12 := by
  unfold mayb
  rw [Bool.and_eq_true, Bool.and_eq_true, List.all_eq_true, decide_eq_true_eq, decide_eq_true_eq]
  exact ⟨fun h => ⟨fun x hx => (Ar.isb_iff ok x).1 (h.1 x hx), h.2⟩, fun h => ⟨fun x hx => (Ar.isb_iff ok x).2 (h.1 x hx), h.2⟩⟩
theorem mayb_false {v : Int} {xs : List Int} {b : Bool} (h : mayb L v xs = b) (hb : b = false) : ¬ mayb L v xs = true := by rw [h, hb]; decide

theorem told_step {may : Bool} {r k : List Nd × Int × Int} {is js : List Nd → Int → Prop} (hm : may = true) (h : Told lim L may r is)
    (hk : r.2.2 = 0 → is r.1 r.2.1 → Ar.Ok r.1 → L <+: r.1 → Told lim r.1 true k js) : Told lim L true (if r.2.2 ≠ 0 then (r.1, 0, r.2.2) else k) js := by
  obtain ⟨ok', hp, h⟩ := h
  rcases h with ⟨h0, _, hi⟩ | ⟨h5, _, _, hl⟩ | ⟨_, _, hf, _⟩
  · rw [if_neg (by rw [h0]; decide)]
    obtain ⟨ok2, hp2, h2⟩ := hk h0 hi ok' hp
    refine ⟨ok2, hp.trans hp2, ?_⟩
    rcases h2 with h2 | h2 | ⟨_, _, h2, _⟩
    · exact .inl h2
    · exact .inr (.inl h2)
    · cases h2
  · rw [if_pos (by rw [h5]; decide)]
    exact ⟨ok', hp, .inr (.inl ⟨h5, rfl, rfl, hl⟩)⟩
  · rw [hm] at hf; cases hf
theorem Told.imp {may : Bool} {r : List Nd × Int × Int} {is js : List Nd → Int → Prop} (h : Told lim L may r is) (hi : may = true → Ar.Ok r.1 → L <+: r.1 → is r.1 r.2.1 → js r.1 r.2.1) : Told lim L may r js := by
  obtain ⟨ok', hp, h⟩ := h
  refine ⟨ok', hp, ?_⟩
  rcases h with ⟨h0, hm, h⟩ | h | h
  · exact .inl ⟨h0, hm, hi hm ok' hp h⟩
  · exact .inr (.inl h)
  · exact .inr (.inr h)
theorem Told.cast {may may' : Bool} {r : List Nd × Int × Int} {is : List Nd → Int → Prop} (h : Told lim L may r is) (e : may = may') : Told lim L may' r is := e ▸ h
theorem told_bad (ok : Ar.Ok L) (is : List Nd → Int → Prop) : Told lim L false (L, 0, 1) is := ⟨ok, List.prefix_refl L, .inr (.inr ⟨rfl, rfl, rfl, rfl⟩)⟩

/-- What is a function of bits, as a diagram. -/
def Says (L : List Nd) (x : Int) (F : (Int → Bool) → Bool) : Prop := Ar.Bo L x ∧ ∀ t, Ar.ev t L x = F t

theorem rst_pair (ok : Ar.Ok L) {f v : Int} (hm : mayb L v [f] = true) {k : List Nd → Int → Int → List Nd × Int × Int} {js : List Nd → Int → Prop}
    (hk : ∀ L2 lo hi, Ar.Ok L2 → L <+: L2 → Ar.RstIs L2 f v false lo → Ar.RstIs L2 f v true hi → Told lim L2 true (k L2 lo hi) js) :
    Told lim L true (if (rstF lim L f v false).2.2 ≠ 0 then ((rstF lim L f v false).1, 0, (rstF lim L f v false).2.2) else
      if (rstF lim (rstF lim L f v false).1 f v true).2.2 ≠ 0 then ((rstF lim (rstF lim L f v false).1 f v true).1, 0, (rstF lim (rstF lim L f v false).1 f v true).2.2) else
      k (rstF lim (rstF lim L f v false).1 f v true).1 (rstF lim L f v false).2.1 (rstF lim (rstF lim L f v false).1 f v true).2.1) js := by
  refine told_step hm (rstF_told ok f v false) (fun h0 hi ok1 hp1 => ?_)
  have hb := (mayb_iff ok).1 hm
  have hm1 : mayb (rstF lim L f v false).1 v [f] = true := (mayb_iff ok1).2 ⟨fun x hx => (hb.1 x hx).pre hp1, hb.2⟩
  refine told_step hm1 (rstF_told ok1 f v true) (fun h1 hi1 ok2 hp2 => ?_)
  exact hk _ _ _ ok2 (hp1.trans hp2) (hi.pre ok1 hp2) hi1

theorem exF_told (ok : Ar.Ok L) (f v : Int) : Told lim L (mayb L v [f]) (exF lim L f v) (fun L' x => Says L' x (fun t => Ar.ev (st t v false) L f || Ar.ev (st t v true) L f)) := by
  unfold exF
  cases hm : mayb L v [f]
  · have e : rstF lim L f v false = (L, 0, 1) := by unfold rstF; rw [if_neg (by rw [hm]; decide)]
    rw [e, if_pos (show (1 : Int) ≠ 0 by decide)]
    exact told_bad ok _
  · refine rst_pair ok hm (k := fun L2 lo hi => iteF lim L2 lo (-2) hi) (fun L2 lo hi ok2 hp Il Ih => ?_)
    have hbf := ((mayb_iff ok).1 hm).1 f (by simp)
    have hm2 : mayb L2 0 [lo, -2, hi] = true := (mayb_iff ok2).2 ⟨fun x hx => by
      simp only [List.mem_cons, List.not_mem_nil, or_false] at hx
      rcases hx with rfl | rfl | rfl
      · exact Il.cx
      · exact .yes
      · exact Ih.cx, by decide, by decide⟩
    refine ((iteF_told ok2 lo (-2) hi).cast hm2).imp (fun _ ok3 hp3 I => ⟨I.cx, fun t => ?_⟩)
    rw [I.cev t]
    unfold Ar.iteV
    rw [Ar.ev_pre ok2 hp3 Il.cx.lt, Ar.ev_pre ok2 hp3 Ih.cx.lt, Ar.ev_yes, Il.cev, Ih.cev, Ar.ev_pre ok hp hbf.lt, Ar.ev_pre ok hp hbf.lt]
    show (if Ar.ev (st t v false) L f = true then true else Ar.ev (st t v true) L f) = (Ar.ev (st t v false) L f || Ar.ev (st t v true) L f)
    cases Ar.ev (st t v false) L f <;> rfl
theorem cpF_told (ok : Ar.Ok L) (f v g : Int) : Told lim L (mayb L v [f, g]) (cpF lim L f v g) (fun L' x => Says L' x (fun t => if Ar.ev t L g then Ar.ev (st t v true) L f else Ar.ev (st t v false) L f)) := by
  unfold cpF
  cases hm : mayb L v [f, g]
  · rw [if_neg (by decide)]; exact told_bad ok _
  · rw [if_pos rfl]
    unfold coF
    have hb := (mayb_iff ok).1 hm
    have hbf := hb.1 f (by simp)
    have hbg := hb.1 g (by simp)
    have hm1 : mayb L v [f] = true := (mayb_iff ok).2 ⟨fun x hx => by rw [List.mem_singleton] at hx; rw [hx]; exact hbf, hb.2⟩
    refine rst_pair ok hm1 (k := fun L2 lo hi => iteF lim L2 g hi lo) (fun L2 lo hi ok2 hp Il Ih => ?_)
    have hm2 : mayb L2 0 [g, hi, lo] = true := (mayb_iff ok2).2 ⟨fun x hx => by
      simp only [List.mem_cons, List.not_mem_nil, or_false] at hx
      rcases hx with rfl | rfl | rfl
      · exact hbg.pre hp
      · exact Ih.cx
      · exact Il.cx, by decide, by decide⟩
    refine ((iteF_told ok2 g hi lo).cast hm2).imp (fun _ ok3 hp3 I => ⟨I.cx, fun t => ?_⟩)
    rw [I.cev t]
    unfold Ar.iteV
    rw [Ar.ev_pre ok2 hp3 Il.cx.lt, Ar.ev_pre ok2 hp3 Ih.cx.lt, Il.cev, Ih.cev, Ar.ev_pre ok hp hbf.lt, Ar.ev_pre ok hp hbf.lt, Ar.ev_pre ok (hp.trans hp3) hbg.lt]
    rfl
theorem xoF_told (ok : Ar.Ok L) (f g : Int) : Told lim L (mayb L 0 [f, g]) (xoF lim L f g) (fun L' x => Says L' x (fun t => Ar.ev t L f != Ar.ev t L g)) := by
  unfold xoF
  cases hm : mayb L 0 [f, g]
  · rw [if_neg (by decide)]; exact told_bad ok _
  · rw [if_pos rfl]
    have hb := (mayb_iff ok).1 hm
    have hbf := hb.1 f (by simp)
    have hbg := hb.1 g (by simp)
    have hm1 : mayb L 0 [g, -1, -2] = true := (mayb_iff ok).2 ⟨fun x hx => by
      simp only [List.mem_cons, List.not_mem_nil, or_false] at hx
      rcases hx with rfl | rfl | rfl
      · exact hbg
      · exact .no
      · exact .yes, by decide, by decide⟩
    refine told_step hm1 (iteF_told ok g (-1) (-2)) (fun h0 I ok1 hp => ?_)
    have hm2 : mayb (iteF lim L g (-1) (-2)).1 0 [f, (iteF lim L g (-1) (-2)).2.1, g] = true := (mayb_iff ok1).2 ⟨fun x hx => by
      simp only [List.mem_cons, List.not_mem_nil, or_false] at hx
      rcases hx with rfl | rfl | rfl
      · exact hbf.pre hp
      · exact I.cx
      · exact hbg.pre hp, by decide, by decide⟩
    refine ((iteF_told ok1 f _ g).cast hm2).imp (fun _ ok3 hp3 J => ⟨J.cx, fun t => ?_⟩)
    rw [J.cev t]
    unfold Ar.iteV
    rw [Ar.ev_pre ok1 hp3 I.cx.lt, I.cev, Ar.ev_pre ok (hp.trans hp3) hbf.lt, Ar.ev_pre ok (hp.trans hp3) hbg.lt]
    unfold Ar.iteV
    rw [Ar.ev_pre ok hp hbg.lt, Ar.ev_no, Ar.ev_yes]
    show _ = (Ar.ev t L f != Ar.ev t L g)
    cases Ar.ev t L f <;> cases Ar.ev t L g <;> rfl

/-! ops -/
structure Op7 where
  kind : Int
  v : Int
  a : Int
  b : Int
  c : Int
  yes : Bool
/-- A ref of a row by its number; one that there is not. -/
def at7 (l : List Int) (k : Int) : Int := if 0 ≤ k ∧ k < l.length then l.getD k.toNat 0 else 1073741824
def doesF (lim : Int) (L : List Nd) (l : List Int) (o : Op7) : List Nd × Int × Int :=
  if o.kind = 0 then varF lim L o.v else if o.kind = 1 then iteF lim L (at7 l o.a) (-1) (-2) else if o.kind = 2 then iteF lim L (at7 l o.a) (at7 l o.b) (-1) else
  if o.kind = 3 then iteF lim L (at7 l o.a) (-2) (at7 l o.b) else if o.kind = 4 then xoF lim L (at7 l o.a) (at7 l o.b) else if o.kind = 5 then iteF lim L (at7 l o.a) (at7 l o.b) (at7 l o.c) else
  if o.kind = 6 then rstF lim L (at7 l o.a) o.v o.yes else if o.kind = 7 then exF lim L (at7 l o.a) o.v else if o.kind = 8 then cpF lim L (at7 l o.a) o.v (at7 l o.b) else (L, 0, 1)
/-- What an op says, of functions. -/
def opV (o : Op7) (A B C : (Int → Bool) → Bool) (t : Int → Bool) : Bool :=
  if o.kind = 0 then t o.v else if o.kind = 1 then !A t else if o.kind = 2 then A t && B t else if o.kind = 3 then A t || B t else if o.kind = 4 then A t != B t else
  if o.kind = 5 then (if A t then B t else C t) else if o.kind = 6 then A (st t o.v o.yes) else if o.kind = 7 then A (st t o.v false) || A (st t o.v true) else if B t then A (st t o.v true) else A (st t o.v false)
/-- How many functions an op is of. -/
def needs (k : Int) : Nat := if k = 0 then 0 else if k = 5 then 3 else if k = 1 ∨ k = 6 ∨ k = 7 then 1 else 2
def inR (n : Nat) (k : Int) : Bool := decide (0 ≤ k) && decide (k < n)
/-- May an op be, over so many functions? -/
def mayOp (n : Nat) (o : Op7) : Bool :=
  decide (0 ≤ o.kind) && decide (o.kind ≤ 8) && (decide (needs o.kind < 1) || inR n o.a) && (decide (needs o.kind < 2) || inR n o.b) && (decide (needs o.kind < 3) || inR n o.c) &&
    (!(decide (o.kind = 0) || decide (5 < o.kind)) || (decide (0 ≤ o.v) && decide (o.v ≤ 11)))
theorem at7_in {l : List Int} {k : Int} (h : inR l.length k = true) : at7 l k ∈ l := by
  unfold inR at h
  rw [Bool.and_eq_true, decide_eq_true_eq, decide_eq_true_eq] at h
  unfold at7
  rw [if_pos h]
  have hk : k.toNat < l.length := by omega
  simp [List.getD, hk]
theorem at7_out {l : List Int} {k : Int} (h : inR l.length k = false) : at7 l k = 1073741824 := by
  unfold at7
  rw [if_neg]
  intro c
  unfold inR at h
  rw [decide_eq_true c.1, decide_eq_true c.2] at h
  cases h
theorem bo_out (ok : Ar.Ok L) (hl : L.length ≤ 1073741824) : ¬ Ar.Bo L 1073741824 := fun h => by have := h.lt; omega
theorem at7_bo {l : List Int} (ok : Ar.Ok L) (hl : L.length ≤ 1073741824) (hb : ∀ x ∈ l, Ar.Bo L x) (k : Int) : Ar.Bo L (at7 l k) ↔ inR l.length k = true := by
  constructor
  · intro h
    cases hi : inR l.length k
    · rw [at7_out hi] at h; exact absurd h (bo_out ok hl)
    · rfl
  · intro h; exact hb _ (at7_in h)
theorem mayb_op {l : List Int} (ok : Ar.Ok L) (hl : L.length ≤ 1073741824) (hb : ∀ x ∈ l, Ar.Bo L x) {o : Op7} {v : Int} {xs : List Int} (h : (∀ x ∈ xs, Ar.Bo L x) ∧ 0 ≤ v ∧ v < 12 ↔ mayOp l.length o = true) : mayb L v xs = mayOp l.length o := by
  rw [Bool.eq_iff_iff, mayb_iff ok]; exact h
theorem Says.congr {x : Int} {F G : (Int → Bool) → Bool} (h : Says L x F) (e : ∀ t, F t = G t) : Says L x G := ⟨h.1, fun t => (h.2 t).trans (e t)⟩
theorem ite_says (ok : Ar.Ok L) (f g h : Int) : Told lim L (mayb L 0 [f, g, h]) (iteF lim L f g h) (fun L' x => Says L' x (fun t => if Ar.ev t L f then Ar.ev t L g else Ar.ev t L h)) :=
  (iteF_told ok f g h).imp (fun hm ok' hp I => ⟨I.cx, fun t => by
    have hb := ((mayb_iff ok).1 hm).1
    rw [I.cev t]
    unfold Ar.iteV
    rw [Ar.ev_pre ok hp (hb f (by simp)).lt, Ar.ev_pre ok hp (hb g (by simp)).lt, Ar.ev_pre ok hp (hb h (by simp)).lt]⟩)
theorem rst_says (ok : Ar.Ok L) (f v : Int) (d : Bool) : Told lim L (mayb L v [f]) (rstF lim L f v d) (fun L' x => Says L' x (fun t => Ar.ev (st t v d) L f)) :=
  (rstF_told ok f v d).imp (fun hm ok' hp I => ⟨I.cx, fun t => by
    have hb := ((mayb_iff ok).1 hm).1
    rw [I.cev t, Ar.ev_pre ok hp (hb f (by simp)).lt]; rfl⟩)
theorem var_says (ok : Ar.Ok L) (v : Int) : Told lim L (mayb L v []) (varF lim L v) (fun L' x => Says L' x (fun t => t v)) := (varF_told ok v).imp (fun _ _ _ I => I)
set_option maxHeartbeats 4000000 in
/-- What an op is told. -/
theorem doesF_told {l : List Int} (ok : Ar.Ok L) (hl : L.length ≤ 1073741824) (hb : ∀ x ∈ l, Ar.Bo L x) (o : Op7) :
    Told lim L (mayOp l.length o) (doesF lim L l o) (fun L' x => Says L' x (opV o (fun t => Ar.ev t L (at7 l o.a)) (fun t => Ar.ev t L (at7 l o.b)) (fun t => Ar.ev t L (at7 l o.c)))) := by
  have A := at7_bo ok hl hb
  have y : Ar.Bo L (-1) := .no
  have n : Ar.Bo L (-2) := .yes
  unfold doesF
  by_cases h0 : o.kind = 0
  · rw [if_pos h0]
    refine ((var_says ok o.v).cast (mayb_op ok hl hb ?_)).imp (fun _ _ _ I => I.congr fun t => ?_)
    · simp [mayOp, needs, h0]; omega
    · unfold opV; dsimp only; rw [if_pos h0]
  rw [if_neg h0]
  by_cases h1 : o.kind = 1
  · rw [if_pos h1]
    refine ((ite_says ok _ _ _).cast (mayb_op ok hl hb ?_)).imp (fun _ _ _ I => I.congr fun t => ?_)
    · simp [mayOp, needs, h1, A, y, n]
    · unfold opV; dsimp only; rw [if_neg h0, if_pos h1, Ar.ev_no, Ar.ev_yes]; cases Ar.ev t L (at7 l o.a) <;> rfl
  rw [if_neg h1]
  by_cases h2 : o.kind = 2
  · rw [if_pos h2]
    refine ((ite_says ok _ _ _).cast (mayb_op ok hl hb ?_)).imp (fun _ _ _ I => I.congr fun t => ?_)
    · simp [mayOp, needs, h2, A, y, n]
    · unfold opV; dsimp only; rw [if_neg h0, if_neg h1, if_pos h2, Ar.ev_no]; cases Ar.ev t L (at7 l o.a) <;> rfl
  rw [if_neg h2]
  by_cases h3 : o.kind = 3
  · rw [if_pos h3]
    refine ((ite_says ok _ _ _).cast (mayb_op ok hl hb ?_)).imp (fun _ _ _ I => I.congr fun t => ?_)
    · simp [mayOp, needs, h3, A, y, n]
    · unfold opV; dsimp only; rw [if_neg h0, if_neg h1, if_neg h2, if_pos h3, Ar.ev_yes]; cases Ar.ev t L (at7 l o.a) <;> rfl
  rw [if_neg h3]
  by_cases h4 : o.kind = 4
  · rw [if_pos h4]
    refine ((xoF_told ok _ _).cast (mayb_op ok hl hb ?_)).imp (fun _ _ _ I => I.congr fun t => ?_)
    · simp [mayOp, needs, h4, A, y, n]
    · unfold opV; dsimp only; rw [if_neg h0, if_neg h1, if_neg h2, if_neg h3, if_pos h4]
  rw [if_neg h4]
  by_cases h5 : o.kind = 5
  · rw [if_pos h5]
    refine ((ite_says ok _ _ _).cast (mayb_op ok hl hb ?_)).imp (fun _ _ _ I => I.congr fun t => ?_)
    · simp [mayOp, needs, h5, A, y, n, and_assoc]
    · unfold opV; dsimp only; rw [if_neg h0, if_neg h1, if_neg h2, if_neg h3, if_neg h4, if_pos h5]
  rw [if_neg h5]
  by_cases h6 : o.kind = 6
  · rw [if_pos h6]
    refine ((rst_says ok _ _ _).cast (mayb_op ok hl hb ?_)).imp (fun _ _ _ I => I.congr fun t => ?_)
    · simp [mayOp, needs, h6, A, y, n]; omega
    · unfold opV; dsimp only; rw [if_neg h0, if_neg h1, if_neg h2, if_neg h3, if_neg h4, if_neg h5, if_pos h6]
  rw [if_neg h6]
  by_cases h7 : o.kind = 7
  · rw [if_pos h7]
    refine ((exF_told ok _ _).cast (mayb_op ok hl hb ?_)).imp (fun _ _ _ I => I.congr fun t => ?_)
    · simp [mayOp, needs, h7, A, y, n]; omega
    · unfold opV; dsimp only; rw [if_neg h0, if_neg h1, if_neg h2, if_neg h3, if_neg h4, if_neg h5, if_neg h6, if_pos h7]
  rw [if_neg h7]
  by_cases h8 : o.kind = 8
  · rw [if_pos h8]
    refine ((cpF_told ok _ _ _).cast (mayb_op ok hl hb ?_)).imp (fun _ _ _ I => I.congr fun t => ?_)
    · simp [mayOp, needs, h8, A, y, n, and_assoc]; omega
    · unfold opV; dsimp only; rw [if_neg h0, if_neg h1, if_neg h2, if_neg h3, if_neg h4, if_neg h5, if_neg h6, if_neg h7]
  rw [if_neg h8]
  refine (told_bad ok _).cast (Eq.symm ?_)
  rw [Bool.eq_false_iff]
  intro c
  unfold mayOp at c
  simp only [Bool.and_eq_true, decide_eq_true_eq] at c
  omega
end
end Go.Proofs.Ytiagkbmhfgdffaa

set_option linter.unusedVariables false
set_option linter.unusedSimpArgs false
namespace Go.Proofs.Ytiagkbmhfgdffaa
/-! numbers' bits -/
def bitN (n v : Nat) : Bool := n / 2 ^ v % 2 == 1
theorem and_one (n : Nat) (h : n < 18446744073709551616) : Go.bits BinOp.and IntKind.u64 ((n : Nat) : Int) 1 = ((n % 2 : Nat) : Int) := by
  show IntKind.u64.wrap ((BitVec.ofInt 64 ((n : Nat) : Int) &&& BitVec.ofInt 64 1).toNat : Int) = _
  have e2 : (BitVec.ofInt 64 ((n : Nat) : Int)).toNat = n := by
    rw [BitVec.ofInt_natCast, BitVec.toNat_ofNat]; exact Nat.mod_eq_of_lt (by omega)
  have e3 : (BitVec.ofInt 64 1).toNat = 1 := by decide
  rw [BitVec.toNat_and, e2, e3, Nat.and_one_is_mod, IntKind.wrap_u64]
  omega
theorem bt_bitN (n v : Nat) (h : n < 18446744073709551616) : bt (n : Int) (v : Int) = bitN n v := by
  unfold bt bitN
  have e : ((n : Int) / 2 ^ v) = ((n / 2 ^ v : Nat) : Int) := by rw [Int.natCast_ediv]; simp
  have hl : n / 2 ^ v < 18446744073709551616 := Nat.lt_of_le_of_lt (Nat.div_le_self _ _) h
  rw [Int.toNat_natCast, e, and_one _ hl, Bool.eq_iff_iff]
  simp
  omega
def withN (n v : Nat) (b : Bool) : Nat := if bitN n v = b then n else if b then n + 2 ^ v else n - 2 ^ v
theorem add_above (m v u : Nat) (h : m / 2 ^ v % 2 = 0) (hu : v < u) : (m + 2 ^ v) / 2 ^ u = m / 2 ^ u := by
  have e : 2 ^ u = 2 ^ v * 2 * 2 ^ (u - v - 1) := by rw [← Nat.pow_succ, ← Nat.pow_add]; congr 1; omega
  rw [e, ← Nat.div_div_eq_div_mul, ← Nat.div_div_eq_div_mul, ← Nat.div_div_eq_div_mul, ← Nat.div_div_eq_div_mul, Nat.add_div_right _ (Nat.two_pow_pos v)]
  congr 1
  omega
theorem add_below (m v u : Nat) (hu : u < v) : (m + 2 ^ v) / 2 ^ u % 2 = m / 2 ^ u % 2 := by
  have e : 2 ^ v = 2 ^ u * (2 * 2 ^ (v - u - 1)) := by rw [← Nat.mul_assoc, ← Nat.pow_succ, ← Nat.pow_add]; congr 1; omega
  rw [e, Nat.add_mul_div_left _ _ (Nat.two_pow_pos u)]
  omega
theorem bit_add (m v : Nat) (h : bitN m v = false) (u : Nat) : bitN (m + 2 ^ v) u = if u = v then true else bitN m u := by
  unfold bitN at h ⊢
  have h0 : m / 2 ^ v % 2 = 0 := by
    have : m / 2 ^ v % 2 ≠ 1 := by simpa using h
    omega
  by_cases e : u = v
  · subst e
    rw [if_pos rfl, Nat.add_div_right _ (Nat.two_pow_pos u)]
    have : (m / 2 ^ u).succ % 2 = 1 := by omega
    rw [this]; rfl
  · rw [if_neg e]
    by_cases hu : u < v
    · rw [add_below m v u hu]
    · rw [add_above m v u h0 (by omega)]
theorem bit_le {n v : Nat} (h : bitN n v = true) : 2 ^ v ≤ n := by
  unfold bitN at h
  apply Classical.byContradiction
  intro c
  rw [Nat.div_eq_of_lt (by omega)] at h
  simp at h
theorem bit_sub {n v : Nat} (h : bitN n v = true) : ∃ m, n = m + 2 ^ v ∧ bitN m v = false := by
  have hl := bit_le h
  refine ⟨n - 2 ^ v, by omega, ?_⟩
  cases hm : bitN (n - 2 ^ v) v
  · rfl
  · unfold bitN at h hm
    have e : n / 2 ^ v = (n - 2 ^ v) / 2 ^ v + 1 := by
      rw [← Nat.add_div_right _ (Nat.two_pow_pos v)]; congr 1; omega
    have a : n / 2 ^ v % 2 = 1 := by simpa using h
    have b : (n - 2 ^ v) / 2 ^ v % 2 = 1 := by simpa using hm
    omega
theorem withN_bit (n v : Nat) (b : Bool) (u : Nat) : bitN (withN n v b) u = if u = v then b else bitN n u := by
  unfold withN
  by_cases h : bitN n v = b
  · rw [if_pos h]
    by_cases e : u = v
    · rw [if_pos e, e, h]
    · rw [if_neg e]
  · rw [if_neg h]
    cases b
    · have hn : bitN n v = true := by simpa using h
      obtain ⟨m, rfl, hm⟩ := bit_sub hn
      rw [if_neg (by decide), Nat.add_sub_cancel, bit_add m v hm]
      by_cases e : u = v
      · rw [if_pos e, e, hm]
      · rw [if_neg e, if_neg e]
    · have hn : bitN n v = false := by simpa using h
      rw [if_pos rfl, bit_add n v hn]
theorem withN_lt {n v K : Nat} (b : Bool) (hn : n < 2 ^ K) (hv : v < K) : withN n v b < 2 ^ K := by
  unfold withN
  by_cases h : bitN n v = b
  · rw [if_pos h]; exact hn
  · rw [if_neg h]
    cases b
    · rw [if_neg (by decide)]; exact Nat.lt_of_le_of_lt (Nat.sub_le _ _) hn
    · have hb : bitN n v = false := by simpa using h
      rw [if_pos rfl]
      have h0 : n / 2 ^ v % 2 = 0 := by
        unfold bitN at hb
        have : n / 2 ^ v % 2 ≠ 1 := by simpa using hb
        omega
      have e := add_above n v K h0 hv
      rw [Nat.div_eq_of_lt hn] at e
      exact (Nat.div_eq_zero_iff_lt (Nat.two_pow_pos K)).1 e
theorem Ar.wk_congr {t t' : Int → Bool} {L : List Nd} (ok : Ar.Ok L) (h : ∀ v : Int, 0 ≤ v → v < 12 → t v = t' v) : ∀ (n : Nat) (r : Int), Ar.wk t L n r = Ar.wk t' L n r
  | 0, _ => rfl
  | n + 1, r => by
    unfold Ar.wk
    by_cases hn : Ar.isN L r
    · have hc := Ar.ok_child ok hn
      rw [if_pos hn, if_pos hn, h _ hc.1 hc.2.1, Ar.wk_congr ok h n]
    · rw [if_neg hn, if_neg hn]
theorem ev_congr {t t' : Int → Bool} {L : List Nd} (ok : Ar.Ok L) (h : ∀ v : Int, 0 ≤ v → v < 12 → t v = t' v) (r : Int) : Ar.ev t L r = Ar.ev t' L r := by
  unfold Ar.ev Ar.walk; rw [Ar.wk_congr ok h]
theorem ev_st {L : List Nd} (ok : Ar.Ok L) {n : Nat} (hn : n < 4096) {v : Int} (h0 : 0 ≤ v) (h12 : v < 12) (b : Bool) (r : Int) : Ar.ev (st (bt (n : Int)) v b) L r = Ar.ev (bt ((withN n v.toNat b : Nat) : Int)) L r := by
  refine ev_congr ok (fun u hu0 hu1 => ?_) r
  obtain ⟨u, rfl⟩ := Int.eq_ofNat_of_zero_le hu0
  obtain ⟨v, rfl⟩ := Int.eq_ofNat_of_zero_le h0
  have hl := withN_lt (v := v) (K := 12) b hn (by omega)
  have hn' : n < 18446744073709551616 := by omega
  have hl' : withN n v b < 18446744073709551616 := by
    have : withN n v b < 4096 := hl
    omega
  unfold st
  rw [Int.toNat_natCast, bt_bitN _ _ hl', bt_bitN _ _ hn', withN_bit]
  by_cases e : u = v
  · subst e; simp
  · rw [if_neg e, if_neg (by omega)]
/-- A number that has given bits. -/
def bitsOf (t : Nat → Bool) : Nat → Nat
  | 0 => 0
  | n + 1 => bitsOf t n + (if t n then 2 ^ n else 0)
theorem bitsOf_lt (t : Nat → Bool) : ∀ n, bitsOf t n < 2 ^ n
  | 0 => by simp [bitsOf]
  | n + 1 => by
    have := bitsOf_lt t n
    unfold bitsOf
    rw [Nat.pow_succ]
    split <;> omega
theorem bitsOf_bit (t : Nat → Bool) : ∀ n v, v < n → bitN (bitsOf t n) v = t v
  | 0, _, h => by omega
  | n + 1, v, h => by
    unfold bitsOf
    have hl := bitsOf_lt t n
    have hz : bitN (bitsOf t n) n = false := by unfold bitN; rw [Nat.div_eq_of_lt hl]; rfl
    by_cases hv : v = n
    · subst hv
      cases ht : t v
      · simpa using hz
      · rw [if_pos rfl, bit_add _ _ hz, if_pos rfl]
    · have ih := bitsOf_bit t n v (by omega)
      cases t n
      · simpa using ih
      · rw [if_pos rfl, bit_add _ _ hz, if_neg hv, ih]
/-- All functions of twelve bits are told by the numbers below 4096. -/
theorem ev_all {L : List Nd} (ok : Ar.Ok L) {P : ((Int → Bool)) → Prop} {r s : Int} (h : ∀ n : Nat, n < 4096 → Ar.ev (bt (n : Int)) L r = Ar.ev (bt (n : Int)) L s) (t : Int → Bool) : Ar.ev t L r = Ar.ev t L s := by
  have hl := bitsOf_lt (fun n => t (n : Int)) 12
  have h1 := h (bitsOf (fun n => t (n : Int)) 12) (by simpa using hl)
  have hb : ∀ v : Int, 0 ≤ v → v < 12 → bt (bitsOf (fun n => t (n : Int)) 12 : Nat) v = t v := fun v h0 h1 => by
    obtain ⟨n, rfl⟩ := Int.eq_ofNat_of_zero_le h0
    rw [bt_bitN _ _ (by omega), bitsOf_bit _ 12 n (by omega)]
  rw [ev_congr ok hb, ev_congr ok hb] at h1
  exact h1

/-! rows of booleans -/
structure Sem (L : List Nd) (r : Int) (T : List Bool) : Prop where
  len : T.length = 4096
  bo : Ar.Bo L r
  ev : ∀ n : Nat, n < 4096 → Ar.ev (bt (n : Int)) L r = T.getD n false
theorem Sem.pre {L L' : List Nd} (ok : Ar.Ok L) (hp : L <+: L') {r : Int} {T : List Bool} (h : Sem L r T) : Sem L' r T :=
  ⟨h.len, h.bo.pre hp, fun n hn => by rw [Ar.ev_pre ok hp h.bo.lt]; exact h.ev n hn⟩
theorem Sem.same {L : List Nd} (ok : Ar.Ok L) {r s : Int} {T U : List Bool} (h : Sem L r T) (k : Sem L s U) : r = s ↔ T = U := by
  constructor
  · rintro rfl
    refine List.ext_getElem (h.len.trans k.len.symm) (fun n h1 h2 => ?_)
    have a := h.ev n (by have := h.len; omega)
    have b := k.ev n (by have := h.len; omega)
    rw [a] at b
    simpa [List.getD, h1, h2] using b
  · rintro rfl
    exact Ar.canonB ok h.bo k.bo (ev_all (P := fun _ => True) ok (fun n hn => by rw [h.ev n hn, k.ev n hn]))
/-- What an op says of a number, over rows. -/
def oneT (o : Op7) (A B C : List Bool) (n : Nat) : Bool :=
  if o.kind = 0 then bitN n o.v.toNat else if o.kind = 1 then !A.getD n false else if o.kind = 2 then A.getD n false && B.getD n false else if o.kind = 3 then A.getD n false || B.getD n false else
  if o.kind = 4 then A.getD n false != B.getD n false else if o.kind = 5 then (if A.getD n false then B.getD n false else C.getD n false) else if o.kind = 6 then A.getD (withN n o.v.toNat o.yes) false else
  if o.kind = 7 then A.getD (withN n o.v.toNat false) false || A.getD (withN n o.v.toNat true) false else A.getD (withN n o.v.toNat (B.getD n false)) false
def pickT (T : List (List Bool)) (b : Bool) (k : Int) : List Bool := if b then T.getD k.toNat [] else []
def doT (T : List (List Bool)) (o : Op7) : List Bool :=
  (List.range 4096).map (oneT o (pickT T (decide (0 < needs o.kind)) o.a) (pickT T (decide (1 < needs o.kind)) o.b) (pickT T (decide (2 < needs o.kind)) o.c))
structure R7 where
  L : List Nd
  l : List Int
  T : List (List Bool)
  full : Nat
def stepR7 (lim : Int) (s : R7) (o : Op7) : R7 :=
  if mayOp s.T.length o = false then s else if (doesF lim s.L s.l o).2.2 = 50 then ⟨(doesF lim s.L s.l o).1, s.l, s.T, s.full + 1⟩ else ⟨(doesF lim s.L s.l o).1, s.l ++ [(doesF lim s.L s.l o).2.1], s.T ++ [doT s.T o], s.full⟩
def startR7 : R7 := ⟨[], [-1, -2], [List.replicate 4096 false, List.replicate 4096 true], 0⟩
def runR7 (lim : Int) (xs : List Op7) : R7 := xs.foldl (stepR7 lim) startR7
structure Good (lim : Int) (s : R7) : Prop where
  ok : Ar.Ok s.L
  len : s.l.length = s.T.length
  sem : ∀ i (h : i < s.l.length), Sem s.L (s.l[i]) (s.T.getD i [])
  room : (s.L.length : Int) ≤ max lim 0
theorem Good.bo {lim : Int} {s : R7} (g : Good lim s) : ∀ x ∈ s.l, Ar.Bo s.L x := fun x hx => by
  obtain ⟨i, hi, rfl⟩ := List.mem_iff_getElem.1 hx
  exact (g.sem i hi).bo
theorem Good.pick {lim : Int} {s : R7} (g : Good lim s) {k : Int} (h : inR s.l.length k = true) : Sem s.L (at7 s.l k) (s.T.getD k.toNat []) := by
  unfold inR at h
  rw [Bool.and_eq_true, decide_eq_true_eq, decide_eq_true_eq] at h
  have hk : k.toNat < s.l.length := by omega
  have := g.sem k.toNat hk
  unfold at7
  rw [if_pos h]
  simpa [List.getD, hk] using this
end Go.Proofs.Ytiagkbmhfgdffaa

set_option linter.unusedVariables false
set_option linter.unusedSimpArgs false
namespace Go.Proofs.Ytiagkbmhfgdffaa
section
variable {lim : Int} {L : List Nd}
theorem doT_len (T : List (List Bool)) (o : Op7) : (doT T o).length = 4096 := by simp [doT]
theorem doT_get (T : List (List Bool)) (o : Op7) {n : Nat} (hn : n < 4096) : (doT T o).getD n false = oneT o (pickT T (decide (0 < needs o.kind)) o.a) (pickT T (decide (1 < needs o.kind)) o.b) (pickT T (decide (2 < needs o.kind)) o.c) n := by
  unfold doT
  simp [List.getD, hn]
theorem mayOp_parts {n : Nat} {o : Op7} (h : mayOp n o = true) : 0 ≤ o.kind ∧ o.kind ≤ 8 ∧ (needs o.kind < 1 ∨ inR n o.a = true) ∧ (needs o.kind < 2 ∨ inR n o.b = true) ∧ (needs o.kind < 3 ∨ inR n o.c = true) ∧ (o.kind = 0 ∨ 5 < o.kind → 0 ≤ o.v ∧ o.v ≤ 11) := by
  unfold mayOp at h
  simp only [Bool.and_eq_true, Bool.or_eq_true, decide_eq_true_eq, Bool.not_eq_true', Bool.or_eq_false_iff, decide_eq_false_iff_not] at h
  obtain ⟨⟨⟨⟨⟨h1, h2⟩, h3⟩, h4⟩, h5⟩, h6⟩ := h
  exact ⟨h1, h2, h3, h4, h5, fun h => by omega⟩
set_option maxHeartbeats 4000000 in
theorem Good.does {s : R7} (g : Good lim s) {o : Op7} (hm : mayOp s.l.length o = true) {L' : List Nd} {x : Int}
    (h : Says L' x (opV o (fun t => Ar.ev t s.L (at7 s.l o.a)) (fun t => Ar.ev t s.L (at7 s.l o.b)) (fun t => Ar.ev t s.L (at7 s.l o.c)))) : Sem L' x (doT s.T o) := by
  obtain ⟨h1, h2, h3, h4, h5, h6⟩ := mayOp_parts hm
  refine ⟨doT_len _ _, h.1, fun n hn => ?_⟩
  rw [h.2, doT_get _ _ hn]
  have P := fun (k : Int) (hk : inR s.l.length k = true) => (g.pick hk).ev
  have W := fun (k : Int) (b : Bool) (hk : inR s.l.length k = true) (hv : 0 ≤ o.v ∧ o.v ≤ 11) =>
    (ev_st g.ok hn hv.1 (by omega) b (at7 s.l k)).trans ((g.pick hk).ev _ (withN_lt (K := 12) b hn (by omega)))
  have hk : o.kind = 0 ∨ o.kind = 1 ∨ o.kind = 2 ∨ o.kind = 3 ∨ o.kind = 4 ∨ o.kind = 5 ∨ o.kind = 6 ∨ o.kind = 7 ∨ o.kind = 8 := by omega
  unfold opV oneT pickT
  rcases hk with hk | hk | hk | hk | hk | hk | hk | hk | hk <;> rw [hk] at h3 h4 h5 h6 ⊢ <;> simp only [needs] at h3 h4 h5 ⊢ <;> simp at h3 h4 h5 h6 ⊢
  · obtain ⟨v, hv⟩ := Int.eq_ofNat_of_zero_le h6.1
    rw [hv, Int.toNat_natCast, bt_bitN n v (by omega)]
  · rw [P _ h3 n hn]; simp
  · rw [P _ h3 n hn, P _ h4 n hn]; simp
  · rw [P _ h3 n hn, P _ h4 n hn]; simp
  · rw [P _ h3 n hn, P _ h4 n hn]; simp
  · rw [P _ h3 n hn, P _ h4 n hn, P _ h5 n hn]; simp
  · rw [W _ _ h3 h6]; simp
  · rw [W _ _ h3 h6, W _ _ h3 h6]; simp
  · rw [P _ h4 n hn, W _ _ h3 h6, W _ _ h3 h6]
    simp only [List.getD_eq_getElem?_getD]
    cases (s.T[o.b.toNat]?.getD [])[n]?.getD false <;> simp
theorem xoF_len {B : Nat} (hB : lim < B) (f g : Int) (hl : L.length < B) : (xoF lim L f g).1.length < B := by
  unfold xoF
  have h1 := iteF_len hB g (-1) (-2) hl
  split
  · split
    · exact h1
    · exact iteF_len hB _ _ _ h1
  · exact hl
theorem exF_len {B : Nat} (hB : lim < B) (f v : Int) (hl : L.length < B) : (exF lim L f v).1.length < B := by
  unfold exF
  have h1 := rstF_len hB f v false hl
  have h2 := rstF_len hB f v true h1
  split
  · exact h1
  · split
    · exact h2
    · exact iteF_len hB _ _ _ h2
theorem cpF_len {B : Nat} (hB : lim < B) (f v g : Int) (hl : L.length < B) : (cpF lim L f v g).1.length < B := by
  unfold cpF coF
  have h1 := rstF_len hB f v false hl
  have h2 := rstF_len hB f v true h1
  split
  · split
    · exact h1
    · split
      · exact h2
      · exact iteF_len hB _ _ _ h2
  · exact hl
theorem mk_lt {B : Nat} (hB : lim < B) (v lo hi : Int) (hl : L.length < B) : (Ar.mk lim L v lo hi).1.length < B := by
  rcases Ar.mk_cases lim L v lo hi with ⟨m, _, h⟩ | ⟨_, _, _, ⟨_, h⟩ | ⟨_, _, h⟩ | ⟨_, _, hle, h⟩⟩ <;> rw [h]
  · exact hl
  · exact hl
  · exact hl
  · simp; omega
theorem varF_len {B : Nat} (hB : lim < B) (v : Int) (hl : L.length < B) : (varF lim L v).1.length < B := by
  unfold varF
  split
  · rw [toldF_eq]; exact mk_lt hB v (-1) (-2) hl
  · exact hl
theorem doesF_len {B : Nat} (hB : lim < B) (l : List Int) (o : Op7) (hl : L.length < B) : (doesF lim L l o).1.length < B := by
  unfold doesF
  repeat' split
  all_goals first | exact varF_len hB _ hl | exact iteF_len hB _ _ _ hl | exact xoF_len hB _ _ hl | exact rstF_len hB _ _ _ hl | exact exF_len hB _ _ hl | exact cpF_len hB _ _ _ hl | exact hl
theorem Good.start : Good lim startR7 where
  ok := ok_nil
  len := rfl
  sem := fun i h => by
    have h' : i < 2 := h
    rcases (show i = 0 ∨ i = 1 by omega) with rfl | rfl
    · exact ⟨List.length_replicate, .no, fun n hn => by rw [show startR7.l[0] = -1 from rfl, show startR7.T.getD 0 [] = List.replicate 4096 false from rfl, Ar.ev_no, List.getD_eq_getElem?_getD, List.getElem?_replicate, if_pos hn]; rfl⟩
    · exact ⟨List.length_replicate, .yes, fun n hn => by rw [show startR7.l[1] = -2 from rfl, show startR7.T.getD 1 [] = List.replicate 4096 true from rfl, Ar.ev_yes, List.getD_eq_getElem?_getD, List.getElem?_replicate, if_pos hn]; rfl⟩
  room := by show ((0 : Nat) : Int) ≤ _; omega
/-- What a step can be. -/
theorem step_cases (hlim : lim ≤ 1073741824) {s : R7} (g : Good lim s) (o : Op7) :
    (mayOp s.T.length o = false ∧ doesF lim s.L s.l o = (s.L, 0, 1) ∧ stepR7 lim s o = s) ∨
    (mayOp s.T.length o = true ∧ (doesF lim s.L s.l o).2 = (0, 50) ∧ lim ≤ (doesF lim s.L s.l o).1.length ∧ stepR7 lim s o = ⟨(doesF lim s.L s.l o).1, s.l, s.T, s.full + 1⟩) ∨
    (mayOp s.T.length o = true ∧ (doesF lim s.L s.l o).2.2 = 0 ∧ Sem (doesF lim s.L s.l o).1 (doesF lim s.L s.l o).2.1 (doT s.T o) ∧ stepR7 lim s o = ⟨(doesF lim s.L s.l o).1, s.l ++ [(doesF lim s.L s.l o).2.1], s.T ++ [doT s.T o], s.full⟩) := by
  have hroom : s.L.length ≤ 1073741824 := by have := g.room; omega
  obtain ⟨ok', hp, h⟩ := doesF_told (lim := lim) g.ok hroom g.bo o
  have hlen := g.len
  rcases h with ⟨h0, hm, hi⟩ | ⟨h5, hx, hm, hl⟩ | ⟨h1, hx, hm, hL⟩
  · refine .inr (.inr ⟨by rw [← hlen]; exact hm, h0, g.does hm hi, ?_⟩)
    unfold stepR7
    rw [if_neg (by rw [← hlen, hm]; decide), if_neg (by rw [h0]; decide)]
  · refine .inr (.inl ⟨by rw [← hlen]; exact hm, Prod.ext hx h5, hl, ?_⟩)
    unfold stepR7
    rw [if_neg (by rw [← hlen, hm]; decide), if_pos h5]
  · refine .inl ⟨by rw [← hlen]; exact hm, Prod.ext hL (Prod.ext hx h1), ?_⟩
    unfold stepR7
    rw [if_pos (by rw [← hlen]; exact hm)]
theorem Good.step (hlim : lim ≤ 1073741824) {s : R7} (g : Good lim s) (o : Op7) : Good lim (stepR7 lim s o) := by
  have hroom : s.L.length ≤ 1073741824 := by have := g.room; omega
  obtain ⟨ok', hp, -⟩ := doesF_told (lim := lim) g.ok hroom g.bo o
  have hlen := doesF_len (lim := lim) (L := s.L) (B := (max lim 0).toNat + 1) (by omega) s.l o (by have := g.room; omega)
  rcases step_cases hlim g o with ⟨_, _, e⟩ | ⟨_, _, _, e⟩ | ⟨hm, h0, hs, e⟩
  · rw [e]; exact g
  · rw [e]
    exact ⟨ok', g.len, fun i hi => (g.sem i hi).pre g.ok hp, by show ((doesF lim s.L s.l o).1.length : Int) ≤ _; omega⟩
  · rw [e]
    refine ⟨ok', by simp [g.len], fun i hi => ?_, by show ((doesF lim s.L s.l o).1.length : Int) ≤ _; omega⟩
    have hi' : i < s.l.length + 1 := by simpa using hi
    have hgl := g.len
    by_cases hlt : i < s.l.length
    · have := (g.sem i hlt).pre g.ok hp
      have e1 : (s.l ++ [(doesF lim s.L s.l o).2.1])[i] = s.l[i] := List.getElem_append_left hlt
      have e2 : (s.T ++ [doT s.T o]).getD i [] = s.T.getD i [] := by simp [List.getD, List.getElem?_append_left (show i < s.T.length by omega)]
      show Sem _ ((s.l ++ [(doesF lim s.L s.l o).2.1])[i]) ((s.T ++ [doT s.T o]).getD i [])
      rw [e1, e2]; exact this
    · obtain rfl : i = s.l.length := by omega
      have e1 : (s.l ++ [(doesF lim s.L s.l o).2.1])[s.l.length] = (doesF lim s.L s.l o).2.1 := by simp
      have e2 : (s.T ++ [doT s.T o]).getD s.l.length [] = doT s.T o := by simp [List.getD, hgl]
      show Sem _ ((s.l ++ [(doesF lim s.L s.l o).2.1])[s.l.length]) ((s.T ++ [doT s.T o]).getD s.l.length [])
      rw [e1, e2]; exact hs
theorem Good.run (hlim : lim ≤ 1073741824) (xs : List Op7) : Good lim (runR7 lim xs) := by
  have h : ∀ (xs : List Op7) (s : R7), Good lim s → Good lim (xs.foldl (stepR7 lim) s) := by
    intro xs
    induction xs with
    | nil => intro s g; exact g
    | cons o l ih => intro s g; exact ih _ (g.step hlim o)
  exact h xs _ Good.start
theorem runR7_take {xs : List Op7} {k : Nat} (h : k < xs.length) : runR7 lim (xs.take (k + 1)) = stepR7 lim (runR7 lim (xs.take k)) xs[k] := by
  unfold runR7
  rw [List.take_succ_eq_append_getElem h, List.foldl_append]
  rfl
theorem runR7_len (xs : List Op7) : (runR7 lim xs).l.length ≤ 2 + xs.length ∧ (runR7 lim xs).T.length ≤ 2 + xs.length ∧ (runR7 lim xs).full ≤ xs.length := by
  have h : ∀ (xs : List Op7) (s : R7), (xs.foldl (stepR7 lim) s).l.length ≤ s.l.length + xs.length ∧ (xs.foldl (stepR7 lim) s).T.length ≤ s.T.length + xs.length ∧ (xs.foldl (stepR7 lim) s).full ≤ s.full + xs.length := by
    intro xs
    induction xs with
    | nil => intro s; simp
    | cons o l ih =>
      intro s
      have := ih (stepR7 lim s o)
      have hs : (stepR7 lim s o).l.length ≤ s.l.length + 1 ∧ (stepR7 lim s o).T.length ≤ s.T.length + 1 ∧ (stepR7 lim s o).full ≤ s.full + 1 := by
        unfold stepR7
        split
        · omega
        · split
          · dsimp only; omega
          · simp
      simp only [List.foldl_cons, List.length_cons]
      omega
  have := h xs startR7
  have e1 : startR7.l.length = 2 := rfl
  have e2 : startR7.T.length = 2 := rfl
  have e3 : startR7.full = 0 := rfl
  unfold runR7
  omega
end
end Go.Proofs.Ytiagkbmhfgdffaa

set_option linter.unusedVariables false
set_option linter.unusedSimpArgs false
namespace Go.Proofs.Ytiagkbmhfgdffaa
section
variable {lim : Int} {L L' : List Nd} {V : Nat → Bool}
/-- How many of some variables are there from one on? -/
def rk (V : Nat → Bool) (v : Int) : Nat := (List.range 12).countP (fun (u : Nat) => decide (v ≤ (u : Int)) && V u)
theorem rk_mono {v u : Int} (h : v ≤ u) : rk V u ≤ rk V v := by
  unfold rk
  refine List.countP_mono_left (fun x _ hx => ?_)
  simp only [Bool.and_eq_true, decide_eq_true_eq] at hx ⊢
  exact ⟨by omega, hx.2⟩
theorem rk_step {v : Int} (h0 : 0 ≤ v) (h12 : v < 12) (hV : V v.toNat = true) : rk V v = rk V (v + 1) + 1 := by
  obtain ⟨k, rfl⟩ := Int.eq_ofNat_of_zero_le h0
  rw [Int.toNat_natCast] at hV
  unfold rk
  have hk : k < 12 := by omega
  have e : ∀ n, (List.range n).countP (fun (u : Nat) => decide ((k : Int) ≤ (u : Int)) && V u) = (List.range n).countP (fun (u : Nat) => decide ((k : Int) + 1 ≤ (u : Int)) && V u) + (if k < n then 1 else 0) := by
    intro n
    induction n with
    | zero => simp
    | succ n ih =>
      rw [List.range_succ, List.countP_append, List.countP_append, ih]
      simp only [List.countP_cons, List.countP_nil]
      by_cases h1 : k < n
      · rw [decide_eq_true (show (k : Int) ≤ (n : Int) by omega), decide_eq_true (show (k : Int) + 1 ≤ (n : Int) by omega), if_pos h1, if_pos (show k < n + 1 by omega)]
        omega
      · by_cases h2 : k = n
        · subst h2
          rw [decide_eq_true (show (k : Int) ≤ (k : Int) by omega), decide_eq_false (show ¬ (k : Int) + 1 ≤ (k : Int) by omega), hV, if_neg h1, if_pos (show k < k + 1 by omega)]
          simp
        · rw [decide_eq_false (show ¬ (k : Int) ≤ (n : Int) by omega), decide_eq_false (show ¬ (k : Int) + 1 ≤ (n : Int) by omega), if_neg h1, if_neg (show ¬ k < n + 1 by omega)]
          simp
  rw [e 12, if_pos hk]
/-- A diagram whose variables are some. -/
inductive Inn (L : List Nd) (V : Nat → Bool) : Int → Prop
  | leaf {r : Int} : r < 0 → Inn L V r
  | node {r : Int} : Ar.isN L r → V (Ar.nd L r).v.toNat = true → Inn L V (Ar.nd L r).l → Inn L V (Ar.nd L r).h → Inn L V r
theorem Inn.pre (hp : L <+: L') {r : Int} (h : Inn L V r) : Inn L' V r := by
  induction h with
  | leaf h => exact .leaf h
  | node hn hv _ _ ih1 ih2 =>
    have := hp.length_le
    have e := Ar.nd_pre hp hn.2
    exact .node ⟨hn.1, by have := hn.2; omega⟩ (by rw [e]; exact hv) (by rw [e]; exact ih1) (by rw [e]; exact ih2)
theorem Inn.child {r : Int} (h : Inn L V r) (hn : Ar.isN L r) : V (Ar.nd L r).v.toNat = true ∧ Inn L V (Ar.nd L r).l ∧ Inn L V (Ar.nd L r).h := by
  cases h with
  | leaf h => have := hn.1; omega
  | node _ hv h1 h2 => exact ⟨hv, h1, h2⟩
theorem Inn.half {r : Int} (h : Inn L V r) (v : Int) (b : Bool) : Inn L V (Ar.half L r v b) := by
  unfold Ar.half
  split
  · rename_i c
    have := h.child c.1
    split
    · exact this.2.2
    · exact this.2.1
  · exact h
theorem Inn.mono {V' : Nat → Bool} (hV : ∀ u, V u = true → V' u = true) {r : Int} (h : Inn L V r) : Inn L V' r := by
  induction h with
  | leaf h => exact .leaf h
  | node hn hv _ _ ih1 ih2 => exact .node hn (hV _ hv) ih1 ih2
theorem mk_cnt {v lo hi x e : Int} (hv : V v.toNat = true) (hl : Inn L V lo) (hh : Inn L V hi) (h : Ar.mk lim L v lo hi = (L', x, e)) : L'.length ≤ L.length + 1 ∧ (e = 0 → Inn L' V x) := by
  have hp : L <+: L' := by have := Ar.mk_prefix lim L v lo hi; rw [h] at this; exact this
  rcases Ar.mk_cases lim L v lo hi with ⟨n, hn, e1⟩ | ⟨_, _, _, ⟨rfl, e1⟩ | ⟨_, hm, e1⟩ | ⟨hne, hm, _, e1⟩⟩ <;> rw [e1] at h <;> simp only [Prod.mk.injEq] at h <;> obtain ⟨rfl, rfl, rfl⟩ := h
  · exact ⟨by omega, fun c => absurd c hn⟩
  · exact ⟨by omega, fun _ => hl⟩
  · refine ⟨by omega, fun _ => ?_⟩
    have hi' := List.idxOf_lt_length_of_mem hm
    have hn : Ar.isN L ((L.idxOf (⟨v, lo, hi⟩ : Nd) : Nat) : Int) := ⟨by omega, by omega⟩
    have hnd : Ar.nd L ((L.idxOf (⟨v, lo, hi⟩ : Nd) : Nat) : Int) = ⟨v, lo, hi⟩ := by rw [Ar.nd_at hi', List.getElem_idxOf hi']
    exact .node hn (by rw [hnd]; exact hv) (by rw [hnd]; exact hl) (by rw [hnd]; exact hh)
  · refine ⟨by simp, fun _ => ?_⟩
    have hi' : L.length < (L ++ [(⟨v, lo, hi⟩ : Nd)]).length := by simp
    have hn : Ar.isN (L ++ [(⟨v, lo, hi⟩ : Nd)]) (L.length : Int) := ⟨by omega, by omega⟩
    have hnd : Ar.nd (L ++ [(⟨v, lo, hi⟩ : Nd)]) (L.length : Int) = ⟨v, lo, hi⟩ := by rw [Ar.nd_at hi']; simp
    exact .node hn (by rw [hnd]; exact hv) (by rw [hnd]; exact hl.pre hp) (by rw [hnd]; exact hh.pre hp)
theorem two_pow_step {a k : Nat} (h : a ≤ k) : 2 ^ a ≤ 2 ^ k := Nat.pow_le_pow_right (by decide) h
theorem node_var (ok : Ar.Ok L) {v : Int} (h12 : v < 12) {r : Int} (hi : Inn L V r) (hb : Ar.Bo L r) (hv : v = Ar.var L r) : V v.toNat = true := by
  by_cases hn : Ar.isN L r
  · rw [hv, Ar.var_node hn]; exact (hi.child hn).1
  · rw [Ar.var_leaf hn] at hv; omega
set_option maxHeartbeats 1000000 in
theorem ite_cnt : ∀ (n : Nat) (L : List Nd) (f g h : Int), Ar.Ok L → Ar.Bo L f → Ar.Bo L g → Ar.Bo L h → Inn L V f → Inn L V g → Inn L V h → 12 < Ar.vm L f g h + n → ∀ L' x e, Ar.ite lim n L f g h = (L', x, e) →
    L'.length + 1 ≤ L.length + 2 ^ rk V (Ar.vm L f g h) ∧ (e = 0 → Inn L' V x)
  | 0, L, f, g, h, ok, hf, hg, hh, jf, jg, jh, hn, L', x, e, hr => by
    have := Ar.vm_le L f g h
    have := Ar.var_le ok f
    omega
  | n + 1, L, f, g, h, ok, hf, hg, hh, jf, jg, jh, hn, L', x, e, hr => by
    have hv := Ar.vm_le L f g h
    have hpos := Nat.two_pow_pos (rk V (Ar.vm L f g h))
    rcases Ar.ite_way n L f g h hr with ⟨c, e1⟩ | ⟨c, c2, e1⟩ | ⟨c, c2, c3, c4, e1⟩ | ⟨c, c2, c3, L1, lo, e1, h1, hrest⟩
    · simp only [Prod.mk.injEq] at e1
      obtain ⟨rfl, rfl, rfl⟩ := e1
      exact ⟨by omega, fun _ => jg⟩
    · simp only [Prod.mk.injEq] at e1
      obtain ⟨rfl, rfl, rfl⟩ := e1
      exact ⟨by omega, fun _ => jh⟩
    · simp only [Prod.mk.injEq] at e1
      obtain ⟨rfl, rfl, rfl⟩ := e1
      exact ⟨by omega, fun _ => jf⟩
    · have hb := Ar.vm_lt (g := g) (h := h) ok hf c c2
      have hva : ∀ b, Ar.vm L f g h + 1 ≤ Ar.vm L (Ar.half L f (Ar.vm L f g h) b) (Ar.half L g (Ar.vm L f g h) b) (Ar.half L h (Ar.vm L f g h) b) := fun b => by
        have a1 := Ar.half_var (b := b) ok hv.1 hb.2
        have a2 := Ar.half_var (b := b) ok hv.2.1 hb.2
        have a3 := Ar.half_var (b := b) ok hv.2.2.1 hb.2
        unfold Ar.vm at a1 a2 a3 ⊢
        omega
      have hVv : V (Ar.vm L f g h).toNat = true := by
        rcases hv.2.2.2 with e | e | e
        · exact node_var ok hb.2 jf hf e
        · exact node_var ok hb.2 jg hg e
        · exact node_var ok hb.2 jh hh e
      have hrk := rk_step hb.1 hb.2 hVv
      have hpow : 2 ^ rk V (Ar.vm L f g h) = 2 ^ rk V (Ar.vm L f g h + 1) + 2 ^ rk V (Ar.vm L f g h + 1) := by rw [hrk, Nat.pow_succ]; omega
      obtain ⟨ok1, hp1, s1⟩ := Ar.ite_spec n L _ _ _ ok (Ar.half_bo hf _ false) (Ar.half_bo hg _ false) (Ar.half_bo hh _ false) (by have := hva false; omega) L1 lo e1 h1
      obtain ⟨n1, i1⟩ := ite_cnt n L _ _ _ ok (Ar.half_bo hf _ false) (Ar.half_bo hg _ false) (Ar.half_bo hh _ false) (jf.half _ false) (jg.half _ false) (jh.half _ false) (by have := hva false; omega) L1 lo e1 h1
      have m1 := two_pow_step (rk_mono (V := V) (hva false))
      rcases hrest with ⟨z1, e2⟩ | ⟨z1, L2, hi, e2, h2, hrest⟩
      · simp only [Prod.mk.injEq] at e2
        obtain ⟨rfl, rfl, rfl⟩ := e2
        exact ⟨by omega, fun c => absurd c z1⟩
      · have bf := Ar.half_bo hf (Ar.vm L f g h) true
        have bg := Ar.half_bo hg (Ar.vm L f g h) true
        have bh := Ar.half_bo hh (Ar.vm L f g h) true
        have evm : Ar.vm L1 (Ar.half L f (Ar.vm L f g h) true) (Ar.half L g (Ar.vm L f g h) true) (Ar.half L h (Ar.vm L f g h) true) = Ar.vm L (Ar.half L f (Ar.vm L f g h) true) (Ar.half L g (Ar.vm L f g h) true) (Ar.half L h (Ar.vm L f g h) true) := by
          unfold Ar.vm
          rw [Ar.var_pre hp1 (show (Ar.half L f (min (min (Ar.var L f) (Ar.var L g)) (Ar.var L h)) true) < L.length from bf.lt), Ar.var_pre hp1 (show (Ar.half L g (min (min (Ar.var L f) (Ar.var L g)) (Ar.var L h)) true) < L.length from bg.lt), Ar.var_pre hp1 (show (Ar.half L h (min (min (Ar.var L f) (Ar.var L g)) (Ar.var L h)) true) < L.length from bh.lt)]
        obtain ⟨n2, i2⟩ := ite_cnt n L1 _ _ _ ok1 (bf.pre hp1) (bg.pre hp1) (bh.pre hp1) ((jf.half _ true).pre hp1) ((jg.half _ true).pre hp1) ((jh.half _ true).pre hp1) (by have := hva true; omega) L2 hi e2 h2
        have hp2 : L1 <+: L2 := by
          have := (Ar.ite_spec n L1 _ _ _ ok1 (bf.pre hp1) (bg.pre hp1) (bh.pre hp1) (by have := hva true; omega) L2 hi e2 h2).2.1
          exact this
        rw [evm] at n2
        have m2 := two_pow_step (rk_mono (V := V) (hva true))
        rcases hrest with ⟨z2, e3⟩ | ⟨z2, e3⟩
        · simp only [Prod.mk.injEq] at e3
          obtain ⟨rfl, rfl, rfl⟩ := e3
          exact ⟨by omega, fun c => absurd c z2⟩
        · obtain ⟨n3, i3⟩ := mk_cnt (V := V) hVv ((i1 z1).pre hp2) (i2 z2) e3.symm
          exact ⟨by omega, i3⟩
set_option maxHeartbeats 1000000 in
theorem rst_cnt (v : Int) (b : Bool) (hv0 : 0 ≤ v) (h12 : v < 12) : ∀ (n : Nat) (L : List Nd) (f : Int), Ar.Ok L → Ar.Bo L f → Inn L V f → 12 < Ar.var L f + n → ∀ L' x e, Ar.rst lim v b n L f = (L', x, e) →
    L'.length + 1 ≤ L.length + 2 ^ rk V (Ar.var L f) ∧ (e = 0 → Inn L' V x)
  | 0, L, f, ok, hf, jf, hn, L', x, e, hr => by
    have := Ar.var_le ok f
    omega
  | n + 1, L, f, ok, hf, jf, hn, L', x, e, hr => by
    have hpos := Nat.two_pow_pos (rk V (Ar.var L f))
    rcases Ar.rst_way v b n L f hr with ⟨c, e1⟩ | ⟨hN, hlt, L1, lo, e1, h1, hrest⟩
    · simp only [Prod.mk.injEq] at e1
      obtain ⟨rfl, rfl, rfl⟩ := e1
      exact ⟨by omega, fun _ => jf.half _ _⟩
    · have hc := Ar.ok_child ok hN
      have hch := hf.child hN
      have jch := jf.child hN
      have hvn := Ar.var_node hN
      have hVv : V (Ar.var L f).toNat = true := by rw [hvn]; exact jch.1
      have hrk := rk_step (V := V) (v := Ar.var L f) (by omega) (by omega) hVv
      have hpow : 2 ^ rk V (Ar.var L f) = 2 ^ rk V (Ar.var L f + 1) + 2 ^ rk V (Ar.var L f + 1) := by rw [hrk, Nat.pow_succ]; omega
      obtain ⟨ok1, hp1, s1⟩ := Ar.rst_spec v b hv0 h12 n L _ ok hch.1 (by omega) L1 lo e1 h1
      obtain ⟨n1, i1⟩ := rst_cnt v b hv0 h12 n L _ ok hch.1 jch.2.1 (by omega) L1 lo e1 h1
      have m1 := two_pow_step (rk_mono (V := V) (show Ar.var L f + 1 ≤ Ar.var L (Ar.nd L f).l by omega))
      rcases hrest with ⟨z1, e2⟩ | ⟨z1, L2, hi, e2, h2, hrest⟩
      · simp only [Prod.mk.injEq] at e2
        obtain ⟨rfl, rfl, rfl⟩ := e2
        exact ⟨by omega, fun c => absurd c z1⟩
      · have hvh : Ar.var L1 (Ar.nd L f).h = Ar.var L (Ar.nd L f).h := Ar.var_pre hp1 hch.2.lt
        obtain ⟨ok2, hp2, s2⟩ := Ar.rst_spec v b hv0 h12 n L1 _ ok1 (hch.2.pre hp1) (by rw [hvh]; omega) L2 hi e2 h2
        obtain ⟨n2, i2⟩ := rst_cnt v b hv0 h12 n L1 _ ok1 (hch.2.pre hp1) (jch.2.2.pre hp1) (by rw [hvh]; omega) L2 hi e2 h2
        rw [hvh] at n2
        have m2 := two_pow_step (rk_mono (V := V) (show Ar.var L f + 1 ≤ Ar.var L (Ar.nd L f).h by omega))
        rcases hrest with ⟨z2, e3⟩ | ⟨z2, e3⟩
        · simp only [Prod.mk.injEq] at e3
          obtain ⟨rfl, rfl, rfl⟩ := e3
          exact ⟨by omega, fun c => absurd c z2⟩
        · obtain ⟨n3, i3⟩ := mk_cnt (V := V) jch.1 ((i1 z1).pre hp2) (i2 z2) e3.symm
          exact ⟨by omega, i3⟩
/-- How much a call makes the arena grow; what it tells is over the same variables. -/
def Cnt (V : Nat → Bool) (L : List Nd) (c : Nat) (r : List Nd × Int × Int) : Prop := r.1.length ≤ L.length + c ∧ (r.2.2 = 0 → Inn r.1 V r.2.1)
theorem Cnt.bad (c : Nat) : Cnt V L c (L, 0, 1) := ⟨by simp, fun h => by cases h⟩
theorem Cnt.mono {c d : Nat} {r : List Nd × Int × Int} (h : Cnt V L c r) (hc : c ≤ d) : Cnt V L d r := ⟨by have := h.1; omega, h.2⟩
theorem Cnt.told {c : Nat} {r : List Nd × Int × Int} (h : Cnt V L c r) : Cnt V L c (toldF r) := by
  rw [toldF_eq]
  refine ⟨h.1, fun hz => ?_⟩
  dsimp only at hz ⊢
  by_cases h0 : r.2.2 = 0
  · rw [if_pos h0]; exact h.2 h0
  · rw [if_neg h0] at hz; split at hz <;> cases hz
theorem rk_zero {v : Int} (h : 0 ≤ v) : 2 ^ rk V v ≤ 2 ^ rk V 0 := two_pow_step (rk_mono h)
theorem iteF_cnt (ok : Ar.Ok L) {f g h : Int} (jf : Inn L V f) (jg : Inn L V g) (jh : Inn L V h) : Cnt V L (2 ^ rk V 0 - 1) (iteF lim L f g h) := by
  unfold iteF
  cases hm : mayb L 0 [f, g, h]
  · rw [if_neg (by decide)]; exact Cnt.bad _
  · rw [if_pos rfl]
    have hb := ((mayb_iff ok).1 hm).1
    have hv := vm_nonneg ok f g h
    have hpos := Nat.two_pow_pos (rk V 0)
    obtain ⟨⟨L', x, e⟩, hr⟩ : ∃ p, Ar.ite lim 13 L f g h = p := ⟨_, rfl⟩
    obtain ⟨h1, h2⟩ := ite_cnt (V := V) 13 L f g h ok (hb _ (by simp)) (hb _ (by simp)) (hb _ (by simp)) jf jg jh (by omega) L' x e hr
    have := rk_zero (V := V) hv
    rw [hr]
    exact Cnt.told ⟨by show L'.length ≤ _; omega, h2⟩
theorem rstF_cnt (ok : Ar.Ok L) {f : Int} (v : Int) (d : Bool) (jf : Inn L V f) : Cnt V L (2 ^ rk V 0 - 1) (rstF lim L f v d) := by
  unfold rstF
  cases hm : mayb L v [f]
  · rw [if_neg (by decide)]; exact Cnt.bad _
  · rw [if_pos rfl]
    obtain ⟨hb, h0, h12⟩ := (mayb_iff ok).1 hm
    have hv := var_nonneg ok f
    have hpos := Nat.two_pow_pos (rk V 0)
    obtain ⟨⟨L', x, e⟩, hr⟩ : ∃ p, Ar.rst lim v d 13 L f = p := ⟨_, rfl⟩
    obtain ⟨h1, h2⟩ := rst_cnt (V := V) v d h0 h12 13 L f ok (hb _ (by simp)) jf (by omega) L' x e hr
    have := rk_zero (V := V) hv
    rw [hr]
    exact Cnt.told ⟨by show L'.length ≤ _; omega, h2⟩
theorem varF_cnt (v : Int) (hV : 0 ≤ v → v < 12 → V v.toNat = true) : Cnt V L 1 (varF lim L v) := by
  unfold varF
  cases hm : mayb L v []
  · rw [if_neg (by decide)]; exact Cnt.bad _
  · rw [if_pos rfl]
    have hv : 0 ≤ v ∧ v < 12 := by
      unfold mayb at hm
      simpa using hm
    exact Cnt.told (mk_cnt (V := V) (hV hv.1 hv.2) (.leaf (by decide)) (.leaf (by decide)) rfl)
theorem Cnt.seq {c d : Nat} {r k : List Nd × Int × Int} (h : Cnt V L c r) (hk : r.2.2 = 0 → Inn r.1 V r.2.1 → Cnt V r.1 d k) : Cnt V L (c + d) (if r.2.2 ≠ 0 then (r.1, 0, r.2.2) else k) := by
  by_cases h0 : r.2.2 = 0
  · rw [if_neg (fun c => c h0)]
    have a := h.1
    have b := hk h0 (h.2 h0)
    exact ⟨by have := b.1; omega, b.2⟩
  · rw [if_pos h0]
    exact ⟨by have := h.1; show r.1.length ≤ _; omega, fun c => absurd c h0⟩
theorem told_ok {may : Bool} {r : List Nd × Int × Int} {is : List Nd → Int → Prop} (h : Told lim L may r is) : Ar.Ok r.1 ∧ L <+: r.1 := ⟨h.1, h.2.1⟩
theorem pair_cnt (ok : Ar.Ok L) {f : Int} (v : Int) (jf : Inn L V f) {d : Nat} {k : List Nd → Int → Int → List Nd × Int × Int}
    (hk : ∀ L2 lo hi, Ar.Ok L2 → L <+: L2 → Inn L2 V lo → Inn L2 V hi → Cnt V L2 d (k L2 lo hi)) :
    Cnt V L ((2 ^ rk V 0 - 1) + ((2 ^ rk V 0 - 1) + d)) (if (rstF lim L f v false).2.2 ≠ 0 then ((rstF lim L f v false).1, 0, (rstF lim L f v false).2.2) else
      if (rstF lim (rstF lim L f v false).1 f v true).2.2 ≠ 0 then ((rstF lim (rstF lim L f v false).1 f v true).1, 0, (rstF lim (rstF lim L f v false).1 f v true).2.2) else
      k (rstF lim (rstF lim L f v false).1 f v true).1 (rstF lim L f v false).2.1 (rstF lim (rstF lim L f v false).1 f v true).2.1) := by
  obtain ⟨ok1, hp1⟩ := told_ok (rstF_told (lim := lim) ok f v false)
  obtain ⟨ok2, hp2⟩ := told_ok (rstF_told (lim := lim) ok1 f v true)
  refine (rstF_cnt ok v false jf).seq (fun h0 j0 => ?_)
  refine (rstF_cnt ok1 v true (jf.pre hp1)).seq (fun h1 j1 => ?_)
  exact hk _ _ _ ok2 (hp1.trans hp2) (j0.pre hp2) j1
theorem exF_cnt (ok : Ar.Ok L) {f : Int} (v : Int) (jf : Inn L V f) : Cnt V L (3 * (2 ^ rk V 0 - 1)) (exF lim L f v) := by
  unfold exF
  exact (pair_cnt ok v jf (k := fun L2 lo hi => iteF lim L2 lo (-2) hi) (fun L2 lo hi ok2 _ j0 j1 => iteF_cnt ok2 j0 (.leaf (by decide)) j1)).mono (by omega)
theorem cpF_cnt (ok : Ar.Ok L) {f g : Int} (v : Int) (jf : Inn L V f) (jg : Inn L V g) : Cnt V L (3 * (2 ^ rk V 0 - 1)) (cpF lim L f v g) := by
  unfold cpF
  split
  · unfold coF
    exact (pair_cnt ok v jf (k := fun L2 lo hi => iteF lim L2 g hi lo) (fun L2 lo hi ok2 hp j0 j1 => iteF_cnt ok2 (jg.pre hp) j1 j0)).mono (by omega)
  · exact Cnt.bad _
theorem xoF_cnt (ok : Ar.Ok L) {f g : Int} (jf : Inn L V f) (jg : Inn L V g) : Cnt V L (3 * (2 ^ rk V 0 - 1)) (xoF lim L f g) := by
  unfold xoF
  split
  · obtain ⟨ok1, hp1⟩ := told_ok (iteF_told (lim := lim) ok g (-1) (-2))
    exact ((iteF_cnt ok jg (.leaf (by decide)) (.leaf (by decide))).seq (fun h0 j0 => iteF_cnt ok1 (jf.pre hp1) j0 (jg.pre hp1))).mono (by omega)
  · exact Cnt.bad _
/-- What an op costs. -/
def cost (V : Nat → Bool) (o : Op7) : Nat := if o.kind = 0 then 1 else 3 * (2 ^ rk V 0 - 1)
theorem doesF_cnt {s : R7} (hlim : lim ≤ 1073741824) (g : Good lim s) (hj : ∀ x ∈ s.l, Inn s.L V x) (o : Op7) (hV : o.kind = 0 → 0 ≤ o.v → o.v < 12 → V o.v.toNat = true) :
    Cnt V s.L (cost V o) (doesF lim s.L s.l o) := by
  rcases step_cases hlim g o with ⟨_, e, _⟩ | h
  · rw [e]; exact Cnt.bad _
  · have hm : mayOp s.l.length o = true := by
      rw [g.len]
      rcases h with h | h <;> exact h.1
    obtain ⟨h1, h2, h3, h4, h5, h6⟩ := mayOp_parts hm
    have J := fun (k : Int) (hk : inR s.l.length k = true) => hj _ (at7_in hk)
    have ok := g.ok
    unfold doesF cost
    have hk : o.kind = 0 ∨ o.kind = 1 ∨ o.kind = 2 ∨ o.kind = 3 ∨ o.kind = 4 ∨ o.kind = 5 ∨ o.kind = 6 ∨ o.kind = 7 ∨ o.kind = 8 := by omega
    have n1 : Inn s.L V (-1) := .leaf (by decide)
    have n2 : Inn s.L V (-2) := .leaf (by decide)
    rcases hk with hk | hk | hk | hk | hk | hk | hk | hk | hk <;> rw [hk] at h3 h4 h5 h6 hV ⊢ <;> simp only [needs] at h3 h4 h5 ⊢ <;> simp at h3 h4 h5 h6 hV ⊢
    · exact varF_cnt _ hV
    · exact (iteF_cnt ok (J _ h3) n1 n2).mono (by omega)
    · exact (iteF_cnt ok (J _ h3) (J _ h4) n1).mono (by omega)
    · exact (iteF_cnt ok (J _ h3) n2 (J _ h4)).mono (by omega)
    · exact xoF_cnt ok (J _ h3) (J _ h4)
    · exact (iteF_cnt ok (J _ h3) (J _ h4) (J _ h5)).mono (by omega)
    · exact (rstF_cnt ok _ _ (J _ h3)).mono (by omega)
    · exact exF_cnt ok _ (J _ h3)
    · exact cpF_cnt ok _ (J _ h3) (J _ h4)
def sumN (l : List Nat) : Nat := l.foldr (· + ·) 0
theorem run_cnt (hlim : lim ≤ 1073741824) : ∀ (xs : List Op7) (s : R7), Good lim s → (∀ x ∈ s.l, Inn s.L V x) → (∀ o ∈ xs, o.kind = 0 → 0 ≤ o.v → o.v < 12 → V o.v.toNat = true) →
    s.L.length + sumN (xs.map (cost V)) < lim →
    (xs.foldl (stepR7 lim) s).full = s.full ∧ (∀ x ∈ (xs.foldl (stepR7 lim) s).l, Inn (xs.foldl (stepR7 lim) s).L V x) ∧ (xs.foldl (stepR7 lim) s).L.length ≤ s.L.length + sumN (xs.map (cost V))
  | [], s, g, hj, hV, hl => ⟨rfl, hj, by simp [sumN]⟩
  | o :: xs, s, g, hj, hV, hl => by
    have hc := doesF_cnt hlim g hj o (hV o (by simp))
    have hsum : sumN ((o :: xs).map (cost V)) = cost V o + sumN (xs.map (cost V)) := rfl
    have hpre : s.L <+: (doesF lim s.L s.l o).1 := (doesF_told (lim := lim) g.ok (by have := g.room; omega) g.bo o).2.1
    rw [hsum] at hl ⊢
    rw [List.foldl_cons]
    have key : (stepR7 lim s o).full = s.full ∧ (∀ x ∈ (stepR7 lim s o).l, Inn (stepR7 lim s o).L V x) ∧ (stepR7 lim s o).L.length ≤ s.L.length + cost V o := by
      rcases step_cases hlim g o with ⟨_, _, e⟩ | ⟨_, _, hfull, e⟩ | ⟨hm, h0, hs, e⟩
      · rw [e]; exact ⟨rfl, hj, by omega⟩
      · have := hc.1; omega
      · rw [e]
        refine ⟨rfl, fun x hx => ?_, hc.1⟩
        rcases List.mem_append.1 hx with hx | hx
        · exact (hj x hx).pre hpre
        · rw [List.mem_singleton] at hx
          rw [hx]; exact hc.2 h0
    obtain ⟨k1, k2, k3⟩ := key
    have := run_cnt hlim xs (stepR7 lim s o) (g.step hlim o) k2 (fun o' ho' => hV o' (List.mem_cons_of_mem _ ho')) (by omega)
    exact ⟨this.1.trans k1, this.2.1, by omega⟩
theorem sumN_le {l : List Nat} {c : Nat} (h : ∀ x ∈ l, x ≤ c) : sumN l ≤ l.length * c := by
  induction l with
  | nil => simp [sumN]
  | cons a l ih =>
    have h1 := h a (by simp)
    have h2 := ih (fun x hx => h x (List.mem_cons_of_mem _ hx))
    show a + sumN l ≤ (l.length + 1) * c
    rw [Nat.succ_mul]; omega
/-- Of few variables there is always room. -/
theorem narrow_full {xs : List Op7} (h6 : ∀ o ∈ xs, o.v < 6) (h20 : xs.length ≤ 20) : (runR7 65536 xs).full = 0 := by
  have hk : 3 * (2 ^ rk (fun u => decide (u < 6)) 0 - 1) = 189 := by decide +kernel
  have hs := sumN_le (l := xs.map (cost (fun u => decide (u < 6)))) (c := 189) (fun x hx => by
    obtain ⟨o, _, rfl⟩ := List.mem_map.1 hx
    unfold cost
    split
    · decide
    · rw [hk]; exact Nat.le_refl _)
  rw [List.length_map] at hs
  exact (run_cnt (V := fun u => decide (u < 6)) (lim := 65536) (by decide) xs startR7 Good.start (fun x hx => by
    have hx' : x ∈ ([-1, -2] : List Int) := hx
    have : x = -1 ∨ x = -2 := by simpa using hx'
    rcases this with rfl | rfl <;> exact .leaf (by decide)) (fun o ho _ _ _ => by have := h6 o ho; simp; omega) (by
    show ((0 : Nat) : Int) + _ < _
    have : xs.length * 189 ≤ 20 * 189 := Nat.mul_le_mul_right _ h20
    omega)).1
end
end Go.Proofs.Ytiagkbmhfgdffaa

set_option linter.unusedVariables false
set_option linter.unusedSimpArgs false
namespace Go.Proofs.Ytiagkbmhfgdffaa
open Go
section
variable {lim : Int} {L L' : List Nd} {V : Nat → Bool}
theorem st_comm {u v : Int} {b c : Bool} (h : u ≠ v) (t : Int → Bool) : st (st t u c) v b = st (st t v b) u c := by
  unfold st
  funext i
  by_cases h1 : i = v
  · have h2 : ¬ i = u := fun e => h (e.symm.trans h1)
    rw [if_pos h1, if_neg h2, if_pos h1]
  · rw [if_neg h1]
    by_cases h2 : i = u
    · rw [if_pos h2, if_pos h2]
    · rw [if_neg h2, if_neg h2, if_neg h1]
theorem ev_ind (ok : Ar.Ok L) {v : Int} {b : Bool} {r : Int} (hl : r < L.length) (hv : v < Ar.var L r) (t : Int → Bool) : Ar.ev (st t v b) L r = Ar.ev t L r := Ar.ev_indep ok hl hv t
/-- Over other variables a diagram does not hang on one. -/
theorem ev_other (ok : Ar.Ok L) {v : Int} (h0 : 0 ≤ v) {b : Bool} {r : Int} (h : Inn L (fun u => decide (u ≠ v.toNat)) r) (t : Int → Bool) : Ar.ev (st t v b) L r = Ar.ev t L r := by
  induction h with
  | leaf h =>
    have hn : ¬ Ar.isN L _ := Ar.isN_not_neg h
    unfold Ar.ev
    rw [Ar.walk_not hn, Ar.walk_not hn]
  | @node r hn hv _ _ ih1 ih2 =>
    have hc := Ar.ok_child ok hn
    rw [Ar.ev_node ok hn, Ar.ev_node ok hn, ih1, ih2]
    have hne : ¬ (Ar.nd L r).v = v := fun e => by
      rw [e] at hv
      simp at hv
    have : st t v b (Ar.nd L r).v = t (Ar.nd L r).v := by unfold st; rw [if_neg hne]
    rw [this]
theorem reach_split {s x : Int} (h : Ar.Reach L [s] x) : x = s ∨ (Ar.isN L s ∧ (Ar.Reach L [(Ar.nd L s).l] x ∨ Ar.Reach L [(Ar.nd L s).h] x)) := by
  induction h with
  | root hm => exact .inl (List.mem_singleton.1 hm)
  | low hr hn ih =>
    rcases ih with rfl | ⟨hs, h | h⟩
    · exact .inr ⟨hn, .inl (.root (List.mem_singleton.2 rfl))⟩
    · exact .inr ⟨hs, .inl (.low h hn)⟩
    · exact .inr ⟨hs, .inr (.low h hn)⟩
  | high hr hn ih =>
    rcases ih with rfl | ⟨hs, h | h⟩
    · exact .inr ⟨hn, .inr (.root (List.mem_singleton.2 rfl))⟩
    · exact .inr ⟨hs, .inl (.high h hn)⟩
    · exact .inr ⟨hs, .inr (.high h hn)⟩
theorem reach_var (ok : Ar.Ok L) {s x : Int} (h : Ar.Reach L [s] x) : Ar.var L s ≤ Ar.var L x := by
  induction h with
  | root hm => rw [List.mem_singleton.1 hm]; exact Int.le_refl _
  | low hr hn ih => have hc := Ar.ok_child ok hn; rw [Ar.var_node hn] at ih; omega
  | high hr hn ih => have hc := Ar.ok_child ok hn; rw [Ar.var_node hn] at ih; omega
/-- Does a diagram hang on a variable? -/
def Dep (L : List Nd) (r v : Int) : Prop := ∃ t, Ar.ev (st t v false) L r ≠ Ar.ev (st t v true) L r
theorem dep_node (ok : Ar.Ok L) {x : Int} (hb : Ar.Bo L x) (hn : Ar.isN L x) : Dep L x (Ar.nd L x).v := by
  have hc := Ar.ok_child ok hn
  have hch := hb.child hn
  apply Classical.byContradiction
  intro hd
  have hall : ∀ t, Ar.ev t L (Ar.nd L x).l = Ar.ev t L (Ar.nd L x).h := fun t => by
    apply Classical.byContradiction
    intro hne
    refine hd ⟨t, ?_⟩
    rw [Ar.ev_node ok hn, Ar.ev_node ok hn]
    have e1 : st t (Ar.nd L x).v false (Ar.nd L x).v = false := by unfold st; rw [if_pos rfl]
    have e2 : st t (Ar.nd L x).v true (Ar.nd L x).v = true := by unfold st; rw [if_pos rfl]
    rw [e1, e2, if_neg (by decide), if_pos rfl, ev_ind ok hch.1.lt (by omega), ev_ind ok hch.2.lt (by omega)]
    exact hne
  exact hc.2.2.1 (Ar.canonB ok hch.1 hch.2 hall)
theorem dep_reach (ok : Ar.Ok L) {r x : Int} (hb : Ar.Bo L r) (hr : Ar.Reach L [r] x) (hn : Ar.isN L x) : Dep L r (Ar.nd L x).v := by
  induction hb with
  | no =>
    rcases reach_split hr with rfl | ⟨h, _⟩
    · exact absurd hn (Ar.isN_not_neg (by decide))
    · exact absurd h (Ar.isN_not_neg (by decide))
  | yes =>
    rcases reach_split hr with rfl | ⟨h, _⟩
    · exact absurd hn (Ar.isN_not_neg (by decide))
    · exact absurd h (Ar.isN_not_neg (by decide))
  | @node r hs h1 h2 ih1 ih2 =>
    have hc := Ar.ok_child ok hs
    rcases reach_split hr with e | ⟨_, h | h⟩
    · subst e
      exact dep_node ok (.node hs h1 h2) hn
    · obtain ⟨t, ht⟩ := ih1 h
      have hv := reach_var ok h
      rw [Ar.var_node hn] at hv
      refine ⟨st t (Ar.nd L r).v false, ?_⟩
      have hne : (Ar.nd L r).v ≠ (Ar.nd L x).v := fun e => by omega
      rw [st_comm hne, st_comm hne, Ar.ev_node ok hs, Ar.ev_node ok hs]
      have e : ∀ t' : Int → Bool, st t' (Ar.nd L r).v false (Ar.nd L r).v = false := fun t' => by unfold st; rw [if_pos rfl]
      rw [e, e, if_neg (by decide), if_neg (by decide), ev_ind (v := (Ar.nd L r).v) (b := false) ok h1.lt (by omega), ev_ind (v := (Ar.nd L r).v) (b := false) ok h1.lt (by omega)]
      exact ht
    · obtain ⟨t, ht⟩ := ih2 h
      have hv := reach_var ok h
      rw [Ar.var_node hn] at hv
      refine ⟨st t (Ar.nd L r).v true, ?_⟩
      have hne : (Ar.nd L r).v ≠ (Ar.nd L x).v := fun e => by omega
      rw [st_comm hne, st_comm hne, Ar.ev_node ok hs, Ar.ev_node ok hs]
      have e : ∀ t' : Int → Bool, st t' (Ar.nd L r).v true (Ar.nd L r).v = true := fun t' => by unfold st; rw [if_pos rfl]
      rw [e, e, if_pos rfl, if_pos rfl, ev_ind (v := (Ar.nd L r).v) (b := true) ok h2.lt (by omega), ev_ind (v := (Ar.nd L r).v) (b := true) ok h2.lt (by omega)]
      exact ht
theorem inn_reach {r : Int} (hb : Ar.Bo L r) (h : ∀ x, Ar.Reach L [r] x → Ar.isN L x → V (Ar.nd L x).v.toNat = true) : Inn L V r := by
  induction hb with
  | no => exact .leaf (by decide)
  | yes => exact .leaf (by decide)
  | @node r hs h1 h2 ih1 ih2 =>
    have self : Ar.Reach L [r] r := .root (List.mem_singleton.2 rfl)
    exact .node hs (h _ self hs) (ih1 (fun x hx => h x (Ar.Reach.from (.low self hs) hx))) (ih2 (fun x hx => h x (Ar.Reach.from (.high self hs) hx)))
/-- It hangs on a variable just if a node of it lies below. -/
theorem dep_iff (ok : Ar.Ok L) {r v : Int} (h0 : 0 ≤ v) (hb : Ar.Bo L r) : Dep L r v ↔ ∃ x, Ar.Reach L [r] x ∧ Ar.isN L x ∧ (Ar.nd L x).v = v := by
  constructor
  · intro ⟨t, ht⟩
    apply Classical.byContradiction
    intro hne
    have hi : Inn L (fun u => decide (u ≠ v.toNat)) r := inn_reach hb (fun x hx hn => by
      have hc := (Ar.ok_child ok hn).1
      have : (Ar.nd L x).v.toNat ≠ v.toNat := fun e => hne ⟨x, hx, hn, by omega⟩
      exact decide_eq_true this)
    exact ht ((ev_other ok h0 hi t).trans (ev_other ok h0 hi t).symm)
  · rintro ⟨x, hx, hn, rfl⟩
    exact dep_reach ok hb hx hn
theorem under_iff (ok : Ar.Ok L) {r x : Int} : x ∈ Ar.under L r ↔ Ar.Reach L [r] x := by
  have hs := Ar.under_seen ok r
  have each : ∀ x ∈ Ar.under L r, Ar.Reach L [r] x ∧ (Ar.isN L x → (Ar.nd L x).l ∈ Ar.under L r ∧ (Ar.nd L x).h ∈ Ar.under L r) := fun x hx => by
    rcases hs.each x hx with h | h
    · simp at h
    · exact h
  constructor
  · intro h; exact (each x h).1
  · intro h
    induction h with
    | root hm => rw [List.mem_singleton.1 hm]; exact hs.self
    | low _ hn ih => exact ((each _ ih).2 hn).1
    | high _ hn ih => exact ((each _ ih).2 hn).2
/-! the number of all its variables -/
theorem testBit_bitN (n v : Nat) : n.testBit v = bitN n v := by
  rw [Nat.testBit_eq_decide_div_mod_eq]
  unfold bitN
  rw [Bool.eq_iff_iff]
  simp
theorem bits_ext {n m : Nat} (hn : n < 4096) (hm : m < 4096) (h : ∀ v, v < 12 → bitN n v = bitN m v) : n = m := by
  refine Nat.eq_of_testBit_eq (fun v => ?_)
  rw [testBit_bitN, testBit_bitN]
  by_cases hv : v < 12
  · exact h v hv
  · have hp : 4096 ≤ 2 ^ v := Nat.le_trans (by decide : 4096 ≤ 2 ^ 12) (Nat.pow_le_pow_right (by decide) (by omega))
    unfold bitN
    rw [Nat.div_eq_of_lt (by omega), Nat.div_eq_of_lt (by omega)]
theorem or_nat (s p : Nat) (hs : s < 18446744073709551616) (hp : p < 18446744073709551616) : Go.bits BinOp.or IntKind.u64 ((s : Nat) : Int) ((p : Nat) : Int) = ((s ||| p : Nat) : Int) := by
  show IntKind.u64.wrap ((BitVec.ofInt 64 ((s : Nat) : Int) ||| BitVec.ofInt 64 ((p : Nat) : Int)).toNat : Int) = _
  have e2 : (BitVec.ofInt 64 ((s : Nat) : Int)).toNat = s := by
    rw [BitVec.ofInt_natCast, BitVec.toNat_ofNat]; exact Nat.mod_eq_of_lt (by omega)
  have e3 : (BitVec.ofInt 64 ((p : Nat) : Int)).toNat = p := by
    rw [BitVec.ofInt_natCast, BitVec.toNat_ofNat]; exact Nat.mod_eq_of_lt (by omega)
  have hlt : s ||| p < 2 ^ 64 := Nat.or_lt_two_pow hs hp
  rw [BitVec.toNat_or, e2, e3, IntKind.wrap_u64]
  generalize s ||| p = q at *
  omega
def orF (L : List Nd) (l : List Int) (s : Nat) : Nat := l.foldl (fun s r => if Ar.isN L r then s ||| 2 ^ (Ar.nd L r).v.toNat else s) s
theorem sup_or (ok : Ar.Ok L) : ∀ (l : List Int) (s : Nat), s < 4096 → l.foldl (sup1 L) (s : Int) = ((orF L l s : Nat) : Int) ∧ orF L l s < 4096 ∧ ∀ v, bitN (orF L l s) v = (bitN s v || l.any fun x => decide (Ar.isN L x) && decide ((Ar.nd L x).v.toNat = v))
  | [], s, hs => ⟨rfl, hs, fun v => by simp [orF]⟩
  | x :: l, s, hs => by
    by_cases hn : Ar.isN L x
    · have hc := Ar.ok_child ok hn
      obtain ⟨k, hk⟩ := Int.eq_ofNat_of_zero_le hc.1
      have hk12 : k < 12 := by omega
      have hp : (2 : Nat) ^ k ≤ 2048 := Nat.pow_le_pow_right (by decide) (show k ≤ 11 by omega)
      have e1 : sup1 L (s : Int) x = ((s ||| 2 ^ k : Nat) : Int) := by
        unfold sup1
        rw [if_pos hn, hk, Int.toNat_natCast]
        have ew : IntKind.u64.wrap ((2 : Int) ^ k) = ((2 ^ k : Nat) : Int) := by
          rw [IntKind.wrap_u64]
          have : ((2 : Int) ^ k) = ((2 ^ k : Nat) : Int) := by simp
          rw [this]
          generalize 2 ^ k = q at *
          omega
        rw [ew, or_nat _ _ (by omega) (by generalize 2 ^ k = q at *; omega)]
      have hlt : s ||| 2 ^ k < 4096 := Nat.or_lt_two_pow (n := 12) hs (by generalize 2 ^ k = q at *; omega)
      obtain ⟨h1, h2, h3⟩ := sup_or ok l (s ||| 2 ^ k) hlt
      have eo : orF L (x :: l) s = orF L l (s ||| 2 ^ k) := by
        unfold orF
        rw [List.foldl_cons, if_pos hn, hk, Int.toNat_natCast]
      rw [eo]
      refine ⟨by rw [List.foldl_cons, e1]; exact h1, h2, fun v => ?_⟩
      rw [h3]
      have eb : bitN (s ||| 2 ^ k) v = (bitN s v || decide (k = v)) := by
        rw [← testBit_bitN, ← testBit_bitN, Nat.testBit_or, Nat.testBit_two_pow]
      rw [eb, List.any_cons, decide_eq_true hn, hk, Int.toNat_natCast, Bool.true_and, Bool.or_assoc]
    · have eo : orF L (x :: l) s = orF L l s := by
        unfold orF
        rw [List.foldl_cons, if_neg hn]
      obtain ⟨h1, h2, h3⟩ := sup_or ok l s hs
      rw [eo]
      refine ⟨?_, h2, fun v => ?_⟩
      · rw [List.foldl_cons]
        have : sup1 L (s : Int) x = s := by unfold sup1; rw [if_neg hn]
        rw [this]; exact h1
      · rw [h3, List.any_cons, decide_eq_false hn, Bool.false_and, Bool.false_or]
/-- Support tells the bits on which a diagram hangs. -/
theorem supp_bits (ok : Ar.Ok L) {r : Int} (hb : Ar.Bo L r) : ∃ m : Nat, suppF L r = (m : Int) ∧ m < 4096 ∧ ∀ v, v < 12 → (bitN m v = true ↔ Dep L r (v : Int)) := by
  obtain ⟨h1, h2, h3⟩ := sup_or ok (Ar.under L r) 0 (by decide)
  refine ⟨_, ?_, h2, fun v hv => ?_⟩
  · unfold suppF
    rw [if_pos ((Ar.isb_iff ok r).2 hb)]
    exact h1
  · rw [h3]
    have e0 : bitN 0 v = false := by unfold bitN; rw [Nat.zero_div]; rfl
    rw [e0, Bool.false_or, List.any_eq_true, dep_iff ok (by omega) hb]
    constructor
    · rintro ⟨x, hx, h⟩
      rw [Bool.and_eq_true, decide_eq_true_eq, decide_eq_true_eq] at h
      have := (Ar.ok_child ok h.1).1
      exact ⟨x, (under_iff ok).1 hx, h.1, by omega⟩
    · rintro ⟨x, hx, hn, e⟩
      exact ⟨x, (under_iff ok).2 hx, by rw [Bool.and_eq_true, decide_eq_true_eq, decide_eq_true_eq]; exact ⟨hn, by rw [e]; rfl⟩⟩
/-! the document's -/
def hangs (T : List Bool) (v : Nat) : Bool := (List.range 4096).any fun n => T.getD (withN n v false) false != T.getD (withN n v true) false
theorem hangs_iff (ok : Ar.Ok L) {r : Int} {T : List Bool} (h : Sem L r T) {v : Nat} (hv : v < 12) : hangs T v = true ↔ Dep L r (v : Int) := by
  unfold hangs
  rw [List.any_eq_true]
  have E := fun (n : Nat) (hn : n < 4096) (b : Bool) => (ev_st (v := (v : Int)) ok hn (by omega) (by omega) b r).trans (h.ev _ (withN_lt (K := 12) b hn (by omega)))
  constructor
  · rintro ⟨n, hn, hne⟩
    rw [List.mem_range] at hn
    refine ⟨bt (n : Int), ?_⟩
    rw [E n hn, E n hn, Int.toNat_natCast]
    simpa using hne
  · rintro ⟨t, ht⟩
    have hl := bitsOf_lt (fun n => t (n : Int)) 12
    have hn : bitsOf (fun n => t (n : Int)) 12 < 4096 := by simpa using hl
    refine ⟨bitsOf (fun n => t (n : Int)) 12, List.mem_range.2 hn, ?_⟩
    have hc : ∀ b, Ar.ev (st t (v : Int) b) L r = Ar.ev (st (bt ((bitsOf (fun n => t (n : Int)) 12 : Nat) : Int)) (v : Int) b) L r := fun b => by
      refine ev_congr ok (fun u h0 h1 => ?_) r
      obtain ⟨u, rfl⟩ := Int.eq_ofNat_of_zero_le h0
      unfold st
      by_cases e : (u : Int) = (v : Int)
      · rw [if_pos e, if_pos e]
      · rw [if_neg e, if_neg e, bt_bitN _ _ (by omega), bitsOf_bit _ 12 u (by omega)]
    rw [hc, hc, E _ hn, E _ hn, Int.toNat_natCast] at ht
    simpa using ht
def supT (T : List Bool) : Nat := bitsOf (hangs T) 12
theorem supT_lt (T : List Bool) : supT T < 4096 := by
  unfold supT
  exact Nat.lt_of_lt_of_le (bitsOf_lt (hangs T) 12) (by decide)
theorem supT_bit (T : List Bool) (v : Nat) (hv : v < 12) : bitN (supT T) v = hangs T v := by
  unfold supT
  exact bitsOf_bit _ 12 v hv
theorem supp_sem (ok : Ar.Ok L) {r : Int} {T : List Bool} (h : Sem L r T) : suppF L r = ((supT T : Nat) : Int) := by
  obtain ⟨m, e, hm, hb⟩ := supp_bits ok h.bo
  rw [e]
  have hl := supT_lt T
  have hbit := supT_bit T
  generalize supT T = q at *
  have : m = q := bits_ext hm hl (fun v hv => by
    rw [hbit v hv, Bool.eq_iff_iff, hb v hv, hangs_iff ok h hv])
  rw [this]
end
end Go.Proofs.Ytiagkbmhfgdffaa
