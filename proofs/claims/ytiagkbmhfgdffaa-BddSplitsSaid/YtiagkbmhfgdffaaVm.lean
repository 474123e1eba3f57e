/- Plain law of BddSplits: a diagram is its halves; there is room for all of it. -/
import Derived.Test.YtiagkbmhfgdffaaGe
set_option linter.unusedVariables false
set_option linter.unusedSimpArgs false
namespace Go.Proofs.Ytiagkbmhfgdffaa
section
variable {lim : Int} {L L' : List Nd} {V : Nat → Bool}
theorem ite_cn {may : Bool} {is : List Nd → Int → Prop} {r : List Nd × Int × Int} {c : Nat} (h : Told lim L may r is) (hm : may = true) (hc : Cnt V L c r) (hroom : (L.length : Int) + c < lim) : r.2.2 = 0 ∧ is r.1 r.2.1 := by
  obtain ⟨_, _, h | ⟨_, _, _, hl⟩ | ⟨_, _, hf, _⟩⟩ := h
  · exact ⟨h.1, h.2.2⟩
  · have := hc.1; omega
  · rw [hm] at hf; cases hf
def p1 (lim : Int) (L : List Nd) (f v : Int) := rstF lim L f v false
def p2 (lim : Int) (L : List Nd) (f v : Int) := rstF lim (p1 lim L f v).1 f v true
def p3 (lim : Int) (L : List Nd) (f v bit : Int) := iteF lim (p2 lim L f v).1 bit (p2 lim L f v).2.1 (p1 lim L f v).2.1
def p4 (lim : Int) (L : List Nd) (f v bit : Int) := exF lim (p3 lim L f v bit).1 f v
def p5 (lim : Int) (L : List Nd) (f v bit : Int) := cpF lim (p4 lim L f v bit).1 f v bit
structure SplitOk (lim : Int) (L : List Nd) (f v bit : Int) (c : Nat) : Prop where
  e1 : (p1 lim L f v).2.2 = 0
  e2 : (p2 lim L f v).2.2 = 0
  e3 : (p3 lim L f v bit).2.2 = 0
  e4 : (p4 lim L f v bit).2.2 = 0
  e5 : (p5 lim L f v bit).2.2 = 0
  both : (p3 lim L f v bit).2.1 = f
  same : (p5 lim L f v bit).2.1 = f
  ok : Ar.Ok (p5 lim L f v bit).1
  pre : L <+: (p5 lim L f v bit).1
  len : (p5 lim L f v bit).1.length ≤ L.length + c
  b1 : Ar.Bo (p5 lim L f v bit).1 (p1 lim L f v).2.1
  b2 : Ar.Bo (p5 lim L f v bit).1 (p2 lim L f v).2.1
  b4 : Ar.Bo (p5 lim L f v bit).1 (p4 lim L f v bit).2.1
  n1 : ¬ Dep (p5 lim L f v bit).1 (p1 lim L f v).2.1 v
  n2 : ¬ Dep (p5 lim L f v bit).1 (p2 lim L f v).2.1 v
  n4 : ¬ Dep (p5 lim L f v bit).1 (p4 lim L f v bit).2.1 v
  l1 : (p1 lim L f v).1.length < 100000000000
  l2 : (p2 lim L f v).1.length < 100000000000
  l3 : (p3 lim L f v bit).1.length < 100000000000
  l4 : (p4 lim L f v bit).1.length < 100000000000
theorem st_st (t : Int → Bool) (v : Int) (b c : Bool) : st (st t v b) v c = st t v c := by
  unfold st
  funext i
  split <;> rfl
theorem st_self {t : Int → Bool} {v : Int} {b : Bool} (h : t v = b) : st t v b = t := by
  unfold st
  funext i
  split
  · rename_i e; rw [e, h]
  · rfl
theorem not_dep (ok : Ar.Ok L) (hp : L <+: L') {x v : Int} (hb : Ar.Bo L x) {F : (Int → Bool) → Bool} (h : ∀ t, Ar.ev t L x = F t) (hF : ∀ t, F (st t v false) = F (st t v true)) : ¬ Dep L' x v := by
  rintro ⟨t, ht⟩
  rw [Ar.ev_pre ok hp hb.lt, Ar.ev_pre ok hp hb.lt, h, h] at ht
  exact ht (hF t)
set_option maxHeartbeats 1000000 in
theorem split_ok (hlim : lim ≤ 65536) (ok : Ar.Ok L) {f v bit : Int} (h0 : 0 ≤ v) (h12 : v < 12) (hf : Ar.Bo L f) (hbit : Says L bit (fun t => t v)) (jf : Inn L V f) (jb : Inn L V bit) {c : Nat} (hc : c = 9 * (2 ^ rk V 0 - 1))
    (hroom : (L.length : Int) + c < lim) : SplitOk lim L f v bit c := by
  generalize hq : 2 ^ rk V 0 - 1 = q at hc
  have hm1 : mayb L v [f] = true := (mayb_iff ok).2 ⟨fun x hx => by rw [List.mem_singleton] at hx; rw [hx]; exact hf, h0, h12⟩
  have t1 : Told lim L (mayb L v [f]) (p1 lim L f v) (fun L' x => Says L' x (fun t => Ar.ev (st t v false) L f)) := rst_says ok f v false
  have k1 : Cnt V L q (p1 lim L f v) := hq ▸ rstF_cnt ok v false jf
  obtain ⟨e1, s1⟩ := ite_cn t1 hm1 k1 (by omega)
  have ok1 := t1.1
  have pr1 := t1.2.1
  have hm2 : mayb (p1 lim L f v).1 v [f] = true := (mayb_iff ok1).2 ⟨fun x hx => by rw [List.mem_singleton] at hx; rw [hx]; exact hf.pre pr1, h0, h12⟩
  have t2 : Told lim (p1 lim L f v).1 (mayb (p1 lim L f v).1 v [f]) (p2 lim L f v) (fun L' x => Says L' x (fun t => Ar.ev (st t v true) (p1 lim L f v).1 f)) := rst_says ok1 f v true
  have k2 : Cnt V (p1 lim L f v).1 q (p2 lim L f v) := hq ▸ rstF_cnt ok1 v true (jf.pre pr1)
  have c1 := k1.1
  obtain ⟨e2, s2⟩ := ite_cn t2 hm2 k2 (by omega)
  have ok2 := t2.1
  have pr2 := t2.2.1
  have c2 := k2.1
  have hm3 : mayb (p2 lim L f v).1 0 [bit, (p2 lim L f v).2.1, (p1 lim L f v).2.1] = true := (mayb_iff ok2).2 ⟨fun x hx => by
    simp only [List.mem_cons, List.not_mem_nil, or_false] at hx
    rcases hx with rfl | rfl | rfl
    · exact hbit.1.pre (pr1.trans pr2)
    · exact s2.1
    · exact s1.1.pre pr2, by decide, by decide⟩
  have t3 : Told lim (p2 lim L f v).1 (mayb (p2 lim L f v).1 0 [bit, (p2 lim L f v).2.1, (p1 lim L f v).2.1]) (p3 lim L f v bit) (fun L' x => Says L' x (fun t => if Ar.ev t (p2 lim L f v).1 bit then Ar.ev t (p2 lim L f v).1 (p2 lim L f v).2.1 else Ar.ev t (p2 lim L f v).1 (p1 lim L f v).2.1)) := ite_says ok2 bit (p2 lim L f v).2.1 (p1 lim L f v).2.1
  have k3 : Cnt V (p2 lim L f v).1 q (p3 lim L f v bit) := hq ▸ iteF_cnt ok2 (jb.pre (pr1.trans pr2)) (k2.2 e2) ((k1.2 e1).pre pr2)
  obtain ⟨e3, s3⟩ := ite_cn t3 hm3 k3 (by omega)
  have ok3 := t3.1
  have pr3 := t3.2.1
  have c3 := k3.1
  have hm4 : mayb (p3 lim L f v bit).1 v [f] = true := (mayb_iff ok3).2 ⟨fun x hx => by rw [List.mem_singleton] at hx; rw [hx]; exact hf.pre ((pr1.trans pr2).trans pr3), h0, h12⟩
  have t4 : Told lim (p3 lim L f v bit).1 (mayb (p3 lim L f v bit).1 v [f]) (p4 lim L f v bit) (fun L' x => Says L' x (fun t => Ar.ev (st t v false) (p3 lim L f v bit).1 f || Ar.ev (st t v true) (p3 lim L f v bit).1 f)) := exF_told ok3 f v
  have k4 : Cnt V (p3 lim L f v bit).1 (3 * q) (p4 lim L f v bit) := hq ▸ exF_cnt ok3 v (jf.pre ((pr1.trans pr2).trans pr3))
  obtain ⟨e4, s4⟩ := ite_cn t4 hm4 k4 (by omega)
  have ok4 := t4.1
  have pr4 := t4.2.1
  have c4 := k4.1
  have pr04 := ((pr1.trans pr2).trans pr3).trans pr4
  have hm5 : mayb (p4 lim L f v bit).1 v [f, bit] = true := (mayb_iff ok4).2 ⟨fun x hx => by
    simp only [List.mem_cons, List.not_mem_nil, or_false] at hx
    rcases hx with rfl | rfl
    · exact hf.pre pr04
    · exact hbit.1.pre pr04, h0, h12⟩
  have t5 : Told lim (p4 lim L f v bit).1 (mayb (p4 lim L f v bit).1 v [f, bit]) (p5 lim L f v bit) (fun L' x => Says L' x (fun t => if Ar.ev t (p4 lim L f v bit).1 bit then Ar.ev (st t v true) (p4 lim L f v bit).1 f else Ar.ev (st t v false) (p4 lim L f v bit).1 f)) := cpF_told ok4 f v bit
  have k5 : Cnt V (p4 lim L f v bit).1 (3 * q) (p5 lim L f v bit) := hq ▸ cpF_cnt ok4 v (jf.pre pr04) (jb.pre pr04)
  obtain ⟨e5, s5⟩ := ite_cn t5 hm5 k5 (by omega)
  have ok5 := t5.1
  have pr5 := t5.2.1
  have c5 := k5.1
  have d5 : (p5 lim L f v bit).1.length ≤ L.length + 9 * q := by omega
  have pr05 := pr04.trans pr5
  have E := fun t => Ar.ev_pre ok pr1 hf.lt (t := t)
  refine ⟨e1, e2, e3, e4, e5, ?_, ?_, ok5, pr05, by rw [hc]; exact d5, (((s1.1.pre pr2).pre pr3).pre pr4).pre pr5, ((s2.1.pre pr3).pre pr4).pre pr5, s4.1.pre pr5, ?_, ?_, ?_, by omega, by omega, by omega, by omega⟩
  · refine Ar.canonB ok3 s3.1 (hf.pre ((pr1.trans pr2).trans pr3)) (fun t => ?_)
    show Ar.ev t (p3 lim L f v bit).1 (p3 lim L f v bit).2.1 = _
    rw [show Ar.ev t (p3 lim L f v bit).1 (p3 lim L f v bit).2.1 = _ from s3.2 t]
    dsimp only
    rw [Ar.ev_pre ok ((pr1.trans pr2).trans pr3) hf.lt, Ar.ev_pre ok (pr1.trans pr2) hbit.1.lt, hbit.2 t]
    rw [show Ar.ev t (p2 lim L f v).1 (p2 lim L f v).2.1 = _ from s2.2 t, show Ar.ev t (p2 lim L f v).1 (p1 lim L f v).2.1 = _ from (Ar.ev_pre ok1 pr2 s1.1.lt).trans (s1.2 t)]
    dsimp only
    rw [Ar.ev_pre ok pr1 hf.lt]
    by_cases hv : t v = true
    · rw [if_pos hv, st_self hv]
    · rw [if_neg hv, st_self (by simpa using hv)]
  · refine Ar.canonB ok5 s5.1 (hf.pre pr05) (fun t => ?_)
    rw [show Ar.ev t (p5 lim L f v bit).1 (p5 lim L f v bit).2.1 = _ from s5.2 t]
    dsimp only
    rw [show Ar.ev t (p5 lim L f v bit).1 f = _ from Ar.ev_pre ok pr05 hf.lt]
    rw [show Ar.ev t (p4 lim L f v bit).1 bit = _ from (Ar.ev_pre ok pr04 hbit.1.lt).trans (hbit.2 t)]
    rw [show ∀ t, Ar.ev t (p4 lim L f v bit).1 f = Ar.ev t L f from fun t => Ar.ev_pre ok pr04 hf.lt, show ∀ t, Ar.ev t (p4 lim L f v bit).1 f = Ar.ev t L f from fun t => Ar.ev_pre ok pr04 hf.lt]
    by_cases hv : t v = true
    · rw [if_pos hv, st_self hv]
    · rw [if_neg hv, st_self (by simpa using hv)]
  · exact not_dep ok1 (((pr2.trans pr3).trans pr4).trans pr5) s1.1 s1.2 (fun t => by rw [st_st, st_st])
  · exact not_dep ok2 ((pr3.trans pr4).trans pr5) s2.1 s2.2 (fun t => by rw [st_st, st_st])
  · exact not_dep ok4 pr5 s4.1 s4.2 (fun t => by rw [st_st, st_st, st_st, st_st])
/-! how many nodes come of a script, and of its splits -/
def Vl (ys : List Nat) (u : Nat) : Bool := ys.any fun y => y == u
theorem countP_or {α : Type} (p q : α → Bool) (l : List α) : l.countP (fun x => p x || q x) ≤ l.countP p + l.countP q := by
  induction l with
  | nil => simp
  | cons a l ih =>
    simp only [List.countP_cons]
    cases p a <;> cases q a <;> simp <;> omega
theorem countP_one (y : Nat) : ∀ n, (List.range n).countP (fun u => y == u) ≤ 1 ∧ (n ≤ y → (List.range n).countP (fun u => y == u) = 0)
  | 0 => by simp
  | n + 1 => by
    have ih := countP_one y n
    rw [List.range_succ, List.countP_append]
    simp only [List.countP_cons, List.countP_nil]
    by_cases h : y = n
    · subst h
      rw [ih.2 (Nat.le_refl _)]
      simp
    · have : (y == n) = false := beq_eq_false_iff_ne.2 h
      rw [this]
      refine ⟨by simpa using ih.1, fun hn => by simpa using ih.2 (by omega)⟩
theorem rk_le (ys : List Nat) : rk (Vl ys) 0 ≤ ys.length := by
  have e : ∀ (V : Nat → Bool), rk V 0 = (List.range 12).countP V := fun V => by
    unfold rk
    refine List.countP_congr (fun u _ => ?_)
    rw [decide_eq_true (show (0 : Int) ≤ (u : Int) by omega), Bool.true_and]
  rw [e]
  induction ys with
  | nil =>
    have : (List.range 12).countP (Vl []) = 0 := by decide
    omega
  | cons y ys ih =>
    have h1 := countP_or (fun u => y == u) (Vl ys) (List.range 12)
    have h2 := (countP_one y 12).1
    have e2 : Vl (y :: ys) = fun u => (y == u) || Vl ys u := by funext u; simp [Vl]
    rw [e2, List.length_cons]
    omega
theorem rk_12 (V : Nat → Bool) : rk V 0 ≤ 12 := by
  unfold rk
  have := List.countP_le_length (p := fun (u : Nat) => decide ((0 : Int) ≤ (u : Int)) && V u) (l := List.range 12)
  simpa using this
/-- What each diagram of a row costs. -/
def Fl (v : Nat) (s : R7) (cs : List Nat) : Prop := cs.length = s.l.length ∧ ∀ i (h : i < s.l.length) (h' : i < cs.length), ∃ V, Inn s.L V (s.l[i]) ∧ V v = true ∧ cs[i] = 9 * (2 ^ rk V 0 - 1)
theorem sumN_append (l m : List Nat) : sumN (l ++ m) = sumN l + sumN m := by
  induction l with
  | nil => simp [sumN]
  | cons a l ih => show a + sumN (l ++ m) = a + sumN l + sumN m; omega
theorem run_flags (hlim : lim ≤ 1073741824) {v : Nat} (hv : V v = true) : ∀ (xs : List Op7) (s : R7) (cs : List Nat), Good lim s → (∀ x ∈ s.l, Inn s.L V x) → (∀ o ∈ xs, o.kind = 0 → 0 ≤ o.v → o.v < 12 → V o.v.toNat = true) →
    s.L.length + sumN (xs.map (cost V)) < lim → Fl v s cs →
    ∃ cs', Fl v (xs.foldl (stepR7 lim) s) cs' ∧ sumN cs' ≤ sumN cs + sumN (xs.map fun o => if o.kind = 0 then 27 else 9 * (2 ^ rk V 0 - 1))
  | [], s, cs, g, hj, hV, hl, hf => ⟨cs, hf, by simp [sumN]⟩
  | o :: xs, s, cs, g, hj, hV, hl, hf => by
    have hc := doesF_cnt hlim g hj o (hV o (by simp))
    have hsum : sumN ((o :: xs).map (cost V)) = cost V o + sumN (xs.map (cost V)) := rfl
    have hsum2 : sumN ((o :: xs).map fun o => if o.kind = 0 then 27 else 9 * (2 ^ rk V 0 - 1)) = (if o.kind = 0 then 27 else 9 * (2 ^ rk V 0 - 1)) + sumN (xs.map fun o => if o.kind = 0 then 27 else 9 * (2 ^ rk V 0 - 1)) := rfl
    have hpre : s.L <+: (doesF lim s.L s.l o).1 := (doesF_told (lim := lim) g.ok (by have := g.room; omega) g.bo o).2.1
    rw [hsum] at hl
    rw [hsum2, List.foldl_cons]
    have key : (∀ x ∈ (stepR7 lim s o).l, Inn (stepR7 lim s o).L V x) ∧ (stepR7 lim s o).L.length ≤ s.L.length + cost V o ∧ ∃ cs', Fl v (stepR7 lim s o) cs' ∧ sumN cs' ≤ sumN cs + (if o.kind = 0 then 27 else 9 * (2 ^ rk V 0 - 1)) := by
      rcases step_cases hlim g o with ⟨_, _, e⟩ | ⟨_, _, hfull, e⟩ | ⟨hm, h0, hs, e⟩
      · rw [e]; exact ⟨hj, by omega, cs, hf, by omega⟩
      · have := hc.1; omega
      · rw [e]
        refine ⟨fun x hx => ?_, hc.1, ?_⟩
        · rcases List.mem_append.1 hx with hx | hx
          · exact (hj x hx).pre hpre
          · rw [List.mem_singleton] at hx
            rw [hx]; exact hc.2 h0
        · obtain ⟨V', c', i', hv', hle⟩ : ∃ (V' : Nat → Bool) (c' : Nat), Inn (doesF lim s.L s.l o).1 V' (doesF lim s.L s.l o).2.1 ∧ V' v = true ∧ c' = 9 * (2 ^ rk V' 0 - 1) ∧ c' ≤ (if o.kind = 0 then 27 else 9 * (2 ^ rk V 0 - 1)) := by
            by_cases hk : o.kind = 0
            · rw [if_pos hk]
              have ed : doesF lim s.L s.l o = varF lim s.L o.v := by unfold doesF; rw [if_pos hk]
              rw [ed] at h0 ⊢
              have hcv := varF_cnt (lim := lim) (L := s.L) (V := Vl [o.v.toNat, v]) o.v (fun _ _ => by simp [Vl])
              refine ⟨Vl [o.v.toNat, v], _, hcv.2 h0, by simp [Vl], rfl, ?_⟩
              have hr := rk_le [o.v.toNat, v]
              have hr2 : 2 ^ rk (Vl [o.v.toNat, v]) 0 ≤ 2 ^ 2 := Nat.pow_le_pow_right (by decide) (by simpa using hr)
              generalize 2 ^ rk (Vl [o.v.toNat, v]) 0 = q at *
              omega
            · rw [if_neg hk]
              exact ⟨V, _, hc.2 h0, hv, rfl, Nat.le_refl _⟩
          refine ⟨cs ++ [c'], ⟨by simp [hf.1], fun i hi hi' => ?_⟩, by rw [sumN_append]; show sumN cs + (c' + 0) ≤ _; omega⟩
          have hl1 := hf.1
          by_cases hlt : i < s.l.length
          · obtain ⟨V1, j1, j2, j3⟩ := hf.2 i hlt (by omega)
            have a1 : (s.l ++ [(doesF lim s.L s.l o).2.1])[i]'(by simpa using hi) = s.l[i] := List.getElem_append_left hlt
            have a2 : (cs ++ [c'])[i] = cs[i]'(by omega) := List.getElem_append_left (by omega)
            exact ⟨V1, by show Inn _ V1 ((s.l ++ [(doesF lim s.L s.l o).2.1])[i]); rw [a1]; exact j1.pre hpre, j2, by rw [a2]; exact j3⟩
          · have hi1 : i < s.l.length + 1 := by simpa using hi
            obtain rfl : i = s.l.length := by omega
            have a1 : (s.l ++ [(doesF lim s.L s.l o).2.1])[s.l.length]'(by simp) = (doesF lim s.L s.l o).2.1 := by simp
            have a2 : (cs ++ [c'])[s.l.length] = c' := by simp [← hl1]
            exact ⟨V', by show Inn _ V' ((s.l ++ [(doesF lim s.L s.l o).2.1])[s.l.length]); rw [a1]; exact i', hv', by rw [a2]; exact hle.1⟩
    obtain ⟨k1, k2, cs', k3, k4⟩ := key
    obtain ⟨cs2, q1, q2⟩ := run_flags hlim hv xs (stepR7 lim s o) cs' (g.step hlim o) k1 (fun o' ho' => hV o' (List.mem_cons_of_mem _ ho')) (by omega) k3
    exact ⟨cs2, q1, by omega⟩
theorem sum_split (a b : Nat) (xs : List Op7) : sumN (xs.map fun o => if o.kind = 0 then a else b) = (xs.filter fun o => decide (o.kind = 0)).length * a + (xs.length - (xs.filter fun o => decide (o.kind = 0)).length) * b := by
  induction xs with
  | nil => simp [sumN]
  | cons o xs ih =>
    have hle := List.length_filter_le (fun o : Op7 => decide (o.kind = 0)) xs
    show (if o.kind = 0 then a else b) + sumN (xs.map fun o => if o.kind = 0 then a else b) = _
    rw [ih]
    by_cases h : o.kind = 0
    · rw [if_pos h, List.filter_cons_of_pos (by simpa using h), List.length_cons, List.length_cons, Nat.succ_mul]
      have : xs.length + 1 - ((xs.filter fun o => decide (o.kind = 0)).length + 1) = xs.length - (xs.filter fun o => decide (o.kind = 0)).length := by omega
      rw [this]
      omega
    · rw [if_neg h, List.filter_cons_of_neg (by simpa using h), List.length_cons]
      have : xs.length + 1 - (xs.filter fun o => decide (o.kind = 0)).length = (xs.length - (xs.filter fun o => decide (o.kind = 0)).length) + 1 := by omega
      rw [this, Nat.succ_mul]
      omega
theorem split_sum {k m K : Nat} (hk : k + m ≤ 12) (hK : K ≤ k + 1) (hK2 : K ≤ 12) : k * 1 + m * (3 * (2 ^ K - 1)) + (k * 27 + m * (9 * (2 ^ K - 1))) + 100 < 65000 := by
  have h1 : 2 ^ K ≤ 2 ^ (k + 1) := Nat.pow_le_pow_right (by decide) hK
  have h2 : 2 ^ K ≤ 2 ^ 12 := Nat.pow_le_pow_right (by decide) hK2
  have h3 : 1 ≤ 2 ^ K := Nat.two_pow_pos K
  generalize 2 ^ K = q at *
  have hm : m * (3 * (q - 1)) + m * (9 * (q - 1)) = 12 * (m * (q - 1)) := by
    rw [← Nat.mul_assoc, ← Nat.mul_assoc, Nat.mul_comm m 3, Nat.mul_comm m 9, Nat.mul_assoc, Nat.mul_assoc]; omega
  have hb : m * (q - 1) ≤ 4095 := by
    rcases (show k = 0 ∨ k = 1 ∨ k = 2 ∨ k = 3 ∨ k = 4 ∨ k = 5 ∨ k = 6 ∨ k = 7 ∨ k = 8 ∨ k = 9 ∨ k = 10 ∨ k = 11 ∨ k = 12 by omega) with rfl | rfl | rfl | rfl | rfl | rfl | rfl | rfl | rfl | rfl | rfl | rfl | rfl
    · exact Nat.le_trans (Nat.mul_le_mul (show m ≤ 12 by omega) (show q - 1 ≤ 1 by omega)) (by decide)
    · exact Nat.le_trans (Nat.mul_le_mul (show m ≤ 11 by omega) (show q - 1 ≤ 3 by omega)) (by decide)
    · exact Nat.le_trans (Nat.mul_le_mul (show m ≤ 10 by omega) (show q - 1 ≤ 7 by omega)) (by decide)
    · exact Nat.le_trans (Nat.mul_le_mul (show m ≤ 9 by omega) (show q - 1 ≤ 15 by omega)) (by decide)
    · exact Nat.le_trans (Nat.mul_le_mul (show m ≤ 8 by omega) (show q - 1 ≤ 31 by omega)) (by decide)
    · exact Nat.le_trans (Nat.mul_le_mul (show m ≤ 7 by omega) (show q - 1 ≤ 63 by omega)) (by decide)
    · exact Nat.le_trans (Nat.mul_le_mul (show m ≤ 6 by omega) (show q - 1 ≤ 127 by omega)) (by decide)
    · exact Nat.le_trans (Nat.mul_le_mul (show m ≤ 5 by omega) (show q - 1 ≤ 255 by omega)) (by decide)
    · exact Nat.le_trans (Nat.mul_le_mul (show m ≤ 4 by omega) (show q - 1 ≤ 511 by omega)) (by decide)
    · exact Nat.le_trans (Nat.mul_le_mul (show m ≤ 3 by omega) (show q - 1 ≤ 1023 by omega)) (by decide)
    · exact Nat.le_trans (Nat.mul_le_mul (show m ≤ 2 by omega) (show q - 1 ≤ 2047 by omega)) (by decide)
    · exact Nat.le_trans (Nat.mul_le_mul (show m ≤ 1 by omega) (show q - 1 ≤ 4095 by omega)) (by decide)
    · have : m = 0 := by omega
      subst this
      simp
  omega
/-- There is room for a script of a dozen ops, and all its splits. -/
theorem split_room {xs : List Op7} (h12 : xs.length ≤ 12) {v : Nat} (hv : v < 12) : (runR7 65536 xs).full = 0 ∧ ∃ cs, Fl v (runR7 65536 xs) cs ∧ (runR7 65536 xs).L.length + 1 + sumN cs < 65536 := by
  obtain ⟨ys, hys⟩ : ∃ ys, ys = v :: (xs.filter fun o => decide (o.kind = 0)).map fun o => o.v.toNat := ⟨_, rfl⟩
  have hK : rk (Vl ys) 0 ≤ (xs.filter fun o => decide (o.kind = 0)).length + 1 := by
    have := rk_le ys
    rw [hys, List.length_cons, List.length_map] at this
    rw [hys]; exact this
  have hle := List.length_filter_le (fun o : Op7 => decide (o.kind = 0)) xs
  have hsum := split_sum (k := (xs.filter fun o => decide (o.kind = 0)).length) (m := xs.length - (xs.filter fun o => decide (o.kind = 0)).length) (by omega) hK (rk_12 _)
  have hvV : Vl ys v = true := by rw [hys]; simp [Vl]
  have hV : ∀ o ∈ xs, o.kind = 0 → 0 ≤ o.v → o.v < 12 → Vl ys o.v.toNat = true := fun o ho hk _ _ => by
    rw [hys]
    unfold Vl
    rw [List.any_cons, Bool.or_eq_true, List.any_eq_true]
    exact .inr ⟨o.v.toNat, List.mem_map.2 ⟨o, List.mem_filter.2 ⟨ho, by simpa using hk⟩, rfl⟩, by simp⟩
  have hcost : sumN (xs.map (cost (Vl ys))) = (xs.filter fun o => decide (o.kind = 0)).length * 1 + (xs.length - (xs.filter fun o => decide (o.kind = 0)).length) * (3 * (2 ^ rk (Vl ys) 0 - 1)) := sum_split 1 (3 * (2 ^ rk (Vl ys) 0 - 1)) xs
  have hsp := sum_split 27 (9 * (2 ^ rk (Vl ys) 0 - 1)) xs
  have hroom : ((startR7.L.length : Nat) : Int) + (sumN (xs.map (cost (Vl ys))) : Nat) < 65536 := by
    show ((0 : Nat) : Int) + _ < _
    rw [hcost]
    omega
  have hj : ∀ x ∈ startR7.l, Inn startR7.L (Vl ys) x := fun x hx => by
    have hx' : x ∈ ([-1, -2] : List Int) := hx
    have : x = -1 ∨ x = -2 := by simpa using hx'
    rcases this with rfl | rfl <;> exact .leaf (by decide)
  obtain ⟨f1, _, f3⟩ := run_cnt (V := Vl ys) (lim := 65536) (by decide) xs startR7 Good.start hj hV hroom
  have hf0 : Fl v startR7 [9 * (2 ^ rk (Vl [v]) 0 - 1), 9 * (2 ^ rk (Vl [v]) 0 - 1)] := ⟨rfl, fun i hi hi' => by
    have hi2 : i < 2 := hi
    rcases (show i = 0 ∨ i = 1 by omega) with rfl | rfl
    · exact ⟨Vl [v], .leaf (show (-1 : Int) < 0 by decide), by simp [Vl], rfl⟩
    · exact ⟨Vl [v], .leaf (show (-2 : Int) < 0 by decide), by simp [Vl], rfl⟩⟩
  obtain ⟨cs, g1, g2⟩ := run_flags (lim := 65536) (by decide) hvV xs startR7 _ Good.start hj hV hroom hf0
  refine ⟨f1, cs, g1, ?_⟩
  have h0 : sumN [9 * (2 ^ rk (Vl [v]) 0 - 1), 9 * (2 ^ rk (Vl [v]) 0 - 1)] ≤ 18 := by
    have hr := rk_le [v]
    have hr2 : 2 ^ rk (Vl [v]) 0 ≤ 2 ^ 1 := Nat.pow_le_pow_right (by decide) (by simpa using hr)
    show _ + (_ + 0) ≤ _
    generalize 2 ^ rk (Vl [v]) 0 = q at *
    omega
  have f3' : (runR7 65536 xs).L.length ≤ 0 + sumN (xs.map (cost (Vl ys))) := f3
  rw [hsp] at g2
  rw [hcost] at f3'
  generalize sumN cs = z at *
  generalize (runR7 65536 xs).L.length = y at *
  omega
end
end Go.Proofs.Ytiagkbmhfgdffaa
