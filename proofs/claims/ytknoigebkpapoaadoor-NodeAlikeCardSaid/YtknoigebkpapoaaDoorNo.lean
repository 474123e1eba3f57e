/- Walks of the small calls of package node and of the document's, and of the node laws' alive and build. -/
import Derived.Test.YtknoigebkpapoaaDoorNe
import Derived.Test.YtknoigebkpapoaaDoorRb
import Derived.Test.YtknoigebkpapoaaDoorWk
set_option linter.unusedVariables false
set_option linter.unusedSimpArgs false
namespace Go.Proofs.YtknoigebkpapoaaDoor
open Go.RowKit Go.Deep
variable {w : World}

def Ar.term (k : Int) : Int := if k < 0 ∨ 1099511627776 < k then -1 else -1 - k
def Ar.value (r : Int) : Int := if 0 ≤ r ∨ r < -1099511627777 then 0 else -1 - r

theorem term_any (k x : Int) (hx : Ar.term k = x) (w : World) : Calls Tryd.prog 33 #[.int .i64 k] w fun e w' => e = .returned (.int .i64 x) ∧ w = w' := by
  rw [← hx]
  clear hx
  by_cases h : k < 0
  · have e : Ar.term k = -1 := by unfold Ar.term; rw [if_pos (.inl h)]
    rw [e]; clear e
    go_enter Tryd.func33, Tryd.ntmps33
    go_wp2
    go_ret
    exact ⟨rfl, rfl⟩
  · by_cases h2 : 1099511627776 < k
    · have e : Ar.term k = -1 := by unfold Ar.term; rw [if_pos (.inr h2)]
      rw [e]; clear e
      go_enter Tryd.func33, Tryd.ntmps33
      go_wp2
      go_ret
      exact ⟨rfl, rfl⟩
    · have e : Ar.term k = -1 - k := by unfold Ar.term; rw [if_neg (by omega)]
      rw [e]; clear e
      have h1 : 0 ≤ k := by omega
      have h3 : k ≤ 1099511627776 := by omega
      clear h h2
      go_enter Tryd.func33, Tryd.ntmps33
      go_wp2
      go_ret
      exact ⟨rfl, rfl⟩

theorem ref_term (k x : Int) (hx : Ar.term k = x) (w : World) : Calls Tryd.prog 34 #[.int .i64 k] w fun e w' => e = .returned (.int .i64 x) ∧ w = w' := by
  rw [← hx]
  clear hx
  by_cases h : k < 0
  · have e : Ar.term k = -1 := by unfold Ar.term; rw [if_pos (.inl h)]
    rw [e]; clear e
    go_enter Tryd.func34, Tryd.ntmps34
    go_wp2
    go_ret
    exact ⟨rfl, rfl⟩
  · by_cases h2 : 1099511627776 < k
    · have e : Ar.term k = -1 := by unfold Ar.term; rw [if_pos (.inr h2)]
      rw [e]; clear e
      go_enter Tryd.func34, Tryd.ntmps34
      go_wp2
      go_ret
      exact ⟨rfl, rfl⟩
    · have e : Ar.term k = -k - 1 := by unfold Ar.term; rw [if_neg (by omega)]; omega
      rw [e]; clear e
      have h1 : 0 ≤ k := by omega
      have h3 : k ≤ 1099511627776 := by omega
      clear h h2
      go_enter Tryd.func34, Tryd.ntmps34
      go_wp2
      go_ret
      exact ⟨rfl, rfl⟩

theorem value_any (r x : Int) (hx : Ar.value r = x) (w : World) : Calls Tryd.prog 35 #[.int .i64 r] w fun e w' => e = .returned (.int .i64 x) ∧ w = w' := by
  rw [← hx]
  clear hx
  by_cases h : 0 ≤ r
  · have e : Ar.value r = 0 := by unfold Ar.value; rw [if_pos (.inl h)]
    rw [e]; clear e
    go_enter Tryd.func35, Tryd.ntmps35
    go_wp2_with (go_at_call 33; refine (term_most _).mono ?_; rintro e w' ⟨rfl, rfl⟩)
    go_ret
    exact ⟨rfl, rfl⟩
  · by_cases h2 : r < -1099511627777
    · have e : Ar.value r = 0 := by unfold Ar.value; rw [if_pos (.inr h2)]
      rw [e]; clear e
      go_enter Tryd.func35, Tryd.ntmps35
      go_wp2_with (go_at_call 33; refine (term_most _).mono ?_; rintro e w' ⟨rfl, rfl⟩)
      go_ret
      exact ⟨rfl, rfl⟩
    · have e : Ar.value r = -1 - r := by unfold Ar.value; rw [if_neg (by omega)]
      rw [e]; clear e
      have h1 : r < 0 := by omega
      have h3 : -1099511627777 ≤ r := by omega
      clear h h2
      go_enter Tryd.func35, Tryd.ntmps35
      go_wp2_with (go_at_call 33; refine (term_most _).mono ?_; rintro e w' ⟨rfl, rfl⟩)
      go_ret
      exact ⟨rfl, rfl⟩

theorem ref_value (r x : Int) (hx : Ar.value r = x) (w : World) : Calls Tryd.prog 36 #[.int .i64 r] w fun e w' => e = .returned (.int .i64 x) ∧ w = w' := by
  rw [← hx]
  clear hx
  by_cases h : 0 ≤ r
  · have e : Ar.value r = 0 := by unfold Ar.value; rw [if_pos (.inl h)]
    rw [e]; clear e
    go_enter Tryd.func36, Tryd.ntmps36
    go_wp2_with (go_at_call 46; refine (ref_lowest _).mono ?_; rintro e w' ⟨rfl, rfl⟩)
    go_ret
    exact ⟨rfl, rfl⟩
  · by_cases h2 : r < -1099511627777
    · have e : Ar.value r = 0 := by unfold Ar.value; rw [if_pos (.inr h2)]
      rw [e]; clear e
      go_enter Tryd.func36, Tryd.ntmps36
      go_wp2_with (go_at_call 46; refine (ref_lowest _).mono ?_; rintro e w' ⟨rfl, rfl⟩)
      go_ret
      exact ⟨rfl, rfl⟩
    · have e : Ar.value r = -r - 1 := by unfold Ar.value; rw [if_neg (by omega)]; omega
      rw [e]; clear e
      have h1 : r < 0 := by omega
      have h3 : -1099511627777 ≤ r := by omega
      clear h h2
      go_enter Tryd.func36, Tryd.ntmps36
      go_wp2_with (go_at_call 46; refine (ref_lowest _).mono ?_; rintro e w' ⟨rfl, rfl⟩)
      go_ret
      exact ⟨rfl, rfl⟩

theorem isTerm_any (r : Int) (w : World) : Calls Tryd.prog 37 #[.int .i64 r] w fun e w' => e = .returned (.bool (decide (r < 0))) ∧ w = w' := by
  go_enter Tryd.func37, Tryd.ntmps37
  go_wp2
  go_ret
  exact ⟨rfl, rfl⟩

theorem limit_any {b : Nat} {lim : Int} {L : List Nd} {S : Nat → Prop} (A : Arena w b lim L S) :
    Calls Tryd.prog 28 #[.pointer (some ⟨b, 0, none⟩)] w fun e w' => e = .returned (.int .i64 lim) ∧ w = w' := by
  obtain ⟨vl, bp, PL, cp, tl, A, hf⟩ := A
  have h0 := A.c0
  clear A hf
  go_enter Tryd.func28, Tryd.ntmps28
  go_wp2
  go_ret
  exact ⟨rfl, rfl⟩

/-! the laws' alive -/
theorem walk_at {b : Nat} {lim : Int} {L : List Nd} {S : Nat → Prop} (A : Arena w b lim L S) (r bits z : Int) (h : Ar.wk (bt bits) L (r.toNat + 1) r = z) :
    Calls Tryd.prog 39 #[.pointer (some ⟨b, 0, none⟩), .int .i64 r, .int .u64 bits] w fun e w' => e = .returned (.int .i64 z) ∧ Below w.heap.size w w' := by
  rw [← h]; exact walk_any A r bits
theorem var_at {b : Nat} {lim : Int} {L : List Nd} {S : Nat → Prop} (A : Arena w b lim L S) (r x : Int) (h : Ar.var L r = x) :
    Calls Tryd.prog 30 #[.pointer (some ⟨b, 0, none⟩), .int .i64 r] w fun e w' => e = .returned (.int .i64 x) ∧ Below w.heap.size w w' := by
  rw [← h]; exact var_any A r
theorem mk_to {b : Nat} {lim : Int} {L L' : List Nd} {S : Nat → Prop} (A : Arena w b lim L S) (v lo hi x en : Int) (hfew : L.length < 100000000000) (h : Ar.mk lim L v lo hi = (L', x, en)) :
    Calls Tryd.prog 24 #[.pointer (some ⟨b, 0, none⟩), .int .i64 v, .int .i64 lo, .int .i64 hi] w (MkOut w b lim L' x en S) :=
  Calls.mono (mk_any A v lo hi hfew) (fun _ _ hp => hp.out h)
theorem touch_new {w0 w1 w2 : World} {S : Nat → Prop} (hb : Below w0.heap.size w0 w1) (t : Touch w1 w2 S) (hS : ∀ k, S k → w0.heap.size ≤ k) : Below w0.heap.size w0 w2 :=
  hb.trans (t.below hb.size (fun k h c => by have := hS k c; omega))

set_option maxRecDepth 100000 in
set_option maxHeartbeats 4000000 in
theorem alive05 (hg : ErrT w) : Calls Tryd.prog 22 #[] w fun e w' => e = .returned (.bool true) ∧ Below w.heap.size w w' := by
  have HG := Lib.hid hg
  clear hg
  go_enter Tryd.func22, Tryd.ntmps22
  go_wp2_with fail
  refine (new_any 5).mono ?_
  rintro e w1 ⟨b, rfl, A1, hb1⟩
  rw [show max (5 : Int) 0 = 5 from rfl] at A1
  have HA1 := Lib.hid A1
  have HB1 := Lib.hid hb1
  clear A1 hb1
  go_wp2_with fail
  refine (term_any 0 (-1) rfl _).mono ?_
  rintro e w' ⟨rfl, rfl⟩
  go_wp2_with fail
  refine (term_any 1 (-2) rfl _).mono ?_
  rintro e w' ⟨rfl, rfl⟩
  go_wp2_with fail
  refine (mk_to HA1.out 3 (-1) (-2) 0 0 (by decide) (L' := [⟨3, -1, -2⟩]) (by decide +kernel)).mono ?_
  rintro e w2 ⟨ev2, rfl, A2, t2, he2⟩
  obtain rfl : ev2 = .nilIface := by rcases he2.out with h | h; exact h.2; exact absurd rfl h.1
  have HB2 := Lib.hid (touch_new HB1.out t2.out (fun k h => h.1))
  have HA2 := Lib.hid (A2.out.mono (S' := fun k => w.heap.size ≤ k) (fun k h => h.elim (fun c => c.1) (fun c => by have := HB1.out.size; omega)))
  clear A2 t2 he2 HA1 HB1
  go_wp2_with fail
  refine (mk_to HA2.out 1 0 0 0 0 (by decide) (L' := [⟨3, -1, -2⟩]) (by decide +kernel)).mono ?_
  rintro e w3 ⟨ev3, rfl, A3, t3, he3⟩
  obtain rfl : ev3 = .nilIface := by rcases he3.out with h | h; exact h.2; exact absurd rfl h.1
  have HB3 := Lib.hid (touch_new HB2.out t3.out (fun k h => h))
  have HA3 := Lib.hid (A3.out.mono (S' := fun k => w.heap.size ≤ k) (fun k h => h.elim (fun c => c) (fun c => by have := HB2.out.size; omega)))
  clear A3 t3 he3 HA2 HB2
  go_wp2_with fail
  refine (term_any 1 (-2) rfl _).mono ?_
  rintro e w' ⟨rfl, rfl⟩
  go_wp2_with fail
  refine (mk_to HA3.out 1 (-2) 0 1 0 (by decide) (L' := [⟨3, -1, -2⟩, ⟨1, -2, 0⟩]) (by decide +kernel)).mono ?_
  rintro e w4 ⟨ev4, rfl, A4, t4, he4⟩
  obtain rfl : ev4 = .nilIface := by rcases he4.out with h | h; exact h.2; exact absurd rfl h.1
  have HB4 := Lib.hid (touch_new HB3.out t4.out (fun k h => h))
  have HA4 := Lib.hid (A4.out.mono (S' := fun k => w.heap.size ≤ k) (fun k h => h.elim (fun c => c) (fun c => by have := HB3.out.size; omega)))
  clear A4 t4 he4 HA3 HB3
  go_wp2_with fail
  refine (term_any 0 (-1) rfl _).mono ?_
  rintro e w' ⟨rfl, rfl⟩
  go_wp2_with fail
  refine (mk_to HA4.out 5 0 (-1) 0 51 (by decide) (L' := [⟨3, -1, -2⟩, ⟨1, -2, 0⟩]) (by decide +kernel)).mono ?_
  rintro e w5 ⟨ev5, rfl, A5, t5, he5⟩
  obtain ⟨fb, fv, rfl, hf⟩ : ∃ fb fv, ev5 = .iface 94 (.pointer (some ⟨fb, 0, none⟩)) ∧ FaultAt w5 fb fv 51 := by
    rcases he5.out with ⟨h0, _⟩ | ⟨_, fb, fv, h1, h2⟩
    · exact absurd h0 (by decide)
    · exact ⟨fb, fv, h1, h2⟩
  have HB5 := Lib.hid (touch_new HB4.out t5.out (fun k h => h))
  have HA5 := Lib.hid (A5.out.mono (S' := fun k => w.heap.size ≤ k) (fun k h => h.elim (fun c => c) (fun c => by have := HB4.out.size; omega)))
  have HF := Lib.hid hf
  have HG5 := Lib.hid (HG.out.below HB5.out HG.out.lt)
  clear A5 t5 he5 HA4 HB4 hf
  go_wp2_with fail
  refine (number05_fault 51 fv fb (by omega) HG5.out HF.out).mono ?_
  rintro e w6 ⟨rfl, hb6⟩
  have HA6 := Lib.hid (HA5.out.below hb6)
  have HB6 := Lib.hid (Below.seq HB5.out (Nat.le_refl _) hb6)
  clear hb6 HA5 HB5 HG5 HF
  go_wp2_with fail
  refine (len_any HA6.out).mono ?_
  rintro e w' ⟨rfl, rfl⟩
  go_wp2_with fail
  refine (walk_at HA6.out 1 10 (-2) (by decide +kernel)).mono ?_
  rintro e w7 ⟨rfl, hb7⟩
  have HA7 := Lib.hid (HA6.out.below hb7)
  have HB7 := Lib.hid (Below.seq HB6.out (Nat.le_refl _) hb7)
  clear hb7 HA6 HB6
  go_wp2_with fail
  refine (term_any 1 (-2) rfl _).mono ?_
  rintro e w' ⟨rfl, rfl⟩
  go_wp2_with fail
  refine (walk_at HA7.out 1 2 (-1) (by decide +kernel)).mono ?_
  rintro e w8 ⟨rfl, hb8⟩
  have HA8 := Lib.hid (HA7.out.below hb8)
  have HB8 := Lib.hid (Below.seq HB7.out (Nat.le_refl _) hb8)
  clear hb8 HA7 HB7
  go_wp2_with fail
  refine (term_any 0 (-1) rfl _).mono ?_
  rintro e w' ⟨rfl, rfl⟩
  go_wp2_with fail
  refine (term_any 7 (-8) rfl _).mono ?_
  rintro e w' ⟨rfl, rfl⟩
  go_wp2_with fail
  refine (value_any (-8) 7 rfl _).mono ?_
  rintro e w' ⟨rfl, rfl⟩
  go_wp2_with fail
  refine (isTerm_any (-1) _).mono ?_
  rintro e w' ⟨rfl, rfl⟩
  go_wp2_with fail
  refine (var_at HA8.out 1 1 (by decide +kernel)).mono ?_
  rintro e w9 ⟨rfl, hb9⟩
  have HA9 := Lib.hid (HA8.out.below hb9)
  have HB9 := Lib.hid (Below.seq HB8.out (Nat.le_refl _) hb9)
  clear hb9 HA8 HB8
  go_wp2_with fail
  refine (limit_any HA9.out).mono ?_
  rintro e w' ⟨rfl, rfl⟩
  go_wp2_with fail
  refine (has_b HA9.out 1 true (by decide +kernel)).mono ?_
  rintro e w' ⟨rfl, rfl⟩
  go_wp2_with fail
  go_ret
  exact ⟨rfl, HB9.out⟩
end Go.Proofs.YtknoigebkpapoaaDoor
