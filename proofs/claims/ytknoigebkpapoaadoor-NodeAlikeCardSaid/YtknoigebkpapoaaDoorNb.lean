/- Walk of the node laws' build: an arena of a script, and all refs that came. -/
import Derived.Test.YtknoigebkpapoaaDoorNo
import Derived.Test.YtknoigebkpapoaaDoorSc
set_option linter.unusedVariables false
set_option linter.unusedSimpArgs false
namespace Go.Proofs.YtknoigebkpapoaaDoor
open Go.RowKit Go.Deep
variable {w : World}

/-- One node more: the nodes, and the refs that came. -/
def Ar.stepR (lim : Int) (p : List Nd × List Int) (o : Nd) : List Nd × List Int :=
  ((Ar.mk lim p.1 o.v o.l o.h).1, if (Ar.mk lim p.1 o.v o.l o.h).2.2 = 0 then p.2 ++ [(Ar.mk lim p.1 o.v o.l o.h).2.1] else p.2)
def Ar.bldR (lim : Int) (xs : List Nd) : List Nd × List Int := xs.foldl (Ar.stepR lim) ([], [])
theorem Ar.bldR_take {lim : Int} {xs : List Nd} {k : Nat} (h : k < xs.length) : Ar.bldR lim (xs.take (k + 1)) = Ar.stepR lim (Ar.bldR lim (xs.take k)) xs[k] := by
  unfold Ar.bldR
  rw [List.take_succ_eq_append_getElem h, List.foldl_append]
  rfl

def BuildPost5 (w : World) (lim : Int) (xs : List Nd) (e : Ending) (w' : World) : Prop :=
  Below w.heap.size w w' ∧
  ((60 < xs.length ∧ e = .returned (.tuple #[.pointer none, .slice none 0 0])) ∨
   (xs.length ≤ 60 ∧ ∃ b v S, e = .returned (.tuple #[.pointer (some ⟨b, 0, none⟩), v]) ∧ Arena w' b lim (Ar.bldR lim xs).1 S ∧ (∀ k, S k → w.heap.size ≤ k ∧ k < w'.heap.size) ∧ OwnInts w' w.heap.size v (Ar.bldR lim xs).2 ∧
     (∀ i, v.ownBlock = some i → ¬ S i) ∧ (Ar.bldR lim xs).1.length ≤ 60 ∧ (Ar.bldR lim xs).2.length ≤ 60))
def BI5 (w wr : World) (b : Nat) (lim : Int) (p : List Nd × List Int) (k : Nat) (v : Value) : Prop :=
  ∃ S, Arena wr b lim p.1 S ∧ (∀ k, S k → w.heap.size ≤ k ∧ k < wr.heap.size) ∧ OwnInts wr w.heap.size v p.2 ∧ (∀ i, v.ownBlock = some i → ¬ S i) ∧ Below w.heap.size w wr ∧ p.1.length ≤ k ∧ p.2.length ≤ k

theorem BI5.mk {w wr w4 w5 : World} {b : Nat} {lim : Int} {L L' : List Nd} {rs : List Int} {k : Nat} {v : Value} {S : Nat → Prop} {o : Nd} {x en : Int} (hm : Ar.mk lim L o.v o.l o.h = (L', x, en))
    (hS : ∀ k, S k → w.heap.size ≤ k ∧ k < wr.heap.size) (hO : OwnInts w4 w.heap.size v rs) (hv : ∀ i, v.ownBlock = some i → ¬ S i) (hb : Below w.heap.size w w4) (h4 : wr.heap.size ≤ w4.heap.size) (A : Arena w5 b lim L' (fun k => S k ∨ w4.heap.size ≤ k)) (t : Touch w4 w5 S)
    (hl : L.length ≤ k) (hr : rs.length ≤ k) : BI5 w w5 b lim (L', rs) (k + 1) v := by
  have hvl : ∀ i, v.ownBlock = some i → i < w4.heap.size := fun i h => (ownsRow_block hO h).2
  have h5 := t.size
  have hlen := Ar.mk_length lim L o.v o.l o.h
  rw [hm] at hlen
  replace hlen : L'.length ≤ L.length + 1 := hlen
  refine ⟨fun i => S i ∨ (w4.heap.size ≤ i ∧ i < w5.heap.size), A.clip.mono (fun i h => h.1.imp id (fun c => ⟨c, h.2⟩)), fun i h => ?_, hO.touch t hv, fun i hi c => ?_, hb.trans (t.below hb.size (fun i hi c => by have := (hS i c).1; omega)), by simp; omega, by simp; omega⟩
  · rcases h with h | h
    · have := hS i h; omega
    · have := hb.size; exact ⟨by omega, h.2⟩
  · rcases c with c | c
    · exact hv i hi c
    · have := hvl i hi; omega

set_option maxRecDepth 100000 in
set_option maxHeartbeats 4000000 in
theorem build5_any (v : Value) (xs : List Nd) (limit : Int) (h : Ops w v xs) :
    Calls Tryd.prog 38 #[.int .i64 limit, v] w (BuildPost5 w (max limit 0) xs) := by
  obtain ⟨i0, hi0, hz0, hz1, hz2⟩ := info_parts info_int
  obtain ⟨ao, c, rfl, hc, hc2, hcell⟩ := h
  unfold maxLen at hc2
  have HC := Lib.hid hcell
  clear hcell
  go_enter Tryd.func38, Tryd.ntmps38
  go_wp2_with fail
  refine (new_any limit).mono ?_
  rintro e w1 ⟨b, rfl, A1, hb1⟩
  by_cases hl : 60 < xs.length
  · have hl' : (60 : Int) < xs.length := by omega
    have HB := Lib.hid hb1
    clear hb1 A1
    go_wp2_with fail
    go_ret2
    exact ⟨HB.out, .inl ⟨hl, rfl⟩⟩
  · have hl' : (xs.length : Int) ≤ 60 := by omega
    have HI0 : Hid (BI5 w w1 b (max limit 0) (Ar.bldR (max limit 0) (xs.take 0)) 0 (.slice none 0 0)) :=
      ⟨_, A1, fun k h => h, World.ownsRow_nil _ _ _ _, fun i h => by simp [Value.ownBlock] at h, hb1, by simp [Ar.bldR], by simp [Ar.bldR]⟩
    clear A1 hb1
    generalize max limit 0 = lim at *
    go_wp2_with fail
    go_loopg [7, 23] xs.length (fun gk u i wr => ∃ k : Nat, i = .int .i64 k ∧ k + gk = xs.length ∧ Hid (BI5 w wr b lim (Ar.bldR lim (xs.take k)) k u))
    case atStart => exact ⟨0, rfl, by omega, HI0⟩
    case round =>
      clear HI0
      obtain ⟨k, rfl, hk, HI⟩ := hrel
      by_cases hlt : k < xs.length
      · obtain ⟨bx, o, rfl, hbx, c0, c1, c2⟩ := HC.out k hlt
        obtain ⟨S, A, hS, hO, hv, hb, hL, hR⟩ := HI.out
        replace c0 := (hb.cell (p := ⟨bx, o + k * 3, none⟩) hbx).trans c0
        replace c1 := (hb.cell (p := ⟨bx, o + k * 3 + 1, none⟩) hbx).trans c1
        replace c2 := (hb.cell (p := ⟨bx, o + k * 3 + 2, none⟩) hbx).trans c2
        have hbw : bx < wr.heap.size := Nat.lt_of_lt_of_le hbx hb.size
        have hnext := Ar.bldR_take (lim := lim) hlt
        generalize Ar.bldR lim (xs.take k) = p at *
        generalize hp2 : Ar.bldR lim (xs.take (k + 1)) = p2 at *
        have HP2 := Lib.hid hp2
        clear hp2
        obtain ⟨L, rs⟩ := p
        dsimp only at A hO hL hR
        obtain ⟨L', x, en, hm⟩ : ∃ L' x en, Ar.mk lim L xs[k].v xs[k].l xs[k].h = (L', x, en) := ⟨_, _, _, rfl⟩
        unfold Ar.stepR at hnext
        dsimp only at hnext
        rw [hm] at hnext
        dsimp only at hnext
        have hp := Below.push (Below.refl _ wr) (Nat.le_refl _) (.cells #[.int .i64 xs[k].v, .int .i64 xs[k].l, .int .i64 xs[k].h] 52)
        have HA := Lib.hid (A.below hp)
        have HO := Lib.hid (hO.touch (Touch.of_below hp (fun _ => False)) (fun _ _ c => c))
        have HB := Lib.hid (Below.seq hb (Nat.le_refl _) hp)
        have HM := Lib.hid hm
        have HS := Lib.hid hS
        have HV := Lib.hid hv
        have HNX := Lib.hid hnext
        clear A hO hb hm hS hv hnext HI hp
        go_wp2_with fail
        refine (mk_to HA.out xs[k].v xs[k].l xs[k].h x en (by omega) HM.out).mono ?_
        rintro e w5 ⟨ev, rfl, A5, t5, he5⟩
        have HI5 := Lib.hid (BI5.mk (o := xs[k]) (v := u7) HM.out HS.out HO.out HV.out HB.out (by simp) A5.out t5.out hL hR)
        clear c0 c1 c2 HA HO HB HS HV A5 t5
        by_cases he : en = 0
        · subst he
          obtain rfl : ev = .nilIface := by rcases he5.out with h | h; exact h.2; exact absurd rfl h.1
          obtain ⟨S5, A5, hS5, hO5, hv5, hb5, hL5, hR5⟩ := HI5.out
          have HO5 := Lib.hid hO5
          have hs5 := hb5.size
          clear A5 hS5 hO5 hv5 hb5 he5
          go_wp2_with (at_builtin; refine wpList_append_src rfl (.tmp 40) (.tmp 42) 23 rfl w.heap.size 3 i0 (.int .i64 0) 1 8 Tryd.underlying23 hi0 hz0 hz1 hz2 rfl (by decide) u7 rs.length (rs.map (Value.int .i64)) rfl (HO5.out.alloc _) _ 1 [.int .i64 x] rfl ?c2 ?c3 ?c4 ?c5 ?c6 ?_)
          case c2 =>
            refine .inr ⟨_, _, rfl, rfl, World.news_of_block (cs := #[.int .i64 x]) (t := 3) (fr := (0, 0)) ?_⟩
            have := heap_alloc_new w5 (.cells #[.int .i64 x] 3)
            simpa using this
          case c3 => first | rfl | (intro u hu; simp at hu; subst hu; rfl)
          case c4 => unfold maxLen; omega
          case c5 => omega
          case c6 => first | omega | (simp; omega)
          intro v' w6 hown hgrow hnil hblk
          have HST : Hid (BI5 w w6 b lim p2 (k + 1) v') := by
            obtain ⟨S5, A5, hS5, hO5, hv5, hb5, hL5, hR5⟩ := HI5.out
            have hvl : ∀ i, u7.ownBlock = some i → w.heap.size ≤ i ∧ i < w5.heap.size := fun i h => ownsRow_block hO5 h
            have T : Touch w5 w6 (fun i => u7.ownBlock = some i) := ((Touch.refl w5 _).alloc _).grown hgrow (fun i h => .inl h)
            have e2 : p2 = (L', rs ++ [x]) := by rw [HNX.out]; simp
            rw [e2]
            refine ⟨S5, A5.touch T (fun i _ h c => hv5 i c h), fun i h => ⟨(hS5 i h).1, Nat.lt_of_lt_of_le (hS5 i h).2 T.size⟩, by simpa [OwnInts] using hown, fun i hi c => ?_, hb5.trans (T.below hs5 (fun i hi c => by have := (hvl i c).1; omega)), hL5, by simp; omega⟩
            rcases hblk with hq | hq
            · rw [hq] at hi; exact hv5 i hi c
            · rw [hq] at hi
              have hi5 : i = w5.heap.size + 1 := by simpa using hi.symm
              have := (hS5 i c).2
              omega
          clear hown hgrow hnil hblk
          go_wp2_with fail
          go_roundg (gk - 1)
          case measure => omega
          case rel => exact ⟨k + 1, by go_num, by omega, by rw [HP2.out]; exact HST⟩
        · obtain ⟨fb, fv, rfl, _⟩ : ∃ fb fv, ev = .iface 94 (.pointer (some ⟨fb, 0, none⟩)) ∧ True := by
            rcases he5.out with h | ⟨_, fb, v, h1, h2⟩
            · exact absurd h.1 he
            · exact ⟨fb, v, h1, trivial⟩
          have HST : Hid (BI5 w w5 b lim p2 (k + 1) u7) := by
            have e2 : p2 = (L', rs) := by rw [HNX.out, if_neg he]
            rw [e2]; exact HI5.out
          clear he he5
          go_wp2_with fail
          go_roundg (gk - 1)
          case measure => omega
          case rel => exact ⟨k + 1, by go_num, by omega, by rw [HP2.out]; exact HST⟩
      · obtain rfl : k = xs.length := by omega
        rw [List.take_length] at *
        obtain ⟨S, A, hS, hO, hv, hb, hL, hR⟩ := HI.out
        have HQ : Hid (BuildPost5 w lim xs (.returned (.tuple #[.pointer (some ⟨b, 0, none⟩), u7])) wr) :=
          ⟨hb, .inr ⟨by omega, b, u7, S, rfl, A, hS, hO, hv, by omega, by omega⟩⟩
        clear A hS hO hv hb HI
        go_wp2_with fail
        go_ret2
        exact HQ.out
end Go.Proofs.YtknoigebkpapoaaDoor
