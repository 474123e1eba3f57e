/- Walks of package bdd's operations where they may not be, and of Restrict at a leaf, whatever the limit. -/
import Derived.Test.YtiagkbmhfgdffaaGd
set_option linter.unusedVariables false
set_option linter.unusedSimpArgs false
namespace Go.Proofs.Ytiagkbmhfgdffaa
open Go Go.RowKit Go.Deep Go.Maps
section
variable {w w' W : World} {mg : Nat} {lim : Int} {L : List Nd} {S : Nat → Prop}
def BadPost (w : World) (mg : Nat) (lim : Int) (S : Nat → Prop) (L : List Nd) (e : Ending) (w' : World) : Prop :=
  e = .returned (.tuple #[.int .i64 0, .iface 51 (.int .i64 1)]) ∧ OpPost w mg lim S (L, 0, 1) e w'
set_option maxRecDepth 100000 in
set_option maxHeartbeats 4000000 in
theorem Ite_bad (M : Mgr w mg lim L S) (hl : L.length < 100000000000) {f g h : Int} (hf : fits f) (hg : fits g) (hh : fits h) (hm : mayb L 0 [f, g, h] = false) :
    Calls Try.prog 20 #[.pointer (some ⟨mg, 0, none⟩), .int .i64 f, .int .i64 g, .int .i64 h] w (BadPost w mg lim S L) := by
  have HM := Lib.hid M
  have HL := Lib.hid hl
  have hI := ints_new w [f, g, h] (by unfold maxLen; simp)
  have hB : Below w.heap.size w (w.alloc (.cells ([f, g, h].map (Value.int .i64)).toArray 3)) := Below.push (Below.refl _ _) (Nat.le_refl _) _
  have hF : ∀ x ∈ [f, g, h], fits x := by
    intro x hx
    simp only [List.mem_cons, List.not_mem_nil, or_false] at hx
    rcases hx with rfl | rfl | rfl <;> assumption
  simp only [List.map_cons, List.map_nil] at hI hB
  have HI := Lib.hid hI
  have HB := Lib.hid hB
  have HF := Lib.hid hF
  have HMB := Lib.hid hm
  clear M hl hI hB hF hf hg hh hm
  go_enter Try.func20, Try.ntmps20
  go_wp2_with fail
  generalize w.alloc (.cells #[.int .i64 f, .int .i64 g, .int .i64 h] 3) = w1 at *
  refine (may_any (HM.out.below HB.out) 0 HI.out HF.out HL.out).mono ?_
  rintro e w2 ⟨rfl, hb2⟩
  rw [HMB.out]
  have HB2 := Lib.hid (Below.seq HB.out (Nat.le_refl _) hb2)
  clear hb2
  go_wp2_with fail
  go_ret2
  exact ⟨rfl, op_bad HM.out HB2.out⟩
set_option maxHeartbeats 1000000 in
theorem Not_bad (M : Mgr w mg lim L S) (hl : L.length < 100000000000) {f : Int} (hf : fits f) (hm : mayb L 0 [f, -1, -2] = false) :
    Calls Try.prog 18 #[.pointer (some ⟨mg, 0, none⟩), .int .i64 f] w (BadPost w mg lim S L) := by
  have HI := Lib.hid (Ite_bad M hl hf fits_no fits_yes hm)
  clear M hl hm
  go_enter Try.func18, Try.ntmps18
  go_wp2_with fail
  refine HI.out.mono ?_
  rintro e w1 ⟨rfl, hp⟩
  have HP := Lib.hid hp
  clear hp
  go_wp2_with fail
  go_ret2
  exact ⟨rfl, HP.out⟩
set_option maxHeartbeats 1000000 in
theorem And_bad (M : Mgr w mg lim L S) (hl : L.length < 100000000000) {f g : Int} (hf : fits f) (hg : fits g) (hm : mayb L 0 [f, g, -1] = false) :
    Calls Try.prog 19 #[.pointer (some ⟨mg, 0, none⟩), .int .i64 f, .int .i64 g] w (BadPost w mg lim S L) := by
  have HI := Lib.hid (Ite_bad M hl hf hg fits_no hm)
  clear M hl hm
  go_enter Try.func19, Try.ntmps19
  go_wp2_with fail
  refine HI.out.mono ?_
  rintro e w1 ⟨rfl, hp⟩
  have HP := Lib.hid hp
  clear hp
  go_wp2_with fail
  go_ret2
  exact ⟨rfl, HP.out⟩
set_option maxRecDepth 100000 in
set_option maxHeartbeats 4000000 in
theorem Restrict_bad (M : Mgr w mg lim L S) (hl : L.length < 100000000000) {f : Int} (v : Int) (d : Bool) (hf : fits f) (hm : mayb L v [f] = false) :
    Calls Try.prog 21 #[.pointer (some ⟨mg, 0, none⟩), .int .i64 f, .int .i64 v, .bool d] w (BadPost w mg lim S L) := by
  have HM := Lib.hid M
  have HL := Lib.hid hl
  have hF : ∀ x ∈ [f], fits x := by
    intro x hx
    simp only [List.mem_cons, List.not_mem_nil, or_false] at hx
    subst hx; assumption
  have hI := ints_new w [f] (by unfold maxLen; simp)
  have hB : Below w.heap.size w (w.alloc (.cells ([f].map (Value.int .i64)).toArray 3)) := Below.push (Below.refl _ _) (Nat.le_refl _) _
  simp only [List.map_cons, List.map_nil] at hI hB
  have HI := Lib.hid hI
  have HB := Lib.hid hB
  have HF := Lib.hid hF
  have HMB := Lib.hid hm
  clear M hl hI hB hF hf hm
  go_enter Try.func21, Try.ntmps21
  go_wp2_with fail
  generalize w.alloc (.cells #[.int .i64 f] 3) = w1 at *
  refine (may_any (HM.out.below HB.out) v HI.out HF.out HL.out).mono ?_
  rintro e w2 ⟨rfl, hb2⟩
  rw [HMB.out]
  have HB2 := Lib.hid (Below.seq HB.out (Nat.le_refl _) hb2)
  clear hb2
  go_wp2_with fail
  go_ret2
  exact ⟨rfl, op_bad HM.out HB2.out⟩
set_option maxRecDepth 100000 in
set_option maxHeartbeats 4000000 in
theorem Restrict_leaf (M : Mgr w mg lim L S) (hl : L.length < 100000000000) {f : Int} (v : Int) (d : Bool) (hf : fits f) (hm : mayb L v [f] = true) (hc : ¬ Ar.isN L f) :
    Calls Try.prog 21 #[.pointer (some ⟨mg, 0, none⟩), .int .i64 f, .int .i64 v, .bool d] w (OpPost w mg lim S (L, f, 0)) := by
  have HM := Lib.hid M
  have HL := Lib.hid hl
  have hF : ∀ x ∈ [f], fits x := by
    intro x hx
    simp only [List.mem_cons, List.not_mem_nil, or_false] at hx
    subst hx; assumption
  have hI := ints_new w [f] (by unfold maxLen; simp)
  have hB : Below w.heap.size w (w.alloc (.cells ([f].map (Value.int .i64)).toArray 3)) := Below.push (Below.refl _ _) (Nat.le_refl _) _
  simp only [List.map_cons, List.map_nil] at hI hB
  have HI := Lib.hid hI
  have HB := Lib.hid hB
  have HF := Lib.hid hF
  have HMB := Lib.hid hm
  have HC := Lib.hid hc
  have HR : Hid (Ar.rst lim v d 13 L f = (L, f, 0)) := Lib.hid (by rw [Ar.rst, if_pos (.inl hc)]; unfold Ar.half; rw [if_neg (fun c => hc c.1)])
  clear M hl hI hB hF hf hm hc
  go_enter Try.func21, Try.ntmps21
  go_wp2_with fail
  generalize w.alloc (.cells #[.int .i64 f] 3) = w1 at *
  refine (may_any (HM.out.below HB.out) v HI.out HF.out HL.out).mono ?_
  rintro e w2 ⟨rfl, hb2⟩
  rw [HMB.out]
  have HB2 := Lib.hid (Below.seq HB.out (Nat.le_refl _) hb2)
  clear hb2 HI HB
  have hrl := rst_leaf (HM.out.below HB2.out) (f := f) (v := v) (d := d) 12 (.inl HC.out)
  rw [HR.out] at hrl
  have HRL := Lib.hid hrl
  clear hrl
  go_wp2_with fail
  refine HRL.out.mono ?_
  rintro e w3 ⟨ev, rfl, M3, t3, he⟩
  have he' : ev = .nilIface := by
    rcases he with ⟨_, h⟩ | ⟨h, _⟩ | ⟨h, _⟩
    · exact h
    · exact absurd (show (0 : Int) = 1 from h) (by decide)
    · exact absurd rfl h
  subst he'
  have H3 := Lib.hid (And.intro M3 (And.intro t3 he))
  clear M3 t3 he
  go_wp2_with fail
  refine (told_any w3 _ 0 .nilIface (.inl ⟨rfl, rfl⟩)).mono ?_
  rintro e w4 ⟨ev4, rfl, he4, rfl⟩
  have H4 := Lib.hid he4
  clear he4
  go_wp2_with fail
  go_ret2
  exact OpPost.lift HB2.out ⟨ev4, rfl, H3.out.1, H3.out.2.1, H4.out⟩
set_option maxRecDepth 100000 in
set_option maxHeartbeats 4000000 in
theorem Xor_bad (M : Mgr w mg lim L S) (hl : L.length < 100000000000) {f g : Int} (hf : fits f) (hg : fits g) (hm : mayb L 0 [f, g] = false) :
    Calls Try.prog 23 #[.pointer (some ⟨mg, 0, none⟩), .int .i64 f, .int .i64 g] w (BadPost w mg lim S L) := by
  have HM := Lib.hid M
  have HL := Lib.hid hl
  have hF : ∀ x ∈ [f, g], fits x := by
    intro x hx
    simp only [List.mem_cons, List.not_mem_nil, or_false] at hx
    rcases hx with rfl | rfl <;> assumption
  have hI := ints_new w [f, g] (by unfold maxLen; simp)
  have hB : Below w.heap.size w (w.alloc (.cells ([f, g].map (Value.int .i64)).toArray 3)) := Below.push (Below.refl _ _) (Nat.le_refl _) _
  simp only [List.map_cons, List.map_nil] at hI hB
  have HI := Lib.hid hI
  have HB := Lib.hid hB
  have HF := Lib.hid hF
  have HMB := Lib.hid hm
  clear M hl hI hB hF hf hg hm
  go_enter Try.func23, Try.ntmps23
  go_wp2_with fail
  generalize w.alloc (.cells #[.int .i64 f, .int .i64 g] 3) = w1 at *
  refine (may_any (HM.out.below HB.out) 0 HI.out HF.out HL.out).mono ?_
  rintro e w2 ⟨rfl, hb2⟩
  rw [HMB.out]
  have HB2 := Lib.hid (Below.seq HB.out (Nat.le_refl _) hb2)
  clear hb2
  go_wp2_with fail
  go_ret2
  exact ⟨rfl, op_bad HM.out HB2.out⟩
set_option maxRecDepth 100000 in
set_option maxHeartbeats 4000000 in
theorem Compose_bad (M : Mgr w mg lim L S) (hl : L.length < 100000000000) {f g : Int} (v : Int) (hf : fits f) (hg : fits g) (hm : mayb L v [f, g] = false) :
    Calls Try.prog 22 #[.pointer (some ⟨mg, 0, none⟩), .int .i64 f, .int .i64 v, .int .i64 g] w (BadPost w mg lim S L) := by
  have HM := Lib.hid M
  have HL := Lib.hid hl
  have hF : ∀ x ∈ [f, g], fits x := by
    intro x hx
    simp only [List.mem_cons, List.not_mem_nil, or_false] at hx
    rcases hx with rfl | rfl <;> assumption
  obtain ⟨k1, k2, kb⟩ := two_in w (.cells #[.pointer (some ⟨mg, 0, none⟩)] 23) (.cells #[.int .i64 g] 3)
  have x1 : ((w.alloc (.cells #[.pointer (some ⟨mg, 0, none⟩)] 23)).alloc (.cells #[.int .i64 g] 3)).cell? ⟨w.heap.size, 0, none⟩ = some (.pointer (some ⟨mg, 0, none⟩)) := cell_at k1 0 rfl
  have x2 : ((w.alloc (.cells #[.pointer (some ⟨mg, 0, none⟩)] 23)).alloc (.cells #[.int .i64 g] 3)).cell? ⟨w.heap.size + 1, 0, none⟩ = some (.int .i64 g) := cell_at k2 0 rfl
  have Kb := Lib.hid kb
  have HF := Lib.hid hF
  have HMB := Lib.hid hm
  clear M hl hf hg k1 k2 kb hm hF
  go_enter Try.func22, Try.ntmps22
  go_upto_region 1 with fail
  generalize (w.alloc (.cells #[.pointer (some ⟨mg, 0, none⟩)] 23)).alloc (.cells #[.int .i64 g] 3) = wA at *
  have hI := ints_new wA [f, g] (by unfold maxLen; simp)
  have hB : Below wA.heap.size wA (wA.alloc (.cells ([f, g].map (Value.int .i64)).toArray 3)) := Below.push (Below.refl _ _) (Nat.le_refl _) _
  simp only [List.map_cons, List.map_nil] at hI hB
  have HI := Lib.hid hI
  have HB := Lib.hid (Below.seq Kb.out (Nat.le_refl _) hB)
  clear hI hB
  go_wp2_with fail
  generalize wA.alloc (.cells #[.int .i64 f, .int .i64 g] 3) = w1 at *
  refine (may_any (HM.out.below HB.out) v HI.out HF.out HL.out).mono ?_
  rintro e w2 ⟨rfl, hb2⟩
  rw [HMB.out]
  have HB2 := Lib.hid (Below.seq HB.out (Nat.le_refl _) hb2)
  clear hb2 HI HB x1 x2
  go_wp2_with fail
  go_ret2
  exact ⟨rfl, op_bad HM.out HB2.out⟩
end
end Go.Proofs.Ytiagkbmhfgdffaa
