/- errors.Is by its contracts: an Errno, or a fault that wraps one, held against an Errno. -/
import Derived.Test.YtknoigebkpapoaaNp
import Derived.LaidEql
import Derived.Stop.Asserts
import Derived.RowKitTokens
import Derived.Deep.RegionWith
set_option linter.unusedVariables false
set_option linter.unusedSimpArgs false
namespace Go.Proofs.Ytknoigebkpapoaa
open Go.RowKit Go.Extern.Stop Go.Stop Go.Extern

theorem run_equalIn_errno {P : Program} (w : World) (d : Nat) {ti tn : TypeId} {ms : Array (String × TypeId)} {i : TypeInfo} {k : IntKind} (a b : Int)
    (hi : P.underlying ti = some (.interface ms)) (hn : P.underlying tn = some (.int k)) (hinfo : P.info? tn = some i) (hcomp : i.comparable = true) :
    (Op.equalIn (d + 2) ti (.iface tn (.int k a)) (.iface tn (.int k b))).run P w = .ok (a == b) w := by
  simp [Op.equalIn, run_underlying hi, run_underlying hn, typeInfo, hinfo, hcomp]
theorem run_eql_errno {P : Program} (w : World) {ti tn : TypeId} {ms : Array (String × TypeId)} {i : TypeInfo} {k : IntKind} (a b : Int)
    (hi : P.underlying ti = some (.interface ms)) (hn : P.underlying tn = some (.int k)) (hinfo : P.info? tn = some i) (hcomp : i.comparable = true) :
    (binOp .eql ti (.iface tn (.int k a)) (.iface tn (.int k b))).run P w = .ok (.bool (a == b)) w := by
  simp only [binOp]
  simp [Op.equal, Op.maxDepth, run_equalIn_errno w 9998 a b hi hn hinfo hcomp]

theorem ei_typeOf (v : Value) (w : World) : (Extern.ReflectliteType.typeOf #[.iface 51 v]).run Try.prog w = .ok (.iface 82 (.agg #[.pointer (some ⟨0, 51, none⟩)])) w := by kernel_rfl
open Extern.ReflectliteType in
/-- What the model has for rtype's Comparable. -/
def eiCmp : Array Value → Sem Value := Extern.ReflectliteType.method fun t => do Rtype.noPackHeld "Comparable" t; pure (.bool (← typeInfo t).comparable)
theorem ei_comparable (w : World) : (eiCmp #[.agg #[.pointer (some ⟨0, 51, none⟩)]]).run Try.prog w = .ok (.bool true) w := by kernel_rfl
theorem ei_methodComparable (v : Value) (w : World) : (Go.method 225 82 v "Comparable").run Try.prog w = .ok (54, v) w := by kernel_rfl
theorem ei_comp : (Try.prog.info? 51).map (·.comparable) = some true := by kernel_rfl
theorem ei_noIs (v : Value) (xT : TypeId) (w : World) : (Instr.typeAssert (.iface 51 v) xT 84 true).run Try.prog w = .ok (.tuple #[.nilIface, .bool false]) w := run_typeAssert_lacksB Try.underlying84 (by kernel_rfl) (by kernel_rfl) v xT w
theorem ei_noUnwrap (v : Value) (xT : TypeId) (w : World) : (Instr.typeAssert (.iface 51 v) xT 87 true).run Try.prog w = .ok (.tuple #[.nilIface, .bool false]) w := run_typeAssert_lacksB Try.underlying87 (by kernel_rfl) (by kernel_rfl) v xT w
theorem ei_noUnwraps (v : Value) (xT : TypeId) (w : World) : (Instr.typeAssert (.iface 51 v) xT 89 true).run Try.prog w = .ok (.tuple #[.nilIface, .bool false]) w := run_typeAssert_lacksB Try.underlying89 (by kernel_rfl) (by kernel_rfl) v xT w
theorem ei_faultNoIs (v : Value) (xT : TypeId) (w : World) : (Instr.typeAssert (.iface 71 v) xT 84 true).run Try.prog w = .ok (.tuple #[.nilIface, .bool false]) w := run_typeAssert_lacksB Try.underlying84 (by kernel_rfl) (by kernel_rfl) v xT w
theorem ei_faultUnwrap (v : Value) (xT : TypeId) (w : World) : (Instr.typeAssert (.iface 71 v) xT 87 true).run Try.prog w = .ok (.tuple #[.iface 71 v, .bool true]) w := run_typeAssert_hasB Try.underlying87 (by kernel_rfl) v xT w
theorem ei_methodUnwrap (v : Value) (w : World) : (Go.method 225 71 v "Unwrap").run Try.prog w = .ok (50, v) w := by kernel_rfl

set_option maxRecDepth 100000 in
set_option maxHeartbeats 1000000 in
theorem is_errno (n m : Int) (d : Bool) (hd : (n == m) = d) (w : World) :
    Calls Try.prog 20 #[.iface 51 (.int .i64 n), .iface 51 (.int .i64 m)] w fun e w' => e = .returned (.bool d) ∧ w = w' := by
  obtain ⟨i, hi, hcmp⟩ := Option.map_eq_some_iff.1 ei_comp
  have h8 := @run_callFunc_extern Try.prog 28 _ Extern.ReflectliteType.typeOf Try.func28 (by kernel_rfl) (by kernel_rfl) (by kernel_rfl) (by kernel_rfl)
  have h32 := @run_callFunc_extern Try.prog 54 _ eiCmp Try.func54 (by kernel_rfl) (by kernel_rfl) (by kernel_rfl) (by kernel_rfl)
  have tT := ei_typeOf
  have cT := ei_comparable
  have mR := ei_methodComparable
  have nE := ei_noIs
  have uE := ei_noUnwrap
  have vE := ei_noUnwraps
  have heq := run_eql_errno (P := Try.prog) w n m Try.underlying37 Try.underlying51 hi hcmp
  rw [hd] at heq
  clear hd
  cases d
  · go_enter Try.func20, Try.ntmps20
    go_wp2
    refine wp_loop_rounds 1 ?_
    rw [rounds_succ]
    go_wp2
    go_ret
    exact ⟨rfl, rfl⟩
  · go_enter Try.func20, Try.ntmps20
    go_wp2
    refine wp_loop_rounds 1 ?_
    rw [rounds_succ]
    go_wp2
    go_ret
    exact ⟨rfl, rfl⟩
theorem ei_eqlF (fb : Nat) (m : Int) (w : World) : (binOp .eql 37 (.iface 71 (.pointer (some ⟨fb, 0, none⟩))) (.iface 51 (.int .i64 m))).run Try.prog w = .ok (.bool false) w :=
  run_eql_iface_types (P := Try.prog) _ _ _ _ Try.underlying37 (by decide) w
def FaultIs (w : World) (fb : Nat) (n : Int) : Prop := ∃ v, FaultAt w fb v n

set_option maxRecDepth 100000 in
set_option maxHeartbeats 1000000 in
theorem is_fault (fb : Nat) (v n m : Int) (d : Bool) (hd : (n == m) = d) (w : World) (hf : FaultAt w fb v n) :
    Calls Try.prog 20 #[.iface 71 (.pointer (some ⟨fb, 0, none⟩)), .iface 51 (.int .i64 m)] w fun e w' => e = .returned (.bool d) ∧ w = w' := by
  obtain ⟨i, hi, hcmp⟩ := Option.map_eq_some_iff.1 ei_comp
  have h8 := @run_callFunc_extern Try.prog 28 _ Extern.ReflectliteType.typeOf Try.func28 (by kernel_rfl) (by kernel_rfl) (by kernel_rfl) (by kernel_rfl)
  have h32 := @run_callFunc_extern Try.prog 54 _ eiCmp Try.func54 (by kernel_rfl) (by kernel_rfl) (by kernel_rfl) (by kernel_rfl)
  have tT := ei_typeOf
  have cT := ei_comparable
  have mR := ei_methodComparable
  have nE := ei_noIs
  have uE := ei_noUnwrap
  have vE := ei_noUnwraps
  have nF := ei_faultNoIs
  have uF := ei_faultUnwrap
  have mU := ei_methodUnwrap
  have heq := run_eql_errno (P := Try.prog) w n m Try.underlying37 Try.underlying51 hi hcmp
  have hne : (binOp .eql 37 (.iface 71 (.pointer (some ⟨fb, 0, none⟩))) (.iface 51 (.int .i64 m))).run Try.prog w = .ok (.bool false) w := ei_eqlF fb m w
  have h2 : w.cell? ⟨fb, 2, none⟩ = some (.iface 51 (.int .i64 n)) := cell_at hf 2 rfl
  rw [hd] at heq
  clear hd hf
  cases d
  · go_enter Try.func20, Try.ntmps20
    go_wp2
    refine wp_loop_rounds 2 ?_
    rw [rounds_succ]
    go_wp2
    rw [rounds_succ]
    go_wp2
    go_ret
    exact ⟨rfl, rfl⟩
  · go_enter Try.func20, Try.ntmps20
    go_wp2
    refine wp_loop_rounds 2 ?_
    rw [rounds_succ]
    go_wp2
    rw [rounds_succ]
    go_wp2
    go_ret
    exact ⟨rfl, rfl⟩
end Go.Proofs.Ytknoigebkpapoaa
