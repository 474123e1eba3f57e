/- errors.Is by its contracts: an Errno, or a fault that wraps one, held against an Errno. -/
import Derived.Test.YtknoigebkpapoaaDoorNp
import Derived.LaidEql
import Derived.Stop.Asserts
import Derived.RowKitTokens
import Derived.Deep.RegionWith
set_option linter.unusedVariables false
set_option linter.unusedSimpArgs false
namespace Go.Proofs.YtknoigebkpapoaaDoor
open Go.RowKit Go.Extern.Stop Go.Stop Go.Extern

theorem run_equalIn_errno {P : Program} (w : World) (d : Nat) {ti tn : TypeId} {ms : Array (String × TypeId)} {i : TypeInfo} {k : IntKind} (a b : Int)
    (hi : P.underlying ti = some (.interface ms)) (hn : P.underlying tn = some (.int k)) (hinfo : P.info? tn = some i) (hcomp : i.comparable = true) :
    (Op.equalIn (d + 2) ti (.iface tn (.int k a)) (.iface tn (.int k b))).run P w = .ok (a == b) w := by
  simp [Op.equalIn, run_underlying hi, run_underlying hn, typeInfo, hinfo, hcomp]
theorem run_eql_errno {P : Program} (w : World) {ti tn : TypeId} {ms : Array (String × TypeId)} {i : TypeInfo} {k : IntKind} (a b : Int)
    (hi : P.underlying ti = some (.interface ms)) (hn : P.underlying tn = some (.int k)) (hinfo : P.info? tn = some i) (hcomp : i.comparable = true) :
    (binOp .eql ti (.iface tn (.int k a)) (.iface tn (.int k b))).run P w = .ok (.bool (a == b)) w := by
  simp only [binOp]
  simp [Op.equal, Op.maxDepth, run_equalIn_errno w 9998 a b hi hn hinfo hcomp]

theorem ei_typeOf (v : Value) (w : World) : (Extern.ReflectliteType.typeOf #[.iface 35 v]).run Tryd.prog w = .ok (.iface 114 (.agg #[.pointer (some ⟨4, 35, none⟩)])) w := by kernel_rfl
open Extern.ReflectliteType in
/-- What the model has for rtype's Comparable. -/
def eiCmp : Array Value → Sem Value := Extern.ReflectliteType.method fun t => do Rtype.noPackHeld "Comparable" t; pure (.bool (← typeInfo t).comparable)
theorem ei_comparable (w : World) : (eiCmp #[.agg #[.pointer (some ⟨4, 35, none⟩)]]).run Tryd.prog w = .ok (.bool true) w := by kernel_rfl
theorem ei_methodComparable (v : Value) (w : World) : (Go.method 272 114 v "Comparable").run Tryd.prog w = .ok (99, v) w := by kernel_rfl
theorem ei_comp : (Tryd.prog.info? 35).map (·.comparable) = some true := by kernel_rfl
theorem ei_noIs (v : Value) (xT : TypeId) (w : World) : (Instr.typeAssert (.iface 35 v) xT 116 true).run Tryd.prog w = .ok (.tuple #[.nilIface, .bool false]) w := run_typeAssert_lacksB Tryd.underlying116 (by kernel_rfl) (by kernel_rfl) v xT w
theorem ei_noUnwrap (v : Value) (xT : TypeId) (w : World) : (Instr.typeAssert (.iface 35 v) xT 119 true).run Tryd.prog w = .ok (.tuple #[.nilIface, .bool false]) w := run_typeAssert_lacksB Tryd.underlying119 (by kernel_rfl) (by kernel_rfl) v xT w
theorem ei_noUnwraps (v : Value) (xT : TypeId) (w : World) : (Instr.typeAssert (.iface 35 v) xT 120 true).run Tryd.prog w = .ok (.tuple #[.nilIface, .bool false]) w := run_typeAssert_lacksB Tryd.underlying120 (by kernel_rfl) (by kernel_rfl) v xT w
theorem ei_faultNoIs (v : Value) (xT : TypeId) (w : World) : (Instr.typeAssert (.iface 94 v) xT 116 true).run Tryd.prog w = .ok (.tuple #[.nilIface, .bool false]) w := run_typeAssert_lacksB Tryd.underlying116 (by kernel_rfl) (by kernel_rfl) v xT w
theorem ei_faultUnwrap (v : Value) (xT : TypeId) (w : World) : (Instr.typeAssert (.iface 94 v) xT 119 true).run Tryd.prog w = .ok (.tuple #[.iface 94 v, .bool true]) w := run_typeAssert_hasB Tryd.underlying119 (by kernel_rfl) v xT w
theorem ei_methodUnwrap (v : Value) (w : World) : (Go.method 272 94 v "Unwrap").run Tryd.prog w = .ok (52, v) w := by kernel_rfl

set_option maxRecDepth 100000 in
set_option maxHeartbeats 1000000 in
theorem is_errno (n m : Int) (d : Bool) (hd : (n == m) = d) (w : World) :
    Calls Tryd.prog 19 #[.iface 35 (.int .i64 n), .iface 35 (.int .i64 m)] w fun e w' => e = .returned (.bool d) ∧ w = w' := by
  obtain ⟨i, hi, hcmp⟩ := Option.map_eq_some_iff.1 ei_comp
  have h8 := @run_callFunc_extern Tryd.prog 47 _ Extern.ReflectliteType.typeOf Tryd.func47 (by kernel_rfl) (by kernel_rfl) (by kernel_rfl) (by kernel_rfl)
  have h32 := @run_callFunc_extern Tryd.prog 99 _ eiCmp Tryd.func99 (by kernel_rfl) (by kernel_rfl) (by kernel_rfl) (by kernel_rfl)
  have tT := ei_typeOf
  have cT := ei_comparable
  have mR := ei_methodComparable
  have nE := ei_noIs
  have uE := ei_noUnwrap
  have vE := ei_noUnwraps
  have heq := run_eql_errno (P := Tryd.prog) w n m Tryd.underlying32 Tryd.underlying35 hi hcmp
  rw [hd] at heq
  clear hd
  cases d
  · go_enter Tryd.func19, Tryd.ntmps19
    go_wp2
    refine wp_loop_rounds 1 ?_
    rw [rounds_succ]
    go_wp2
    go_ret
    exact ⟨rfl, rfl⟩
  · go_enter Tryd.func19, Tryd.ntmps19
    go_wp2
    refine wp_loop_rounds 1 ?_
    rw [rounds_succ]
    go_wp2
    go_ret
    exact ⟨rfl, rfl⟩
theorem ei_eqlF (fb : Nat) (m : Int) (w : World) : (binOp .eql 32 (.iface 94 (.pointer (some ⟨fb, 0, none⟩))) (.iface 35 (.int .i64 m))).run Tryd.prog w = .ok (.bool false) w :=
  run_eql_iface_types (P := Tryd.prog) _ _ _ _ Tryd.underlying32 (by decide) w
def FaultIs (w : World) (fb : Nat) (n : Int) : Prop := ∃ v, FaultAt w fb v n

set_option maxRecDepth 100000 in
set_option maxHeartbeats 1000000 in
theorem is_fault (fb : Nat) (v n m : Int) (d : Bool) (hd : (n == m) = d) (w : World) (hf : FaultAt w fb v n) :
    Calls Tryd.prog 19 #[.iface 94 (.pointer (some ⟨fb, 0, none⟩)), .iface 35 (.int .i64 m)] w fun e w' => e = .returned (.bool d) ∧ w = w' := by
  obtain ⟨i, hi, hcmp⟩ := Option.map_eq_some_iff.1 ei_comp
  have h8 := @run_callFunc_extern Tryd.prog 47 _ Extern.ReflectliteType.typeOf Tryd.func47 (by kernel_rfl) (by kernel_rfl) (by kernel_rfl) (by kernel_rfl)
  have h32 := @run_callFunc_extern Tryd.prog 99 _ eiCmp Tryd.func99 (by kernel_rfl) (by kernel_rfl) (by kernel_rfl) (by kernel_rfl)
  have tT := ei_typeOf
  have cT := ei_comparable
  have mR := ei_methodComparable
  have nE := ei_noIs
  have uE := ei_noUnwrap
  have vE := ei_noUnwraps
  have nF := ei_faultNoIs
  have uF := ei_faultUnwrap
  have mU := ei_methodUnwrap
  have heq := run_eql_errno (P := Tryd.prog) w n m Tryd.underlying32 Tryd.underlying35 hi hcmp
  have hne : (binOp .eql 32 (.iface 94 (.pointer (some ⟨fb, 0, none⟩))) (.iface 35 (.int .i64 m))).run Tryd.prog w = .ok (.bool false) w := ei_eqlF fb m w
  have h2 : w.cell? ⟨fb, 2, none⟩ = some (.iface 35 (.int .i64 n)) := cell_at hf 2 rfl
  rw [hd] at heq
  clear hd hf
  cases d
  · go_enter Tryd.func19, Tryd.ntmps19
    go_wp2
    refine wp_loop_rounds 2 ?_
    rw [rounds_succ]
    go_wp2
    rw [rounds_succ]
    go_wp2
    go_ret
    exact ⟨rfl, rfl⟩
  · go_enter Tryd.func19, Tryd.ntmps19
    go_wp2
    refine wp_loop_rounds 2 ?_
    rw [rounds_succ]
    go_wp2
    rw [rounds_succ]
    go_wp2
    go_ret
    exact ⟨rfl, rfl⟩
end Go.Proofs.YtknoigebkpapoaaDoor
