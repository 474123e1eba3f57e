/- errors.As by its contracts: an Errno, or a fault that wraps one, asked for an Errno or for a fault. After the guide's worked example of errors.As at a concrete target. -/
import Derived.Test.YtknoigebkpapoaaDoorEi
import Derived.Test.YtknoigebkpapoaaDoorRn
set_option linter.unusedVariables false
set_option linter.unusedSimpArgs false
namespace Go.Proofs.YtknoigebkpapoaaDoor
open Go.RowKit Go.Extern.Stop Go.Stop Go.Extern

theorem as_nil (t : Value) (w : World) : Calls Tryd.prog 45 #[.nilIface, t] w fun e w' => e = .returned (.bool false) ∧ w = w' := by
  go_enter Tryd.func45, Tryd.ntmps45
  go_wp2
  go_ret
  exact ⟨rfl, rfl⟩
/-- What the package errors' own variable holds. -/
def ErrT (w : World) : Prop := w.cell? ⟨0, 0, none⟩ = some (.iface 114 (.agg #[.pointer (some ⟨4, 32, none⟩)]))
theorem ErrT.lt {w : World} (h : ErrT w) : 0 < w.heap.size := World.block_lt_of_cell? w _ h
theorem ErrT.below {w w' : World} (h : ErrT w) {B : Nat} (hb : Below B w w') (hB : 0 < B) : ErrT w' := (hb.cell (p := ⟨0, 0, none⟩) hB).trans h
theorem as_rlm (z : Sem Value) (f : TypeId → Addr → Nat → Nat → Sem Value) (v : Value) :
    ReflectliteValue.method z f #[v] = (do match ← ReflectliteValue.parts v with | none => z | some (t, a, fl) => f t a fl (fl % 32)) := rfl
theorem as_rls (v x : Value) : ReflectliteValue.set #[v, x] = (do
    let (some (dst, a, fl), some (src, b, _)) := (← ReflectliteValue.parts v, ← ReflectliteValue.parts x)
      | unsupported (.noEntry "extern/(internal/reflectlite.Value).Set.zeroValue")
    if fl / ReflectliteValue.flagAddr % 2 == 0 then unsupported (.noEntry "extern/(internal/reflectlite.Value).Set.unaddressable")
    let val ← loadVar src b
    if ← Rtype.directlyAssignable dst src then storeVar dst a val
    else if ← Rtype.implements dst src then
      if (← Rtype.kind src) == 20 then
        match val with
        | .nilIface => unsupported (.noEntry "extern/reflectlite: a nil value of one interface type handed on as a value of another")
        | _ => storeVar dst a val
      else storeVar dst a (.iface src val)
    else panicString ("reflectlite.Set: value of type " ++ (← Rtype.spelt src) ++ " is not assignable to type " ++ (← Rtype.spelt dst))
    pure (.tuple #[])) := rfl
theorem as_methodKind (h : Value) (w : World) : (Go.method 272 114 (.agg #[h]) "Kind").run Tryd.prog w = .ok (91, h) w := by kernel_rfl
theorem as_methodElem (h : Value) (w : World) : (Go.method 272 114 (.agg #[h]) "Elem").run Tryd.prog w = .ok (100, .agg #[h]) w := by kernel_rfl
theorem as_methodImplements (h : Value) (w : World) : (Go.method 272 114 (.agg #[h]) "Implements").run Tryd.prog w = .ok (101, .agg #[h]) w := by kernel_rfl
theorem as_methodAssignableTo (h : Value) (w : World) : (Go.method 272 114 (.agg #[h]) "AssignableTo").run Tryd.prog w = .ok (98, .agg #[h]) w := by kernel_rfl
theorem as_typeOfF (v : Value) (w : World) : (ReflectliteType.typeOf #[.iface 94 v]).run Tryd.prog w = .ok (.iface 114 (.agg #[.pointer (some ⟨4, 94, none⟩)])) w := by kernel_rfl
theorem as_typeOfN (v : Value) (w : World) : (ReflectliteType.typeOf #[.iface 35 v]).run Tryd.prog w = .ok (.iface 114 (.agg #[.pointer (some ⟨4, 35, none⟩)])) w := by kernel_rfl
theorem as_notFN (w : World) : (ReflectliteType.relation "AssignableTo" ReflectliteType.assignableTo #[.agg #[.pointer (some ⟨4, 94, none⟩)], .iface 114 (.agg #[.pointer (some ⟨4, 35, none⟩)])]).run Tryd.prog w = .ok (.bool false) w := by kernel_rfl
theorem as_noAs (v : Value) (xT : TypeId) (w : World) : (Instr.typeAssert (.iface 94 v) xT 127 true).run Tryd.prog w = .ok (.tuple #[.nilIface, .bool false]) w := run_typeAssert_lacksB Tryd.underlying127 (by kernel_rfl) (by kernel_rfl) v xT w


/-! the target: N -/
theorem as_valueOfN (t : Addr) (w : World) : (ReflectliteValue.unpack (.iface 85 (.pointer (some t)))).run Tryd.prog w
    = .ok (.agg #[.pointer (some ⟨4, 85, none⟩), .pointer (some ⟨w.heap.size, 0, none⟩), .int .u64 150]) (w.alloc (.cells #[.pointer (some t)] 85)) := by kernel_rfl
theorem as_typeN (a : Addr) (w : World) : (ReflectliteValue.methodAny (ReflectliteValue.valueError "reflectlite.Value.Type" 0) (fun t _ _ _ => ReflectliteType.toType t) #[.agg #[.pointer (some ⟨4, 85, none⟩), .pointer (some a), .int .u64 150]]).run Tryd.prog w
    = .ok (.iface 114 (.agg #[.pointer (some ⟨4, 85, none⟩)])) w := by kernel_rfl
theorem as_kindPN (w : World) : ((ReflectliteType.abiMethod fun t => (fun a : Nat => Value.int IntKind.u8 (a : Int)) <$> Rtype.kind t) #[.pointer (some ⟨4, 85, none⟩)]).run Tryd.prog w = .ok (.int .u8 22) w := by kernel_rfl
theorem as_kindEN (w : World) : ((ReflectliteType.abiMethod fun t => (fun a : Nat => Value.int IntKind.u8 (a : Int)) <$> Rtype.kind t) #[.pointer (some ⟨4, 35, none⟩)]).run Tryd.prog w = .ok (.int .u8 2) w := by kernel_rfl
theorem as_partsN (a : Addr) (w : World) : (ReflectliteValue.parts (.agg #[.pointer (some ⟨4, 85, none⟩), .pointer (some a), .int .u64 150])).run Tryd.prog w = .ok (some (85, a, 150)) w := by kernel_rfl
theorem as_isNilN (a p : Addr) (W : World) (ha : W.cell? a = some (.pointer (some p))) :
    (ReflectliteValue.method (ReflectliteValue.valueError "reflectlite.Value.IsNil" 0) ReflectliteValue.isNil #[.agg #[.pointer (some ⟨4, 85, none⟩), .pointer (some a), .int .u64 150]]).run Tryd.prog W = .ok (.bool false) W := by
  rw [as_rlm]
  simp only [Sem.run_bind, as_partsN, Result.andThen]
  simp [ReflectliteValue.isNil, loadVar, isAgg, underlying, Tryd.underlying85, ha, Result.andThen]
theorem as_elemN (w : World) : (ReflectliteType.method ReflectliteType.elem #[.agg #[.pointer (some ⟨4, 85, none⟩)]]).run Tryd.prog w = .ok (.iface 114 (.agg #[.pointer (some ⟨4, 35, none⟩)])) w := by kernel_rfl
theorem as_implementsN (w : World) : (ReflectliteType.relation "Implements" ReflectliteType.implements_ #[.agg #[.pointer (some ⟨4, 35, none⟩)], .iface 114 (.agg #[.pointer (some ⟨4, 32, none⟩)])]).run Tryd.prog w = .ok (.bool true) w := by kernel_rfl
theorem as_assignableN (w : World) : (ReflectliteType.relation "AssignableTo" ReflectliteType.assignableTo #[.agg #[.pointer (some ⟨4, 35, none⟩)], .iface 114 (.agg #[.pointer (some ⟨4, 35, none⟩)])]).run Tryd.prog w = .ok (.bool true) w := by kernel_rfl
theorem as_valueOfEN (n : Int) (w : World) : (ReflectliteValue.unpack (.iface 35 (.int .i64 n))).run Tryd.prog w
    = .ok (.agg #[.pointer (some ⟨4, 35, none⟩), .pointer (some ⟨w.heap.size, 0, none⟩), .int .u64 130]) (w.alloc (.cells #[.int .i64 n] 35)) := by kernel_rfl
theorem as_elemOfN (w : World) : (Rtype.elem? 85).run Tryd.prog w = .ok (some 35) w := by kernel_rfl
theorem as_mkN (p : Addr) (w : World) : (ReflectliteValue.mk 35 p ReflectliteValue.flagAddr).run Tryd.prog w = .ok (.agg #[.pointer (some ⟨4, 35, none⟩), .pointer (some p), .int .u64 386]) w := by kernel_rfl
theorem as_elemVN (a p : Addr) (W : World) (ha : W.cell? a = some (.pointer (some p))) :
    (ReflectliteValue.method (ReflectliteValue.valueError "reflectlite.Value.Elem" 0) ReflectliteValue.elem #[.agg #[.pointer (some ⟨4, 85, none⟩), .pointer (some a), .int .u64 150]]).run Tryd.prog W
      = .ok (.agg #[.pointer (some ⟨4, 35, none⟩), .pointer (some p), .int .u64 386]) W := by
  rw [as_rlm]
  simp only [Sem.run_bind, as_partsN, Result.andThen]
  simp [ReflectliteValue.elem, loadVar, isAgg, underlying, Tryd.underlying85, ha, Result.andThen, as_elemOfN, as_mkN]
theorem as_partsAN (a : Addr) (w : World) : (ReflectliteValue.parts (.agg #[.pointer (some ⟨4, 35, none⟩), .pointer (some a), .int .u64 386])).run Tryd.prog w = .ok (some (35, a, 386)) w := by kernel_rfl
theorem as_partsVN (a : Addr) (w : World) : (ReflectliteValue.parts (.agg #[.pointer (some ⟨4, 35, none⟩), .pointer (some a), .int .u64 130])).run Tryd.prog w = .ok (some (35, a, 130)) w := by kernel_rfl
theorem as_directN (w : World) : (Rtype.directlyAssignable 35 35).run Tryd.prog w = .ok true w := by kernel_rfl
theorem as_setN (ta b : Addr) (n : Int) (old : Value) (W : World) (hb : W.cell? b = some (.int .i64 n)) (ht : W.cell? ta = some old) (hf : W.frozen? ta = false) :
    (ReflectliteValue.set #[.agg #[.pointer (some ⟨4, 35, none⟩), .pointer (some ta), .int .u64 386], .agg #[.pointer (some ⟨4, 35, none⟩), .pointer (some b), .int .u64 130]]).run Tryd.prog W
      = .ok (.tuple #[]) (W.setCell ta (.int .i64 n)) := by
  rw [as_rls]
  simp only [Sem.run_bind, as_partsAN, as_partsVN, Result.andThen]
  simp [ReflectliteValue.flagAddr, loadVar, isAgg, underlying, Tryd.underlying35, hb, Result.andThen, as_directN, storeVar, Value.cells, storeCells, Addr.add]
  rw [run_store Tryd.prog W ta _ _ (by rfl)]
  simp [ht, hf]

/-! the target: F -/
theorem as_valueOfF (t : Addr) (w : World) : (ReflectliteValue.unpack (.iface 97 (.pointer (some t)))).run Tryd.prog w
    = .ok (.agg #[.pointer (some ⟨4, 97, none⟩), .pointer (some ⟨w.heap.size, 0, none⟩), .int .u64 150]) (w.alloc (.cells #[.pointer (some t)] 97)) := by kernel_rfl
theorem as_typeF (a : Addr) (w : World) : (ReflectliteValue.methodAny (ReflectliteValue.valueError "reflectlite.Value.Type" 0) (fun t _ _ _ => ReflectliteType.toType t) #[.agg #[.pointer (some ⟨4, 97, none⟩), .pointer (some a), .int .u64 150]]).run Tryd.prog w
    = .ok (.iface 114 (.agg #[.pointer (some ⟨4, 97, none⟩)])) w := by kernel_rfl
theorem as_kindPF (w : World) : ((ReflectliteType.abiMethod fun t => (fun a : Nat => Value.int IntKind.u8 (a : Int)) <$> Rtype.kind t) #[.pointer (some ⟨4, 97, none⟩)]).run Tryd.prog w = .ok (.int .u8 22) w := by kernel_rfl
theorem as_kindEF (w : World) : ((ReflectliteType.abiMethod fun t => (fun a : Nat => Value.int IntKind.u8 (a : Int)) <$> Rtype.kind t) #[.pointer (some ⟨4, 94, none⟩)]).run Tryd.prog w = .ok (.int .u8 22) w := by kernel_rfl
theorem as_partsF (a : Addr) (w : World) : (ReflectliteValue.parts (.agg #[.pointer (some ⟨4, 97, none⟩), .pointer (some a), .int .u64 150])).run Tryd.prog w = .ok (some (97, a, 150)) w := by kernel_rfl
theorem as_isNilF (a p : Addr) (W : World) (ha : W.cell? a = some (.pointer (some p))) :
    (ReflectliteValue.method (ReflectliteValue.valueError "reflectlite.Value.IsNil" 0) ReflectliteValue.isNil #[.agg #[.pointer (some ⟨4, 97, none⟩), .pointer (some a), .int .u64 150]]).run Tryd.prog W = .ok (.bool false) W := by
  rw [as_rlm]
  simp only [Sem.run_bind, as_partsF, Result.andThen]
  simp [ReflectliteValue.isNil, loadVar, isAgg, underlying, Tryd.underlying97, ha, Result.andThen]
theorem as_elemF (w : World) : (ReflectliteType.method ReflectliteType.elem #[.agg #[.pointer (some ⟨4, 97, none⟩)]]).run Tryd.prog w = .ok (.iface 114 (.agg #[.pointer (some ⟨4, 94, none⟩)])) w := by kernel_rfl
theorem as_implementsF (w : World) : (ReflectliteType.relation "Implements" ReflectliteType.implements_ #[.agg #[.pointer (some ⟨4, 94, none⟩)], .iface 114 (.agg #[.pointer (some ⟨4, 32, none⟩)])]).run Tryd.prog w = .ok (.bool true) w := by kernel_rfl
theorem as_assignableF (w : World) : (ReflectliteType.relation "AssignableTo" ReflectliteType.assignableTo #[.agg #[.pointer (some ⟨4, 94, none⟩)], .iface 114 (.agg #[.pointer (some ⟨4, 94, none⟩)])]).run Tryd.prog w = .ok (.bool true) w := by kernel_rfl
theorem as_valueOfEF (n : Addr) (w : World) : (ReflectliteValue.unpack (.iface 94 (.pointer (some n)))).run Tryd.prog w
    = .ok (.agg #[.pointer (some ⟨4, 94, none⟩), .pointer (some ⟨w.heap.size, 0, none⟩), .int .u64 150]) (w.alloc (.cells #[.pointer (some n)] 94)) := by kernel_rfl
theorem as_elemOfF (w : World) : (Rtype.elem? 97).run Tryd.prog w = .ok (some 94) w := by kernel_rfl
theorem as_mkF (p : Addr) (w : World) : (ReflectliteValue.mk 94 p ReflectliteValue.flagAddr).run Tryd.prog w = .ok (.agg #[.pointer (some ⟨4, 94, none⟩), .pointer (some p), .int .u64 406]) w := by kernel_rfl
theorem as_elemVF (a p : Addr) (W : World) (ha : W.cell? a = some (.pointer (some p))) :
    (ReflectliteValue.method (ReflectliteValue.valueError "reflectlite.Value.Elem" 0) ReflectliteValue.elem #[.agg #[.pointer (some ⟨4, 97, none⟩), .pointer (some a), .int .u64 150]]).run Tryd.prog W
      = .ok (.agg #[.pointer (some ⟨4, 94, none⟩), .pointer (some p), .int .u64 406]) W := by
  rw [as_rlm]
  simp only [Sem.run_bind, as_partsF, Result.andThen]
  simp [ReflectliteValue.elem, loadVar, isAgg, underlying, Tryd.underlying97, ha, Result.andThen, as_elemOfF, as_mkF]
theorem as_partsAF (a : Addr) (w : World) : (ReflectliteValue.parts (.agg #[.pointer (some ⟨4, 94, none⟩), .pointer (some a), .int .u64 406])).run Tryd.prog w = .ok (some (94, a, 406)) w := by kernel_rfl
theorem as_partsVF (a : Addr) (w : World) : (ReflectliteValue.parts (.agg #[.pointer (some ⟨4, 94, none⟩), .pointer (some a), .int .u64 150])).run Tryd.prog w = .ok (some (94, a, 150)) w := by kernel_rfl
theorem as_directF (w : World) : (Rtype.directlyAssignable 94 94).run Tryd.prog w = .ok true w := by kernel_rfl
theorem as_setF (ta b : Addr) (n : Addr) (old : Value) (W : World) (hb : W.cell? b = some (.pointer (some n))) (ht : W.cell? ta = some old) (hf : W.frozen? ta = false) :
    (ReflectliteValue.set #[.agg #[.pointer (some ⟨4, 94, none⟩), .pointer (some ta), .int .u64 406], .agg #[.pointer (some ⟨4, 94, none⟩), .pointer (some b), .int .u64 150]]).run Tryd.prog W
      = .ok (.tuple #[]) (W.setCell ta (.pointer (some n))) := by
  rw [as_rls]
  simp only [Sem.run_bind, as_partsAF, as_partsVF, Result.andThen]
  simp [ReflectliteValue.flagAddr, loadVar, isAgg, underlying, Tryd.underlying94, hb, Result.andThen, as_directF, storeVar, Value.cells, storeCells, Addr.add]
  rw [run_store Tryd.prog W ta _ _ (by rfl)]
  simp [ht, hf]

set_option maxRecDepth 100000 in
set_option maxHeartbeats 4000000 in
theorem as_errno (n : Int) (t : Addr) (old : Value) (w : World) (hg : ErrT w) (ht0 : w.cell? t = some old) (hf0 : w.frozen? t = false) :
    Calls Tryd.prog 45 #[.iface 35 (.int .i64 n), .iface 85 (.pointer (some t))] w fun ev w' => Hid (ev = .returned (.bool true) ∧ ∃ w0, Below w.heap.size w w0 ∧ w' = w0.setCell t (.int .i64 n)) := by
  have hv := @run_callFunc_extern Tryd.prog 57 _ (fun args => ReflectliteValue.unpack (args.getD 0 (.tuple #[]))) Tryd.func57 (by kernel_rfl) (by kernel_rfl) (by kernel_rfl) (by kernel_rfl)
  have hty := @run_callFunc_extern Tryd.prog 58 _ (ReflectliteValue.methodAny (ReflectliteValue.valueError "reflectlite.Value.Type" 0) (fun t _ _ _ => ReflectliteType.toType t)) Tryd.func58 (by kernel_rfl) (by kernel_rfl) (by kernel_rfl) (by kernel_rfl)
  have hin := @run_callFunc_extern Tryd.prog 59 _ (ReflectliteValue.method (ReflectliteValue.valueError "reflectlite.Value.IsNil" 0) ReflectliteValue.isNil) Tryd.func59 (by kernel_rfl) (by kernel_rfl) (by kernel_rfl) (by kernel_rfl)
  have hk := @run_callFunc_extern Tryd.prog 91 _ (ReflectliteType.abiMethod fun t => do pure (.int .u8 (← Rtype.kind t))) Tryd.func91 (by kernel_rfl) (by kernel_rfl) (by kernel_rfl) (by kernel_rfl)
  have hel := @run_callFunc_extern Tryd.prog 100 _ (ReflectliteType.method ReflectliteType.elem) Tryd.func100 (by kernel_rfl) (by kernel_rfl) (by kernel_rfl) (by kernel_rfl)
  have him := @run_callFunc_extern Tryd.prog 101 _ (ReflectliteType.relation "Implements" ReflectliteType.implements_) Tryd.func101 (by kernel_rfl) (by kernel_rfl) (by kernel_rfl) (by kernel_rfl)
  have hto := @run_callFunc_extern Tryd.prog 47 _ ReflectliteType.typeOf Tryd.func47 (by kernel_rfl) (by kernel_rfl) (by kernel_rfl) (by kernel_rfl)
  have has := @run_callFunc_extern Tryd.prog 98 _ (ReflectliteType.relation "AssignableTo" ReflectliteType.assignableTo) Tryd.func98 (by kernel_rfl) (by kernel_rfl) (by kernel_rfl) (by kernel_rfl)
  have hve := @run_callFunc_extern Tryd.prog 62 _ (ReflectliteValue.method (ReflectliteValue.valueError "reflectlite.Value.Elem" 0) ReflectliteValue.elem) Tryd.func62 (by kernel_rfl) (by kernel_rfl) (by kernel_rfl) (by kernel_rfl)
  have hst := @run_callFunc_extern Tryd.prog 63 _ ReflectliteValue.set Tryd.func63 (by kernel_rfl) (by kernel_rfl) (by kernel_rfl) (by kernel_rfl)
  have q0 := as_typeOfF
  have q1 := as_typeOfN
  have q2 := as_methodAssignableTo
  have q3 := as_assignableN
  have q4 := as_valueOfEN
  have q5 := as_valueOfN
  have q6 := as_typeN
  have q7 := as_methodKind
  have q8 := as_methodElem
  have q9 := as_methodImplements
  have q10 := as_kindPN
  have q11 := as_kindEN
  have q12 := as_elemN
  have q13 := as_implementsN
  have n8 := as_isNilN ⟨w.heap.size, 0, none⟩ t ((w.alloc (.cells #[.pointer (some t)] 85)).alloc (.cells #[.pointer (some ⟨4, 85, none⟩), .pointer (some ⟨w.heap.size, 0, none⟩), .int .u64 150] 106)) (by simp)
  have hlt : 0 < w.heap.size := hg.lt
  unfold ErrT at hg
  have hg2 : ((w.alloc (.cells #[.pointer (some t)] 85)).alloc (.cells #[.pointer (some ⟨4, 85, none⟩), .pointer (some ⟨w.heap.size, 0, none⟩), .int .u64 150] 106)).cell? ⟨0, 0, none⟩ = some (.iface 114 (.agg #[.pointer (some ⟨4, 32, none⟩)])) := by
    rw [World.cell?_alloc_lt _ _ ⟨0, 0, none⟩ (by simp <;> omega), World.cell?_alloc_lt _ _ ⟨0, 0, none⟩ hlt]; exact hg
  have htl : t.block < w.heap.size := World.block_lt_of_cell? w _ ht0
  have el := as_elemVN ⟨w.heap.size, 0, none⟩ t (((w.alloc (.cells #[.pointer (some t)] 85)).alloc (.cells #[.pointer (some ⟨4, 85, none⟩), .pointer (some ⟨w.heap.size, 0, none⟩), .int .u64 150] 106)).alloc (.cells #[.pointer (some ⟨4, 85, none⟩), .pointer (some ⟨w.heap.size, 0, none⟩), .int .u64 150] 106)) (by rw [World.cell?_alloc_lt _ _ ⟨w.heap.size, 0, none⟩ (by simp; omega)]; simp)
  have st := as_setN t ⟨w.heap.size + 1 + 1 + 1, 0, none⟩ n old ((((w.alloc (.cells #[.pointer (some t)] 85)).alloc (.cells #[.pointer (some ⟨4, 85, none⟩), .pointer (some ⟨w.heap.size, 0, none⟩), .int .u64 150] 106)).alloc (.cells #[.pointer (some ⟨4, 85, none⟩), .pointer (some ⟨w.heap.size, 0, none⟩), .int .u64 150] 106)).alloc (.cells #[.int .i64 n] 35))
    (by rw [World.cell?_alloc_at _ _ _ _ (by simp)]; rfl)
    (by rw [World.cell?_alloc_lt _ _ t (by simp; omega), World.cell?_alloc_lt _ _ t (by simp; omega), World.cell?_alloc_lt _ _ t (by simp; omega), World.cell?_alloc_lt _ _ t htl]; exact ht0)
    (by rw [World.frozen?_alloc_old _ _ t (by simp; omega), World.frozen?_alloc_old _ _ t (by simp; omega), World.frozen?_alloc_old _ _ t (by simp; omega), World.frozen?_alloc_old _ _ t (Nat.ne_of_lt htl)]; exact hf0)
  go_enter Tryd.func45, Tryd.ntmps45
  go_wp2
  refine wp_loop_rounds 1 ?_
  rw [rounds_succ]
  go_wp2
  go_ret
  refine ⟨rfl, _, ?_, rfl⟩
  exact Below.push (Below.push (Below.push (Below.push (Below.refl _ w) (Nat.le_refl _) _) (Nat.le_refl _) _) (Nat.le_refl _) _) (Nat.le_refl _) _

set_option maxRecDepth 100000 in
set_option maxHeartbeats 4000000 in
theorem as_fault (n : Int) (fb : Nat) (v : Int) (t : Addr) (old : Value) (w : World) (hg : ErrT w) (ht0 : w.cell? t = some old) (hf0 : w.frozen? t = false) (hflt : FaultAt w fb v n) :
    Calls Tryd.prog 45 #[.iface 94 (.pointer (some ⟨fb, 0, none⟩)), .iface 85 (.pointer (some t))] w fun ev w' => Hid (ev = .returned (.bool true) ∧ ∃ w0, Below w.heap.size w w0 ∧ w' = w0.setCell t (.int .i64 n)) := by
  have hv := @run_callFunc_extern Tryd.prog 57 _ (fun args => ReflectliteValue.unpack (args.getD 0 (.tuple #[]))) Tryd.func57 (by kernel_rfl) (by kernel_rfl) (by kernel_rfl) (by kernel_rfl)
  have hty := @run_callFunc_extern Tryd.prog 58 _ (ReflectliteValue.methodAny (ReflectliteValue.valueError "reflectlite.Value.Type" 0) (fun t _ _ _ => ReflectliteType.toType t)) Tryd.func58 (by kernel_rfl) (by kernel_rfl) (by kernel_rfl) (by kernel_rfl)
  have hin := @run_callFunc_extern Tryd.prog 59 _ (ReflectliteValue.method (ReflectliteValue.valueError "reflectlite.Value.IsNil" 0) ReflectliteValue.isNil) Tryd.func59 (by kernel_rfl) (by kernel_rfl) (by kernel_rfl) (by kernel_rfl)
  have hk := @run_callFunc_extern Tryd.prog 91 _ (ReflectliteType.abiMethod fun t => do pure (.int .u8 (← Rtype.kind t))) Tryd.func91 (by kernel_rfl) (by kernel_rfl) (by kernel_rfl) (by kernel_rfl)
  have hel := @run_callFunc_extern Tryd.prog 100 _ (ReflectliteType.method ReflectliteType.elem) Tryd.func100 (by kernel_rfl) (by kernel_rfl) (by kernel_rfl) (by kernel_rfl)
  have him := @run_callFunc_extern Tryd.prog 101 _ (ReflectliteType.relation "Implements" ReflectliteType.implements_) Tryd.func101 (by kernel_rfl) (by kernel_rfl) (by kernel_rfl) (by kernel_rfl)
  have hto := @run_callFunc_extern Tryd.prog 47 _ ReflectliteType.typeOf Tryd.func47 (by kernel_rfl) (by kernel_rfl) (by kernel_rfl) (by kernel_rfl)
  have has := @run_callFunc_extern Tryd.prog 98 _ (ReflectliteType.relation "AssignableTo" ReflectliteType.assignableTo) Tryd.func98 (by kernel_rfl) (by kernel_rfl) (by kernel_rfl) (by kernel_rfl)
  have hve := @run_callFunc_extern Tryd.prog 62 _ (ReflectliteValue.method (ReflectliteValue.valueError "reflectlite.Value.Elem" 0) ReflectliteValue.elem) Tryd.func62 (by kernel_rfl) (by kernel_rfl) (by kernel_rfl) (by kernel_rfl)
  have hst := @run_callFunc_extern Tryd.prog 63 _ ReflectliteValue.set Tryd.func63 (by kernel_rfl) (by kernel_rfl) (by kernel_rfl) (by kernel_rfl)
  have q0 := as_typeOfF
  have q1 := as_typeOfN
  have q2 := as_methodAssignableTo
  have q3 := as_assignableN
  have q4 := as_valueOfEN
  have q5 := as_valueOfN
  have q6 := as_typeN
  have q7 := as_methodKind
  have q8 := as_methodElem
  have q9 := as_methodImplements
  have q10 := as_kindPN
  have q11 := as_kindEN
  have q12 := as_elemN
  have q13 := as_implementsN
  have q14 := as_notFN
  have q15 := as_noAs
  have q16 := ei_faultUnwrap
  have q17 := ei_methodUnwrap
  have n8 := as_isNilN ⟨w.heap.size, 0, none⟩ t ((w.alloc (.cells #[.pointer (some t)] 85)).alloc (.cells #[.pointer (some ⟨4, 85, none⟩), .pointer (some ⟨w.heap.size, 0, none⟩), .int .u64 150] 106)) (by simp)
  have hlt : 0 < w.heap.size := hg.lt
  unfold ErrT at hg
  have hg2 : ((w.alloc (.cells #[.pointer (some t)] 85)).alloc (.cells #[.pointer (some ⟨4, 85, none⟩), .pointer (some ⟨w.heap.size, 0, none⟩), .int .u64 150] 106)).cell? ⟨0, 0, none⟩ = some (.iface 114 (.agg #[.pointer (some ⟨4, 32, none⟩)])) := by
    rw [World.cell?_alloc_lt _ _ ⟨0, 0, none⟩ (by simp <;> omega), World.cell?_alloc_lt _ _ ⟨0, 0, none⟩ hlt]; exact hg
  have htl : t.block < w.heap.size := World.block_lt_of_cell? w _ ht0
  have el := as_elemVN ⟨w.heap.size, 0, none⟩ t (((w.alloc (.cells #[.pointer (some t)] 85)).alloc (.cells #[.pointer (some ⟨4, 85, none⟩), .pointer (some ⟨w.heap.size, 0, none⟩), .int .u64 150] 106)).alloc (.cells #[.pointer (some ⟨4, 85, none⟩), .pointer (some ⟨w.heap.size, 0, none⟩), .int .u64 150] 106)) (by rw [World.cell?_alloc_lt _ _ ⟨w.heap.size, 0, none⟩ (by simp; omega)]; simp)
  have st := as_setN t ⟨w.heap.size + 1 + 1 + 1, 0, none⟩ n old ((((w.alloc (.cells #[.pointer (some t)] 85)).alloc (.cells #[.pointer (some ⟨4, 85, none⟩), .pointer (some ⟨w.heap.size, 0, none⟩), .int .u64 150] 106)).alloc (.cells #[.pointer (some ⟨4, 85, none⟩), .pointer (some ⟨w.heap.size, 0, none⟩), .int .u64 150] 106)).alloc (.cells #[.int .i64 n] 35))
    (by rw [World.cell?_alloc_at _ _ _ _ (by simp)]; rfl)
    (by rw [World.cell?_alloc_lt _ _ t (by simp; omega), World.cell?_alloc_lt _ _ t (by simp; omega), World.cell?_alloc_lt _ _ t (by simp; omega), World.cell?_alloc_lt _ _ t htl]; exact ht0)
    (by rw [World.frozen?_alloc_old _ _ t (by simp; omega), World.frozen?_alloc_old _ _ t (by simp; omega), World.frozen?_alloc_old _ _ t (by simp; omega), World.frozen?_alloc_old _ _ t (Nat.ne_of_lt htl)]; exact hf0)
  have h2 : (((w.alloc (.cells #[.pointer (some t)] 85)).alloc (.cells #[.pointer (some ⟨4, 85, none⟩), .pointer (some ⟨w.heap.size, 0, none⟩), .int .u64 150] 106)).alloc (.cells #[.pointer (some ⟨4, 85, none⟩), .pointer (some ⟨w.heap.size, 0, none⟩), .int .u64 150] 106)).cell? ⟨fb, 2, none⟩ = some (.iface 35 (.int .i64 n)) := by
    have hl := lt_of_heap hflt
    rw [World.cell?_alloc_lt _ _ ⟨fb, 2, none⟩ (by simp; omega), World.cell?_alloc_lt _ _ ⟨fb, 2, none⟩ (by simp; omega)]
    rw [World.cell?_alloc_lt _ _ ⟨fb, 2, none⟩ hl]
    exact cell_at hflt 2 rfl
  have h3 : ((w.alloc (.cells #[.pointer (some t)] 85)).alloc (.cells #[.pointer (some ⟨4, 85, none⟩), .pointer (some ⟨w.heap.size, 0, none⟩), .int .u64 150] 106)).cell? ⟨fb, 2, none⟩ = some (.iface 35 (.int .i64 n)) := by
    have hl := lt_of_heap hflt
    rw [World.cell?_alloc_lt _ _ ⟨fb, 2, none⟩ (by simp; omega)]
    rw [World.cell?_alloc_lt _ _ ⟨fb, 2, none⟩ hl]
    exact cell_at hflt 2 rfl
  clear hflt
  go_enter Tryd.func45, Tryd.ntmps45
  go_wp2
  refine wp_loop_rounds 2 ?_
  rw [rounds_succ]
  go_wp2
  rw [rounds_succ]
  go_wp2
  go_ret
  refine ⟨rfl, _, ?_, rfl⟩
  exact Below.push (Below.push (Below.push (Below.push (Below.refl _ w) (Nat.le_refl _) _) (Nat.le_refl _) _) (Nat.le_refl _) _) (Nat.le_refl _) _

set_option maxRecDepth 100000 in
set_option maxHeartbeats 4000000 in
theorem as_itself (n : Addr) (t : Addr) (old : Value) (w : World) (hg : ErrT w) (ht0 : w.cell? t = some old) (hf0 : w.frozen? t = false) :
    Calls Tryd.prog 45 #[.iface 94 (.pointer (some n)), .iface 97 (.pointer (some t))] w fun ev w' => Hid (ev = .returned (.bool true) ∧ ∃ w0, Below w.heap.size w w0 ∧ w' = w0.setCell t (.pointer (some n))) := by
  have hv := @run_callFunc_extern Tryd.prog 57 _ (fun args => ReflectliteValue.unpack (args.getD 0 (.tuple #[]))) Tryd.func57 (by kernel_rfl) (by kernel_rfl) (by kernel_rfl) (by kernel_rfl)
  have hty := @run_callFunc_extern Tryd.prog 58 _ (ReflectliteValue.methodAny (ReflectliteValue.valueError "reflectlite.Value.Type" 0) (fun t _ _ _ => ReflectliteType.toType t)) Tryd.func58 (by kernel_rfl) (by kernel_rfl) (by kernel_rfl) (by kernel_rfl)
  have hin := @run_callFunc_extern Tryd.prog 59 _ (ReflectliteValue.method (ReflectliteValue.valueError "reflectlite.Value.IsNil" 0) ReflectliteValue.isNil) Tryd.func59 (by kernel_rfl) (by kernel_rfl) (by kernel_rfl) (by kernel_rfl)
  have hk := @run_callFunc_extern Tryd.prog 91 _ (ReflectliteType.abiMethod fun t => do pure (.int .u8 (← Rtype.kind t))) Tryd.func91 (by kernel_rfl) (by kernel_rfl) (by kernel_rfl) (by kernel_rfl)
  have hel := @run_callFunc_extern Tryd.prog 100 _ (ReflectliteType.method ReflectliteType.elem) Tryd.func100 (by kernel_rfl) (by kernel_rfl) (by kernel_rfl) (by kernel_rfl)
  have him := @run_callFunc_extern Tryd.prog 101 _ (ReflectliteType.relation "Implements" ReflectliteType.implements_) Tryd.func101 (by kernel_rfl) (by kernel_rfl) (by kernel_rfl) (by kernel_rfl)
  have hto := @run_callFunc_extern Tryd.prog 47 _ ReflectliteType.typeOf Tryd.func47 (by kernel_rfl) (by kernel_rfl) (by kernel_rfl) (by kernel_rfl)
  have has := @run_callFunc_extern Tryd.prog 98 _ (ReflectliteType.relation "AssignableTo" ReflectliteType.assignableTo) Tryd.func98 (by kernel_rfl) (by kernel_rfl) (by kernel_rfl) (by kernel_rfl)
  have hve := @run_callFunc_extern Tryd.prog 62 _ (ReflectliteValue.method (ReflectliteValue.valueError "reflectlite.Value.Elem" 0) ReflectliteValue.elem) Tryd.func62 (by kernel_rfl) (by kernel_rfl) (by kernel_rfl) (by kernel_rfl)
  have hst := @run_callFunc_extern Tryd.prog 63 _ ReflectliteValue.set Tryd.func63 (by kernel_rfl) (by kernel_rfl) (by kernel_rfl) (by kernel_rfl)
  have q0 := as_typeOfF
  have q1 := as_typeOfN
  have q2 := as_methodAssignableTo
  have q3 := as_assignableF
  have q4 := as_valueOfEF
  have q5 := as_valueOfF
  have q6 := as_typeF
  have q7 := as_methodKind
  have q8 := as_methodElem
  have q9 := as_methodImplements
  have q10 := as_kindPF
  have q11 := as_kindEF
  have q12 := as_elemF
  have q13 := as_implementsF
  have n8 := as_isNilF ⟨w.heap.size, 0, none⟩ t ((w.alloc (.cells #[.pointer (some t)] 97)).alloc (.cells #[.pointer (some ⟨4, 97, none⟩), .pointer (some ⟨w.heap.size, 0, none⟩), .int .u64 150] 106)) (by simp)
  have hlt : 0 < w.heap.size := hg.lt
  unfold ErrT at hg
  have hg2 : ((w.alloc (.cells #[.pointer (some t)] 97)).alloc (.cells #[.pointer (some ⟨4, 97, none⟩), .pointer (some ⟨w.heap.size, 0, none⟩), .int .u64 150] 106)).cell? ⟨0, 0, none⟩ = some (.iface 114 (.agg #[.pointer (some ⟨4, 32, none⟩)])) := by
    rw [World.cell?_alloc_lt _ _ ⟨0, 0, none⟩ (by simp <;> omega), World.cell?_alloc_lt _ _ ⟨0, 0, none⟩ hlt]; exact hg
  have htl : t.block < w.heap.size := World.block_lt_of_cell? w _ ht0
  have el := as_elemVF ⟨w.heap.size, 0, none⟩ t (((w.alloc (.cells #[.pointer (some t)] 97)).alloc (.cells #[.pointer (some ⟨4, 97, none⟩), .pointer (some ⟨w.heap.size, 0, none⟩), .int .u64 150] 106)).alloc (.cells #[.pointer (some ⟨4, 97, none⟩), .pointer (some ⟨w.heap.size, 0, none⟩), .int .u64 150] 106)) (by rw [World.cell?_alloc_lt _ _ ⟨w.heap.size, 0, none⟩ (by simp; omega)]; simp)
  have st := as_setF t ⟨w.heap.size + 1 + 1 + 1, 0, none⟩ n old ((((w.alloc (.cells #[.pointer (some t)] 97)).alloc (.cells #[.pointer (some ⟨4, 97, none⟩), .pointer (some ⟨w.heap.size, 0, none⟩), .int .u64 150] 106)).alloc (.cells #[.pointer (some ⟨4, 97, none⟩), .pointer (some ⟨w.heap.size, 0, none⟩), .int .u64 150] 106)).alloc (.cells #[.pointer (some n)] 94))
    (by rw [World.cell?_alloc_at _ _ _ _ (by simp)]; rfl)
    (by rw [World.cell?_alloc_lt _ _ t (by simp; omega), World.cell?_alloc_lt _ _ t (by simp; omega), World.cell?_alloc_lt _ _ t (by simp; omega), World.cell?_alloc_lt _ _ t htl]; exact ht0)
    (by rw [World.frozen?_alloc_old _ _ t (by simp; omega), World.frozen?_alloc_old _ _ t (by simp; omega), World.frozen?_alloc_old _ _ t (by simp; omega), World.frozen?_alloc_old _ _ t (Nat.ne_of_lt htl)]; exact hf0)
  go_enter Tryd.func45, Tryd.ntmps45
  go_wp2
  refine wp_loop_rounds 1 ?_
  rw [rounds_succ]
  go_wp2
  go_ret
  refine ⟨rfl, _, ?_, rfl⟩
  exact Below.push (Below.push (Below.push (Below.push (Below.refl _ w) (Nat.le_refl _) _) (Nat.le_refl _) _) (Nat.le_refl _) _) (Nat.le_refl _) _
end Go.Proofs.YtknoigebkpapoaaDoor
