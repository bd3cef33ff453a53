/- errors.As and errors.Is by their contracts, at the error types of package api: walked over Go's own text. Conditions: the variable errors.errorType holds its handle. -/
import Derived.Test.YtoflnmpbmjkaiaaDoorProg
import Derived.WalkKit
import Derived.WalkSpells
import Derived.LaidEql
import Derived.Stop.Asserts
import Derived.RowKitTokens
namespace Go.Proofs.YtoflnmpbmjkaiaaDoor
open Go.RowKit Go.Extern.Stop Go.Stop Go.Extern
namespace Err

theorem rlm (z : Sem Value) (f : TypeId → Addr → Nat → Nat → Sem Value) (v : Value) :
    ReflectliteValue.method z f #[v] = (do match ← ReflectliteValue.parts v with | none => z | some (t, a, fl) => f t a fl (fl % 32)) := rfl
theorem rls (v x : Value) : ReflectliteValue.set #[v, x] = (do
    let (some (dst, a, fl), some (src, b, _)) := (← ReflectliteValue.parts v, ← ReflectliteValue.parts x)
      | unsupported (.noEntry "extern/(internal/reflectlite.Value).Set.zeroValue")
    if fl / ReflectliteValue.flagAddr % 2 == 0 then unsupported (.noEntry "extern/(internal/reflectlite.Value).Set.unaddressable")
    let val ← loadVar src b
    if ← Rtype.directlyAssignable dst src then storeVar dst a val
    else if ← Rtype.implements dst src then
      if (← Rtype.kind src) == 20 then
        match val with
        | .nilIface => unsupported (.noEntry "extern/reflectlite: a nil value of one interface type handed on as a value of another")
        | _ => storeVar dst a val
      else storeVar dst a (.iface src val)
    else panicString ("reflectlite.Set: value of type " ++ (← Rtype.spelt src) ++ " is not assignable to type " ++ (← Rtype.spelt dst))
    pure (.tuple #[])) := rfl

theorem methodKind (h : Value) (w : World) : (Go.method 269 103 (.agg #[h]) "Kind").run Tryd.prog w = .ok (48, h) w := by kernel_rfl
theorem methodElem (h : Value) (w : World) : (Go.method 269 103 (.agg #[h]) "Elem").run Tryd.prog w = .ok (65, .agg #[h]) w := by kernel_rfl
theorem methodImplements (h : Value) (w : World) : (Go.method 269 103 (.agg #[h]) "Implements").run Tryd.prog w = .ok (66, .agg #[h]) w := by kernel_rfl
theorem methodAssignableTo (h : Value) (w : World) : (Go.method 269 103 (.agg #[h]) "AssignableTo").run Tryd.prog w = .ok (63, .agg #[h]) w := by kernel_rfl
theorem methodComparable (h : Value) (w : World) : (Go.method 269 103 (.agg #[h]) "Comparable").run Tryd.prog w = .ok (64, .agg #[h]) w := by kernel_rfl
theorem excessUnwrap (h : Value) (w : World) : (Go.method 269 62 h "Unwrap").run Tryd.prog w = .ok (55, h) w := by kernel_rfl
theorem faultUnwrap (h : Value) (w : World) : (Go.method 269 73 h "Unwrap").run Tryd.prog w = .ok (57, h) w := by kernel_rfl

/-! ### the type pExcess -/
theorem kind_ppExcess (w : World) : ((ReflectliteType.abiMethod fun t => (fun a : Nat => Value.int IntKind.u8 (a : Int)) <$> Rtype.kind t) #[.pointer (some ⟨1, 64, none⟩)]).run Tryd.prog w = .ok (.int .u8 22) w := by kernel_rfl
theorem kind_pExcess (w : World) : ((ReflectliteType.abiMethod fun t => (fun a : Nat => Value.int IntKind.u8 (a : Int)) <$> Rtype.kind t) #[.pointer (some ⟨1, 62, none⟩)]).run Tryd.prog w = .ok (.int .u8 22) w := by kernel_rfl
theorem valueOf_ppExcess (t : Addr) (w : World) : (ReflectliteValue.unpack (.iface 64 (.pointer (some t)))).run Tryd.prog w
    = .ok (.agg #[.pointer (some ⟨1, 64, none⟩), .pointer (some ⟨w.heap.size, 0, none⟩), .int .u64 150]) (w.alloc (.cells #[.pointer (some t)] 64)) := by kernel_rfl
theorem type_ppExcess (a : Addr) (w : World) : (ReflectliteValue.methodAny (ReflectliteValue.valueError "reflectlite.Value.Type" 0) (fun t _ _ _ => ReflectliteType.toType t) #[.agg #[.pointer (some ⟨1, 64, none⟩), .pointer (some a), .int .u64 150]]).run Tryd.prog w
    = .ok (.iface 103 (.agg #[.pointer (some ⟨1, 64, none⟩)])) w := by kernel_rfl
theorem parts_ppExcess (a : Addr) (w : World) : (ReflectliteValue.parts (.agg #[.pointer (some ⟨1, 64, none⟩), .pointer (some a), .int .u64 150])).run Tryd.prog w = .ok (some (64, a, 150)) w := by kernel_rfl
theorem isNil_ppExcess (a p : Addr) (W : World) (ha : W.cell? a = some (.pointer (some p))) :
    (ReflectliteValue.method (ReflectliteValue.valueError "reflectlite.Value.IsNil" 0) ReflectliteValue.isNil #[.agg #[.pointer (some ⟨1, 64, none⟩), .pointer (some a), .int .u64 150]]).run Tryd.prog W = .ok (.bool false) W := by
  rw [rlm]
  simp only [Sem.run_bind, parts_ppExcess, Result.andThen]
  simp [ReflectliteValue.isNil, loadVar, isAgg, underlying, Tryd.underlying64, ha, Result.andThen]
theorem elem_ppExcess (w : World) : (ReflectliteType.method ReflectliteType.elem #[.agg #[.pointer (some ⟨1, 64, none⟩)]]).run Tryd.prog w = .ok (.iface 103 (.agg #[.pointer (some ⟨1, 62, none⟩)])) w := by kernel_rfl
theorem implements_pExcess (w : World) : (ReflectliteType.relation "Implements" ReflectliteType.implements_ #[.agg #[.pointer (some ⟨1, 62, none⟩)], .iface 103 (.agg #[.pointer (some ⟨1, 37, none⟩)])]).run Tryd.prog w = .ok (.bool true) w := by kernel_rfl
theorem typeOf_pExcess (v : Value) (w : World) : (ReflectliteType.typeOf #[.iface 62 v]).run Tryd.prog w = .ok (.iface 103 (.agg #[.pointer (some ⟨1, 62, none⟩)])) w := by kernel_rfl
theorem assignable_pExcess (w : World) : (ReflectliteType.relation "AssignableTo" ReflectliteType.assignableTo #[.agg #[.pointer (some ⟨1, 62, none⟩)], .iface 103 (.agg #[.pointer (some ⟨1, 62, none⟩)])]).run Tryd.prog w = .ok (.bool true) w := by kernel_rfl
theorem valueOf_pExcess (e : Addr) (w : World) : (ReflectliteValue.unpack (.iface 62 (.pointer (some e)))).run Tryd.prog w
    = .ok (.agg #[.pointer (some ⟨1, 62, none⟩), .pointer (some ⟨w.heap.size, 0, none⟩), .int .u64 150]) (w.alloc (.cells #[.pointer (some e)] 62)) := by kernel_rfl
theorem elemOf_ppExcess (w : World) : (Rtype.elem? 64).run Tryd.prog w = .ok (some 62) w := by kernel_rfl
theorem mk_pExcess (p : Addr) (w : World) : (ReflectliteValue.mk 62 p ReflectliteValue.flagAddr).run Tryd.prog w = .ok (.agg #[.pointer (some ⟨1, 62, none⟩), .pointer (some p), .int .u64 406]) w := by kernel_rfl
theorem elemV_ppExcess (a p : Addr) (W : World) (ha : W.cell? a = some (.pointer (some p))) :
    (ReflectliteValue.method (ReflectliteValue.valueError "reflectlite.Value.Elem" 0) ReflectliteValue.elem #[.agg #[.pointer (some ⟨1, 64, none⟩), .pointer (some a), .int .u64 150]]).run Tryd.prog W
      = .ok (.agg #[.pointer (some ⟨1, 62, none⟩), .pointer (some p), .int .u64 406]) W := by
  rw [rlm]
  simp only [Sem.run_bind, parts_ppExcess, Result.andThen]
  simp [ReflectliteValue.elem, loadVar, isAgg, underlying, Tryd.underlying64, ha, Result.andThen, elemOf_ppExcess, mk_pExcess]
theorem parts_pExcessa (a : Addr) (w : World) : (ReflectliteValue.parts (.agg #[.pointer (some ⟨1, 62, none⟩), .pointer (some a), .int .u64 406])).run Tryd.prog w = .ok (some (62, a, 406)) w := by kernel_rfl
theorem parts_pExcess (a : Addr) (w : World) : (ReflectliteValue.parts (.agg #[.pointer (some ⟨1, 62, none⟩), .pointer (some a), .int .u64 150])).run Tryd.prog w = .ok (some (62, a, 150)) w := by kernel_rfl
theorem direct_pExcess (w : World) : (Rtype.directlyAssignable 62 62).run Tryd.prog w = .ok true w := by kernel_rfl
theorem set_pExcess (ta b : Addr) (e : Addr) (old : Value) (W : World) (hb : W.cell? b = some (.pointer (some e))) (ht : W.cell? ta = some old) (hf : W.frozen? ta = false) :
    (ReflectliteValue.set #[.agg #[.pointer (some ⟨1, 62, none⟩), .pointer (some ta), .int .u64 406], .agg #[.pointer (some ⟨1, 62, none⟩), .pointer (some b), .int .u64 150]]).run Tryd.prog W
      = .ok (.tuple #[]) (W.setCell ta (.pointer (some e))) := by
  rw [rls]
  simp only [Sem.run_bind, parts_pExcessa, parts_pExcess, Result.andThen]
  simp [ReflectliteValue.flagAddr, loadVar, isAgg, underlying, Tryd.underlying62, hb, Result.andThen, direct_pExcess, storeVar, Value.cells, storeCells, Addr.add]
  rw [run_store Tryd.prog W ta _ _ (by rfl)]
  simp [ht, hf]

/-! ### the type pFault -/
theorem kind_ppFault (w : World) : ((ReflectliteType.abiMethod fun t => (fun a : Nat => Value.int IntKind.u8 (a : Int)) <$> Rtype.kind t) #[.pointer (some ⟨1, 97, none⟩)]).run Tryd.prog w = .ok (.int .u8 22) w := by kernel_rfl
theorem kind_pFault (w : World) : ((ReflectliteType.abiMethod fun t => (fun a : Nat => Value.int IntKind.u8 (a : Int)) <$> Rtype.kind t) #[.pointer (some ⟨1, 73, none⟩)]).run Tryd.prog w = .ok (.int .u8 22) w := by kernel_rfl
theorem valueOf_ppFault (t : Addr) (w : World) : (ReflectliteValue.unpack (.iface 97 (.pointer (some t)))).run Tryd.prog w
    = .ok (.agg #[.pointer (some ⟨1, 97, none⟩), .pointer (some ⟨w.heap.size, 0, none⟩), .int .u64 150]) (w.alloc (.cells #[.pointer (some t)] 97)) := by kernel_rfl
theorem type_ppFault (a : Addr) (w : World) : (ReflectliteValue.methodAny (ReflectliteValue.valueError "reflectlite.Value.Type" 0) (fun t _ _ _ => ReflectliteType.toType t) #[.agg #[.pointer (some ⟨1, 97, none⟩), .pointer (some a), .int .u64 150]]).run Tryd.prog w
    = .ok (.iface 103 (.agg #[.pointer (some ⟨1, 97, none⟩)])) w := by kernel_rfl
theorem parts_ppFault (a : Addr) (w : World) : (ReflectliteValue.parts (.agg #[.pointer (some ⟨1, 97, none⟩), .pointer (some a), .int .u64 150])).run Tryd.prog w = .ok (some (97, a, 150)) w := by kernel_rfl
theorem isNil_ppFault (a p : Addr) (W : World) (ha : W.cell? a = some (.pointer (some p))) :
    (ReflectliteValue.method (ReflectliteValue.valueError "reflectlite.Value.IsNil" 0) ReflectliteValue.isNil #[.agg #[.pointer (some ⟨1, 97, none⟩), .pointer (some a), .int .u64 150]]).run Tryd.prog W = .ok (.bool false) W := by
  rw [rlm]
  simp only [Sem.run_bind, parts_ppFault, Result.andThen]
  simp [ReflectliteValue.isNil, loadVar, isAgg, underlying, Tryd.underlying97, ha, Result.andThen]
theorem elem_ppFault (w : World) : (ReflectliteType.method ReflectliteType.elem #[.agg #[.pointer (some ⟨1, 97, none⟩)]]).run Tryd.prog w = .ok (.iface 103 (.agg #[.pointer (some ⟨1, 73, none⟩)])) w := by kernel_rfl
theorem implements_pFault (w : World) : (ReflectliteType.relation "Implements" ReflectliteType.implements_ #[.agg #[.pointer (some ⟨1, 73, none⟩)], .iface 103 (.agg #[.pointer (some ⟨1, 37, none⟩)])]).run Tryd.prog w = .ok (.bool true) w := by kernel_rfl
theorem typeOf_pFault (v : Value) (w : World) : (ReflectliteType.typeOf #[.iface 73 v]).run Tryd.prog w = .ok (.iface 103 (.agg #[.pointer (some ⟨1, 73, none⟩)])) w := by kernel_rfl
theorem assignable_pFault (w : World) : (ReflectliteType.relation "AssignableTo" ReflectliteType.assignableTo #[.agg #[.pointer (some ⟨1, 73, none⟩)], .iface 103 (.agg #[.pointer (some ⟨1, 73, none⟩)])]).run Tryd.prog w = .ok (.bool true) w := by kernel_rfl
theorem valueOf_pFault (e : Addr) (w : World) : (ReflectliteValue.unpack (.iface 73 (.pointer (some e)))).run Tryd.prog w
    = .ok (.agg #[.pointer (some ⟨1, 73, none⟩), .pointer (some ⟨w.heap.size, 0, none⟩), .int .u64 150]) (w.alloc (.cells #[.pointer (some e)] 73)) := by kernel_rfl
theorem elemOf_ppFault (w : World) : (Rtype.elem? 97).run Tryd.prog w = .ok (some 73) w := by kernel_rfl
theorem mk_pFault (p : Addr) (w : World) : (ReflectliteValue.mk 73 p ReflectliteValue.flagAddr).run Tryd.prog w = .ok (.agg #[.pointer (some ⟨1, 73, none⟩), .pointer (some p), .int .u64 406]) w := by kernel_rfl
theorem elemV_ppFault (a p : Addr) (W : World) (ha : W.cell? a = some (.pointer (some p))) :
    (ReflectliteValue.method (ReflectliteValue.valueError "reflectlite.Value.Elem" 0) ReflectliteValue.elem #[.agg #[.pointer (some ⟨1, 97, none⟩), .pointer (some a), .int .u64 150]]).run Tryd.prog W
      = .ok (.agg #[.pointer (some ⟨1, 73, none⟩), .pointer (some p), .int .u64 406]) W := by
  rw [rlm]
  simp only [Sem.run_bind, parts_ppFault, Result.andThen]
  simp [ReflectliteValue.elem, loadVar, isAgg, underlying, Tryd.underlying97, ha, Result.andThen, elemOf_ppFault, mk_pFault]
theorem parts_pFaulta (a : Addr) (w : World) : (ReflectliteValue.parts (.agg #[.pointer (some ⟨1, 73, none⟩), .pointer (some a), .int .u64 406])).run Tryd.prog w = .ok (some (73, a, 406)) w := by kernel_rfl
theorem parts_pFault (a : Addr) (w : World) : (ReflectliteValue.parts (.agg #[.pointer (some ⟨1, 73, none⟩), .pointer (some a), .int .u64 150])).run Tryd.prog w = .ok (some (73, a, 150)) w := by kernel_rfl
theorem direct_pFault (w : World) : (Rtype.directlyAssignable 73 73).run Tryd.prog w = .ok true w := by kernel_rfl
theorem set_pFault (ta b : Addr) (e : Addr) (old : Value) (W : World) (hb : W.cell? b = some (.pointer (some e))) (ht : W.cell? ta = some old) (hf : W.frozen? ta = false) :
    (ReflectliteValue.set #[.agg #[.pointer (some ⟨1, 73, none⟩), .pointer (some ta), .int .u64 406], .agg #[.pointer (some ⟨1, 73, none⟩), .pointer (some b), .int .u64 150]]).run Tryd.prog W
      = .ok (.tuple #[]) (W.setCell ta (.pointer (some e))) := by
  rw [rls]
  simp only [Sem.run_bind, parts_pFaulta, parts_pFault, Result.andThen]
  simp [ReflectliteValue.flagAddr, loadVar, isAgg, underlying, Tryd.underlying73, hb, Result.andThen, direct_pFault, storeVar, Value.cells, storeCells, Addr.add]
  rw [run_store Tryd.prog W ta _ _ (by rfl)]
  simp [ht, hf]

/-! ### the type Errno -/
theorem kind_pErrno (w : World) : ((ReflectliteType.abiMethod fun t => (fun a : Nat => Value.int IntKind.u8 (a : Int)) <$> Rtype.kind t) #[.pointer (some ⟨1, 96, none⟩)]).run Tryd.prog w = .ok (.int .u8 22) w := by kernel_rfl
theorem kind_Errno (w : World) : ((ReflectliteType.abiMethod fun t => (fun a : Nat => Value.int IntKind.u8 (a : Int)) <$> Rtype.kind t) #[.pointer (some ⟨1, 50, none⟩)]).run Tryd.prog w = .ok (.int .u8 2) w := by kernel_rfl
theorem valueOf_pErrno (t : Addr) (w : World) : (ReflectliteValue.unpack (.iface 96 (.pointer (some t)))).run Tryd.prog w
    = .ok (.agg #[.pointer (some ⟨1, 96, none⟩), .pointer (some ⟨w.heap.size, 0, none⟩), .int .u64 150]) (w.alloc (.cells #[.pointer (some t)] 96)) := by kernel_rfl
theorem type_pErrno (a : Addr) (w : World) : (ReflectliteValue.methodAny (ReflectliteValue.valueError "reflectlite.Value.Type" 0) (fun t _ _ _ => ReflectliteType.toType t) #[.agg #[.pointer (some ⟨1, 96, none⟩), .pointer (some a), .int .u64 150]]).run Tryd.prog w
    = .ok (.iface 103 (.agg #[.pointer (some ⟨1, 96, none⟩)])) w := by kernel_rfl
theorem parts_pErrno (a : Addr) (w : World) : (ReflectliteValue.parts (.agg #[.pointer (some ⟨1, 96, none⟩), .pointer (some a), .int .u64 150])).run Tryd.prog w = .ok (some (96, a, 150)) w := by kernel_rfl
theorem isNil_pErrno (a p : Addr) (W : World) (ha : W.cell? a = some (.pointer (some p))) :
    (ReflectliteValue.method (ReflectliteValue.valueError "reflectlite.Value.IsNil" 0) ReflectliteValue.isNil #[.agg #[.pointer (some ⟨1, 96, none⟩), .pointer (some a), .int .u64 150]]).run Tryd.prog W = .ok (.bool false) W := by
  rw [rlm]
  simp only [Sem.run_bind, parts_pErrno, Result.andThen]
  simp [ReflectliteValue.isNil, loadVar, isAgg, underlying, Tryd.underlying96, ha, Result.andThen]
theorem elem_pErrno (w : World) : (ReflectliteType.method ReflectliteType.elem #[.agg #[.pointer (some ⟨1, 96, none⟩)]]).run Tryd.prog w = .ok (.iface 103 (.agg #[.pointer (some ⟨1, 50, none⟩)])) w := by kernel_rfl
theorem implements_Errno (w : World) : (ReflectliteType.relation "Implements" ReflectliteType.implements_ #[.agg #[.pointer (some ⟨1, 50, none⟩)], .iface 103 (.agg #[.pointer (some ⟨1, 37, none⟩)])]).run Tryd.prog w = .ok (.bool true) w := by kernel_rfl
theorem typeOf_Errno (v : Value) (w : World) : (ReflectliteType.typeOf #[.iface 50 v]).run Tryd.prog w = .ok (.iface 103 (.agg #[.pointer (some ⟨1, 50, none⟩)])) w := by kernel_rfl
theorem assignable_Errno (w : World) : (ReflectliteType.relation "AssignableTo" ReflectliteType.assignableTo #[.agg #[.pointer (some ⟨1, 50, none⟩)], .iface 103 (.agg #[.pointer (some ⟨1, 50, none⟩)])]).run Tryd.prog w = .ok (.bool true) w := by kernel_rfl
theorem valueOf_Errno (e : Int) (w : World) : (ReflectliteValue.unpack (.iface 50 (.int .i64 e))).run Tryd.prog w
    = .ok (.agg #[.pointer (some ⟨1, 50, none⟩), .pointer (some ⟨w.heap.size, 0, none⟩), .int .u64 130]) (w.alloc (.cells #[.int .i64 e] 50)) := by kernel_rfl
theorem elemOf_pErrno (w : World) : (Rtype.elem? 96).run Tryd.prog w = .ok (some 50) w := by kernel_rfl
theorem mk_Errno (p : Addr) (w : World) : (ReflectliteValue.mk 50 p ReflectliteValue.flagAddr).run Tryd.prog w = .ok (.agg #[.pointer (some ⟨1, 50, none⟩), .pointer (some p), .int .u64 386]) w := by kernel_rfl
theorem elemV_pErrno (a p : Addr) (W : World) (ha : W.cell? a = some (.pointer (some p))) :
    (ReflectliteValue.method (ReflectliteValue.valueError "reflectlite.Value.Elem" 0) ReflectliteValue.elem #[.agg #[.pointer (some ⟨1, 96, none⟩), .pointer (some a), .int .u64 150]]).run Tryd.prog W
      = .ok (.agg #[.pointer (some ⟨1, 50, none⟩), .pointer (some p), .int .u64 386]) W := by
  rw [rlm]
  simp only [Sem.run_bind, parts_pErrno, Result.andThen]
  simp [ReflectliteValue.elem, loadVar, isAgg, underlying, Tryd.underlying96, ha, Result.andThen, elemOf_pErrno, mk_Errno]
theorem parts_Errnoa (a : Addr) (w : World) : (ReflectliteValue.parts (.agg #[.pointer (some ⟨1, 50, none⟩), .pointer (some a), .int .u64 386])).run Tryd.prog w = .ok (some (50, a, 386)) w := by kernel_rfl
theorem parts_Errno (a : Addr) (w : World) : (ReflectliteValue.parts (.agg #[.pointer (some ⟨1, 50, none⟩), .pointer (some a), .int .u64 130])).run Tryd.prog w = .ok (some (50, a, 130)) w := by kernel_rfl
theorem direct_Errno (w : World) : (Rtype.directlyAssignable 50 50).run Tryd.prog w = .ok true w := by kernel_rfl
theorem set_Errno (ta b : Addr) (e : Int) (old : Value) (W : World) (hb : W.cell? b = some (.int .i64 e)) (ht : W.cell? ta = some old) (hf : W.frozen? ta = false) :
    (ReflectliteValue.set #[.agg #[.pointer (some ⟨1, 50, none⟩), .pointer (some ta), .int .u64 386], .agg #[.pointer (some ⟨1, 50, none⟩), .pointer (some b), .int .u64 130]]).run Tryd.prog W
      = .ok (.tuple #[]) (W.setCell ta (.int .i64 e)) := by
  rw [rls]
  simp only [Sem.run_bind, parts_Errnoa, parts_Errno, Result.andThen]
  simp [ReflectliteValue.flagAddr, loadVar, isAgg, underlying, Tryd.underlying50, hb, Result.andThen, direct_Errno, storeVar, Value.cells, storeCells, Addr.add]
  rw [run_store Tryd.prog W ta _ _ (by rfl)]
  simp [ht, hf]

/-! ### between the types -/
theorem notAssignable_pExcess (w : World) : (ReflectliteType.relation "AssignableTo" ReflectliteType.assignableTo #[.agg #[.pointer (some ⟨1, 62, none⟩)], .iface 103 (.agg #[.pointer (some ⟨1, 50, none⟩)])]).run Tryd.prog w = .ok (.bool false) w := by kernel_rfl
theorem noAs_pExcess (v : Value) (xT : TypeId) (w : World) : (Instr.typeAssert (.iface 62 v) xT 107 true).run Tryd.prog w = .ok (.tuple #[.nilIface, .bool false]) w := run_typeAssert_lacksB Tryd.underlying107 (by kernel_rfl) (by kernel_rfl) v xT w
theorem noIs_pExcess (v : Value) (xT : TypeId) (w : World) : (Instr.typeAssert (.iface 62 v) xT 115 true).run Tryd.prog w = .ok (.tuple #[.nilIface, .bool false]) w := run_typeAssert_lacksB Tryd.underlying115 (by kernel_rfl) (by kernel_rfl) v xT w
theorem hasUnwrap_pExcess (v : Value) (xT : TypeId) (w : World) : (Instr.typeAssert (.iface 62 v) xT 110 true).run Tryd.prog w = .ok (.tuple #[.iface 62 v, .bool true]) w := run_typeAssert_hasB Tryd.underlying110 (by kernel_rfl) v xT w
theorem notEql_pExcess (v u : Value) (w : World) : (binOp .eql 37 (.iface 62 v) (.iface 50 u)).run Tryd.prog w = .ok (.bool false) w := run_eql_iface_types 62 50 v u Tryd.underlying37 (by decide) w
theorem notAssignable_pFault (w : World) : (ReflectliteType.relation "AssignableTo" ReflectliteType.assignableTo #[.agg #[.pointer (some ⟨1, 73, none⟩)], .iface 103 (.agg #[.pointer (some ⟨1, 50, none⟩)])]).run Tryd.prog w = .ok (.bool false) w := by kernel_rfl
theorem noAs_pFault (v : Value) (xT : TypeId) (w : World) : (Instr.typeAssert (.iface 73 v) xT 107 true).run Tryd.prog w = .ok (.tuple #[.nilIface, .bool false]) w := run_typeAssert_lacksB Tryd.underlying107 (by kernel_rfl) (by kernel_rfl) v xT w
theorem noIs_pFault (v : Value) (xT : TypeId) (w : World) : (Instr.typeAssert (.iface 73 v) xT 115 true).run Tryd.prog w = .ok (.tuple #[.nilIface, .bool false]) w := run_typeAssert_lacksB Tryd.underlying115 (by kernel_rfl) (by kernel_rfl) v xT w
theorem hasUnwrap_pFault (v : Value) (xT : TypeId) (w : World) : (Instr.typeAssert (.iface 73 v) xT 110 true).run Tryd.prog w = .ok (.tuple #[.iface 73 v, .bool true]) w := run_typeAssert_hasB Tryd.underlying110 (by kernel_rfl) v xT w
theorem notEql_pFault (v u : Value) (w : World) : (binOp .eql 37 (.iface 73 v) (.iface 50 u)).run Tryd.prog w = .ok (.bool false) w := run_eql_iface_types 73 50 v u Tryd.underlying37 (by decide) w
theorem comparable_Errno (w : World) : (ReflectliteType.method (fun t => do Rtype.noPackHeld "Comparable" t; pure (.bool (← typeInfo t).comparable)) #[.agg #[.pointer (some ⟨1, 50, none⟩)]]).run Tryd.prog w = .ok (.bool true) w := by kernel_rfl
end Err
end Go.Proofs.YtoflnmpbmjkaiaaDoor
