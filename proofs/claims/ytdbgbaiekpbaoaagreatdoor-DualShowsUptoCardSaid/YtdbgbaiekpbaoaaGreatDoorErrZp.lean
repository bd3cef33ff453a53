/- errors.As and errors.Is by their contracts,at the error types of package api: walked over Go's own text. Conditions: the variable errors.errorType holds its handle. errors.As and errors.Is by their contracts: hits at once,and behind one Unwrap;api.Number,api.Place. Conditions: as each says;errors.errorType holds its handle. errors.Is,api.Number,api.Place,api.Wrap and the two Told by their contracts. Conditions: as each says;errors.errorType holds its handle. Errors that are a number,or a number with a place: errors.Is,api.Number,Place,Wrap and Told by their contracts. Conditions: as each says;errors.errorType holds its handle. Conditions: as they say. -/
import Derived.Test.YtdbgbaiekpbaoaaGreatDoorProg
import Derived.WalkKit
import Derived.WalkSpells
import Derived.LaidEql
import Derived.Stop.Asserts
import Derived.RowKitTokens
import Derived.Below
import Derived.Lib.Hide
set_option linter.all false
namespace Go.Proofs.YtdbgbaiekpbaoaaGreatDoor
open Go.RowKit Go.Extern.Stop Go.Stop Go.Extern
namespace Err

theorem rlm (z:Sem Value) (f:TypeId → Addr → Nat → Nat → Sem Value) (v:Value) :
  ReflectliteValue.method z f #[v] = (do match ← ReflectliteValue.parts v with | none => z | some (t,a,fl) => f t a fl (fl % 32)):=rfl
theorem rls (v x:Value):ReflectliteValue.set #[v,x] = (do
  let (some (dst,a,fl),some (src,b,_)):=(← ReflectliteValue.parts v, ← ReflectliteValue.parts x)
   | unsupported (.noEntry "extern/(internal/reflectlite.Value).Set.zeroValue")
  if fl / ReflectliteValue.flagAddr % 2 == 0 then unsupported (.noEntry "extern/(internal/reflectlite.Value).Set.unaddressable")
  let val ← loadVar src b
  if ← Rtype.directlyAssignable dst src then storeVar dst a val
  else if ← Rtype.implements dst src then
   if (← Rtype.kind src) == 20 then
    match val with
    | .nilIface => unsupported (.noEntry "extern/reflectlite: a nil value of one interface type handed on as a value of another")
    | _ => storeVar dst a val
   else storeVar dst a (.iface src val)
  else panicString ("reflectlite.Set: value of type " ++ (← Rtype.spelt src) ++ " is not assignable to type " ++ (← Rtype.spelt dst))
  pure (.tuple #[])):=rfl

theorem zga (h:Value) (w:World):(Go.method 418 211 (.agg #[h]) "Kind").run Tryz.prog w = .ok (207,h) w:=by kernel_rfl
theorem zf9 (h:Value) (w:World):(Go.method 418 211 (.agg #[h]) "Elem").run Tryz.prog w = .ok (223, .agg #[h]) w:=by kernel_rfl
theorem zcr (h:Value) (w:World):(Go.method 418 211 (.agg #[h]) "Implements").run Tryz.prog w = .ok (224, .agg #[h]) w:=by kernel_rfl
theorem zbV (h:Value) (w:World):(Go.method 418 211 (.agg #[h]) "AssignableTo").run Tryz.prog w = .ok (221, .agg #[h]) w:=by kernel_rfl
theorem zp4 (h:Value) (w:World):(Go.method 418 195 h "Unwrap").run Tryz.prog w = .ok (218,h) w:=by kernel_rfl

/-! ### the type pFault -/
theorem zi4 (w:World):((ReflectliteType.abiMethod fun t => (fun a:Nat => Value.int IntKind.u8 (a:Int)) <$> Rtype.kind t) #[.pointer (some ⟨1,197,none⟩)]).run Tryz.prog w = .ok (.int .u8 22) w:=by kernel_rfl
theorem zk6 (w:World):((ReflectliteType.abiMethod fun t => (fun a:Nat => Value.int IntKind.u8 (a:Int)) <$> Rtype.kind t) #[.pointer (some ⟨1,195,none⟩)]).run Tryz.prog w = .ok (.int .u8 22) w:=by kernel_rfl
theorem zfN (t:Addr) (w:World):(ReflectliteValue.unpack (.iface 197 (.pointer (some t)))).run Tryz.prog w
  = .ok (.agg #[.pointer (some ⟨1,197,none⟩), .pointer (some ⟨w.heap.size,0,none⟩), .int .u64 150]) (w.alloc (.cells #[.pointer (some t)] 197)):=by kernel_rfl
theorem zjc (a:Addr) (w:World):(ReflectliteValue.methodAny (ReflectliteValue.valueError "reflectlite.Value.Type" 0) (fun t _ _ _ => ReflectliteType.toType t) #[.agg #[.pointer (some ⟨1,197,none⟩), .pointer (some a), .int .u64 150]]).run Tryz.prog w
  = .ok (.iface 211 (.agg #[.pointer (some ⟨1,197,none⟩)])) w:=by kernel_rfl
theorem zhZ (a:Addr) (w:World):(ReflectliteValue.parts (.agg #[.pointer (some ⟨1,197,none⟩), .pointer (some a), .int .u64 150])).run Tryz.prog w = .ok (some (197,a,150)) w:=by kernel_rfl
theorem zhT (a p:Addr) (W:World) (ha:W.cell? a = some (.pointer (some p))) :
  (ReflectliteValue.method (ReflectliteValue.valueError "reflectlite.Value.IsNil" 0) ReflectliteValue.isNil #[.agg #[.pointer (some ⟨1,197,none⟩), .pointer (some a), .int .u64 150]]).run Tryz.prog W = .ok (.bool false) W:=by
 rw [rlm]
 simp only [Sem.run_bind,zhZ,Result.andThen]
 simp [ReflectliteValue.isNil,loadVar,isAgg,underlying,Tryz.underlying197,ha,Result.andThen]
theorem zi1 (w:World):(ReflectliteType.method ReflectliteType.elem #[.agg #[.pointer (some ⟨1,197,none⟩)]]).run Tryz.prog w = .ok (.iface 211 (.agg #[.pointer (some ⟨1,195,none⟩)])) w:=by kernel_rfl
theorem zeq (w:World):(ReflectliteType.relation "Implements" ReflectliteType.implements_ #[.agg #[.pointer (some ⟨1,195,none⟩)], .iface 211 (.agg #[.pointer (some ⟨1,55,none⟩)])]).run Tryz.prog w = .ok (.bool true) w:=by kernel_rfl
theorem zh8 (v:Value) (w:World):(ReflectliteType.typeOf #[.iface 195 v]).run Tryz.prog w = .ok (.iface 211 (.agg #[.pointer (some ⟨1,195,none⟩)])) w:=by kernel_rfl
theorem zik (w:World):(ReflectliteType.relation "AssignableTo" ReflectliteType.assignableTo #[.agg #[.pointer (some ⟨1,195,none⟩)], .iface 211 (.agg #[.pointer (some ⟨1,195,none⟩)])]).run Tryz.prog w = .ok (.bool true) w:=by kernel_rfl
theorem zlI (e:Addr) (w:World):(ReflectliteValue.unpack (.iface 195 (.pointer (some e)))).run Tryz.prog w
  = .ok (.agg #[.pointer (some ⟨1,195,none⟩), .pointer (some ⟨w.heap.size,0,none⟩), .int .u64 150]) (w.alloc (.cells #[.pointer (some e)] 195)):=by kernel_rfl
theorem zlE (w:World):(Rtype.elem? 197).run Tryz.prog w = .ok (some 195) w:=by kernel_rfl
theorem zu4 (p:Addr) (w:World):(ReflectliteValue.mk 195 p ReflectliteValue.flagAddr).run Tryz.prog w = .ok (.agg #[.pointer (some ⟨1,195,none⟩), .pointer (some p), .int .u64 406]) w:=by kernel_rfl
theorem znf (a p:Addr) (W:World) (ha:W.cell? a = some (.pointer (some p))) :
  (ReflectliteValue.method (ReflectliteValue.valueError "reflectlite.Value.Elem" 0) ReflectliteValue.elem #[.agg #[.pointer (some ⟨1,197,none⟩), .pointer (some a), .int .u64 150]]).run Tryz.prog W
   = .ok (.agg #[.pointer (some ⟨1,195,none⟩), .pointer (some p), .int .u64 406]) W:=by
 rw [rlm]
 simp only [Sem.run_bind,zhZ,Result.andThen]
 simp [ReflectliteValue.elem,loadVar,isAgg,underlying,Tryz.underlying197,ha,Result.andThen,zlE,zu4]
theorem znP (a:Addr) (w:World):(ReflectliteValue.parts (.agg #[.pointer (some ⟨1,195,none⟩), .pointer (some a), .int .u64 406])).run Tryz.prog w = .ok (some (195,a,406)) w:=by kernel_rfl
theorem zoV (a:Addr) (w:World):(ReflectliteValue.parts (.agg #[.pointer (some ⟨1,195,none⟩), .pointer (some a), .int .u64 150])).run Tryz.prog w = .ok (some (195,a,150)) w:=by kernel_rfl
theorem zna (w:World):(Rtype.directlyAssignable 195 195).run Tryz.prog w = .ok true w:=by kernel_rfl
theorem zsv (ta b:Addr) (e:Addr) (old:Value) (W:World) (hb:W.cell? b = some (.pointer (some e))) (ht:W.cell? ta = some old) (hf:W.frozen? ta = false) :
  (ReflectliteValue.set #[.agg #[.pointer (some ⟨1,195,none⟩), .pointer (some ta), .int .u64 406], .agg #[.pointer (some ⟨1,195,none⟩), .pointer (some b), .int .u64 150]]).run Tryz.prog W
   = .ok (.tuple #[]) (W.setCell ta (.pointer (some e))):=by
 rw [rls]
 simp only [Sem.run_bind,znP,zoV,Result.andThen]
 simp [ReflectliteValue.flagAddr,loadVar,isAgg,underlying,Tryz.underlying195,hb,Result.andThen,zna,storeVar,Value.cells,storeCells,Addr.add]
 rw [run_store Tryz.prog W ta _ _ (by rfl)]
 simp [ht,hf]

/-! ### the type Errno -/
theorem zk5 (w:World):((ReflectliteType.abiMethod fun t => (fun a:Nat => Value.int IntKind.u8 (a:Int)) <$> Rtype.kind t) #[.pointer (some ⟨1,200,none⟩)]).run Tryz.prog w = .ok (.int .u8 22) w:=by kernel_rfl
theorem zl4 (w:World):((ReflectliteType.abiMethod fun t => (fun a:Nat => Value.int IntKind.u8 (a:Int)) <$> Rtype.kind t) #[.pointer (some ⟨1,59,none⟩)]).run Tryz.prog w = .ok (.int .u8 2) w:=by kernel_rfl
theorem zgq (t:Addr) (w:World):(ReflectliteValue.unpack (.iface 200 (.pointer (some t)))).run Tryz.prog w
  = .ok (.agg #[.pointer (some ⟨1,200,none⟩), .pointer (some ⟨w.heap.size,0,none⟩), .int .u64 150]) (w.alloc (.cells #[.pointer (some t)] 200)):=by kernel_rfl
theorem zlq (a:Addr) (w:World):(ReflectliteValue.methodAny (ReflectliteValue.valueError "reflectlite.Value.Type" 0) (fun t _ _ _ => ReflectliteType.toType t) #[.agg #[.pointer (some ⟨1,200,none⟩), .pointer (some a), .int .u64 150]]).run Tryz.prog w
  = .ok (.iface 211 (.agg #[.pointer (some ⟨1,200,none⟩)])) w:=by kernel_rfl
theorem zi8 (a:Addr) (w:World):(ReflectliteValue.parts (.agg #[.pointer (some ⟨1,200,none⟩), .pointer (some a), .int .u64 150])).run Tryz.prog w = .ok (some (200,a,150)) w:=by kernel_rfl
theorem zi3 (a p:Addr) (W:World) (ha:W.cell? a = some (.pointer (some p))) :
  (ReflectliteValue.method (ReflectliteValue.valueError "reflectlite.Value.IsNil" 0) ReflectliteValue.isNil #[.agg #[.pointer (some ⟨1,200,none⟩), .pointer (some a), .int .u64 150]]).run Tryz.prog W = .ok (.bool false) W:=by
 rw [rlm]
 simp only [Sem.run_bind,zi8,Result.andThen]
 simp [ReflectliteValue.isNil,loadVar,isAgg,underlying,Tryz.underlying200,ha,Result.andThen]
theorem zkG (w:World):(ReflectliteType.method ReflectliteType.elem #[.agg #[.pointer (some ⟨1,200,none⟩)]]).run Tryz.prog w = .ok (.iface 211 (.agg #[.pointer (some ⟨1,59,none⟩)])) w:=by kernel_rfl
theorem ze8 (w:World):(ReflectliteType.relation "Implements" ReflectliteType.implements_ #[.agg #[.pointer (some ⟨1,59,none⟩)], .iface 211 (.agg #[.pointer (some ⟨1,55,none⟩)])]).run Tryz.prog w = .ok (.bool true) w:=by kernel_rfl
theorem zfL (v:Value) (w:World):(ReflectliteType.typeOf #[.iface 59 v]).run Tryz.prog w = .ok (.iface 211 (.agg #[.pointer (some ⟨1,59,none⟩)])) w:=by kernel_rfl
theorem ze5 (w:World):(ReflectliteType.relation "AssignableTo" ReflectliteType.assignableTo #[.agg #[.pointer (some ⟨1,59,none⟩)], .iface 211 (.agg #[.pointer (some ⟨1,59,none⟩)])]).run Tryz.prog w = .ok (.bool true) w:=by kernel_rfl
theorem zh9 (e:Int) (w:World):(ReflectliteValue.unpack (.iface 59 (.int .i64 e))).run Tryz.prog w
  = .ok (.agg #[.pointer (some ⟨1,59,none⟩), .pointer (some ⟨w.heap.size,0,none⟩), .int .u64 130]) (w.alloc (.cells #[.int .i64 e] 59)):=by kernel_rfl
theorem zne (w:World):(Rtype.elem? 200).run Tryz.prog w = .ok (some 59) w:=by kernel_rfl
theorem zxn (p:Addr) (w:World):(ReflectliteValue.mk 59 p ReflectliteValue.flagAddr).run Tryz.prog w = .ok (.agg #[.pointer (some ⟨1,59,none⟩), .pointer (some p), .int .u64 386]) w:=by kernel_rfl
theorem zi0 (a p:Addr) (W:World) (ha:W.cell? a = some (.pointer (some p))) :
  (ReflectliteValue.method (ReflectliteValue.valueError "reflectlite.Value.Elem" 0) ReflectliteValue.elem #[.agg #[.pointer (some ⟨1,200,none⟩), .pointer (some a), .int .u64 150]]).run Tryz.prog W
   = .ok (.agg #[.pointer (some ⟨1,59,none⟩), .pointer (some p), .int .u64 386]) W:=by
 rw [rlm]
 simp only [Sem.run_bind,zi8,Result.andThen]
 simp [ReflectliteValue.elem,loadVar,isAgg,underlying,Tryz.underlying200,ha,Result.andThen,zne,zxn]
theorem zoU (a:Addr) (w:World):(ReflectliteValue.parts (.agg #[.pointer (some ⟨1,59,none⟩), .pointer (some a), .int .u64 386])).run Tryz.prog w = .ok (some (59,a,386)) w:=by kernel_rfl
theorem zqs (a:Addr) (w:World):(ReflectliteValue.parts (.agg #[.pointer (some ⟨1,59,none⟩), .pointer (some a), .int .u64 130])).run Tryz.prog w = .ok (some (59,a,130)) w:=by kernel_rfl
theorem zow (w:World):(Rtype.directlyAssignable 59 59).run Tryz.prog w = .ok true w:=by kernel_rfl
theorem zoY (ta b:Addr) (e:Int) (old:Value) (W:World) (hb:W.cell? b = some (.int .i64 e)) (ht:W.cell? ta = some old) (hf:W.frozen? ta = false) :
  (ReflectliteValue.set #[.agg #[.pointer (some ⟨1,59,none⟩), .pointer (some ta), .int .u64 386], .agg #[.pointer (some ⟨1,59,none⟩), .pointer (some b), .int .u64 130]]).run Tryz.prog W
   = .ok (.tuple #[]) (W.setCell ta (.int .i64 e)):=by
 rw [rls]
 simp only [Sem.run_bind,zoU,zqs,Result.andThen]
 simp [ReflectliteValue.flagAddr,loadVar,isAgg,underlying,Tryz.underlying59,hb,Result.andThen,zow,storeVar,Value.cells,storeCells,Addr.add]
 rw [run_store Tryz.prog W ta _ _ (by rfl)]
 simp [ht,hf]

/-! ### between the types -/
theorem zgj (w:World):(ReflectliteType.relation "AssignableTo" ReflectliteType.assignableTo #[.agg #[.pointer (some ⟨1,195,none⟩)], .iface 211 (.agg #[.pointer (some ⟨1,59,none⟩)])]).run Tryz.prog w = .ok (.bool false) w:=by kernel_rfl
theorem zqn (v:Value) (xT:TypeId) (w:World):(Instr.typeAssert (.iface 195 v) xT 274 true).run Tryz.prog w = .ok (.tuple #[.nilIface, .bool false]) w:=run_typeAssert_lacksB Tryz.underlying274 (by kernel_rfl) (by kernel_rfl) v xT w
theorem zjf (v:Value) (xT:TypeId) (w:World):(Instr.typeAssert (.iface 195 v) xT 216 true).run Tryz.prog w = .ok (.tuple #[.iface 195 v, .bool true]) w:=run_typeAssert_hasB Tryz.underlying216 (by kernel_rfl) v xT w
theorem zg5 (w:World):(ReflectliteType.relation "AssignableTo" ReflectliteType.assignableTo #[.agg #[.pointer (some ⟨1,59,none⟩)], .iface 211 (.agg #[.pointer (some ⟨1,195,none⟩)])]).run Tryz.prog w = .ok (.bool false) w:=by kernel_rfl
theorem zso (v:Value) (xT:TypeId) (w:World):(Instr.typeAssert (.iface 59 v) xT 274 true).run Tryz.prog w = .ok (.tuple #[.nilIface, .bool false]) w:=run_typeAssert_lacksB Tryz.underlying274 (by kernel_rfl) (by kernel_rfl) v xT w
theorem zlG (v:Value) (xT:TypeId) (w:World):(Instr.typeAssert (.iface 59 v) xT 216 true).run Tryz.prog w = .ok (.tuple #[.nilIface, .bool false]) w:=run_typeAssert_lacksB Tryz.underlying216 (by kernel_rfl) (by kernel_rfl) v xT w
theorem zlf (v:Value) (xT:TypeId) (w:World):(Instr.typeAssert (.iface 59 v) xT 218 true).run Tryz.prog w = .ok (.tuple #[.nilIface, .bool false]) w:=run_typeAssert_lacksB Tryz.underlying218 (by kernel_rfl) (by kernel_rfl) v xT w
end Err
end Go.Proofs.YtdbgbaiekpbaoaaGreatDoor
namespace Go.Proofs.YtdbgbaiekpbaoaaGreatDoor
open Go.RowKit Go.Extern.Stop Go.Stop Go.Extern
set_option maxRecDepth 100000
namespace Err
abbrev HandleV:Value := .iface 211 (.agg #[.pointer (some ⟨1,55,none⟩)])
theorem faU (b:Nat) (x:Value) (w:World) (hp:w.cell? ⟨b,2,none⟩ = some x):Calls Tryz.prog 218 #[.pointer (some ⟨b,0,none⟩)] w fun e w' => e = .returned x ∧ w' = w:=by
 go_enter Tryz.func218,Tryz.ntmps218
 go_wp2
 go_ret
 exact ⟨rfl,rfl⟩
theorem zda {w:World} {v:Value} (hg:w.cell? ⟨0,0,none⟩ = some v):0 < w.heap.size:=by
 rcases Nat.eq_zero_or_pos w.heap.size with h0 | h
 ·simp [World.cell?,h0] at hg
 ·exact h
theorem zcB {w:World} {t:Addr} {v:Value} (ht0:w.cell? t = some v):t.block < w.heap.size:=by
 rcases Nat.lt_or_ge t.block w.heap.size with h | h
 ·exact h
 ·simp [World.cell?,Array.getElem?_eq_none h] at ht0
set_option maxHeartbeats 8000000 in
theorem zCu (e:Addr) (t:Addr) (old:Value) (w:World) (hg:w.cell? ⟨0,0,none⟩ = some HandleV) (ht0:w.cell? t = some old) (hf0:w.frozen? t = false) :
  Calls Tryz.prog 126 #[.iface 195 (.pointer (some e)), .iface 197 (.pointer (some t))] w fun ev w' => ev = .returned (.bool true) ∧ ∃ w1,Below w.heap.size w w1 ∧ w' = w1.setCell t (.pointer (some e)):=by
 have h6 := @run_callFunc_extern Tryz.prog 163 _ (fun args => ReflectliteValue.unpack (args.getD 0 (.tuple #[]))) Tryz.func163 (by kernel_rfl) (by kernel_rfl) (by kernel_rfl) (by kernel_rfl)
 have h7 := @run_callFunc_extern Tryz.prog 164 _ (ReflectliteValue.methodAny (ReflectliteValue.valueError "reflectlite.Value.Type" 0) (fun t _ _ _ => ReflectliteType.toType t)) Tryz.func164 (by kernel_rfl) (by kernel_rfl) (by kernel_rfl) (by kernel_rfl)
 have h8 := @run_callFunc_extern Tryz.prog 165 _ (ReflectliteValue.method (ReflectliteValue.valueError "reflectlite.Value.IsNil" 0) ReflectliteValue.isNil) Tryz.func165 (by kernel_rfl) (by kernel_rfl) (by kernel_rfl) (by kernel_rfl)
 have h27 := @run_callFunc_extern Tryz.prog 207 _ (ReflectliteType.abiMethod fun t => do pure (.int .u8 (← Rtype.kind t))) Tryz.func207 (by kernel_rfl) (by kernel_rfl) (by kernel_rfl) (by kernel_rfl)
 have h37 := @run_callFunc_extern Tryz.prog 223 _ (ReflectliteType.method ReflectliteType.elem) Tryz.func223 (by kernel_rfl) (by kernel_rfl) (by kernel_rfl) (by kernel_rfl)
 have h38 := @run_callFunc_extern Tryz.prog 224 _ (ReflectliteType.relation "Implements" ReflectliteType.implements_) Tryz.func224 (by kernel_rfl) (by kernel_rfl) (by kernel_rfl) (by kernel_rfl)
 have h10 := @run_callFunc_extern Tryz.prog 83 _ ReflectliteType.typeOf Tryz.func83 (by kernel_rfl) (by kernel_rfl) (by kernel_rfl) (by kernel_rfl)
 have h35 := @run_callFunc_extern Tryz.prog 221 _ (ReflectliteType.relation "AssignableTo" ReflectliteType.assignableTo) Tryz.func221 (by kernel_rfl) (by kernel_rfl) (by kernel_rfl) (by kernel_rfl)
 have h11 := @run_callFunc_extern Tryz.prog 178 _ (ReflectliteValue.method (ReflectliteValue.valueError "reflectlite.Value.Elem" 0) ReflectliteValue.elem) Tryz.func178 (by kernel_rfl) (by kernel_rfl) (by kernel_rfl) (by kernel_rfl)
 have h12 := @run_callFunc_extern Tryz.prog 179 _ ReflectliteValue.set Tryz.func179 (by kernel_rfl) (by kernel_rfl) (by kernel_rfl) (by kernel_rfl)
 have mK:=zga
 have mE:=zf9
 have mI:=zcr
 have mA:=zbV
 have hlt:=zda hg
 have htl:=zcB ht0
 have f6:=zfN
 have f7:=zjc
 have k27:=zi4
 have k25:=zk6
 have e27:=zi1
 have i25:=zeq
 have tO:=zh8
 have a25:=zik
 have v25:=zlI
 have n8:=zhT ⟨w.heap.size,0,none⟩ t ((w.alloc (.cells #[.pointer (some t)] 197)).alloc (.cells #[.pointer (some ⟨1,197,none⟩), .pointer (some ⟨w.heap.size,0,none⟩), .int .u64 150] 252)) (by simp)
 have hg2:((w.alloc (.cells #[.pointer (some t)] 197)).alloc (.cells #[.pointer (some ⟨1,197,none⟩), .pointer (some ⟨w.heap.size,0,none⟩), .int .u64 150] 252)).cell? ⟨0,0,none⟩ = some HandleV:=by rw [World.cell?_alloc_lt _ _ ⟨0,0,none⟩ (by simp),World.cell?_alloc_lt _ _ ⟨0,0,none⟩ hlt];exact hg
 have el:=znf ⟨w.heap.size,0,none⟩ t (((w.alloc (.cells #[.pointer (some t)] 197)).alloc (.cells #[.pointer (some ⟨1,197,none⟩), .pointer (some ⟨w.heap.size,0,none⟩), .int .u64 150] 252)).alloc (.cells #[.pointer (some ⟨1,197,none⟩), .pointer (some ⟨w.heap.size,0,none⟩), .int .u64 150] 252)) (by rw [World.cell?_alloc_lt _ _ ⟨w.heap.size,0,none⟩ (by simp;omega)];simp)
 have st:=zsv t ⟨w.heap.size + 1 + 1 + 1,0,none⟩ e old ((((w.alloc (.cells #[.pointer (some t)] 197)).alloc (.cells #[.pointer (some ⟨1,197,none⟩), .pointer (some ⟨w.heap.size,0,none⟩), .int .u64 150] 252)).alloc (.cells #[.pointer (some ⟨1,197,none⟩), .pointer (some ⟨w.heap.size,0,none⟩), .int .u64 150] 252)).alloc (.cells #[.pointer (some e)] 195))
  (by rw [World.cell?_alloc_at _ _ _ _ (by simp)];rfl)
  (by rw [World.cell?_alloc_lt _ _ t (by simp;omega),World.cell?_alloc_lt _ _ t (by simp;omega),World.cell?_alloc_lt _ _ t (by simp;omega),World.cell?_alloc_lt _ _ t htl];exact ht0)
  (by rw [World.frozen?_alloc_old _ _ t (by simp;omega),World.frozen?_alloc_old _ _ t (by simp;omega),World.frozen?_alloc_old _ _ t (by simp;omega),World.frozen?_alloc_old _ _ t (Nat.ne_of_lt htl)];exact hf0)
 have hB:Below w.heap.size w ((((w.alloc (.cells #[.pointer (some t)] 197)).alloc (.cells #[.pointer (some ⟨1,197,none⟩), .pointer (some ⟨w.heap.size,0,none⟩), .int .u64 150] 252)).alloc (.cells #[.pointer (some ⟨1,197,none⟩), .pointer (some ⟨w.heap.size,0,none⟩), .int .u64 150] 252)).alloc (.cells #[.pointer (some e)] 195)):=(((((Below.refl _ w).alloc (Nat.le_refl _) _).alloc (by simp) _).alloc (by simp;omega) _).alloc (by simp;omega) _)
 go_enter Tryz.func126,Tryz.ntmps126
 go_wp2
 refine wp_loop_rounds 1 ?_
 rw [rounds_succ]
 go_wp2
 go_ret
 exact ⟨rfl,_,hB,rfl⟩
set_option maxHeartbeats 8000000 in
theorem zBU (b:Nat) (t:Addr) (old:Value) (w:World) (y:Int) (hx:w.cell? ⟨b,2,none⟩ = some (.iface 59 (.int .i64 y))) (hg:w.cell? ⟨0,0,none⟩ = some HandleV) (ht0:w.cell? t = some old) (hf0:w.frozen? t = false) :
  Calls Tryz.prog 126 #[.iface 195 (.pointer (some ⟨b,0,none⟩)), .iface 200 (.pointer (some t))] w fun ev w' => ev = .returned (.bool true) ∧ ∃ w1,Below w.heap.size w w1 ∧ w' = w1.setCell t (.int .i64 y):=by
 have h6 := @run_callFunc_extern Tryz.prog 163 _ (fun args => ReflectliteValue.unpack (args.getD 0 (.tuple #[]))) Tryz.func163 (by kernel_rfl) (by kernel_rfl) (by kernel_rfl) (by kernel_rfl)
 have h7 := @run_callFunc_extern Tryz.prog 164 _ (ReflectliteValue.methodAny (ReflectliteValue.valueError "reflectlite.Value.Type" 0) (fun t _ _ _ => ReflectliteType.toType t)) Tryz.func164 (by kernel_rfl) (by kernel_rfl) (by kernel_rfl) (by kernel_rfl)
 have h8 := @run_callFunc_extern Tryz.prog 165 _ (ReflectliteValue.method (ReflectliteValue.valueError "reflectlite.Value.IsNil" 0) ReflectliteValue.isNil) Tryz.func165 (by kernel_rfl) (by kernel_rfl) (by kernel_rfl) (by kernel_rfl)
 have h27 := @run_callFunc_extern Tryz.prog 207 _ (ReflectliteType.abiMethod fun t => do pure (.int .u8 (← Rtype.kind t))) Tryz.func207 (by kernel_rfl) (by kernel_rfl) (by kernel_rfl) (by kernel_rfl)
 have h37 := @run_callFunc_extern Tryz.prog 223 _ (ReflectliteType.method ReflectliteType.elem) Tryz.func223 (by kernel_rfl) (by kernel_rfl) (by kernel_rfl) (by kernel_rfl)
 have h38 := @run_callFunc_extern Tryz.prog 224 _ (ReflectliteType.relation "Implements" ReflectliteType.implements_) Tryz.func224 (by kernel_rfl) (by kernel_rfl) (by kernel_rfl) (by kernel_rfl)
 have h10 := @run_callFunc_extern Tryz.prog 83 _ ReflectliteType.typeOf Tryz.func83 (by kernel_rfl) (by kernel_rfl) (by kernel_rfl) (by kernel_rfl)
 have h35 := @run_callFunc_extern Tryz.prog 221 _ (ReflectliteType.relation "AssignableTo" ReflectliteType.assignableTo) Tryz.func221 (by kernel_rfl) (by kernel_rfl) (by kernel_rfl) (by kernel_rfl)
 have h11 := @run_callFunc_extern Tryz.prog 178 _ (ReflectliteValue.method (ReflectliteValue.valueError "reflectlite.Value.Elem" 0) ReflectliteValue.elem) Tryz.func178 (by kernel_rfl) (by kernel_rfl) (by kernel_rfl) (by kernel_rfl)
 have h12 := @run_callFunc_extern Tryz.prog 179 _ ReflectliteValue.set Tryz.func179 (by kernel_rfl) (by kernel_rfl) (by kernel_rfl) (by kernel_rfl)
 have mK:=zga
 have mE:=zf9
 have mI:=zcr
 have mA:=zbV
 have hlt:=zda hg
 have htl:=zcB ht0
 have f6:=zgq
 have f7:=zlq
 have k27:=zk5
 have k25:=zl4
 have e27:=zkG
 have i25:=ze8
 have tO:=zh8
 have tO2:=zfL
 have nA:=zgj
 have a25:=ze5
 have v25:=zh9
 have nAs:=zqn
 have hU:=zjf
 have mU:=zp4
 have n8:=zi3 ⟨w.heap.size,0,none⟩ t ((w.alloc (.cells #[.pointer (some t)] 200)).alloc (.cells #[.pointer (some ⟨1,200,none⟩), .pointer (some ⟨w.heap.size,0,none⟩), .int .u64 150] 252)) (by simp)
 have hg2:((w.alloc (.cells #[.pointer (some t)] 200)).alloc (.cells #[.pointer (some ⟨1,200,none⟩), .pointer (some ⟨w.heap.size,0,none⟩), .int .u64 150] 252)).cell? ⟨0,0,none⟩ = some HandleV:=by rw [World.cell?_alloc_lt _ _ ⟨0,0,none⟩ (by simp),World.cell?_alloc_lt _ _ ⟨0,0,none⟩ hlt];exact hg
 have hbl:b < w.heap.size:=zcB hx
 have hx3:(((w.alloc (.cells #[.pointer (some t)] 200)).alloc (.cells #[.pointer (some ⟨1,200,none⟩), .pointer (some ⟨w.heap.size,0,none⟩), .int .u64 150] 252)).alloc (.cells #[.pointer (some ⟨1,200,none⟩), .pointer (some ⟨w.heap.size,0,none⟩), .int .u64 150] 252)).cell? ⟨b,2,none⟩ = some (.iface 59 (.int .i64 y)):=by rw [World.cell?_alloc_lt _ _ ⟨b,2,none⟩ (by simp;omega),World.cell?_alloc_lt _ _ ⟨b,2,none⟩ (by simp;omega),World.cell?_alloc_lt _ _ ⟨b,2,none⟩ hbl];exact hx
 have el:=zi0 ⟨w.heap.size,0,none⟩ t (((w.alloc (.cells #[.pointer (some t)] 200)).alloc (.cells #[.pointer (some ⟨1,200,none⟩), .pointer (some ⟨w.heap.size,0,none⟩), .int .u64 150] 252)).alloc (.cells #[.pointer (some ⟨1,200,none⟩), .pointer (some ⟨w.heap.size,0,none⟩), .int .u64 150] 252)) (by rw [World.cell?_alloc_lt _ _ ⟨w.heap.size,0,none⟩ (by simp;omega)];simp)
 have st:=zoY t ⟨w.heap.size + 1 + 1 + 1,0,none⟩ y old ((((w.alloc (.cells #[.pointer (some t)] 200)).alloc (.cells #[.pointer (some ⟨1,200,none⟩), .pointer (some ⟨w.heap.size,0,none⟩), .int .u64 150] 252)).alloc (.cells #[.pointer (some ⟨1,200,none⟩), .pointer (some ⟨w.heap.size,0,none⟩), .int .u64 150] 252)).alloc (.cells #[.int .i64 y] 59))
  (by rw [World.cell?_alloc_at _ _ _ _ (by simp)];rfl)
  (by rw [World.cell?_alloc_lt _ _ t (by simp;omega),World.cell?_alloc_lt _ _ t (by simp;omega),World.cell?_alloc_lt _ _ t (by simp;omega),World.cell?_alloc_lt _ _ t htl];exact ht0)
  (by rw [World.frozen?_alloc_old _ _ t (by simp;omega),World.frozen?_alloc_old _ _ t (by simp;omega),World.frozen?_alloc_old _ _ t (by simp;omega),World.frozen?_alloc_old _ _ t (Nat.ne_of_lt htl)];exact hf0)
 have hB:Below w.heap.size w ((((w.alloc (.cells #[.pointer (some t)] 200)).alloc (.cells #[.pointer (some ⟨1,200,none⟩), .pointer (some ⟨w.heap.size,0,none⟩), .int .u64 150] 252)).alloc (.cells #[.pointer (some ⟨1,200,none⟩), .pointer (some ⟨w.heap.size,0,none⟩), .int .u64 150] 252)).alloc (.cells #[.int .i64 y] 59)):=(((((Below.refl _ w).alloc (Nat.le_refl _) _).alloc (by simp) _).alloc (by simp;omega) _).alloc (by simp;omega) _)
 go_enter Tryz.func126,Tryz.ntmps126
 go_wp2
 refine wp_loop_rounds 2 ?_
 rw [rounds_succ]
 go_wp2_with (go_at_call 218;refine (faU b _ _ hx3).mono ?_;rintro e w' ⟨rfl,rfl⟩)
 rw [rounds_succ]
 go_wp2
 go_ret
 exact ⟨rfl,_,hB,rfl⟩
set_option maxHeartbeats 8000000 in
theorem zwc (e:Int) (t:Addr) (old:Value) (w:World) (hg:w.cell? ⟨0,0,none⟩ = some HandleV) (ht0:w.cell? t = some old) (hf0:w.frozen? t = false) :
  Calls Tryz.prog 126 #[.iface 59 (.int .i64 e), .iface 200 (.pointer (some t))] w fun ev w' => ev = .returned (.bool true) ∧ ∃ w1,Below w.heap.size w w1 ∧ w' = w1.setCell t (.int .i64 e):=by
 have h6 := @run_callFunc_extern Tryz.prog 163 _ (fun args => ReflectliteValue.unpack (args.getD 0 (.tuple #[]))) Tryz.func163 (by kernel_rfl) (by kernel_rfl) (by kernel_rfl) (by kernel_rfl)
 have h7 := @run_callFunc_extern Tryz.prog 164 _ (ReflectliteValue.methodAny (ReflectliteValue.valueError "reflectlite.Value.Type" 0) (fun t _ _ _ => ReflectliteType.toType t)) Tryz.func164 (by kernel_rfl) (by kernel_rfl) (by kernel_rfl) (by kernel_rfl)
 have h8 := @run_callFunc_extern Tryz.prog 165 _ (ReflectliteValue.method (ReflectliteValue.valueError "reflectlite.Value.IsNil" 0) ReflectliteValue.isNil) Tryz.func165 (by kernel_rfl) (by kernel_rfl) (by kernel_rfl) (by kernel_rfl)
 have h27 := @run_callFunc_extern Tryz.prog 207 _ (ReflectliteType.abiMethod fun t => do pure (.int .u8 (← Rtype.kind t))) Tryz.func207 (by kernel_rfl) (by kernel_rfl) (by kernel_rfl) (by kernel_rfl)
 have h37 := @run_callFunc_extern Tryz.prog 223 _ (ReflectliteType.method ReflectliteType.elem) Tryz.func223 (by kernel_rfl) (by kernel_rfl) (by kernel_rfl) (by kernel_rfl)
 have h38 := @run_callFunc_extern Tryz.prog 224 _ (ReflectliteType.relation "Implements" ReflectliteType.implements_) Tryz.func224 (by kernel_rfl) (by kernel_rfl) (by kernel_rfl) (by kernel_rfl)
 have h10 := @run_callFunc_extern Tryz.prog 83 _ ReflectliteType.typeOf Tryz.func83 (by kernel_rfl) (by kernel_rfl) (by kernel_rfl) (by kernel_rfl)
 have h35 := @run_callFunc_extern Tryz.prog 221 _ (ReflectliteType.relation "AssignableTo" ReflectliteType.assignableTo) Tryz.func221 (by kernel_rfl) (by kernel_rfl) (by kernel_rfl) (by kernel_rfl)
 have h11 := @run_callFunc_extern Tryz.prog 178 _ (ReflectliteValue.method (ReflectliteValue.valueError "reflectlite.Value.Elem" 0) ReflectliteValue.elem) Tryz.func178 (by kernel_rfl) (by kernel_rfl) (by kernel_rfl) (by kernel_rfl)
 have h12 := @run_callFunc_extern Tryz.prog 179 _ ReflectliteValue.set Tryz.func179 (by kernel_rfl) (by kernel_rfl) (by kernel_rfl) (by kernel_rfl)
 have mK:=zga
 have mE:=zf9
 have mI:=zcr
 have mA:=zbV
 have hlt:=zda hg
 have htl:=zcB ht0
 have f6:=zgq
 have f7:=zlq
 have k27:=zk5
 have k25:=zl4
 have e27:=zkG
 have i25:=ze8
 have tO:=zfL
 have a25:=ze5
 have v25:=zh9
 have n8:=zi3 ⟨w.heap.size,0,none⟩ t ((w.alloc (.cells #[.pointer (some t)] 200)).alloc (.cells #[.pointer (some ⟨1,200,none⟩), .pointer (some ⟨w.heap.size,0,none⟩), .int .u64 150] 252)) (by simp)
 have hg2:((w.alloc (.cells #[.pointer (some t)] 200)).alloc (.cells #[.pointer (some ⟨1,200,none⟩), .pointer (some ⟨w.heap.size,0,none⟩), .int .u64 150] 252)).cell? ⟨0,0,none⟩ = some HandleV:=by rw [World.cell?_alloc_lt _ _ ⟨0,0,none⟩ (by simp),World.cell?_alloc_lt _ _ ⟨0,0,none⟩ hlt];exact hg
 have el:=zi0 ⟨w.heap.size,0,none⟩ t (((w.alloc (.cells #[.pointer (some t)] 200)).alloc (.cells #[.pointer (some ⟨1,200,none⟩), .pointer (some ⟨w.heap.size,0,none⟩), .int .u64 150] 252)).alloc (.cells #[.pointer (some ⟨1,200,none⟩), .pointer (some ⟨w.heap.size,0,none⟩), .int .u64 150] 252)) (by rw [World.cell?_alloc_lt _ _ ⟨w.heap.size,0,none⟩ (by simp;omega)];simp)
 have st:=zoY t ⟨w.heap.size + 1 + 1 + 1,0,none⟩ e old ((((w.alloc (.cells #[.pointer (some t)] 200)).alloc (.cells #[.pointer (some ⟨1,200,none⟩), .pointer (some ⟨w.heap.size,0,none⟩), .int .u64 150] 252)).alloc (.cells #[.pointer (some ⟨1,200,none⟩), .pointer (some ⟨w.heap.size,0,none⟩), .int .u64 150] 252)).alloc (.cells #[.int .i64 e] 59))
  (by rw [World.cell?_alloc_at _ _ _ _ (by simp)];rfl)
  (by rw [World.cell?_alloc_lt _ _ t (by simp;omega),World.cell?_alloc_lt _ _ t (by simp;omega),World.cell?_alloc_lt _ _ t (by simp;omega),World.cell?_alloc_lt _ _ t htl];exact ht0)
  (by rw [World.frozen?_alloc_old _ _ t (by simp;omega),World.frozen?_alloc_old _ _ t (by simp;omega),World.frozen?_alloc_old _ _ t (by simp;omega),World.frozen?_alloc_old _ _ t (Nat.ne_of_lt htl)];exact hf0)
 have hB:Below w.heap.size w ((((w.alloc (.cells #[.pointer (some t)] 200)).alloc (.cells #[.pointer (some ⟨1,200,none⟩), .pointer (some ⟨w.heap.size,0,none⟩), .int .u64 150] 252)).alloc (.cells #[.pointer (some ⟨1,200,none⟩), .pointer (some ⟨w.heap.size,0,none⟩), .int .u64 150] 252)).alloc (.cells #[.int .i64 e] 59)):=(((((Below.refl _ w).alloc (Nat.le_refl _) _).alloc (by simp) _).alloc (by simp;omega) _).alloc (by simp;omega) _)
 go_enter Tryz.func126,Tryz.ntmps126
 go_wp2
 refine wp_loop_rounds 1 ?_
 rw [rounds_succ]
 go_wp2
 go_ret
 exact ⟨rfl,_,hB,rfl⟩
set_option maxHeartbeats 8000000 in
theorem ztW (e:Int) (t:Addr) (old:Value) (w:World) (hg:w.cell? ⟨0,0,none⟩ = some HandleV) (ht0:w.cell? t = some old) :
  Calls Tryz.prog 126 #[.iface 59 (.int .i64 e), .iface 197 (.pointer (some t))] w fun ev w' => ev = .returned (.bool false) ∧ Below w.heap.size w w':=by
 have h6 := @run_callFunc_extern Tryz.prog 163 _ (fun args => ReflectliteValue.unpack (args.getD 0 (.tuple #[]))) Tryz.func163 (by kernel_rfl) (by kernel_rfl) (by kernel_rfl) (by kernel_rfl)
 have h7 := @run_callFunc_extern Tryz.prog 164 _ (ReflectliteValue.methodAny (ReflectliteValue.valueError "reflectlite.Value.Type" 0) (fun t _ _ _ => ReflectliteType.toType t)) Tryz.func164 (by kernel_rfl) (by kernel_rfl) (by kernel_rfl) (by kernel_rfl)
 have h8 := @run_callFunc_extern Tryz.prog 165 _ (ReflectliteValue.method (ReflectliteValue.valueError "reflectlite.Value.IsNil" 0) ReflectliteValue.isNil) Tryz.func165 (by kernel_rfl) (by kernel_rfl) (by kernel_rfl) (by kernel_rfl)
 have h27 := @run_callFunc_extern Tryz.prog 207 _ (ReflectliteType.abiMethod fun t => do pure (.int .u8 (← Rtype.kind t))) Tryz.func207 (by kernel_rfl) (by kernel_rfl) (by kernel_rfl) (by kernel_rfl)
 have h37 := @run_callFunc_extern Tryz.prog 223 _ (ReflectliteType.method ReflectliteType.elem) Tryz.func223 (by kernel_rfl) (by kernel_rfl) (by kernel_rfl) (by kernel_rfl)
 have h38 := @run_callFunc_extern Tryz.prog 224 _ (ReflectliteType.relation "Implements" ReflectliteType.implements_) Tryz.func224 (by kernel_rfl) (by kernel_rfl) (by kernel_rfl) (by kernel_rfl)
 have h10 := @run_callFunc_extern Tryz.prog 83 _ ReflectliteType.typeOf Tryz.func83 (by kernel_rfl) (by kernel_rfl) (by kernel_rfl) (by kernel_rfl)
 have h35 := @run_callFunc_extern Tryz.prog 221 _ (ReflectliteType.relation "AssignableTo" ReflectliteType.assignableTo) Tryz.func221 (by kernel_rfl) (by kernel_rfl) (by kernel_rfl) (by kernel_rfl)
 have mK:=zga
 have mE:=zf9
 have mI:=zcr
 have mA:=zbV
 have hlt:=zda hg
 have f6:=zfN
 have f7:=zjc
 have k27:=zi4
 have k25:=zk6
 have e27:=zi1
 have i25:=zeq
 have tO:=zfL
 have nA:=zg5
 have nAs:=zso
 have nU:=zlG
 have nUs:=zlf
 have n8:=zhT ⟨w.heap.size,0,none⟩ t ((w.alloc (.cells #[.pointer (some t)] 197)).alloc (.cells #[.pointer (some ⟨1,197,none⟩), .pointer (some ⟨w.heap.size,0,none⟩), .int .u64 150] 252)) (by simp)
 have hg2:((w.alloc (.cells #[.pointer (some t)] 197)).alloc (.cells #[.pointer (some ⟨1,197,none⟩), .pointer (some ⟨w.heap.size,0,none⟩), .int .u64 150] 252)).cell? ⟨0,0,none⟩ = some HandleV:=by rw [World.cell?_alloc_lt _ _ ⟨0,0,none⟩ (by simp),World.cell?_alloc_lt _ _ ⟨0,0,none⟩ hlt];exact hg
 have hB:Below w.heap.size w (((w.alloc (.cells #[.pointer (some t)] 197)).alloc (.cells #[.pointer (some ⟨1,197,none⟩), .pointer (some ⟨w.heap.size,0,none⟩), .int .u64 150] 252)).alloc (.cells #[.pointer (some ⟨1,197,none⟩), .pointer (some ⟨w.heap.size,0,none⟩), .int .u64 150] 252)):=((((Below.refl _ w).alloc (Nat.le_refl _) _).alloc (by simp) _).alloc (by simp;omega) _)
 go_enter Tryz.func126,Tryz.ntmps126
 go_wp2
 refine wp_loop_rounds 1 ?_
 rw [rounds_succ]
 go_wp2
 go_ret
 exact ⟨rfl,hB⟩
end Err
end Go.Proofs.YtdbgbaiekpbaoaaGreatDoor
namespace Go.Proofs.YtdbgbaiekpbaoaaGreatDoor
open Go.RowKit Go.Extern.Stop Go.Stop Go.Extern
set_option maxRecDepth 100000
set_option maxHeartbeats 4000000
namespace Err
theorem zsw {w w1:World} {t:Addr} {old v:Value} (hB:Below w.heap.size w w1) (ht0:w.cell? t = some old):(w1.setCell t v).cell? t = some v ∧ Below t.block w (w1.setCell t v):=by
 have hl:=zcB ht0
 exact ⟨World.cell?_setCell_same' w1 t v (by rw [hB.cell hl,ht0];rfl),(hB.mono (Nat.le_of_lt hl)).setCell (Nat.le_refl _) _⟩
theorem zDE {w w1:World} {v:Value} {p:Addr} (hb:Below w.heap.size w w1) (h:w.cell? p = some v):w1.cell? p = some v:=(hb.cell (zcB h)).trans h
end Err
namespace Err
theorem wrap (y:Int) (S:ByteArray) (k:Int) (w:World):Calls Tryz.prog 76 #[.iface 59 (.int .i64 y), .string S, .int .i64 k] w fun ev w' => ev = .returned (.iface 195 (.pointer (some ⟨w.heap.size,0,none⟩))) ∧ w' = w.alloc (.cells #[.string S, .int .i64 k, .iface 59 (.int .i64 y)] 199):=by
 go_enter Tryz.func76,Tryz.ntmps76
 go_wp2
 go_ret
 exact ⟨rfl,rfl⟩
theorem zoR (y:Int) (w:World) (hg:w.cell? ⟨0,0,none⟩ = some HandleV):Calls Tryz.prog 67 #[.iface 59 (.int .i64 y)] w fun ev w' => ev = .returned (.int .i64 y) ∧ Below w.heap.size w w':=by
 have hlt:=zda hg
 have hg1:=Lib.hid (show (w.alloc (.cells #[.int .i64 0] 59)).cell? ⟨0,0,none⟩ = some HandleV by rw [World.cell?_alloc_lt _ _ ⟨0,0,none⟩ hlt];exact hg)
 have ht1:=Lib.hid (show (w.alloc (.cells #[.int .i64 0] 59)).cell? ⟨w.heap.size,0,none⟩ = some (.int .i64 0) by simp)
 have hf1:=Lib.hid (show (w.alloc (.cells #[.int .i64 0] 59)).frozen? ⟨w.heap.size,0,none⟩ = false by simp)
 have hb0:Hid (Below w.heap.size w (w.alloc (.cells #[.int .i64 0] 59))):=Lib.hid ((Below.refl _ w).alloc (Nat.le_refl _) _)
 clear hg
 go_enter Tryz.func67,Tryz.ntmps67
 go_wp2_with (go_at_call 126;go_loud (refine (zwc y ⟨w.heap.size,0,none⟩ _ _  hg1.out ht1.out hf1.out).mono ?_;rintro e w' ⟨rfl,w1,hB,rfl⟩;have hc:=zsw (v := .int .i64 y) hB ht1.out;generalize w1.setCell ⟨w.heap.size,0,none⟩ (.int .i64 y) = w2 at hc;have hc1:=hc.1;have hc2:=Lib.hid (hb0.out.trans hc.2);clear hc hB))
 go_ret
 exact ⟨rfl,hc2.out⟩
theorem zqt (y:Int) (w:World) (hg:w.cell? ⟨0,0,none⟩ = some HandleV):Calls Tryz.prog 66 #[.iface 59 (.int .i64 y)] w fun ev w' => ev = .returned (.tuple #[.string ByteArray.empty, .int .i64 0, .bool false]) ∧ Below w.heap.size w w':=by
 have hlt:=zda hg
 have hg1:=Lib.hid (show (w.alloc (.cells #[.pointer none] 195)).cell? ⟨0,0,none⟩ = some HandleV by rw [World.cell?_alloc_lt _ _ ⟨0,0,none⟩ hlt];exact hg)
 have ht1:=Lib.hid (show (w.alloc (.cells #[.pointer none] 195)).cell? ⟨w.heap.size,0,none⟩ = some (.pointer none) by simp)
 have hb0:Hid (Below w.heap.size w (w.alloc (.cells #[.pointer none] 195))):=Lib.hid ((Below.refl _ w).alloc (Nat.le_refl _) _)
 clear hg
 go_enter Tryz.func66,Tryz.ntmps66
 go_wp2_with (go_at_call 126;go_loud (refine (ztW y ⟨w.heap.size,0,none⟩ _ _ hg1.out ht1.out).mono ?_;rintro e w' ⟨rfl,hB⟩;have hc2:=Lib.hid (hb0.out.trans (hB.mono (by simp)));clear hB))
 go_ret3
 exact ⟨rfl,hc2.out⟩
theorem told_Errno (y:Int) (w:World) (hg:w.cell? ⟨0,0,none⟩ = some HandleV) :
  Calls Tryz.prog 19 #[.iface 59 (.int .i64 y), .int .i64 y, .string ByteArray.empty, .int .i64 0] w fun ev w' => ev = .returned (.bool true) ∧ Below w.heap.size w w':=by
 have h4:=Lib.hid (zcB hg)
 have hG:=Lib.hid hg
 have hP:=Lib.hid (zqt y w hg)
 have hS:ByteArray.empty.toList.isEmpty = true:=by first | kernel_rfl | simp [ByteArray.toList,ByteArray.toList.loop]
 clear hg
 go_enter Tryz.func19,Tryz.ntmps19
 go_wp2_with (first
  | (go_at_call 66;refine hP.out.mono ?_;rintro e w' ⟨rfl,hb⟩;have hB:=Lib.hid hb;clear hb)
  | (go_at_call 67;go_loud (refine (zoR y _ ((hB.out.cell (p:=⟨0,0,none⟩) h4.out).trans hG.out)).mono ?_;rintro e w' ⟨rfl,hb⟩;have hB2:=Lib.hid (hB.out.trans (hb.mono hB.out.size));clear hb)))
 go_ret
 exact ⟨rfl,hB2.out⟩
end Err
end Go.Proofs.YtdbgbaiekpbaoaaGreatDoor
