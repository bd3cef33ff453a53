/- Contracts and lemmas: Err Err2 Err3 Err4. Conditions: as each says. -/
import Derived.LaidEql
import Derived.Stop.Asserts
import Derived.RowKitTokens
import Derived.Below
import Derived.Test.YtmflbanlgkdgeaaGreatDoorWrapZr
set_option linter.all false
set_option maxHeartbeats 4000000
set_option maxRecDepth 100000
namespace Go.Proofs.YtmflbanlgkdgeaaGreatDoor
open Go.RowKit Go.Extern.Stop Go.Stop Go.Extern
namespace Err

theorem rlm(z:Sem Value)(f:TypeId→Addr→Nat→Nat→Sem Value)(v:Value) :
  ReflectliteValue.method z f #[v]=(do match ←ReflectliteValue.parts v with | none=>z | some (t,a,fl)=>f t a fl (fl%32)):=rfl
theorem rls(v x:Value):ReflectliteValue.set #[v,x]=(do
  let (some (dst,a,fl),some (src,b,_)):=(←ReflectliteValue.parts v,←ReflectliteValue.parts x)
   | unsupported (.noEntry "extern/(internal/reflectlite.Value).Set.zeroValue")
  if fl/ReflectliteValue.flagAddr%2 == 0 then unsupported (.noEntry "extern/(internal/reflectlite.Value).Set.unaddressable")
  let val ←loadVar src b
  if ←Rtype.directlyAssignable dst src then storeVar dst a val
  else if ←Rtype.implements dst src then
   if (←Rtype.kind src) == 20 then
    match val with
    | .nilIface=>unsupported (.noEntry "extern/reflectlite: a nil value of one interface type handed on as a value of another")
    | _=>storeVar dst a val
   else storeVar dst a (.iface src val)
  else panicString ("reflectlite.Set: value of type " ++ (←Rtype.spelt src) ++ " is not assignable to type " ++ (←Rtype.spelt dst))
  pure (.tuple #[])):=rfl

theorem zga(h:Value)(w:World):(Go.method 358 202 (.agg #[h]) "Kind").run Tryz.prog w=.ok (164,h) w:=by kernel_rfl
theorem zf9(h:Value)(w:World):(Go.method 358 202 (.agg #[h]) "Elem").run Tryz.prog w=.ok (184,.agg #[h]) w:=by kernel_rfl
theorem zcr(h:Value)(w:World):(Go.method 358 202 (.agg #[h]) "Implements").run Tryz.prog w=.ok (185,.agg #[h]) w:=by kernel_rfl
theorem zbV(h:Value)(w:World):(Go.method 358 202 (.agg #[h]) "AssignableTo").run Tryz.prog w=.ok (182,.agg #[h]) w:=by kernel_rfl
theorem zp4(h:Value)(w:World):(Go.method 358 150 h "Unwrap").run Tryz.prog w=.ok (176,h) w:=by kernel_rfl

/-! ### the type pFault -/
theorem zi4(w:World):((ReflectliteType.abiMethod fun t=>(fun a:Nat=>Value.int IntKind.u8 (a:Int)) <$> Rtype.kind t) #[.pointer (some ⟨1,152,none⟩)]).run Tryz.prog w=.ok (.int .u8 22) w:=by kernel_rfl
theorem zk6(w:World):((ReflectliteType.abiMethod fun t=>(fun a:Nat=>Value.int IntKind.u8 (a:Int)) <$> Rtype.kind t) #[.pointer (some ⟨1,150,none⟩)]).run Tryz.prog w=.ok (.int .u8 22) w:=by kernel_rfl
theorem zfN(t:Addr)(w:World):(ReflectliteValue.unpack (.iface 152 (.pointer (some t)))).run Tryz.prog w
  = .ok (.agg #[.pointer (some ⟨1,152,none⟩),.pointer (some ⟨w.heap.size,0,none⟩),.int .u64 150]) (w.alloc (.cells #[.pointer (some t)] 152)):=by kernel_rfl
theorem zjc(a:Addr)(w:World):(ReflectliteValue.methodAny (ReflectliteValue.valueError "reflectlite.Value.Type" 0) (fun t _ _ _=>ReflectliteType.toType t) #[.agg #[.pointer (some ⟨1,152,none⟩),.pointer (some a),.int .u64 150]]).run Tryz.prog w
  = .ok (.iface 202 (.agg #[.pointer (some ⟨1,152,none⟩)])) w:=by kernel_rfl
theorem zhZ(a:Addr)(w:World):(ReflectliteValue.parts (.agg #[.pointer (some ⟨1,152,none⟩),.pointer (some a),.int .u64 150])).run Tryz.prog w=.ok (some (152,a,150)) w:=by kernel_rfl
theorem zhT(a p:Addr)(W:World)(b:W.cell? a=some (.pointer (some p))) :
  (ReflectliteValue.method (ReflectliteValue.valueError "reflectlite.Value.IsNil" 0) ReflectliteValue.isNil #[.agg #[.pointer (some ⟨1,152,none⟩),.pointer (some a),.int .u64 150]]).run Tryz.prog W=.ok (.bool false) W:=by
 rw[rlm];simp only[Sem.run_bind,zhZ,Result.andThen];simp[ReflectliteValue.isNil,loadVar,isAgg,underlying,Tryz.underlying152,b,Result.andThen]
theorem zi1(w:World):(ReflectliteType.method ReflectliteType.elem #[.agg #[.pointer (some ⟨1,152,none⟩)]]).run Tryz.prog w=.ok (.iface 202 (.agg #[.pointer (some ⟨1,150,none⟩)])) w:=by kernel_rfl
theorem zeq(w:World):(ReflectliteType.relation "Implements" ReflectliteType.implements_ #[.agg #[.pointer (some ⟨1,150,none⟩)],.iface 202 (.agg #[.pointer (some ⟨1,36,none⟩)])]).run Tryz.prog w=.ok (.bool true) w:=by kernel_rfl
theorem zh8(v:Value)(w:World):(ReflectliteType.typeOf #[.iface 150 v]).run Tryz.prog w=.ok (.iface 202 (.agg #[.pointer (some ⟨1,150,none⟩)])) w:=by kernel_rfl
theorem zik(w:World):(ReflectliteType.relation "AssignableTo" ReflectliteType.assignableTo #[.agg #[.pointer (some ⟨1,150,none⟩)],.iface 202 (.agg #[.pointer (some ⟨1,150,none⟩)])]).run Tryz.prog w=.ok (.bool true) w:=by kernel_rfl
theorem zlI(e:Addr)(w:World):(ReflectliteValue.unpack (.iface 150 (.pointer (some e)))).run Tryz.prog w
  = .ok (.agg #[.pointer (some ⟨1,150,none⟩),.pointer (some ⟨w.heap.size,0,none⟩),.int .u64 150]) (w.alloc (.cells #[.pointer (some e)] 150)):=by kernel_rfl
theorem zlE(w:World):(Rtype.elem? 152).run Tryz.prog w=.ok (some 150) w:=by kernel_rfl
theorem zu4(p:Addr)(w:World):(ReflectliteValue.mk 150 p ReflectliteValue.flagAddr).run Tryz.prog w=.ok (.agg #[.pointer (some ⟨1,150,none⟩),.pointer (some p),.int .u64 406]) w:=by kernel_rfl
theorem znf(a p:Addr)(W:World)(b:W.cell? a=some (.pointer (some p))) :
  (ReflectliteValue.method (ReflectliteValue.valueError "reflectlite.Value.Elem" 0) ReflectliteValue.elem #[.agg #[.pointer (some ⟨1,152,none⟩),.pointer (some a),.int .u64 150]]).run Tryz.prog W
   = .ok (.agg #[.pointer (some ⟨1,150,none⟩),.pointer (some p),.int .u64 406]) W:=by
 rw[rlm];simp only[Sem.run_bind,zhZ,Result.andThen];simp[ReflectliteValue.elem,loadVar,isAgg,underlying,Tryz.underlying152,b,Result.andThen,zlE,zu4]
theorem znP(a:Addr)(w:World):(ReflectliteValue.parts (.agg #[.pointer (some ⟨1,150,none⟩),.pointer (some a),.int .u64 406])).run Tryz.prog w=.ok (some (150,a,406)) w:=by kernel_rfl
theorem zoV(a:Addr)(w:World):(ReflectliteValue.parts (.agg #[.pointer (some ⟨1,150,none⟩),.pointer (some a),.int .u64 150])).run Tryz.prog w=.ok (some (150,a,150)) w:=by kernel_rfl
theorem zna(w:World):(Rtype.directlyAssignable 150 150).run Tryz.prog w=.ok true w:=by kernel_rfl
theorem zsv(a b:Addr)(e:Addr)(old:Value)(W:World)(c:W.cell? b=some (.pointer (some e)))(f:W.cell? a=some old)(d:W.frozen? a=false) :
  (ReflectliteValue.set #[.agg #[.pointer (some ⟨1,150,none⟩),.pointer (some a),.int .u64 406],.agg #[.pointer (some ⟨1,150,none⟩),.pointer (some b),.int .u64 150]]).run Tryz.prog W
   = .ok (.tuple #[]) (W.setCell a (.pointer (some e))):=by
 rw[rls];simp only[Sem.run_bind,znP,zoV,Result.andThen];simp[ReflectliteValue.flagAddr,loadVar,isAgg,underlying,Tryz.underlying150,c,Result.andThen,zna,storeVar,Value.cells,storeCells,Addr.add];rw[run_store Tryz.prog W a _ _ (by rfl)];simp[f,d]

/-! ### the type Errno -/
theorem zk5(w:World):((ReflectliteType.abiMethod fun t=>(fun a:Nat=>Value.int IntKind.u8 (a:Int)) <$> Rtype.kind t) #[.pointer (some ⟨1,155,none⟩)]).run Tryz.prog w=.ok (.int .u8 22) w:=by kernel_rfl
theorem zl4(w:World):((ReflectliteType.abiMethod fun t=>(fun a:Nat=>Value.int IntKind.u8 (a:Int)) <$> Rtype.kind t) #[.pointer (some ⟨1,90,none⟩)]).run Tryz.prog w=.ok (.int .u8 2) w:=by kernel_rfl
theorem zgq(t:Addr)(w:World):(ReflectliteValue.unpack (.iface 155 (.pointer (some t)))).run Tryz.prog w
  = .ok (.agg #[.pointer (some ⟨1,155,none⟩),.pointer (some ⟨w.heap.size,0,none⟩),.int .u64 150]) (w.alloc (.cells #[.pointer (some t)] 155)):=by kernel_rfl
theorem zlq(a:Addr)(w:World):(ReflectliteValue.methodAny (ReflectliteValue.valueError "reflectlite.Value.Type" 0) (fun t _ _ _=>ReflectliteType.toType t) #[.agg #[.pointer (some ⟨1,155,none⟩),.pointer (some a),.int .u64 150]]).run Tryz.prog w
  = .ok (.iface 202 (.agg #[.pointer (some ⟨1,155,none⟩)])) w:=by kernel_rfl
theorem zi8(a:Addr)(w:World):(ReflectliteValue.parts (.agg #[.pointer (some ⟨1,155,none⟩),.pointer (some a),.int .u64 150])).run Tryz.prog w=.ok (some (155,a,150)) w:=by kernel_rfl
theorem zi3(a p:Addr)(W:World)(b:W.cell? a=some (.pointer (some p))) :
  (ReflectliteValue.method (ReflectliteValue.valueError "reflectlite.Value.IsNil" 0) ReflectliteValue.isNil #[.agg #[.pointer (some ⟨1,155,none⟩),.pointer (some a),.int .u64 150]]).run Tryz.prog W=.ok (.bool false) W:=by
 rw[rlm];simp only[Sem.run_bind,zi8,Result.andThen];simp[ReflectliteValue.isNil,loadVar,isAgg,underlying,Tryz.underlying155,b,Result.andThen]
theorem zkG(w:World):(ReflectliteType.method ReflectliteType.elem #[.agg #[.pointer (some ⟨1,155,none⟩)]]).run Tryz.prog w=.ok (.iface 202 (.agg #[.pointer (some ⟨1,90,none⟩)])) w:=by kernel_rfl
theorem ze8(w:World):(ReflectliteType.relation "Implements" ReflectliteType.implements_ #[.agg #[.pointer (some ⟨1,90,none⟩)],.iface 202 (.agg #[.pointer (some ⟨1,36,none⟩)])]).run Tryz.prog w=.ok (.bool true) w:=by kernel_rfl
theorem zfL(v:Value)(w:World):(ReflectliteType.typeOf #[.iface 90 v]).run Tryz.prog w=.ok (.iface 202 (.agg #[.pointer (some ⟨1,90,none⟩)])) w:=by kernel_rfl
theorem ze5(w:World):(ReflectliteType.relation "AssignableTo" ReflectliteType.assignableTo #[.agg #[.pointer (some ⟨1,90,none⟩)],.iface 202 (.agg #[.pointer (some ⟨1,90,none⟩)])]).run Tryz.prog w=.ok (.bool true) w:=by kernel_rfl
theorem zh9(e:Int)(w:World):(ReflectliteValue.unpack (.iface 90 (.int .i64 e))).run Tryz.prog w
  = .ok (.agg #[.pointer (some ⟨1,90,none⟩),.pointer (some ⟨w.heap.size,0,none⟩),.int .u64 130]) (w.alloc (.cells #[.int .i64 e] 90)):=by kernel_rfl
theorem zne(w:World):(Rtype.elem? 155).run Tryz.prog w=.ok (some 90) w:=by kernel_rfl
theorem zxn(p:Addr)(w:World):(ReflectliteValue.mk 90 p ReflectliteValue.flagAddr).run Tryz.prog w=.ok (.agg #[.pointer (some ⟨1,90,none⟩),.pointer (some p),.int .u64 386]) w:=by kernel_rfl
theorem zi0(a p:Addr)(W:World)(b:W.cell? a=some (.pointer (some p))) :
  (ReflectliteValue.method (ReflectliteValue.valueError "reflectlite.Value.Elem" 0) ReflectliteValue.elem #[.agg #[.pointer (some ⟨1,155,none⟩),.pointer (some a),.int .u64 150]]).run Tryz.prog W
   = .ok (.agg #[.pointer (some ⟨1,90,none⟩),.pointer (some p),.int .u64 386]) W:=by
 rw[rlm];simp only[Sem.run_bind,zi8,Result.andThen];simp[ReflectliteValue.elem,loadVar,isAgg,underlying,Tryz.underlying155,b,Result.andThen,zne,zxn]
theorem zoU(a:Addr)(w:World):(ReflectliteValue.parts (.agg #[.pointer (some ⟨1,90,none⟩),.pointer (some a),.int .u64 386])).run Tryz.prog w=.ok (some (90,a,386)) w:=by kernel_rfl
theorem zqs(a:Addr)(w:World):(ReflectliteValue.parts (.agg #[.pointer (some ⟨1,90,none⟩),.pointer (some a),.int .u64 130])).run Tryz.prog w=.ok (some (90,a,130)) w:=by kernel_rfl
theorem zow(w:World):(Rtype.directlyAssignable 90 90).run Tryz.prog w=.ok true w:=by kernel_rfl
theorem zoY(a b:Addr)(e:Int)(old:Value)(W:World)(c:W.cell? b=some (.int .i64 e))(f:W.cell? a=some old)(d:W.frozen? a=false) :
  (ReflectliteValue.set #[.agg #[.pointer (some ⟨1,90,none⟩),.pointer (some a),.int .u64 386],.agg #[.pointer (some ⟨1,90,none⟩),.pointer (some b),.int .u64 130]]).run Tryz.prog W
   = .ok (.tuple #[]) (W.setCell a (.int .i64 e)):=by
 rw[rls];simp only[Sem.run_bind,zoU,zqs,Result.andThen];simp[ReflectliteValue.flagAddr,loadVar,isAgg,underlying,Tryz.underlying90,c,Result.andThen,zow,storeVar,Value.cells,storeCells,Addr.add];rw[run_store Tryz.prog W a _ _ (by rfl)];simp[f,d]

/-! ### between the types -/
theorem zgj(w:World):(ReflectliteType.relation "AssignableTo" ReflectliteType.assignableTo #[.agg #[.pointer (some ⟨1,150,none⟩)],.iface 202 (.agg #[.pointer (some ⟨1,90,none⟩)])]).run Tryz.prog w=.ok (.bool false) w:=by kernel_rfl
theorem zqn(v:Value)(a:TypeId)(w:World):(Instr.typeAssert (.iface 150 v) a 207 true).run Tryz.prog w=.ok (.tuple #[.nilIface,.bool false]) w:=run_typeAssert_lacksB Tryz.underlying207 (by kernel_rfl) (by kernel_rfl) v a w
theorem zjf(v:Value)(a:TypeId)(w:World):(Instr.typeAssert (.iface 150 v) a 210 true).run Tryz.prog w=.ok (.tuple #[.iface 150 v,.bool true]) w:=run_typeAssert_hasB Tryz.underlying210 (by kernel_rfl) v a w
theorem zg5(w:World):(ReflectliteType.relation "AssignableTo" ReflectliteType.assignableTo #[.agg #[.pointer (some ⟨1,90,none⟩)],.iface 202 (.agg #[.pointer (some ⟨1,150,none⟩)])]).run Tryz.prog w=.ok (.bool false) w:=by kernel_rfl
theorem zso(v:Value)(a:TypeId)(w:World):(Instr.typeAssert (.iface 90 v) a 207 true).run Tryz.prog w=.ok (.tuple #[.nilIface,.bool false]) w:=run_typeAssert_lacksB Tryz.underlying207 (by kernel_rfl) (by kernel_rfl) v a w
theorem zlG(v:Value)(a:TypeId)(w:World):(Instr.typeAssert (.iface 90 v) a 210 true).run Tryz.prog w=.ok (.tuple #[.nilIface,.bool false]) w:=run_typeAssert_lacksB Tryz.underlying210 (by kernel_rfl) (by kernel_rfl) v a w
theorem zlf(v:Value)(a:TypeId)(w:World):(Instr.typeAssert (.iface 90 v) a 212 true).run Tryz.prog w=.ok (.tuple #[.nilIface,.bool false]) w:=run_typeAssert_lacksB Tryz.underlying212 (by kernel_rfl) (by kernel_rfl) v a w
end Err
namespace Err
abbrev z4a:Value:=.iface 202 (.agg #[.pointer (some ⟨1,36,none⟩)])
theorem faU(b:Nat)(x:Value)(w:World)(a:w.cell? ⟨b,2,none⟩=some x):Calls Tryz.prog 176 #[.pointer (some ⟨b,0,none⟩)] w fun e w'=>e=.returned x∧w'=w:=by
 go_enter Tryz.func176,Tryz.ntmps176;go_wp2;go_ret
 exact⟨rfl,rfl⟩
theorem zda{w:World}{v:Value}(hg:w.cell? ⟨0,0,none⟩=some v):0<w.heap.size:=by
 rcases Nat.eq_zero_or_pos w.heap.size with h0 | h
 ·simp[World.cell?,h0]at hg
 ·exact h
theorem zcB{w:World}{t:Addr}{v:Value}(a:w.cell? t=some v):t.block<w.heap.size:=by
 rcases Nat.lt_or_ge t.block w.heap.size with h | h
 ·exact h
 ·simp[World.cell?,Array.getElem?_eq_none h]at a
set_option maxHeartbeats 8000000 in
theorem zCu(e:Addr)(t:Addr)(old:Value)(w:World)(hg:w.cell? ⟨0,0,none⟩=some z4a)(a:w.cell? t=some old)(f:w.frozen? t=false) :
  Calls Tryz.prog 95 #[.iface 150 (.pointer (some e)),.iface 152 (.pointer (some t))] w fun c w'=>c=.returned (.bool true)∧∃w1,Below w.heap.size w w1∧w'=w1.setCell t (.pointer (some e)):=by
 have u := @run_callFunc_extern Tryz.prog 118 _ (fun args=>ReflectliteValue.unpack (args.getD 0 (.tuple #[]))) Tryz.func118 (by kernel_rfl) (by kernel_rfl) (by kernel_rfl) (by kernel_rfl);have v := @run_callFunc_extern Tryz.prog 119 _ (ReflectliteValue.methodAny (ReflectliteValue.valueError "reflectlite.Value.Type" 0) (fun t _ _ _=>ReflectliteType.toType t)) Tryz.func119 (by kernel_rfl) (by kernel_rfl) (by kernel_rfl) (by kernel_rfl)
 have x := @run_callFunc_extern Tryz.prog 120 _ (ReflectliteValue.method (ReflectliteValue.valueError "reflectlite.Value.IsNil" 0) ReflectliteValue.isNil) Tryz.func120 (by kernel_rfl) (by kernel_rfl) (by kernel_rfl) (by kernel_rfl);have p := @run_callFunc_extern Tryz.prog 164 _ (ReflectliteType.abiMethod fun t=>do pure (.int .u8 (←Rtype.kind t))) Tryz.func164 (by kernel_rfl) (by kernel_rfl) (by kernel_rfl) (by kernel_rfl)
 have r := @run_callFunc_extern Tryz.prog 184 _ (ReflectliteType.method ReflectliteType.elem) Tryz.func184 (by kernel_rfl) (by kernel_rfl) (by kernel_rfl) (by kernel_rfl);have s := @run_callFunc_extern Tryz.prog 185 _ (ReflectliteType.relation "Implements" ReflectliteType.implements_) Tryz.func185 (by kernel_rfl) (by kernel_rfl) (by kernel_rfl) (by kernel_rfl)
 have m := @run_callFunc_extern Tryz.prog 132 _ ReflectliteType.typeOf Tryz.func132 (by kernel_rfl) (by kernel_rfl) (by kernel_rfl) (by kernel_rfl);have q := @run_callFunc_extern Tryz.prog 182 _ (ReflectliteType.relation "AssignableTo" ReflectliteType.assignableTo) Tryz.func182 (by kernel_rfl) (by kernel_rfl) (by kernel_rfl) (by kernel_rfl)
 have n := @run_callFunc_extern Tryz.prog 133 _ (ReflectliteValue.method (ReflectliteValue.valueError "reflectlite.Value.Elem" 0) ReflectliteValue.elem) Tryz.func133 (by kernel_rfl) (by kernel_rfl) (by kernel_rfl) (by kernel_rfl);have o := @run_callFunc_extern Tryz.prog 134 _ ReflectliteValue.set Tryz.func134 (by kernel_rfl) (by kernel_rfl) (by kernel_rfl) (by kernel_rfl);have F:=zga;have D:=zf9;have E:=zcr;have C:=zbV;have g:=zda hg;have b:=zcB a;have k:=zfN;have l:=zjc;have B:=zi4;have A:=zk6
 have j:=zi1;have z:=zeq;have H:=zh8;have i:=zik;have I:=zlI;have G:=zhT ⟨w.heap.size,0,none⟩ t ((w.alloc (.cells #[.pointer (some t)] 152)).alloc (.cells #[.pointer (some ⟨1,152,none⟩),.pointer (some ⟨w.heap.size,0,none⟩),.int .u64 150] 180)) (by simp)
 have y:((w.alloc (.cells #[.pointer (some t)] 152)).alloc (.cells #[.pointer (some ⟨1,152,none⟩),.pointer (some ⟨w.heap.size,0,none⟩),.int .u64 150] 180)).cell? ⟨0,0,none⟩=some z4a:=by rw[World.cell?_alloc_lt _ _ ⟨0,0,none⟩ (by simp),World.cell?_alloc_lt _ _ ⟨0,0,none⟩ g];exact hg
 have el:=znf ⟨w.heap.size,0,none⟩ t (((w.alloc (.cells #[.pointer (some t)] 152)).alloc (.cells #[.pointer (some ⟨1,152,none⟩),.pointer (some ⟨w.heap.size,0,none⟩),.int .u64 150] 180)).alloc (.cells #[.pointer (some ⟨1,152,none⟩),.pointer (some ⟨w.heap.size,0,none⟩),.int .u64 150] 180)) (by rw[World.cell?_alloc_lt _ _ ⟨w.heap.size,0,none⟩ (by simp;omega)];simp)
 have st:=zsv t ⟨w.heap.size+1+1+1,0,none⟩ e old ((((w.alloc (.cells #[.pointer (some t)] 152)).alloc (.cells #[.pointer (some ⟨1,152,none⟩),.pointer (some ⟨w.heap.size,0,none⟩),.int .u64 150] 180)).alloc (.cells #[.pointer (some ⟨1,152,none⟩),.pointer (some ⟨w.heap.size,0,none⟩),.int .u64 150] 180)).alloc (.cells #[.pointer (some e)] 150))
  (by rw[World.cell?_alloc_at _ _ _ _ (by simp)];rfl)
  (by rw[World.cell?_alloc_lt _ _ t (by simp;omega),World.cell?_alloc_lt _ _ t (by simp;omega),World.cell?_alloc_lt _ _ t (by simp;omega),World.cell?_alloc_lt _ _ t b];exact a)
  (by rw[World.frozen?_alloc_old _ _ t (by simp;omega),World.frozen?_alloc_old _ _ t (by simp;omega),World.frozen?_alloc_old _ _ t (by simp;omega),World.frozen?_alloc_old _ _ t (Nat.ne_of_lt b)];exact f)
 have d:Below w.heap.size w ((((w.alloc (.cells #[.pointer (some t)] 152)).alloc (.cells #[.pointer (some ⟨1,152,none⟩),.pointer (some ⟨w.heap.size,0,none⟩),.int .u64 150] 180)).alloc (.cells #[.pointer (some ⟨1,152,none⟩),.pointer (some ⟨w.heap.size,0,none⟩),.int .u64 150] 180)).alloc (.cells #[.pointer (some e)] 150)):=(((((Below.refl _ w).alloc (Nat.le_refl _) _).alloc (by simp) _).alloc (by simp;omega) _).alloc (by simp;omega) _)
 go_enter Tryz.func95,Tryz.ntmps95;go_wp2;refine wp_loop_rounds 1 ?_;rw[rounds_succ];go_wp2;go_ret
 exact⟨rfl,_,d,rfl⟩
set_option maxHeartbeats 8000000 in
theorem zBU(b:Nat)(t:Addr)(old:Value)(w:World)(y:Int)(d:w.cell? ⟨b,2,none⟩=some (.iface 90 (.int .i64 y)))(hg:w.cell? ⟨0,0,none⟩=some z4a)(a:w.cell? t=some old)(j:w.frozen? t=false) :
  Calls Tryz.prog 95 #[.iface 150 (.pointer (some ⟨b,0,none⟩)),.iface 155 (.pointer (some t))] w fun f w'=>f=.returned (.bool true)∧∃w1,Below w.heap.size w w1∧w'=w1.setCell t (.int .i64 y):=by
 have A := @run_callFunc_extern Tryz.prog 118 _ (fun args=>ReflectliteValue.unpack (args.getD 0 (.tuple #[]))) Tryz.func118 (by kernel_rfl) (by kernel_rfl) (by kernel_rfl) (by kernel_rfl);have B := @run_callFunc_extern Tryz.prog 119 _ (ReflectliteValue.methodAny (ReflectliteValue.valueError "reflectlite.Value.Type" 0) (fun t _ _ _=>ReflectliteType.toType t)) Tryz.func119 (by kernel_rfl) (by kernel_rfl) (by kernel_rfl) (by kernel_rfl)
 have C := @run_callFunc_extern Tryz.prog 120 _ (ReflectliteValue.method (ReflectliteValue.valueError "reflectlite.Value.IsNil" 0) ReflectliteValue.isNil) Tryz.func120 (by kernel_rfl) (by kernel_rfl) (by kernel_rfl) (by kernel_rfl);have u := @run_callFunc_extern Tryz.prog 164 _ (ReflectliteType.abiMethod fun t=>do pure (.int .u8 (←Rtype.kind t))) Tryz.func164 (by kernel_rfl) (by kernel_rfl) (by kernel_rfl) (by kernel_rfl)
 have x := @run_callFunc_extern Tryz.prog 184 _ (ReflectliteType.method ReflectliteType.elem) Tryz.func184 (by kernel_rfl) (by kernel_rfl) (by kernel_rfl) (by kernel_rfl);have z := @run_callFunc_extern Tryz.prog 185 _ (ReflectliteType.relation "Implements" ReflectliteType.implements_) Tryz.func185 (by kernel_rfl) (by kernel_rfl) (by kernel_rfl) (by kernel_rfl)
 have q := @run_callFunc_extern Tryz.prog 132 _ ReflectliteType.typeOf Tryz.func132 (by kernel_rfl) (by kernel_rfl) (by kernel_rfl) (by kernel_rfl);have v := @run_callFunc_extern Tryz.prog 182 _ (ReflectliteType.relation "AssignableTo" ReflectliteType.assignableTo) Tryz.func182 (by kernel_rfl) (by kernel_rfl) (by kernel_rfl) (by kernel_rfl)
 have r := @run_callFunc_extern Tryz.prog 133 _ (ReflectliteValue.method (ReflectliteValue.valueError "reflectlite.Value.Elem" 0) ReflectliteValue.elem) Tryz.func133 (by kernel_rfl) (by kernel_rfl) (by kernel_rfl) (by kernel_rfl);have s := @run_callFunc_extern Tryz.prog 134 _ ReflectliteValue.set Tryz.func134 (by kernel_rfl) (by kernel_rfl) (by kernel_rfl) (by kernel_rfl);have L:=zga;have J:=zf9;have K:=zcr;have I:=zbV;have k:=zda hg;have c:=zcB a;have o:=zgq;have p:=zlq;have H:=zk5;have G:=zl4
 have n:=zkG;have F:=ze8;have Q:=zh8;have R:=zfL;have O:=zgj;have m:=ze5;have S:=zh9;have P:=zqn;have D:=zjf;have M:=zp4;have N:=zi3 ⟨w.heap.size,0,none⟩ t ((w.alloc (.cells #[.pointer (some t)] 155)).alloc (.cells #[.pointer (some ⟨1,155,none⟩),.pointer (some ⟨w.heap.size,0,none⟩),.int .u64 150] 180)) (by simp)
 have E:((w.alloc (.cells #[.pointer (some t)] 155)).alloc (.cells #[.pointer (some ⟨1,155,none⟩),.pointer (some ⟨w.heap.size,0,none⟩),.int .u64 150] 180)).cell? ⟨0,0,none⟩=some z4a:=by rw[World.cell?_alloc_lt _ _ ⟨0,0,none⟩ (by simp),World.cell?_alloc_lt _ _ ⟨0,0,none⟩ k];exact hg
 have i:b<w.heap.size:=zcB d;have l:(((w.alloc (.cells #[.pointer (some t)] 155)).alloc (.cells #[.pointer (some ⟨1,155,none⟩),.pointer (some ⟨w.heap.size,0,none⟩),.int .u64 150] 180)).alloc (.cells #[.pointer (some ⟨1,155,none⟩),.pointer (some ⟨w.heap.size,0,none⟩),.int .u64 150] 180)).cell? ⟨b,2,none⟩=some (.iface 90 (.int .i64 y)):=by rw[World.cell?_alloc_lt _ _ ⟨b,2,none⟩ (by simp;omega),World.cell?_alloc_lt _ _ ⟨b,2,none⟩ (by simp;omega),World.cell?_alloc_lt _ _ ⟨b,2,none⟩ i];exact d
 have el:=zi0 ⟨w.heap.size,0,none⟩ t (((w.alloc (.cells #[.pointer (some t)] 155)).alloc (.cells #[.pointer (some ⟨1,155,none⟩),.pointer (some ⟨w.heap.size,0,none⟩),.int .u64 150] 180)).alloc (.cells #[.pointer (some ⟨1,155,none⟩),.pointer (some ⟨w.heap.size,0,none⟩),.int .u64 150] 180)) (by rw[World.cell?_alloc_lt _ _ ⟨w.heap.size,0,none⟩ (by simp;omega)];simp)
 have st:=zoY t ⟨w.heap.size+1+1+1,0,none⟩ y old ((((w.alloc (.cells #[.pointer (some t)] 155)).alloc (.cells #[.pointer (some ⟨1,155,none⟩),.pointer (some ⟨w.heap.size,0,none⟩),.int .u64 150] 180)).alloc (.cells #[.pointer (some ⟨1,155,none⟩),.pointer (some ⟨w.heap.size,0,none⟩),.int .u64 150] 180)).alloc (.cells #[.int .i64 y] 90))
  (by rw[World.cell?_alloc_at _ _ _ _ (by simp)];rfl)
  (by rw[World.cell?_alloc_lt _ _ t (by simp;omega),World.cell?_alloc_lt _ _ t (by simp;omega),World.cell?_alloc_lt _ _ t (by simp;omega),World.cell?_alloc_lt _ _ t c];exact a)
  (by rw[World.frozen?_alloc_old _ _ t (by simp;omega),World.frozen?_alloc_old _ _ t (by simp;omega),World.frozen?_alloc_old _ _ t (by simp;omega),World.frozen?_alloc_old _ _ t (Nat.ne_of_lt c)];exact j)
 have g:Below w.heap.size w ((((w.alloc (.cells #[.pointer (some t)] 155)).alloc (.cells #[.pointer (some ⟨1,155,none⟩),.pointer (some ⟨w.heap.size,0,none⟩),.int .u64 150] 180)).alloc (.cells #[.pointer (some ⟨1,155,none⟩),.pointer (some ⟨w.heap.size,0,none⟩),.int .u64 150] 180)).alloc (.cells #[.int .i64 y] 90)):=(((((Below.refl _ w).alloc (Nat.le_refl _) _).alloc (by simp) _).alloc (by simp;omega) _).alloc (by simp;omega) _)
 go_enter Tryz.func95,Tryz.ntmps95;go_wp2;refine wp_loop_rounds 2 ?_;rw[rounds_succ];go_wp2_with (go_at_call 176;refine(faU b _ _ l).mono ?_;rintro e w' ⟨rfl,rfl⟩)
 rw[rounds_succ];go_wp2;go_ret
 exact⟨rfl,_,g,rfl⟩
set_option maxHeartbeats 8000000 in
theorem zwc(e:Int)(t:Addr)(old:Value)(w:World)(hg:w.cell? ⟨0,0,none⟩=some z4a)(a:w.cell? t=some old)(f:w.frozen? t=false) :
  Calls Tryz.prog 95 #[.iface 90 (.int .i64 e),.iface 155 (.pointer (some t))] w fun c w'=>c=.returned (.bool true)∧∃w1,Below w.heap.size w w1∧w'=w1.setCell t (.int .i64 e):=by
 have u := @run_callFunc_extern Tryz.prog 118 _ (fun args=>ReflectliteValue.unpack (args.getD 0 (.tuple #[]))) Tryz.func118 (by kernel_rfl) (by kernel_rfl) (by kernel_rfl) (by kernel_rfl);have v := @run_callFunc_extern Tryz.prog 119 _ (ReflectliteValue.methodAny (ReflectliteValue.valueError "reflectlite.Value.Type" 0) (fun t _ _ _=>ReflectliteType.toType t)) Tryz.func119 (by kernel_rfl) (by kernel_rfl) (by kernel_rfl) (by kernel_rfl)
 have x := @run_callFunc_extern Tryz.prog 120 _ (ReflectliteValue.method (ReflectliteValue.valueError "reflectlite.Value.IsNil" 0) ReflectliteValue.isNil) Tryz.func120 (by kernel_rfl) (by kernel_rfl) (by kernel_rfl) (by kernel_rfl);have p := @run_callFunc_extern Tryz.prog 164 _ (ReflectliteType.abiMethod fun t=>do pure (.int .u8 (←Rtype.kind t))) Tryz.func164 (by kernel_rfl) (by kernel_rfl) (by kernel_rfl) (by kernel_rfl)
 have r := @run_callFunc_extern Tryz.prog 184 _ (ReflectliteType.method ReflectliteType.elem) Tryz.func184 (by kernel_rfl) (by kernel_rfl) (by kernel_rfl) (by kernel_rfl);have s := @run_callFunc_extern Tryz.prog 185 _ (ReflectliteType.relation "Implements" ReflectliteType.implements_) Tryz.func185 (by kernel_rfl) (by kernel_rfl) (by kernel_rfl) (by kernel_rfl)
 have m := @run_callFunc_extern Tryz.prog 132 _ ReflectliteType.typeOf Tryz.func132 (by kernel_rfl) (by kernel_rfl) (by kernel_rfl) (by kernel_rfl);have q := @run_callFunc_extern Tryz.prog 182 _ (ReflectliteType.relation "AssignableTo" ReflectliteType.assignableTo) Tryz.func182 (by kernel_rfl) (by kernel_rfl) (by kernel_rfl) (by kernel_rfl)
 have n := @run_callFunc_extern Tryz.prog 133 _ (ReflectliteValue.method (ReflectliteValue.valueError "reflectlite.Value.Elem" 0) ReflectliteValue.elem) Tryz.func133 (by kernel_rfl) (by kernel_rfl) (by kernel_rfl) (by kernel_rfl);have o := @run_callFunc_extern Tryz.prog 134 _ ReflectliteValue.set Tryz.func134 (by kernel_rfl) (by kernel_rfl) (by kernel_rfl) (by kernel_rfl);have F:=zga;have D:=zf9;have E:=zcr;have C:=zbV;have g:=zda hg;have b:=zcB a;have k:=zgq;have l:=zlq;have B:=zk5;have A:=zl4
 have j:=zkG;have z:=ze8;have H:=zfL;have i:=ze5;have I:=zh9;have G:=zi3 ⟨w.heap.size,0,none⟩ t ((w.alloc (.cells #[.pointer (some t)] 155)).alloc (.cells #[.pointer (some ⟨1,155,none⟩),.pointer (some ⟨w.heap.size,0,none⟩),.int .u64 150] 180)) (by simp)
 have y:((w.alloc (.cells #[.pointer (some t)] 155)).alloc (.cells #[.pointer (some ⟨1,155,none⟩),.pointer (some ⟨w.heap.size,0,none⟩),.int .u64 150] 180)).cell? ⟨0,0,none⟩=some z4a:=by rw[World.cell?_alloc_lt _ _ ⟨0,0,none⟩ (by simp),World.cell?_alloc_lt _ _ ⟨0,0,none⟩ g];exact hg
 have el:=zi0 ⟨w.heap.size,0,none⟩ t (((w.alloc (.cells #[.pointer (some t)] 155)).alloc (.cells #[.pointer (some ⟨1,155,none⟩),.pointer (some ⟨w.heap.size,0,none⟩),.int .u64 150] 180)).alloc (.cells #[.pointer (some ⟨1,155,none⟩),.pointer (some ⟨w.heap.size,0,none⟩),.int .u64 150] 180)) (by rw[World.cell?_alloc_lt _ _ ⟨w.heap.size,0,none⟩ (by simp;omega)];simp)
 have st:=zoY t ⟨w.heap.size+1+1+1,0,none⟩ e old ((((w.alloc (.cells #[.pointer (some t)] 155)).alloc (.cells #[.pointer (some ⟨1,155,none⟩),.pointer (some ⟨w.heap.size,0,none⟩),.int .u64 150] 180)).alloc (.cells #[.pointer (some ⟨1,155,none⟩),.pointer (some ⟨w.heap.size,0,none⟩),.int .u64 150] 180)).alloc (.cells #[.int .i64 e] 90))
  (by rw[World.cell?_alloc_at _ _ _ _ (by simp)];rfl)
  (by rw[World.cell?_alloc_lt _ _ t (by simp;omega),World.cell?_alloc_lt _ _ t (by simp;omega),World.cell?_alloc_lt _ _ t (by simp;omega),World.cell?_alloc_lt _ _ t b];exact a)
  (by rw[World.frozen?_alloc_old _ _ t (by simp;omega),World.frozen?_alloc_old _ _ t (by simp;omega),World.frozen?_alloc_old _ _ t (by simp;omega),World.frozen?_alloc_old _ _ t (Nat.ne_of_lt b)];exact f)
 have d:Below w.heap.size w ((((w.alloc (.cells #[.pointer (some t)] 155)).alloc (.cells #[.pointer (some ⟨1,155,none⟩),.pointer (some ⟨w.heap.size,0,none⟩),.int .u64 150] 180)).alloc (.cells #[.pointer (some ⟨1,155,none⟩),.pointer (some ⟨w.heap.size,0,none⟩),.int .u64 150] 180)).alloc (.cells #[.int .i64 e] 90)):=(((((Below.refl _ w).alloc (Nat.le_refl _) _).alloc (by simp) _).alloc (by simp;omega) _).alloc (by simp;omega) _)
 go_enter Tryz.func95,Tryz.ntmps95;go_wp2;refine wp_loop_rounds 1 ?_;rw[rounds_succ];go_wp2;go_ret
 exact⟨rfl,_,d,rfl⟩
set_option maxHeartbeats 8000000 in
theorem ztW(e:Int)(t:Addr)(old:Value)(w:World)(hg:w.cell? ⟨0,0,none⟩=some z4a)(r:w.cell? t=some old) :
  Calls Tryz.prog 95 #[.iface 90 (.int .i64 e),.iface 152 (.pointer (some t))] w fun a w'=>a=.returned (.bool false)∧Below w.heap.size w w':=by
 have n := @run_callFunc_extern Tryz.prog 118 _ (fun args=>ReflectliteValue.unpack (args.getD 0 (.tuple #[]))) Tryz.func118 (by kernel_rfl) (by kernel_rfl) (by kernel_rfl) (by kernel_rfl);have o := @run_callFunc_extern Tryz.prog 119 _ (ReflectliteValue.methodAny (ReflectliteValue.valueError "reflectlite.Value.Type" 0) (fun t _ _ _=>ReflectliteType.toType t)) Tryz.func119 (by kernel_rfl) (by kernel_rfl) (by kernel_rfl) (by kernel_rfl)
 have p := @run_callFunc_extern Tryz.prog 120 _ (ReflectliteValue.method (ReflectliteValue.valueError "reflectlite.Value.IsNil" 0) ReflectliteValue.isNil) Tryz.func120 (by kernel_rfl) (by kernel_rfl) (by kernel_rfl) (by kernel_rfl);have j := @run_callFunc_extern Tryz.prog 164 _ (ReflectliteType.abiMethod fun t=>do pure (.int .u8 (←Rtype.kind t))) Tryz.func164 (by kernel_rfl) (by kernel_rfl) (by kernel_rfl) (by kernel_rfl)
 have l := @run_callFunc_extern Tryz.prog 184 _ (ReflectliteType.method ReflectliteType.elem) Tryz.func184 (by kernel_rfl) (by kernel_rfl) (by kernel_rfl) (by kernel_rfl);have m := @run_callFunc_extern Tryz.prog 185 _ (ReflectliteType.relation "Implements" ReflectliteType.implements_) Tryz.func185 (by kernel_rfl) (by kernel_rfl) (by kernel_rfl) (by kernel_rfl)
 have i := @run_callFunc_extern Tryz.prog 132 _ ReflectliteType.typeOf Tryz.func132 (by kernel_rfl) (by kernel_rfl) (by kernel_rfl) (by kernel_rfl);have k := @run_callFunc_extern Tryz.prog 182 _ (ReflectliteType.relation "AssignableTo" ReflectliteType.assignableTo) Tryz.func182 (by kernel_rfl) (by kernel_rfl) (by kernel_rfl) (by kernel_rfl);have A:=zga;have y:=zf9;have z:=zcr;have x:=zbV;have c:=zda hg;have f:=zfN;have g:=zjc;have v:=zi4;have u:=zk6;have d:=zi1;have s:=zeq;have G:=zfL
 have C:=zg5;have D:=zso;have E:=zlG;have F:=zlf;have B:=zhT ⟨w.heap.size,0,none⟩ t ((w.alloc (.cells #[.pointer (some t)] 152)).alloc (.cells #[.pointer (some ⟨1,152,none⟩),.pointer (some ⟨w.heap.size,0,none⟩),.int .u64 150] 180)) (by simp)
 have q:((w.alloc (.cells #[.pointer (some t)] 152)).alloc (.cells #[.pointer (some ⟨1,152,none⟩),.pointer (some ⟨w.heap.size,0,none⟩),.int .u64 150] 180)).cell? ⟨0,0,none⟩=some z4a:=by rw[World.cell?_alloc_lt _ _ ⟨0,0,none⟩ (by simp),World.cell?_alloc_lt _ _ ⟨0,0,none⟩ c];exact hg
 have b:Below w.heap.size w (((w.alloc (.cells #[.pointer (some t)] 152)).alloc (.cells #[.pointer (some ⟨1,152,none⟩),.pointer (some ⟨w.heap.size,0,none⟩),.int .u64 150] 180)).alloc (.cells #[.pointer (some ⟨1,152,none⟩),.pointer (some ⟨w.heap.size,0,none⟩),.int .u64 150] 180)):=((((Below.refl _ w).alloc (Nat.le_refl _) _).alloc (by simp) _).alloc (by simp;omega) _)
 go_enter Tryz.func95,Tryz.ntmps95;go_wp2;refine wp_loop_rounds 1 ?_;rw[rounds_succ];go_wp2;go_ret
 exact⟨rfl,b⟩
end Err
namespace Err
theorem zsw{w w1:World}{t:Addr}{old v:Value}(a:Below w.heap.size w w1)(c:w.cell? t=some old):(w1.setCell t v).cell? t=some v∧Below t.block w (w1.setCell t v):=by
 have b:=zcB c;exact⟨World.cell?_setCell_same' w1 t v (by rw[a.cell b,c];rfl),(a.mono (Nat.le_of_lt b)).setCell (Nat.le_refl _) _⟩
theorem zDE{w w1:World}{v:Value}{p:Addr}(a:Below w.heap.size w w1)(h:w.cell? p=some v):w1.cell? p=some v:=(a.cell (zcB h)).trans h
theorem zKv(b:Nat)(w:World)(y:Int)(a:w.cell? ⟨b,2,none⟩=some (.iface 90 (.int .i64 y)))(hg:w.cell? ⟨0,0,none⟩=some z4a):Calls Tryz.prog 62 #[.iface 150 (.pointer (some ⟨b,0,none⟩))] w fun d w'=>d=.returned (.int .i64 y)∧Below w.heap.size w w':=by
 have k:=zda hg;have j:=Lib.hid (show(w.alloc (.cells #[.int .i64 0] 90)).cell? ⟨0,0,none⟩=some z4a by rw[World.cell?_alloc_lt _ _ ⟨0,0,none⟩ k];exact hg);have c:=Lib.hid (show(w.alloc (.cells #[.int .i64 0] 90)).cell? ⟨w.heap.size,0,none⟩=some (.int .i64 0)by simp);have i:=Lib.hid (show(w.alloc (.cells #[.int .i64 0] 90)).frozen? ⟨w.heap.size,0,none⟩=false by simp);have f:Hid (Below w.heap.size w (w.alloc (.cells #[.int .i64 0] 90))):=Lib.hid ((Below.refl _ w).alloc (Nat.le_refl _) _)
 have l:=Lib.hid (show(w.alloc (.cells #[.int .i64 0] 90)).cell? ⟨b,2,none⟩=some (.iface 90 (.int .i64 y))by rw[World.cell?_alloc_lt _ _ ⟨b,2,none⟩ (zcB a)];exact a);clear a;clear hg;go_enter Tryz.func62,Tryz.ntmps62
 go_wp2_with (go_at_call 95;go_loud (refine(zBU b ⟨w.heap.size,0,none⟩ _ _ y l.out j.out c.out i.out).mono ?_;rintro e w' ⟨rfl,w1,hB,rfl⟩;have hc:=zsw (v:=.int .i64 y) hB c.out;generalize w1.setCell ⟨w.heap.size,0,none⟩ (.int .i64 y)=w2 at hc;have m:=hc.1;have g:=Lib.hid (f.out.trans hc.2);clear hc hB))
 go_ret
 exact⟨rfl,g.out⟩
theorem zKJ(b:Nat)(S:ByteArray)(k:Int)(w:World)(a:w.cell? ⟨b,0,none⟩=some (.string S))(d:w.cell? ⟨b,1,none⟩=some (.int .i64 k))(hg:w.cell? ⟨0,0,none⟩=some z4a):Calls Tryz.prog 61 #[.iface 150 (.pointer (some ⟨b,0,none⟩))] w fun i w'=>i=.returned (.tuple #[.string S,.int .i64 k,.bool true])∧Below w.heap.size w w':=by
 have q:=zda hg;have o:=Lib.hid (show(w.alloc (.cells #[.pointer none] 150)).cell? ⟨0,0,none⟩=some z4a by rw[World.cell?_alloc_lt _ _ ⟨0,0,none⟩ q];exact hg);have f:=Lib.hid (show(w.alloc (.cells #[.pointer none] 150)).cell? ⟨w.heap.size,0,none⟩=some (.pointer none)by simp);have n:=Lib.hid (show(w.alloc (.cells #[.pointer none] 150)).frozen? ⟨w.heap.size,0,none⟩=false by simp)
 have m:Hid (Below w.heap.size w (w.alloc (.cells #[.pointer none] 150))):=Lib.hid ((Below.refl _ w).alloc (Nat.le_refl _) _);have g:=Lib.hid (zcB a);have j:=Lib.hid a;have l:=Lib.hid d;clear hg a d;go_enter Tryz.func61,Tryz.ntmps61
 go_wp2_with (go_at_call 95;go_loud (refine(zCu ⟨b,0,none⟩ ⟨w.heap.size,0,none⟩ _ _  o.out f.out n.out).mono ?_;rintro e w' ⟨rfl,w1,hB,rfl⟩;have hc:=zsw (v:=.pointer (some ⟨b,0,none⟩)) hB f.out;generalize w1.setCell ⟨w.heap.size,0,none⟩ (.pointer (some ⟨b,0,none⟩))=w2 at hc;have r:=hc.1;have c:=Lib.hid (m.out.trans hc.2);clear hc hB;have a:=(c.out.cell (p:=⟨b,0,none⟩) g.out).trans j.out;have d:=(c.out.cell (p:=⟨b,1,none⟩) g.out).trans l.out))
 go_region
 all_goals (go_wp2;go_ret3;exact⟨rfl,c.out.drew⟩)

end Err
namespace Err
theorem zN4(b:Nat)(S:ByteArray)(y k:Int)(w:World)(c:w.cell? ⟨b,0,none⟩=some (.string S))(d:w.cell? ⟨b,1,none⟩=some (.int .i64 k))(f:w.cell? ⟨b,2,none⟩=some (.iface 90 (.int .i64 y)))(hg:w.cell? ⟨0,0,none⟩=some z4a)(hS:S.toList.isEmpty=false) :
  Calls Tryz.prog 34 #[.iface 150 (.pointer (some ⟨b,0,none⟩)),.int .i64 y,.string S,.int .i64 k] w fun g w'=>g=.returned (.bool true)∧Below w.heap.size w w':=by
 have i:=Lib.hid (zcB c);have j:=Lib.hid (zcB hg);have o:=Lib.hid f;have m:=Lib.hid hg;have n:=Lib.hid (zKJ b S k w c d hg);have q:(y != y)=false:=by simp
 clear hg c d f;go_enter Tryz.func34,Tryz.ntmps34
 go_wp2_with (first
  | (go_at_call 61;refine n.out.mono ?_;rintro e w' ⟨rfl,hb⟩;have a:=Lib.hid hb;clear hb)
  | (go_at_call 62;go_loud (refine(zKv b _ y ((a.out.cell (p:=⟨b,2,none⟩) i.out).trans o.out) ((a.out.cell (p:=⟨0,0,none⟩) j.out).trans m.out)).mono ?_;rintro e w' ⟨rfl,hb⟩;have l:=Lib.hid (a.out.trans (hb.mono a.out.size));clear hb)))
 go_ret
 exact⟨rfl,l.out⟩
