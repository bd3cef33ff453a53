/- Contracts and lemmas: Err Err2 Err3 Err4. Conditions: as each says. -/
import Derived.LaidEql
import Derived.Stop.Asserts
import Derived.RowKitTokens
import Derived.Below
import Derived.Test.YtbpjabgfcbjjmaaGreatDoorWord3Zc
set_option linter.all false
set_option maxHeartbeats 4000000
set_option maxRecDepth 100000
namespace Go.Proofs.YtbpjabgfcbjjmaaGreatDoor
open Go.RowKit Go.Extern.Stop Go.Stop Go.Extern
variable {t:Addr}{v:Value}{w w1:World}
namespace Err

theorem rlm(z:Sem Value)(f:TypeId->Addr->Nat->Nat->Sem Value)(v:Value) :
  ReflectliteValue.method z f #[v]=(do match <-ReflectliteValue.parts v with | none=>z | some (t,a,fl)=>f t a fl (fl%32)):=rfl
theorem rls(v x:Value):ReflectliteValue.set #[v,x]=(do
  let (some (dst,a,fl),some (src,b,_)):=(<-ReflectliteValue.parts v,<-ReflectliteValue.parts x)
   | unsupported (.noEntry "extern/(internal/reflectlite.Value).Set.zeroValue")
  if fl/ReflectliteValue.flagAddr%2 == 0 then unsupported (.noEntry "extern/(internal/reflectlite.Value).Set.unaddressable")
  let val <-loadVar src b
  if <-Rtype.directlyAssignable dst src then storeVar dst a val
  else if <-Rtype.implements dst src then
   if (<-Rtype.kind src) == 20 then
    match val with
    | .nilIface=>unsupported (.noEntry "extern/reflectlite: a nil value of one interface type handed on as a value of another")
    | _=>storeVar dst a val
   else storeVar dst a (.iface src val)
  else panicString ("reflectlite.Set: value of type " ++ (<-Rtype.spelt src) ++ " is not assignable to type " ++ (<-Rtype.spelt dst))
  pure (.tuple #[])):=rfl
theorem zga(h:Value)(w:World):(Go.method 402 154 (.agg #[h]) "Kind").run Tryz.prog w=.ok (193,h) w:=ξ
theorem zf9(h:Value)(w:World):(Go.method 402 154 (.agg #[h]) "Elem").run Tryz.prog w=.ok (209,.agg #[h]) w:=ξ
theorem zcr(h:Value)(w:World):(Go.method 402 154 (.agg #[h]) "Implements").run Tryz.prog w=.ok (210,.agg #[h]) w:=ξ
theorem zbV(h:Value)(w:World):(Go.method 402 154 (.agg #[h]) "AssignableTo").run Tryz.prog w=.ok (207,.agg #[h]) w:=ξ
theorem zp4(h:Value)(w:World):(Go.method 402 166 h "Unwrap").run Tryz.prog w=.ok (218,h) w:=ξ
/-! ### the type pFault -/
theorem zi4(w:World):((ReflectliteType.abiMethod λt=>(λa:Nat=>Value.int IntKind.u8 (a:Int)) <$> Rtype.kind t) #[.pointer (some ⟨1,168,none⟩)]).run Tryz.prog w=.ok (.int .u8 22) w:=ξ
theorem zk6(w:World):((ReflectliteType.abiMethod λt=>(λa:Nat=>Value.int IntKind.u8 (a:Int)) <$> Rtype.kind t) #[.pointer (some ⟨1,166,none⟩)]).run Tryz.prog w=.ok (.int .u8 22) w:=ξ
theorem zfN(t:Addr)(w:World):(ReflectliteValue.unpack (.iface 168 (.pointer (some t)))).run Tryz.prog w
  = .ok (.agg #[.pointer (some ⟨1,168,none⟩),.pointer (some ⟨w,0,none⟩),.int .u64 150]) (w.alloc (.cells #[.pointer (some t)] 168)):=ξ
theorem zjc(a:Addr)(w:World):(ReflectliteValue.methodAny (ReflectliteValue.valueError "reflectlite.Value.Type" 0) (λt _ _ _=>ReflectliteType.toType t) #[.agg #[.pointer (some ⟨1,168,none⟩),.pointer (some a),.int .u64 150]]).run Tryz.prog w
  = .ok (.iface 154 (.agg #[.pointer (some ⟨1,168,none⟩)])) w:=ξ
theorem zhZ(a:Addr)(w:World):(ReflectliteValue.parts (.agg #[.pointer (some ⟨1,168,none⟩),.pointer (some a),.int .u64 150])).run Tryz.prog w=.ok (some (168,a,150)) w:=ξ
theorem zhT(a p:Addr)(W:World)(b:W.cell? a=some (.pointer (some p))) :
  (ReflectliteValue.method (ReflectliteValue.valueError "reflectlite.Value.IsNil" 0) ReflectliteValue.isNil #[.agg #[.pointer (some ⟨1,168,none⟩),.pointer (some a),.int .u64 150]]).run Tryz.prog W=.ok false W:=by
 rw[rlm];simp only[Sem.run_bind,zhZ,Result.andThen];simp[ReflectliteValue.isNil,loadVar,isAgg,underlying,Tryz.underlying168,b,Result.andThen]
theorem zi1(w:World):(ReflectliteType.method ReflectliteType.elem #[.agg #[.pointer (some ⟨1,168,none⟩)]]).run Tryz.prog w=.ok (.iface 154 (.agg #[.pointer (some ⟨1,166,none⟩)])) w:=ξ
theorem zeq(w:World):(ReflectliteType.relation "Implements" ReflectliteType.implements_ #[.agg #[.pointer (some ⟨1,166,none⟩)],.iface 154 (.agg #[.pointer (some ⟨1,49,none⟩)])]).run Tryz.prog w=.ok true w:=ξ
theorem zh8(v:Value)(w:World):(ReflectliteType.typeOf #[.iface 166 v]).run Tryz.prog w=.ok (.iface 154 (.agg #[.pointer (some ⟨1,166,none⟩)])) w:=ξ
theorem zik(w:World):(ReflectliteType.relation "AssignableTo" ReflectliteType.assignableTo #[.agg #[.pointer (some ⟨1,166,none⟩)],.iface 154 (.agg #[.pointer (some ⟨1,166,none⟩)])]).run Tryz.prog w=.ok true w:=ξ
theorem zlI(e:Addr)(w:World):(ReflectliteValue.unpack (.iface 166 (.pointer (some e)))).run Tryz.prog w
  = .ok (.agg #[.pointer (some ⟨1,166,none⟩),.pointer (some ⟨w,0,none⟩),.int .u64 150]) (w.alloc (.cells #[.pointer (some e)] 166)):=ξ
theorem zlE(w:World):(Rtype.elem? 168).run Tryz.prog w=.ok (some 166) w:=ξ
theorem zu4(p:Addr)(w:World):(ReflectliteValue.mk 166 p ReflectliteValue.flagAddr).run Tryz.prog w=.ok (.agg #[.pointer (some ⟨1,166,none⟩),.pointer (some p),.int .u64 406]) w:=ξ
theorem znf(a p:Addr)(W:World)(b:W.cell? a=some (.pointer (some p))) :
  (ReflectliteValue.method (ReflectliteValue.valueError "reflectlite.Value.Elem" 0) ReflectliteValue.elem #[.agg #[.pointer (some ⟨1,168,none⟩),.pointer (some a),.int .u64 150]]).run Tryz.prog W
   = .ok (.agg #[.pointer (some ⟨1,166,none⟩),.pointer (some p),.int .u64 406]) W:=by
 rw[rlm];simp only[Sem.run_bind,zhZ,Result.andThen];simp[ReflectliteValue.elem,loadVar,isAgg,underlying,Tryz.underlying168,b,Result.andThen,zlE,zu4]
theorem znP(a:Addr)(w:World):(ReflectliteValue.parts (.agg #[.pointer (some ⟨1,166,none⟩),.pointer (some a),.int .u64 406])).run Tryz.prog w=.ok (some (166,a,406)) w:=ξ
theorem zoV(a:Addr)(w:World):(ReflectliteValue.parts (.agg #[.pointer (some ⟨1,166,none⟩),.pointer (some a),.int .u64 150])).run Tryz.prog w=.ok (some (166,a,150)) w:=ξ
theorem zna(w:World):(Rtype.directlyAssignable 166 166).run Tryz.prog w=.ok true w:=ξ
theorem zsv(a b:Addr)(e:Addr)(old:Value)(W:World)(c:W.cell? b=some (.pointer (some e)))(d:W.cell? a=some old)(hf:W.frozen? a=false) :
  (ReflectliteValue.set #[.agg #[.pointer (some ⟨1,166,none⟩),.pointer (some a),.int .u64 406],.agg #[.pointer (some ⟨1,166,none⟩),.pointer (some b),.int .u64 150]]).run Tryz.prog W
   = .ok (.tuple #[]) (W.setCell a (.pointer (some e))):=by
 rw[rls];simp only[Sem.run_bind,znP,zoV,Result.andThen];simp[ReflectliteValue.flagAddr,loadVar,isAgg,underlying,Tryz.underlying166,c,Result.andThen,zna,storeVar,Value.cells,storeCells,Addr.add];rw[run_store Tryz.prog W a _ _ (by rfl)];simp[d,hf]
/-! ### the type Errno -/
theorem zk5(w:World):((ReflectliteType.abiMethod λt=>(λa:Nat=>Value.int IntKind.u8 (a:Int)) <$> Rtype.kind t) #[.pointer (some ⟨1,171,none⟩)]).run Tryz.prog w=.ok (.int .u8 22) w:=ξ
theorem zl4(w:World):((ReflectliteType.abiMethod λt=>(λa:Nat=>Value.int IntKind.u8 (a:Int)) <$> Rtype.kind t) #[.pointer (some ⟨1,54,none⟩)]).run Tryz.prog w=.ok (.int .u8 2) w:=ξ
theorem zgq(t:Addr)(w:World):(ReflectliteValue.unpack (.iface 171 (.pointer (some t)))).run Tryz.prog w
  = .ok (.agg #[.pointer (some ⟨1,171,none⟩),.pointer (some ⟨w,0,none⟩),.int .u64 150]) (w.alloc (.cells #[.pointer (some t)] 171)):=ξ
theorem zlq(a:Addr)(w:World):(ReflectliteValue.methodAny (ReflectliteValue.valueError "reflectlite.Value.Type" 0) (λt _ _ _=>ReflectliteType.toType t) #[.agg #[.pointer (some ⟨1,171,none⟩),.pointer (some a),.int .u64 150]]).run Tryz.prog w
  = .ok (.iface 154 (.agg #[.pointer (some ⟨1,171,none⟩)])) w:=ξ
theorem zi8(a:Addr)(w:World):(ReflectliteValue.parts (.agg #[.pointer (some ⟨1,171,none⟩),.pointer (some a),.int .u64 150])).run Tryz.prog w=.ok (some (171,a,150)) w:=ξ
theorem zi3(a p:Addr)(W:World)(b:W.cell? a=some (.pointer (some p))) :
  (ReflectliteValue.method (ReflectliteValue.valueError "reflectlite.Value.IsNil" 0) ReflectliteValue.isNil #[.agg #[.pointer (some ⟨1,171,none⟩),.pointer (some a),.int .u64 150]]).run Tryz.prog W=.ok false W:=by
 rw[rlm];simp only[Sem.run_bind,zi8,Result.andThen];simp[ReflectliteValue.isNil,loadVar,isAgg,underlying,Tryz.underlying171,b,Result.andThen]
theorem zkG(w:World):(ReflectliteType.method ReflectliteType.elem #[.agg #[.pointer (some ⟨1,171,none⟩)]]).run Tryz.prog w=.ok (.iface 154 (.agg #[.pointer (some ⟨1,54,none⟩)])) w:=ξ
theorem ze8(w:World):(ReflectliteType.relation "Implements" ReflectliteType.implements_ #[.agg #[.pointer (some ⟨1,54,none⟩)],.iface 154 (.agg #[.pointer (some ⟨1,49,none⟩)])]).run Tryz.prog w=.ok true w:=ξ
theorem zfL(v:Value)(w:World):(ReflectliteType.typeOf #[.iface 54 v]).run Tryz.prog w=.ok (.iface 154 (.agg #[.pointer (some ⟨1,54,none⟩)])) w:=ξ
theorem ze5(w:World):(ReflectliteType.relation "AssignableTo" ReflectliteType.assignableTo #[.agg #[.pointer (some ⟨1,54,none⟩)],.iface 154 (.agg #[.pointer (some ⟨1,54,none⟩)])]).run Tryz.prog w=.ok true w:=ξ
theorem zh9(e:Int)(w:World):(ReflectliteValue.unpack (.iface 54 (.int .i64 e))).run Tryz.prog w
  = .ok (.agg #[.pointer (some ⟨1,54,none⟩),.pointer (some ⟨w,0,none⟩),.int .u64 130]) (w.alloc (.cells #[.int .i64 e] 54)):=ξ
theorem zne(w:World):(Rtype.elem? 171).run Tryz.prog w=.ok (some 54) w:=ξ
theorem zxn(p:Addr)(w:World):(ReflectliteValue.mk 54 p ReflectliteValue.flagAddr).run Tryz.prog w=.ok (.agg #[.pointer (some ⟨1,54,none⟩),.pointer (some p),.int .u64 386]) w:=ξ
theorem zi0(a p:Addr)(W:World)(b:W.cell? a=some (.pointer (some p))) :
  (ReflectliteValue.method (ReflectliteValue.valueError "reflectlite.Value.Elem" 0) ReflectliteValue.elem #[.agg #[.pointer (some ⟨1,171,none⟩),.pointer (some a),.int .u64 150]]).run Tryz.prog W
   = .ok (.agg #[.pointer (some ⟨1,54,none⟩),.pointer (some p),.int .u64 386]) W:=by
 rw[rlm];simp only[Sem.run_bind,zi8,Result.andThen];simp[ReflectliteValue.elem,loadVar,isAgg,underlying,Tryz.underlying171,b,Result.andThen,zne,zxn]
theorem zoU(a:Addr)(w:World):(ReflectliteValue.parts (.agg #[.pointer (some ⟨1,54,none⟩),.pointer (some a),.int .u64 386])).run Tryz.prog w=.ok (some (54,a,386)) w:=ξ
theorem zqs(a:Addr)(w:World):(ReflectliteValue.parts (.agg #[.pointer (some ⟨1,54,none⟩),.pointer (some a),.int .u64 130])).run Tryz.prog w=.ok (some (54,a,130)) w:=ξ
theorem zow(w:World):(Rtype.directlyAssignable 54 54).run Tryz.prog w=.ok true w:=ξ
theorem zoY(a b:Addr)(e:Int)(old:Value)(W:World)(c:W.cell? b=some (.int .i64 e))(d:W.cell? a=some old)(hf:W.frozen? a=false) :
  (ReflectliteValue.set #[.agg #[.pointer (some ⟨1,54,none⟩),.pointer (some a),.int .u64 386],.agg #[.pointer (some ⟨1,54,none⟩),.pointer (some b),.int .u64 130]]).run Tryz.prog W
   = .ok (.tuple #[]) (W.setCell a (.int .i64 e)):=by
 rw[rls];simp only[Sem.run_bind,zoU,zqs,Result.andThen];simp[ReflectliteValue.flagAddr,loadVar,isAgg,underlying,Tryz.underlying54,c,Result.andThen,zow,storeVar,Value.cells,storeCells,Addr.add];rw[run_store Tryz.prog W a _ _ (by rfl)];simp[d,hf]
/-! ### between the types -/
theorem zgj(w:World):(ReflectliteType.relation "AssignableTo" ReflectliteType.assignableTo #[.agg #[.pointer (some ⟨1,166,none⟩)],.iface 154 (.agg #[.pointer (some ⟨1,54,none⟩)])]).run Tryz.prog w=.ok false w:=ξ
theorem zqn(v:Value)(a:TypeId)(w:World):(Instr.typeAssert (.iface 166 v) a 244 true).run Tryz.prog w=.ok (.tuple #[.nilIface,false]) w:=run_typeAssert_lacksB Tryz.underlying244 ξ ξ v a w
theorem zjf(v:Value)(a:TypeId)(w:World):(Instr.typeAssert (.iface 166 v) a 159 true).run Tryz.prog w=.ok (.tuple #[.iface 166 v,true]) w:=run_typeAssert_hasB Tryz.underlying159 ξ v a w
theorem zg5(w:World):(ReflectliteType.relation "AssignableTo" ReflectliteType.assignableTo #[.agg #[.pointer (some ⟨1,54,none⟩)],.iface 154 (.agg #[.pointer (some ⟨1,166,none⟩)])]).run Tryz.prog w=.ok false w:=ξ
theorem zso(v:Value)(a:TypeId)(w:World):(Instr.typeAssert (.iface 54 v) a 244 true).run Tryz.prog w=.ok (.tuple #[.nilIface,false]) w:=run_typeAssert_lacksB Tryz.underlying244 ξ ξ v a w
theorem zlG(v:Value)(a:TypeId)(w:World):(Instr.typeAssert (.iface 54 v) a 159 true).run Tryz.prog w=.ok (.tuple #[.nilIface,false]) w:=run_typeAssert_lacksB Tryz.underlying159 ξ ξ v a w
theorem zlf(v:Value)(a:TypeId)(w:World):(Instr.typeAssert (.iface 54 v) a 161 true).run Tryz.prog w=.ok (.tuple #[.nilIface,false]) w:=run_typeAssert_lacksB Tryz.underlying161 ξ ξ v a w
end Err
namespace Err
abbrev z4a:Value:=.iface 154 (.agg #[.pointer (some ⟨1,49,none⟩)])
theorem faU(b:Nat)(x:Value)(w:World)(a:χ w b 2 x):Calls Tryz.prog 218 #[.pointer (some ⟨b,0,none⟩)] w λe w'=>e=.returned x/\w'=w:=by go_enter Tryz.func218,Tryz.ntmps218;go_wp2;go_ret;exact⟨rfl,rfl⟩
theorem zda(hg:χ w 0 0 v):0<w.heap.size:=by rcases XT w.heap.size with h0 | h;simp[World.cell?,h0]at hg;exact h
theorem zcB(a:w.cell? t=some v):t.block<w.heap.size:=by rcases ZI t.block w.heap.size with h | h;exact h;simp[World.cell?,Array.getElem?_eq_none h]at a
set_option maxHeartbeats 8000000 in
theorem zCu(e:Addr)(t:Addr)(old:Value)(w:World)(hg:χ w 0 0 z4a)(a:w.cell? t=some old)(f:w.frozen? t=false) :
  Calls Tryz.prog 79 #[.iface 166 (.pointer (some e)),.iface 168 (.pointer (some t))] w λc w'=>c=.returned true/\∃w1,Below w w w1/\w'=w1.setCell t (.pointer (some e)):=by
 have u := @run_callFunc_extern Tryz.prog 121 _ (λargs=>ReflectliteValue.unpack (args.getD 0 (.tuple #[]))) Tryz.func121 ξ ξ ξ ξ;have v := @run_callFunc_extern Tryz.prog 122 _ (ReflectliteValue.methodAny (ReflectliteValue.valueError "reflectlite.Value.Type" 0) (λt _ _ _=>ReflectliteType.toType t)) Tryz.func122 ξ ξ ξ ξ;have x := @run_callFunc_extern Tryz.prog 123 _ (ReflectliteValue.method (ReflectliteValue.valueError "reflectlite.Value.IsNil" 0) ReflectliteValue.isNil) Tryz.func123 ξ ξ ξ ξ;have p := @run_callFunc_extern Tryz.prog 193 _ (ReflectliteType.abiMethod λt=>do pure (.int .u8 (<-Rtype.kind t))) Tryz.func193 ξ ξ ξ ξ;have r := @run_callFunc_extern Tryz.prog 209 _ (ReflectliteType.method ReflectliteType.elem) Tryz.func209 ξ ξ ξ ξ;have s := @run_callFunc_extern Tryz.prog 210 _ (ReflectliteType.relation "Implements" ReflectliteType.implements_) Tryz.func210 ξ ξ ξ ξ;have m := @run_callFunc_extern Tryz.prog 35 _ ReflectliteType.typeOf Tryz.func35 ξ ξ ξ ξ;have q := @run_callFunc_extern Tryz.prog 207 _ (ReflectliteType.relation "AssignableTo" ReflectliteType.assignableTo) Tryz.func207 ξ ξ ξ ξ;have n := @run_callFunc_extern Tryz.prog 151 _ (ReflectliteValue.method (ReflectliteValue.valueError "reflectlite.Value.Elem" 0) ReflectliteValue.elem) Tryz.func151 ξ ξ ξ ξ;have o := @run_callFunc_extern Tryz.prog 152 _ ReflectliteValue.set Tryz.func152 ξ ξ ξ ξ;have F:=zga;have D:=zf9;have E:=zcr;have C:=zbV;have g:=zda hg;have b:=zcB a;have k:=zfN;have l:=zjc;have B:=zi4;have A:=zk6;have j:=zi1;have z:=zeq;have H:=zh8;have i:=zik;have I:=zlI;have G:=zhT ⟨w,0,none⟩ t ((w.alloc (.cells #[.pointer (some t)] 168)).alloc (.cells #[.pointer (some ⟨1,168,none⟩),.pointer (some ⟨w,0,none⟩),.int .u64 150] 215)) σ;have y:χ ((w.alloc (.cells #[.pointer (some t)] 168)).alloc (.cells #[.pointer (some ⟨1,168,none⟩),.pointer (some ⟨w,0,none⟩),.int .u64 150] 215)) 0 0 z4a:=by rw[ZZ _ _ ⟨0,0,none⟩ σ,ZZ _ _ ⟨0,0,none⟩ g];exact hg
 have el:=znf ⟨w,0,none⟩ t (((w.alloc (.cells #[.pointer (some t)] 168)).alloc (.cells #[.pointer (some ⟨1,168,none⟩),.pointer (some ⟨w,0,none⟩),.int .u64 150] 215)).alloc (.cells #[.pointer (some ⟨1,168,none⟩),.pointer (some ⟨w,0,none⟩),.int .u64 150] 215)) (by rw[ZZ _ _ ⟨w,0,none⟩ (by simp;omega)];simp)
 have st:=zsv t ⟨w.heap.size+1+1+1,0,none⟩ e old ((((w.alloc (.cells #[.pointer (some t)] 168)).alloc (.cells #[.pointer (some ⟨1,168,none⟩),.pointer (some ⟨w,0,none⟩),.int .u64 150] 215)).alloc (.cells #[.pointer (some ⟨1,168,none⟩),.pointer (some ⟨w,0,none⟩),.int .u64 150] 215)).alloc (.cells #[.pointer (some e)] 166))
  (by rw[World.cell?_alloc_at _ _ _ _ σ];rfl)
  (by rw[ZZ _ _ t (by simp;omega),ZZ _ _ t (by simp;omega),ZZ _ _ t (by simp;omega),ZZ _ _ t b];exact a)
  (by rw[World.frozen?_alloc_old _ _ t (by simp;omega),World.frozen?_alloc_old _ _ t (by simp;omega),World.frozen?_alloc_old _ _ t (by simp;omega),World.frozen?_alloc_old _ _ t (Nat.ne_of_lt b)];exact f)
 have d:Below w w ((((w.alloc (.cells #[.pointer (some t)] 168)).alloc (.cells #[.pointer (some ⟨1,168,none⟩),.pointer (some ⟨w,0,none⟩),.int .u64 150] 215)).alloc (.cells #[.pointer (some ⟨1,168,none⟩),.pointer (some ⟨w,0,none⟩),.int .u64 150] 215)).alloc (.cells #[.pointer (some e)] 166)):=(((((Zh _ w).alloc (Za _) _).alloc σ _).alloc (by simp;omega) _).alloc (by simp;omega) _)
 go_enter Tryz.func79,Tryz.ntmps79;go_wp2;refine wp_loop_rounds 1 ?_;rw[rounds_succ];go_wp2;go_ret;exact⟨rfl,_,d,rfl⟩
set_option maxHeartbeats 8000000 in
theorem zBU(b:Nat)(t:Addr)(old:Value)(w:World)(y:Int)(d:χ w b 2 (.iface 54 (.int .i64 y)))(hg:χ w 0 0 z4a)(a:w.cell? t=some old)(j:w.frozen? t=false) :
  Calls Tryz.prog 79 #[.iface 166 (.pointer (some ⟨b,0,none⟩)),.iface 171 (.pointer (some t))] w λf w'=>f=.returned true/\∃w1,Below w w w1/\w'=w1.setCell t (.int .i64 y):=by
 have A := @run_callFunc_extern Tryz.prog 121 _ (λargs=>ReflectliteValue.unpack (args.getD 0 (.tuple #[]))) Tryz.func121 ξ ξ ξ ξ;have B := @run_callFunc_extern Tryz.prog 122 _ (ReflectliteValue.methodAny (ReflectliteValue.valueError "reflectlite.Value.Type" 0) (λt _ _ _=>ReflectliteType.toType t)) Tryz.func122 ξ ξ ξ ξ;have C := @run_callFunc_extern Tryz.prog 123 _ (ReflectliteValue.method (ReflectliteValue.valueError "reflectlite.Value.IsNil" 0) ReflectliteValue.isNil) Tryz.func123 ξ ξ ξ ξ;have u := @run_callFunc_extern Tryz.prog 193 _ (ReflectliteType.abiMethod λt=>do pure (.int .u8 (<-Rtype.kind t))) Tryz.func193 ξ ξ ξ ξ;have x := @run_callFunc_extern Tryz.prog 209 _ (ReflectliteType.method ReflectliteType.elem) Tryz.func209 ξ ξ ξ ξ;have z := @run_callFunc_extern Tryz.prog 210 _ (ReflectliteType.relation "Implements" ReflectliteType.implements_) Tryz.func210 ξ ξ ξ ξ;have q := @run_callFunc_extern Tryz.prog 35 _ ReflectliteType.typeOf Tryz.func35 ξ ξ ξ ξ;have v := @run_callFunc_extern Tryz.prog 207 _ (ReflectliteType.relation "AssignableTo" ReflectliteType.assignableTo) Tryz.func207 ξ ξ ξ ξ;have r := @run_callFunc_extern Tryz.prog 151 _ (ReflectliteValue.method (ReflectliteValue.valueError "reflectlite.Value.Elem" 0) ReflectliteValue.elem) Tryz.func151 ξ ξ ξ ξ;have s := @run_callFunc_extern Tryz.prog 152 _ ReflectliteValue.set Tryz.func152 ξ ξ ξ ξ;have L:=zga;have J:=zf9;have K:=zcr;have I:=zbV;have k:=zda hg;have c:=zcB a;have o:=zgq;have p:=zlq;have H:=zk5;have G:=zl4;have n:=zkG;have F:=ze8;have P:=zh8;have Q:=zfL;have nA:=zgj;have m:=ze5;have R:=zh9;have O:=zqn;have D:=zjf;have M:=zp4;have N:=zi3 ⟨w,0,none⟩ t ((w.alloc (.cells #[.pointer (some t)] 171)).alloc (.cells #[.pointer (some ⟨1,171,none⟩),.pointer (some ⟨w,0,none⟩),.int .u64 150] 215)) σ;have E:χ ((w.alloc (.cells #[.pointer (some t)] 171)).alloc (.cells #[.pointer (some ⟨1,171,none⟩),.pointer (some ⟨w,0,none⟩),.int .u64 150] 215)) 0 0 z4a:=by rw[ZZ _ _ ⟨0,0,none⟩ σ,ZZ _ _ ⟨0,0,none⟩ k];exact hg
 have i:b<w.heap.size:=zcB d;have l:χ (((w.alloc (.cells #[.pointer (some t)] 171)).alloc (.cells #[.pointer (some ⟨1,171,none⟩),.pointer (some ⟨w,0,none⟩),.int .u64 150] 215)).alloc (.cells #[.pointer (some ⟨1,171,none⟩),.pointer (some ⟨w,0,none⟩),.int .u64 150] 215)) b 2 (.iface 54 (.int .i64 y)):=by rw[ZZ _ _ ⟨b,2,none⟩ (by simp;omega),ZZ _ _ ⟨b,2,none⟩ (by simp;omega),ZZ _ _ ⟨b,2,none⟩ i];exact d
 have el:=zi0 ⟨w,0,none⟩ t (((w.alloc (.cells #[.pointer (some t)] 171)).alloc (.cells #[.pointer (some ⟨1,171,none⟩),.pointer (some ⟨w,0,none⟩),.int .u64 150] 215)).alloc (.cells #[.pointer (some ⟨1,171,none⟩),.pointer (some ⟨w,0,none⟩),.int .u64 150] 215)) (by rw[ZZ _ _ ⟨w,0,none⟩ (by simp;omega)];simp)
 have st:=zoY t ⟨w.heap.size+1+1+1,0,none⟩ y old ((((w.alloc (.cells #[.pointer (some t)] 171)).alloc (.cells #[.pointer (some ⟨1,171,none⟩),.pointer (some ⟨w,0,none⟩),.int .u64 150] 215)).alloc (.cells #[.pointer (some ⟨1,171,none⟩),.pointer (some ⟨w,0,none⟩),.int .u64 150] 215)).alloc (.cells #[.int .i64 y] 54))
  (by rw[World.cell?_alloc_at _ _ _ _ σ];rfl)
  (by rw[ZZ _ _ t (by simp;omega),ZZ _ _ t (by simp;omega),ZZ _ _ t (by simp;omega),ZZ _ _ t c];exact a)
  (by rw[World.frozen?_alloc_old _ _ t (by simp;omega),World.frozen?_alloc_old _ _ t (by simp;omega),World.frozen?_alloc_old _ _ t (by simp;omega),World.frozen?_alloc_old _ _ t (Nat.ne_of_lt c)];exact j)
 have g:Below w w ((((w.alloc (.cells #[.pointer (some t)] 171)).alloc (.cells #[.pointer (some ⟨1,171,none⟩),.pointer (some ⟨w,0,none⟩),.int .u64 150] 215)).alloc (.cells #[.pointer (some ⟨1,171,none⟩),.pointer (some ⟨w,0,none⟩),.int .u64 150] 215)).alloc (.cells #[.int .i64 y] 54)):=(((((Zh _ w).alloc (Za _) _).alloc σ _).alloc (by simp;omega) _).alloc (by simp;omega) _)
 go_enter Tryz.func79,Tryz.ntmps79;go_wp2;refine wp_loop_rounds 2 ?_;rw[rounds_succ];go_wp2_with (go_at_call 218;refine(faU b _ _ l).mono ?_;rintro e w' ⟨rfl,rfl⟩)
 rw[rounds_succ];go_wp2;go_ret;exact⟨rfl,_,g,rfl⟩
set_option maxHeartbeats 8000000 in
theorem zwc(e:Int)(t:Addr)(old:Value)(w:World)(hg:χ w 0 0 z4a)(a:w.cell? t=some old)(f:w.frozen? t=false) :
  Calls Tryz.prog 79 #[.iface 54 (.int .i64 e),.iface 171 (.pointer (some t))] w λc w'=>c=.returned true/\∃w1,Below w w w1/\w'=w1.setCell t (.int .i64 e):=by
 have u := @run_callFunc_extern Tryz.prog 121 _ (λargs=>ReflectliteValue.unpack (args.getD 0 (.tuple #[]))) Tryz.func121 ξ ξ ξ ξ;have v := @run_callFunc_extern Tryz.prog 122 _ (ReflectliteValue.methodAny (ReflectliteValue.valueError "reflectlite.Value.Type" 0) (λt _ _ _=>ReflectliteType.toType t)) Tryz.func122 ξ ξ ξ ξ;have x := @run_callFunc_extern Tryz.prog 123 _ (ReflectliteValue.method (ReflectliteValue.valueError "reflectlite.Value.IsNil" 0) ReflectliteValue.isNil) Tryz.func123 ξ ξ ξ ξ;have p := @run_callFunc_extern Tryz.prog 193 _ (ReflectliteType.abiMethod λt=>do pure (.int .u8 (<-Rtype.kind t))) Tryz.func193 ξ ξ ξ ξ;have r := @run_callFunc_extern Tryz.prog 209 _ (ReflectliteType.method ReflectliteType.elem) Tryz.func209 ξ ξ ξ ξ;have s := @run_callFunc_extern Tryz.prog 210 _ (ReflectliteType.relation "Implements" ReflectliteType.implements_) Tryz.func210 ξ ξ ξ ξ;have m := @run_callFunc_extern Tryz.prog 35 _ ReflectliteType.typeOf Tryz.func35 ξ ξ ξ ξ;have q := @run_callFunc_extern Tryz.prog 207 _ (ReflectliteType.relation "AssignableTo" ReflectliteType.assignableTo) Tryz.func207 ξ ξ ξ ξ;have n := @run_callFunc_extern Tryz.prog 151 _ (ReflectliteValue.method (ReflectliteValue.valueError "reflectlite.Value.Elem" 0) ReflectliteValue.elem) Tryz.func151 ξ ξ ξ ξ;have o := @run_callFunc_extern Tryz.prog 152 _ ReflectliteValue.set Tryz.func152 ξ ξ ξ ξ;have F:=zga;have D:=zf9;have E:=zcr;have C:=zbV;have g:=zda hg;have b:=zcB a;have k:=zgq;have l:=zlq;have B:=zk5;have A:=zl4;have j:=zkG;have z:=ze8;have H:=zfL;have i:=ze5;have I:=zh9;have G:=zi3 ⟨w,0,none⟩ t ((w.alloc (.cells #[.pointer (some t)] 171)).alloc (.cells #[.pointer (some ⟨1,171,none⟩),.pointer (some ⟨w,0,none⟩),.int .u64 150] 215)) σ;have y:χ ((w.alloc (.cells #[.pointer (some t)] 171)).alloc (.cells #[.pointer (some ⟨1,171,none⟩),.pointer (some ⟨w,0,none⟩),.int .u64 150] 215)) 0 0 z4a:=by rw[ZZ _ _ ⟨0,0,none⟩ σ,ZZ _ _ ⟨0,0,none⟩ g];exact hg
 have el:=zi0 ⟨w,0,none⟩ t (((w.alloc (.cells #[.pointer (some t)] 171)).alloc (.cells #[.pointer (some ⟨1,171,none⟩),.pointer (some ⟨w,0,none⟩),.int .u64 150] 215)).alloc (.cells #[.pointer (some ⟨1,171,none⟩),.pointer (some ⟨w,0,none⟩),.int .u64 150] 215)) (by rw[ZZ _ _ ⟨w,0,none⟩ (by simp;omega)];simp)
 have st:=zoY t ⟨w.heap.size+1+1+1,0,none⟩ e old ((((w.alloc (.cells #[.pointer (some t)] 171)).alloc (.cells #[.pointer (some ⟨1,171,none⟩),.pointer (some ⟨w,0,none⟩),.int .u64 150] 215)).alloc (.cells #[.pointer (some ⟨1,171,none⟩),.pointer (some ⟨w,0,none⟩),.int .u64 150] 215)).alloc (.cells #[.int .i64 e] 54))
  (by rw[World.cell?_alloc_at _ _ _ _ σ];rfl)
  (by rw[ZZ _ _ t (by simp;omega),ZZ _ _ t (by simp;omega),ZZ _ _ t (by simp;omega),ZZ _ _ t b];exact a)
  (by rw[World.frozen?_alloc_old _ _ t (by simp;omega),World.frozen?_alloc_old _ _ t (by simp;omega),World.frozen?_alloc_old _ _ t (by simp;omega),World.frozen?_alloc_old _ _ t (Nat.ne_of_lt b)];exact f)
 have d:Below w w ((((w.alloc (.cells #[.pointer (some t)] 171)).alloc (.cells #[.pointer (some ⟨1,171,none⟩),.pointer (some ⟨w,0,none⟩),.int .u64 150] 215)).alloc (.cells #[.pointer (some ⟨1,171,none⟩),.pointer (some ⟨w,0,none⟩),.int .u64 150] 215)).alloc (.cells #[.int .i64 e] 54)):=(((((Zh _ w).alloc (Za _) _).alloc σ _).alloc (by simp;omega) _).alloc (by simp;omega) _)
 go_enter Tryz.func79,Tryz.ntmps79;go_wp2;refine wp_loop_rounds 1 ?_;rw[rounds_succ];go_wp2;go_ret;exact⟨rfl,_,d,rfl⟩
set_option maxHeartbeats 8000000 in
theorem ztW(e:Int)(t:Addr)(old:Value)(w:World)(hg:χ w 0 0 z4a)(r:w.cell? t=some old) :
  Calls Tryz.prog 79 #[.iface 54 (.int .i64 e),.iface 168 (.pointer (some t))] w λa w'=>a=.returned false/\Below w w w':=by
 have n := @run_callFunc_extern Tryz.prog 121 _ (λargs=>ReflectliteValue.unpack (args.getD 0 (.tuple #[]))) Tryz.func121 ξ ξ ξ ξ;have o := @run_callFunc_extern Tryz.prog 122 _ (ReflectliteValue.methodAny (ReflectliteValue.valueError "reflectlite.Value.Type" 0) (λt _ _ _=>ReflectliteType.toType t)) Tryz.func122 ξ ξ ξ ξ;have p := @run_callFunc_extern Tryz.prog 123 _ (ReflectliteValue.method (ReflectliteValue.valueError "reflectlite.Value.IsNil" 0) ReflectliteValue.isNil) Tryz.func123 ξ ξ ξ ξ;have j := @run_callFunc_extern Tryz.prog 193 _ (ReflectliteType.abiMethod λt=>do pure (.int .u8 (<-Rtype.kind t))) Tryz.func193 ξ ξ ξ ξ;have l := @run_callFunc_extern Tryz.prog 209 _ (ReflectliteType.method ReflectliteType.elem) Tryz.func209 ξ ξ ξ ξ;have m := @run_callFunc_extern Tryz.prog 210 _ (ReflectliteType.relation "Implements" ReflectliteType.implements_) Tryz.func210 ξ ξ ξ ξ;have i := @run_callFunc_extern Tryz.prog 35 _ ReflectliteType.typeOf Tryz.func35 ξ ξ ξ ξ;have k := @run_callFunc_extern Tryz.prog 207 _ (ReflectliteType.relation "AssignableTo" ReflectliteType.assignableTo) Tryz.func207 ξ ξ ξ ξ;have A:=zga;have y:=zf9;have z:=zcr;have x:=zbV;have c:=zda hg;have f:=zfN;have g:=zjc;have v:=zi4;have u:=zk6;have d:=zi1;have s:=zeq;have F:=zfL;have nA:=zg5;have C:=zso;have D:=zlG;have E:=zlf;have B:=zhT ⟨w,0,none⟩ t ((w.alloc (.cells #[.pointer (some t)] 168)).alloc (.cells #[.pointer (some ⟨1,168,none⟩),.pointer (some ⟨w,0,none⟩),.int .u64 150] 215)) σ;have q:χ ((w.alloc (.cells #[.pointer (some t)] 168)).alloc (.cells #[.pointer (some ⟨1,168,none⟩),.pointer (some ⟨w,0,none⟩),.int .u64 150] 215)) 0 0 z4a:=by rw[ZZ _ _ ⟨0,0,none⟩ σ,ZZ _ _ ⟨0,0,none⟩ c];exact hg
 have b:Below w w (((w.alloc (.cells #[.pointer (some t)] 168)).alloc (.cells #[.pointer (some ⟨1,168,none⟩),.pointer (some ⟨w,0,none⟩),.int .u64 150] 215)).alloc (.cells #[.pointer (some ⟨1,168,none⟩),.pointer (some ⟨w,0,none⟩),.int .u64 150] 215)):=((((Zh _ w).alloc (Za _) _).alloc σ _).alloc (by simp;omega) _)
 go_enter Tryz.func79,Tryz.ntmps79;go_wp2;refine wp_loop_rounds 1 ?_;rw[rounds_succ];go_wp2;go_ret;exact⟨rfl,b⟩
end Err
namespace Err
theorem zsw{old:Value}(a:Below w w w1)(c:w.cell? t=some old):(w1.setCell t v).cell? t=some v/\Below t.block w (w1.setCell t v):=by have b:=zcB c;exact⟨World.cell?_setCell_same' w1 t v (by rw[a.cell b,c];rfl),(a.mono (Xf b)).setCell (Za _) _⟩
theorem zDE{p:Addr}(a:Below w w w1)(h:w.cell? p=some v):w1.cell? p=some v:=(a.cell (zcB h)).trans h
theorem zKv(b:Nat)(w:World)(y:Int)(a:χ w b 2 (.iface 54 (.int .i64 y)))(hg:χ w 0 0 z4a):Calls Tryz.prog 40 #[.iface 166 (.pointer (some ⟨b,0,none⟩))] w λd w'=>d=.returned (.int .i64 y)/\Below w w w':=by
 have k:=zda hg;have j:=Lib.hid (show χ (w.alloc (.cells #[.int .i64 0] 54)) 0 0 z4a by rw[ZZ _ _ ⟨0,0,none⟩ k];exact hg);have c:=Lib.hid (show χ (w.alloc (.cells #[.int .i64 0] 54)) w 0 (.int .i64 0)by simp);have i:=Lib.hid (show(w.alloc (.cells #[.int .i64 0] 54)).frozen? ⟨w,0,none⟩=false by simp);have f:Hid (Below w w (w.alloc (.cells #[.int .i64 0] 54))):=Lib.hid ((Zh _ w).alloc (Za _) _);have l:=Lib.hid (show χ (w.alloc (.cells #[.int .i64 0] 54)) b 2 (.iface 54 (.int .i64 y))by rw[ZZ _ _ ⟨b,2,none⟩ (zcB a)];exact a);clear a;clear hg;go_enter Tryz.func40,Tryz.ntmps40;go_wp2_with (go_at_call 79;go_loud (refine(zBU b ⟨w,0,none⟩ _ _ y l.o j.o c.o i.o).mono ?_;rintro e w' ⟨rfl,w1,hB,rfl⟩;have hc:=zsw (v:=.int .i64 y) hB c.o;generalize w1.setCell ⟨w,0,none⟩ (.int .i64 y)=w2 at hc;have m:=hc.1;have g:=Lib.hid (f.o.trans hc.2);clear hc hB))
 go_ret;exact⟨rfl,g.o⟩
theorem zKJ(b:Nat)(S:ByteArray)(k:Int)(w:World)(a:χ w b 0 (.string S))(d:χ w b 1 (.int .i64 k))(hg:χ w 0 0 z4a):Calls Tryz.prog 39 #[.iface 166 (.pointer (some ⟨b,0,none⟩))] w λi w'=>i=.returned (.tuple #[.string S,.int .i64 k,true])/\Below w w w':=by
 have q:=zda hg;have o:=Lib.hid (show χ (w.alloc (.cells #[.pointer none] 166)) 0 0 z4a by rw[ZZ _ _ ⟨0,0,none⟩ q];exact hg);have f:=Lib.hid (show χ (w.alloc (.cells #[.pointer none] 166)) w 0 (.pointer none)by simp);have n:=Lib.hid (show(w.alloc (.cells #[.pointer none] 166)).frozen? ⟨w,0,none⟩=false by simp);have m:Hid (Below w w (w.alloc (.cells #[.pointer none] 166))):=Lib.hid ((Zh _ w).alloc (Za _) _);have g:=Lib.hid (zcB a);have j:=Lib.hid a;have l:=Lib.hid d;clear hg a d;go_enter Tryz.func39,Tryz.ntmps39;go_wp2_with (go_at_call 79;go_loud (refine(zCu ⟨b,0,none⟩ ⟨w,0,none⟩ _ _  o.o f.o n.o).mono ?_;rintro e w' ⟨rfl,w1,hB,rfl⟩;have hc:=zsw (v:=.pointer (some ⟨b,0,none⟩)) hB f.o;generalize w1.setCell ⟨w,0,none⟩ (.pointer (some ⟨b,0,none⟩))=w2 at hc;have r:=hc.1;have c:=Lib.hid (m.o.trans hc.2);clear hc hB;have a:=(c.o.cell (p:=⟨b,0,none⟩) g.o).trans j.o;have d:=(c.o.cell (p:=⟨b,1,none⟩) g.o).trans l.o))
 go_region
 all_goals (go_wp2;go_ret3;exact⟨rfl,c.o.drew⟩)
end Err
namespace Err
theorem zN4(b:Nat)(S:ByteArray)(y k:Int)(w:World)(c:χ w b 0 (.string S))(d:χ w b 1 (.int .i64 k))(f:χ w b 2 (.iface 54 (.int .i64 y)))(hg:χ w 0 0 z4a)(hS:S.toList.isEmpty=false) :
  Calls Tryz.prog 14 #[.iface 166 (.pointer (some ⟨b,0,none⟩)),.int .i64 y,.string S,.int .i64 k] w λg w'=>g=.returned true/\Below w w w':=by
 have i:=Lib.hid (zcB c);have j:=Lib.hid (zcB hg);have o:=Lib.hid f;have m:=Lib.hid hg;have n:=Lib.hid (zKJ b S k w c d hg);have q:(y != y)=false:=σ;clear hg c d f;go_enter Tryz.func14,Tryz.ntmps14
 go_wp2_with (first
  | (go_at_call 39;refine n.o.mono ?_;rintro e w' ⟨rfl,hb⟩;have a:=Lib.hid hb;clear hb)
  | (go_at_call 40;go_loud (refine(zKv b _ y ((a.o.cell (p:=⟨b,2,none⟩) i.o).trans o.o) ((a.o.cell (p:=⟨0,0,none⟩) j.o).trans m.o)).mono ?_;rintro e w' ⟨rfl,hb⟩;have l:=Lib.hid (a.o.trans (hb.mono a.o.size));clear hb)))
 go_ret;exact⟨rfl,l.o⟩
