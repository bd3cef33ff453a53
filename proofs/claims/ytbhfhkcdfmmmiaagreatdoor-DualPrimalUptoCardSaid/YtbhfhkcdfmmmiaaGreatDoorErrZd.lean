/- Contracts and lemmas: Err Dshow Prim3 Can1 Can2 Fine. Conditions: as each says. -/
import Derived.LaidEql
import Derived.Stop.Asserts
import Derived.RowKitTokens
import Derived.Test.YtbhfhkcdfmmmiaaGreatDoorLp2Zd
set_option linter.all false
namespace Go.Proofs.YtbhfhkcdfmmmiaaGreatDoor
open Go.RowKit Go.Extern.Stop Go.Stop Go.Extern
variable {cols:List Nat}{j k t:Nat}
namespace Err

theorem rlm(z:Sem Value)(f:TypeId→Addr→Nat→Nat→Sem Value)(v:Value) :
  ReflectliteValue.method z f #[v]=(do match ←ReflectliteValue.parts v with | none=>z | some (t,a,fl)=>f t a fl (fl%32)):=rfl
theorem rls(v x:Value):ReflectliteValue.set #[v,x]=(do
  let (some (dst,a,fl),some (src,b,_)):=(←ReflectliteValue.parts v,←ReflectliteValue.parts x)
   | unsupported (.noEntry "extern/(internal/reflectlite.Value).Set.zeroValue")
  if fl/ReflectliteValue.flagAddr%2 == 0 then unsupported (.noEntry "extern/(internal/reflectlite.Value).Set.unaddressable")
  let val ←loadVar src b
  if ←Rtype.directlyAssignable dst src then storeVar dst a val
  else if ←Rtype.implements dst src then
   if (←Rtype.kind src) == 20 then
    match val with
    | .nilIface=>unsupported (.noEntry "extern/reflectlite: a nil value of one interface type handed on as a value of another")
    | _=>storeVar dst a val
   else storeVar dst a (.iface src val)
  else panicString ("reflectlite.Set: value of type " ++ (←Rtype.spelt src) ++ " is not assignable to type " ++ (←Rtype.spelt dst))
  pure (.tuple #[])):=rfl

theorem zga(h:Value)(w:World):(Go.method 370 188 (.agg #[h]) "Kind").run Tryz.prog w=.ok (176,h) w:=by kernel_rfl
theorem zf9(h:Value)(w:World):(Go.method 370 188 (.agg #[h]) "Elem").run Tryz.prog w=.ok (198,.agg #[h]) w:=by kernel_rfl
theorem zcr(h:Value)(w:World):(Go.method 370 188 (.agg #[h]) "Implements").run Tryz.prog w=.ok (199,.agg #[h]) w:=by kernel_rfl
theorem zbV(h:Value)(w:World):(Go.method 370 188 (.agg #[h]) "AssignableTo").run Tryz.prog w=.ok (196,.agg #[h]) w:=by kernel_rfl
theorem zp4(h:Value)(w:World):(Go.method 370 119 h "Unwrap").run Tryz.prog w=.ok (189,h) w:=by kernel_rfl

/-! ### the type pFault -/
theorem zi4(w:World):((ReflectliteType.abiMethod fun t=>(fun a:Nat=>Value.int IntKind.u8 (a:Int)) <$> Rtype.kind t) #[.pointer (some ⟨1,121,none⟩)]).run Tryz.prog w=.ok (.int .u8 22) w:=by kernel_rfl
theorem zk6(w:World):((ReflectliteType.abiMethod fun t=>(fun a:Nat=>Value.int IntKind.u8 (a:Int)) <$> Rtype.kind t) #[.pointer (some ⟨1,119,none⟩)]).run Tryz.prog w=.ok (.int .u8 22) w:=by kernel_rfl
theorem zfN(t:Addr)(w:World):(ReflectliteValue.unpack (.iface 121 (.pointer (some t)))).run Tryz.prog w
  = .ok (.agg #[.pointer (some ⟨1,121,none⟩),.pointer (some ⟨w.heap.size,0,none⟩),.int .u64 150]) (w.alloc (.cells #[.pointer (some t)] 121)):=by kernel_rfl
theorem zjc(a:Addr)(w:World):(ReflectliteValue.methodAny (ReflectliteValue.valueError "reflectlite.Value.Type" 0) (fun t _ _ _=>ReflectliteType.toType t) #[.agg #[.pointer (some ⟨1,121,none⟩),.pointer (some a),.int .u64 150]]).run Tryz.prog w
  = .ok (.iface 188 (.agg #[.pointer (some ⟨1,121,none⟩)])) w:=by kernel_rfl
theorem zhZ(a:Addr)(w:World):(ReflectliteValue.parts (.agg #[.pointer (some ⟨1,121,none⟩),.pointer (some a),.int .u64 150])).run Tryz.prog w=.ok (some (121,a,150)) w:=by kernel_rfl
theorem zhT(a p:Addr)(W:World)(d:W.cell? a=some (.pointer (some p))) :
  (ReflectliteValue.method (ReflectliteValue.valueError "reflectlite.Value.IsNil" 0) ReflectliteValue.isNil #[.agg #[.pointer (some ⟨1,121,none⟩),.pointer (some a),.int .u64 150]]).run Tryz.prog W=.ok false W:=by
 rw[rlm];simp only[Sem.run_bind,zhZ,Result.andThen];simp[ReflectliteValue.isNil,loadVar,isAgg,underlying,Tryz.underlying121,d,Result.andThen]
theorem zi1(w:World):(ReflectliteType.method ReflectliteType.elem #[.agg #[.pointer (some ⟨1,121,none⟩)]]).run Tryz.prog w=.ok (.iface 188 (.agg #[.pointer (some ⟨1,119,none⟩)])) w:=by kernel_rfl
theorem zeq(w:World):(ReflectliteType.relation "Implements" ReflectliteType.implements_ #[.agg #[.pointer (some ⟨1,119,none⟩)],.iface 188 (.agg #[.pointer (some ⟨1,39,none⟩)])]).run Tryz.prog w=.ok true w:=by kernel_rfl
theorem zh8(v:Value)(w:World):(ReflectliteType.typeOf #[.iface 119 v]).run Tryz.prog w=.ok (.iface 188 (.agg #[.pointer (some ⟨1,119,none⟩)])) w:=by kernel_rfl
theorem zik(w:World):(ReflectliteType.relation "AssignableTo" ReflectliteType.assignableTo #[.agg #[.pointer (some ⟨1,119,none⟩)],.iface 188 (.agg #[.pointer (some ⟨1,119,none⟩)])]).run Tryz.prog w=.ok true w:=by kernel_rfl
theorem zlI(e:Addr)(w:World):(ReflectliteValue.unpack (.iface 119 (.pointer (some e)))).run Tryz.prog w
  = .ok (.agg #[.pointer (some ⟨1,119,none⟩),.pointer (some ⟨w.heap.size,0,none⟩),.int .u64 150]) (w.alloc (.cells #[.pointer (some e)] 119)):=by kernel_rfl
theorem zlE(w:World):(Rtype.elem? 121).run Tryz.prog w=.ok (some 119) w:=by kernel_rfl
theorem zu4(p:Addr)(w:World):(ReflectliteValue.mk 119 p ReflectliteValue.flagAddr).run Tryz.prog w=.ok (.agg #[.pointer (some ⟨1,119,none⟩),.pointer (some p),.int .u64 406]) w:=by kernel_rfl
theorem znf(a p:Addr)(W:World)(d:W.cell? a=some (.pointer (some p))) :
  (ReflectliteValue.method (ReflectliteValue.valueError "reflectlite.Value.Elem" 0) ReflectliteValue.elem #[.agg #[.pointer (some ⟨1,121,none⟩),.pointer (some a),.int .u64 150]]).run Tryz.prog W
   = .ok (.agg #[.pointer (some ⟨1,119,none⟩),.pointer (some p),.int .u64 406]) W:=by
 rw[rlm];simp only[Sem.run_bind,zhZ,Result.andThen];simp[ReflectliteValue.elem,loadVar,isAgg,underlying,Tryz.underlying121,d,Result.andThen,zlE,zu4]
theorem znP(a:Addr)(w:World):(ReflectliteValue.parts (.agg #[.pointer (some ⟨1,119,none⟩),.pointer (some a),.int .u64 406])).run Tryz.prog w=.ok (some (119,a,406)) w:=by kernel_rfl
theorem zoV(a:Addr)(w:World):(ReflectliteValue.parts (.agg #[.pointer (some ⟨1,119,none⟩),.pointer (some a),.int .u64 150])).run Tryz.prog w=.ok (some (119,a,150)) w:=by kernel_rfl
theorem zna(w:World):(Rtype.directlyAssignable 119 119).run Tryz.prog w=.ok true w:=by kernel_rfl
theorem zsv(a b:Addr)(e:Addr)(old:Value)(W:World)(hb:W.cell? b=some (.pointer (some e)))(f:W.cell? a=some old)(d:W.frozen? a=false) :
  (ReflectliteValue.set #[.agg #[.pointer (some ⟨1,119,none⟩),.pointer (some a),.int .u64 406],.agg #[.pointer (some ⟨1,119,none⟩),.pointer (some b),.int .u64 150]]).run Tryz.prog W
   = .ok (.tuple #[]) (W.setCell a (.pointer (some e))):=by
 rw[rls];simp only[Sem.run_bind,znP,zoV,Result.andThen];simp[ReflectliteValue.flagAddr,loadVar,isAgg,underlying,Tryz.underlying119,hb,Result.andThen,zna,storeVar,Value.cells,storeCells,Addr.add];rw[run_store Tryz.prog W a _ _ (by rfl)];simp[f,d]

/-! ### the type Errno -/
theorem zk5(w:World):((ReflectliteType.abiMethod fun t=>(fun a:Nat=>Value.int IntKind.u8 (a:Int)) <$> Rtype.kind t) #[.pointer (some ⟨1,124,none⟩)]).run Tryz.prog w=.ok (.int .u8 22) w:=by kernel_rfl
theorem zl4(w:World):((ReflectliteType.abiMethod fun t=>(fun a:Nat=>Value.int IntKind.u8 (a:Int)) <$> Rtype.kind t) #[.pointer (some ⟨1,64,none⟩)]).run Tryz.prog w=.ok (.int .u8 2) w:=by kernel_rfl
theorem zgq(t:Addr)(w:World):(ReflectliteValue.unpack (.iface 124 (.pointer (some t)))).run Tryz.prog w
  = .ok (.agg #[.pointer (some ⟨1,124,none⟩),.pointer (some ⟨w.heap.size,0,none⟩),.int .u64 150]) (w.alloc (.cells #[.pointer (some t)] 124)):=by kernel_rfl
theorem zlq(a:Addr)(w:World):(ReflectliteValue.methodAny (ReflectliteValue.valueError "reflectlite.Value.Type" 0) (fun t _ _ _=>ReflectliteType.toType t) #[.agg #[.pointer (some ⟨1,124,none⟩),.pointer (some a),.int .u64 150]]).run Tryz.prog w
  = .ok (.iface 188 (.agg #[.pointer (some ⟨1,124,none⟩)])) w:=by kernel_rfl
theorem zi8(a:Addr)(w:World):(ReflectliteValue.parts (.agg #[.pointer (some ⟨1,124,none⟩),.pointer (some a),.int .u64 150])).run Tryz.prog w=.ok (some (124,a,150)) w:=by kernel_rfl
theorem zi3(a p:Addr)(W:World)(d:W.cell? a=some (.pointer (some p))) :
  (ReflectliteValue.method (ReflectliteValue.valueError "reflectlite.Value.IsNil" 0) ReflectliteValue.isNil #[.agg #[.pointer (some ⟨1,124,none⟩),.pointer (some a),.int .u64 150]]).run Tryz.prog W=.ok false W:=by
 rw[rlm];simp only[Sem.run_bind,zi8,Result.andThen];simp[ReflectliteValue.isNil,loadVar,isAgg,underlying,Tryz.underlying124,d,Result.andThen]
theorem zkG(w:World):(ReflectliteType.method ReflectliteType.elem #[.agg #[.pointer (some ⟨1,124,none⟩)]]).run Tryz.prog w=.ok (.iface 188 (.agg #[.pointer (some ⟨1,64,none⟩)])) w:=by kernel_rfl
theorem ze8(w:World):(ReflectliteType.relation "Implements" ReflectliteType.implements_ #[.agg #[.pointer (some ⟨1,64,none⟩)],.iface 188 (.agg #[.pointer (some ⟨1,39,none⟩)])]).run Tryz.prog w=.ok true w:=by kernel_rfl
theorem zfL(v:Value)(w:World):(ReflectliteType.typeOf #[.iface 64 v]).run Tryz.prog w=.ok (.iface 188 (.agg #[.pointer (some ⟨1,64,none⟩)])) w:=by kernel_rfl
theorem ze5(w:World):(ReflectliteType.relation "AssignableTo" ReflectliteType.assignableTo #[.agg #[.pointer (some ⟨1,64,none⟩)],.iface 188 (.agg #[.pointer (some ⟨1,64,none⟩)])]).run Tryz.prog w=.ok true w:=by kernel_rfl
theorem zh9(e:Int)(w:World):(ReflectliteValue.unpack (.iface 64 (.int .i64 e))).run Tryz.prog w
  = .ok (.agg #[.pointer (some ⟨1,64,none⟩),.pointer (some ⟨w.heap.size,0,none⟩),.int .u64 130]) (w.alloc (.cells #[.int .i64 e] 64)):=by kernel_rfl
theorem zne(w:World):(Rtype.elem? 124).run Tryz.prog w=.ok (some 64) w:=by kernel_rfl
theorem zxn(p:Addr)(w:World):(ReflectliteValue.mk 64 p ReflectliteValue.flagAddr).run Tryz.prog w=.ok (.agg #[.pointer (some ⟨1,64,none⟩),.pointer (some p),.int .u64 386]) w:=by kernel_rfl
theorem zi0(a p:Addr)(W:World)(d:W.cell? a=some (.pointer (some p))) :
  (ReflectliteValue.method (ReflectliteValue.valueError "reflectlite.Value.Elem" 0) ReflectliteValue.elem #[.agg #[.pointer (some ⟨1,124,none⟩),.pointer (some a),.int .u64 150]]).run Tryz.prog W
   = .ok (.agg #[.pointer (some ⟨1,64,none⟩),.pointer (some p),.int .u64 386]) W:=by
 rw[rlm];simp only[Sem.run_bind,zi8,Result.andThen];simp[ReflectliteValue.elem,loadVar,isAgg,underlying,Tryz.underlying124,d,Result.andThen,zne,zxn]
theorem zoU(a:Addr)(w:World):(ReflectliteValue.parts (.agg #[.pointer (some ⟨1,64,none⟩),.pointer (some a),.int .u64 386])).run Tryz.prog w=.ok (some (64,a,386)) w:=by kernel_rfl
theorem zqs(a:Addr)(w:World):(ReflectliteValue.parts (.agg #[.pointer (some ⟨1,64,none⟩),.pointer (some a),.int .u64 130])).run Tryz.prog w=.ok (some (64,a,130)) w:=by kernel_rfl
theorem zow(w:World):(Rtype.directlyAssignable 64 64).run Tryz.prog w=.ok true w:=by kernel_rfl
theorem zoY(a b:Addr)(e:Int)(old:Value)(W:World)(hb:W.cell? b=some (.int .i64 e))(f:W.cell? a=some old)(d:W.frozen? a=false) :
  (ReflectliteValue.set #[.agg #[.pointer (some ⟨1,64,none⟩),.pointer (some a),.int .u64 386],.agg #[.pointer (some ⟨1,64,none⟩),.pointer (some b),.int .u64 130]]).run Tryz.prog W
   = .ok (.tuple #[]) (W.setCell a (.int .i64 e)):=by
 rw[rls];simp only[Sem.run_bind,zoU,zqs,Result.andThen];simp[ReflectliteValue.flagAddr,loadVar,isAgg,underlying,Tryz.underlying64,hb,Result.andThen,zow,storeVar,Value.cells,storeCells,Addr.add];rw[run_store Tryz.prog W a _ _ (by rfl)];simp[f,d]

/-! ### between the types -/
theorem zgj(w:World):(ReflectliteType.relation "AssignableTo" ReflectliteType.assignableTo #[.agg #[.pointer (some ⟨1,119,none⟩)],.iface 188 (.agg #[.pointer (some ⟨1,64,none⟩)])]).run Tryz.prog w=.ok false w:=by kernel_rfl
theorem zqn(v:Value)(a:TypeId)(w:World):(Instr.typeAssert (.iface 119 v) a 193 true).run Tryz.prog w=.ok (.tuple #[.nilIface,false]) w:=run_typeAssert_lacksB Tryz.underlying193 (by kernel_rfl) (by kernel_rfl) v a w
theorem zjf(v:Value)(a:TypeId)(w:World):(Instr.typeAssert (.iface 119 v) a 196 true).run Tryz.prog w=.ok (.tuple #[.iface 119 v,true]) w:=run_typeAssert_hasB Tryz.underlying196 (by kernel_rfl) v a w
theorem zg5(w:World):(ReflectliteType.relation "AssignableTo" ReflectliteType.assignableTo #[.agg #[.pointer (some ⟨1,64,none⟩)],.iface 188 (.agg #[.pointer (some ⟨1,119,none⟩)])]).run Tryz.prog w=.ok false w:=by kernel_rfl
theorem zso(v:Value)(a:TypeId)(w:World):(Instr.typeAssert (.iface 64 v) a 193 true).run Tryz.prog w=.ok (.tuple #[.nilIface,false]) w:=run_typeAssert_lacksB Tryz.underlying193 (by kernel_rfl) (by kernel_rfl) v a w
theorem zlG(v:Value)(a:TypeId)(w:World):(Instr.typeAssert (.iface 64 v) a 196 true).run Tryz.prog w=.ok (.tuple #[.nilIface,false]) w:=run_typeAssert_lacksB Tryz.underlying196 (by kernel_rfl) (by kernel_rfl) v a w
theorem zlf(v:Value)(a:TypeId)(w:World):(Instr.typeAssert (.iface 64 v) a 198 true).run Tryz.prog w=.ok (.tuple #[.nilIface,false]) w:=run_typeAssert_lacksB Tryz.underlying198 (by kernel_rfl) (by kernel_rfl) v a w
end Err
open Go.RowKit Am
def zh1 (N:Nat) (cols:List Nat) (xs:List Rat):List Rat:=(List.range N).map fun j=>pt cols.length (fun k=>cols.getD k 0) (el xs) j
theorem zl8(N:Nat)(cols:List Nat)(xs:List Rat):(zh1 N cols xs).length=N:=by simp[zh1]
theorem zvg{N:Nat}{xs:List Rat}(h:j<N):el (zh1 N cols xs) j=pt cols.length (fun k=>cols.getD k 0) (el xs) j:=by
 unfold zh1
 conv=>lhs;unfold el
 rw[zbU _ _ (by simpa using h) 0,zcA h];rfl
section
variable {n:Nat} {rows:List PRow} (hl:∀k,k<rows.length→(rows.getD k default).coef.length=n) (hk:∀k,k<rows.length→(rows.getD k default).kind≠3)
include hl
theorem zKy(h:k<rows.length)(hj:j<n):en (zc3 rows) k j=el (rows.getD k default).coef j:=by
 unfold en;rw[zrT h,zkF (by rw[hl k h];exact hj)]
include hk
theorem zKi(h:k<rows.length)(a:t<rows.length):en (zc3 rows) k (n+t)=if t=k then ((zfI (rows.getD k default).kind:Int):Rat)else 0:=by
 have hc:=zpU hk;rw[zvs hl h (by rw[hc _ (Nat.le_refl _)];exact a),hc k (by omega)];by_cases e:t=k
 ·rw[if_pos ⟨hk k h,e⟩,if_pos e]
 ·rw[if_neg (fun h=>e h.2),if_neg e]
theorem zKX(y:Nat→Rat)(a:t<rows.length):zai rows.length (fun i=>y i*en (zc3 rows) i (n+t))=y t*((zfI (rows.getD t default).kind:Int):Rat):=by
 rw[zbI (k:=t) a fun i d e=>by rw[zKi hl hk d a,if_neg (Ne.symm e)];grind,zKi hl hk a a,if_pos rfl]
omit hl hk in
theorem zKf{i:Nat}(h:i<rows.length):el (zg8 rows) i=(rows.getD i default).rhs:=by
 unfold zg8 el;rw[zbU _ _ h default]
omit hl hk in
theorem zKd{k:Int}(h:k=1):((zfI k:Int):Rat)=1:=by unfold zfI;rw[if_pos h];rfl
omit hl hk in
theorem zKe{k:Int}(h:k≠1):((zfI k:Int):Rat) = -1:=by unfold zfI;rw[if_neg h];rfl
theorem zL3{c:List Rat}(d:Basis rows.length (n+rows.length) (zc3 rows) cols)(hc:c.length=n+rows.length)
  (e:zbE (n+rows.length) (zc3 rows) (zg8 rows) c (List.replicate (n+rows.length) true) cols=.bad k) :
  k<rows.length∧el (za5 (zc3 rows) (zg8 rows) cols) k<0∧(∀j,j<n+rows.length→0≤el (zk8 (n+rows.length) (zc3 rows) cols k) j) ∧
  (∀t,t<rows.length→0≤el (zbf (zc3 rows) cols k) t*((zfI (rows.getD t default).kind:Int):Rat)) ∧
  (∀j,j<n→0≤zai rows.length fun i=>el (zbf (zc3 rows) cols k) i*el (rows.getD i default).coef j)∧zai rows.length (fun i=>el (zbf (zc3 rows) cols k) i*(rows.getD i default).rhs)<0:=by
 have hm:∀i,i<n+rows.length→(List.replicate (n+rows.length) true).getD i false=true:=fun i a=>by rw[List.getD_eq_getElem?_getD,List.getElem?_replicate,if_pos a];rfl
 have o:(zaC (n+rows.length) (zc3 rows) cols c).length=n+rows.length:=by unfold zaC;rw[zdt (by rw[zkb,hc]),hc]
 unfold zbE at e;have s1:=zdk cols (za5 (zc3 rows) (zg8 rows) cols) (za5 (zc3 rows) (zg8 rows) cols).length;split at e
 ·cases e
 ·rename_i k' h1
  unfold zi5 at h1;rw[h1,(d.vals_ok _).2]at s1;simp only at s1;split at e
  ·rename_i h2
   injection e with e;subst e;unfold zhy at h2;rw[o,show(zk8 (n+rows.length) (zc3 rows) cols k').length=n+rows.length from zkb _ _ _,List.length_replicate,Nat.min_self,Nat.min_self]at h2;have s2:=zdW (zaC (n+rows.length) (zc3 rows) cols c) (zk8 (n+rows.length) (zc3 rows) cols k') (List.replicate (n+rows.length) true) (n+rows.length);rw[h2]at s2;simp only at s2;have f:∀j,j<n+rows.length→0≤el (zk8 (n+rows.length) (zc3 rows) cols k') j:=fun j hj=>s2 j hj (hm j hj)
   have g:∀j,j<n+rows.length→0≤zai rows.length fun i=>el (zbf (zc3 rows) cols k') i*en (zc3 rows) i j:=fun j hj=>by
    have:=f j hj;unfold zk8 at this;rw[zx9 hj,d.rect.len]at this;exact this
   refine⟨s1.1,s1.2.1,f,fun t l=>?_,fun j hj=>?_,?_⟩
   ·have:=g (n+t) (by omega);rw[zKX hl hk _ l]at this;exact this
   ·have:=g j (by omega);rw[zaj fun i a=>by rw[zKy hl a hj]]at this;exact this
   ·have:=s1.2.1;rw[d.by_weights s1.1 (d.vals_ok _).1,zaj fun i a=>by rw[zKf a]]at this;exact this
  ·cases e
theorem zL2{cost:List Rat}(d:Basis rows.length (n+rows.length) (zc3 rows) cols)(y:cost.length=n)(r:zx5 (n+rows.length) (zc3 rows) (zjD cost rows) cols)
  (e:zbE (n+rows.length) (zc3 rows) (zg8 rows) (zjD cost rows) (List.replicate (n+rows.length) true) cols=.stop) :
  (∀k,k<rows.length→0≤el (za5 (zc3 rows) (zg8 rows) cols) k)∧(∀t,t<rows.length→el (zcl (zc3 rows) cols (zjD cost rows)) t*((zfI (rows.getD t default).kind:Int):Rat)≤0) ∧
  (∀j,j<n→zai rows.length (fun i=>el (zcl (zc3 rows) cols (zjD cost rows)) i*el (rows.getD i default).coef j)≤el cost j) ∧
  (∀j,0≤el (zh1 (n+rows.length) cols (za5 (zc3 rows) (zg8 rows) cols)) j) ∧
  (∀i,i<rows.length→zai n (fun j=>el (rows.getD i default).coef j*el (zh1 (n+rows.length) cols (za5 (zc3 rows) (zg8 rows) cols)) j)+((zfI (rows.getD i default).kind:Int):Rat)*el (zh1 (n+rows.length) cols (za5 (zc3 rows) (zg8 rows) cols)) (n+i)=(rows.getD i default).rhs) ∧
  zai n (fun j=>el cost j*el (zh1 (n+rows.length) cols (za5 (zc3 rows) (zg8 rows) cols)) j)=zai rows.length fun i=>el (zcl (zc3 rows) cols (zjD cost rows)) i*(rows.getD i default).rhs:=by
 have hc:=zpU hk rows.length (Nat.le_refl _);have l:(zjD cost rows).length=n+rows.length:=by simp[zjD,y,hc]
 have o:∀j,j<n→el (zjD cost rows) j=el cost j:=fun j hj=>by unfold zjD;rw[zkF (by omega)]
 have p:∀k,k<rows.length→el (zjD cost rows) (n+k)=0:=fun k _=>by
  unfold zjD el;rw[List.getD_eq_getElem?_getD,List.getElem?_append_right (by omega),List.getElem?_replicate];split<;>rfl
 have q:∀k,k<rows.length→0≤el (za5 (zc3 rows) (zg8 rows) cols) k:=by
  unfold zbE at e;have s1:=zdk cols (za5 (zc3 rows) (zg8 rows) cols) (za5 (zc3 rows) (zg8 rows) cols).length;split at e
  ·rename_i h1
   unfold zi5 at h1;rw[h1,(d.vals_ok _).2]at s1;exact s1
  ·split at e<;>cases e
 have D:=d.dic (zg8 rows);have P:=d.pri l;have C:∀j,0≤pt cols.length (fun k=>cols.getD k 0) (el (za5 (zc3 rows) (zg8 rows) cols)) j:=fun j=>by
  rw[d.len];by_cases hb:Bas rows.length (fun k=>cols.getD k 0) j
  ·obtain⟨k,hk,rfl⟩:=hb;rw[zA7 d.inj _ hk];exact q k hk
  ·rw[zyz _ hb];exact Rat.le_refl
 have B:∀j,0≤el (zh1 (n+rows.length) cols (za5 (zc3 rows) (zg8 rows) cols)) j:=fun j=>by
  by_cases hj:j<n+rows.length
  ·rw[zvg hj];exact C j
  ·rw[zDb (by rw[zl8];omega)];exact Rat.le_refl
 refine⟨q,fun t g=>?_,fun j hj=>?_,B,fun i a=>?_,?_⟩
 ·have:=r (n+t) (by omega);rw[d.prices_el l (by omega),p t g,zKX hl hk _ g]at this;grind
 ·have:=r j (by omega);rw[d.prices_el l (by omega),o j hj,zaj fun i a=>by rw[zKy hl a hj]]at this;grind
 ·have s:=D.pt_sol i a;rw[zgc _ n rows.length]at s;rw[zKf a]at s;rw[←s]
  congr 1
  ·exact zaj fun j hj=>by rw[zKy hl a hj,zvg (by omega),d.len]
  ·rw[zbI (k:=i) a fun t g z=>by rw[zKi hl hk a g,if_neg z];grind,zKi hl hk a a,if_pos rfl,zvg (by omega),d.len]
 ·have v:=P.value D;rw[zgc _ n rows.length,zcn (f:=fun t=>el (zjD cost rows) (n+t)*_) fun t g=>by rw[p t g];grind]at v;have x:zai rows.length (fun i=>el (zcl (zc3 rows) cols (zjD cost rows)) i*(rows.getD i default).rhs)=zai rows.length (fun i=>el (zcl (zc3 rows) cols (zjD cost rows)) i*el (zg8 rows) i):=zaj fun i a=>by rw[zKf a]
  rw[x,←v];have u:zai n (fun j=>el cost j*el (zh1 (n+rows.length) cols (za5 (zc3 rows) (zg8 rows) cols)) j)=zai n (fun j=>el (zjD cost rows) j*pt rows.length (fun k=>cols.getD k 0) (fun k=>el (za5 (zc3 rows) (zg8 rows) cols) k) j):=zaj fun j hj=>by
   rw[o j hj,zvg (by omega),d.len]
  rw[u];grind
end
end Go.Proofs.YtbhfhkcdfmmmiaaGreatDoor
namespace Am
variable {B:Nat}
def zSz (own N:Nat) (A:List (List Rat)) (budget:Nat):Nat→Nat→List Nat × Nat→(List Nat × Nat) × Bool
  | 0,_,cn=>(cn,false)
  | f + 1,k,cn => if own ≤ cn.1.getD k 0 then match zkZ (zk8 N A cn.1 k) own 0 with
      | none=>zSz own N A budget f (k+1) cn
      | some j=>if budget≤cn.2 then (cn,true)else zSz own N A budget f (k+1) (cn.1.set k j,cn.2+1)
    else zSz own N A budget f (k+1) cn
def zSG (own N:Nat) (A:List (List Rat)):Nat→Nat→List Nat × Nat→List Nat × Nat
  | 0,_,cn=>cn
  | f+1,k,cn=>zSG own N A f (k+1) (zuz own N A k cn)
theorem zTL(own N:Nat)(A:List (List Rat))(cols:List Nat):∀f k,zSG own N A f k (zAd own N A cols k)=zAd own N A cols (k+f)
 | 0,k=>rfl
 | f+1,k=>by
  show zSG own N A f (k+1) (zAd own N A cols (k+1))=_
  rw[zTL own N A cols f (k+1),show k+1+f=k+(f+1)by omega]
theorem zS8(own N:Nat)(A:List (List Rat)):∀f k a,a.2≤(zSG own N A f k a).2
 | 0,_,_=>Nat.le_refl _
 | f+1,k,a=>by
  refine Nat.le_trans ?_ (zS8 own N A f (k+1) (zuz own N A k a));unfold zuz;split
  ·split
   ·exact Nat.le_refl _
   ·exact Nat.le_succ _
  ·exact Nat.le_refl _
theorem zSC(own N:Nat)(A:List (List Rat))(B:Nat):∀f k a,(zSG own N A f k a).2≤B→zSz own N A B f k a=(zSG own N A f k a,false)
 | 0,_,_,_=>rfl
 | f+1,k,a,h=>by
  unfold zSz;show _=(zSG own N A f (k+1) (zuz own N A k a),false)
  have d:(zSG own N A f (k+1) (zuz own N A k a)).2≤B:=h;have mono:=zS8 own N A f (k+1) (zuz own N A k a);unfold zuz at d mono ⊢;by_cases h1:own≤a.1.getD k 0
  ·rw[if_pos h1]at d mono ⊢;rw[if_pos h1];cases e:zkZ (zk8 N A a.1 k) own 0 with
   | none =>
    rw[e]at d;exact zSC own N A B f (k+1) a d
   | some j =>
    rw[e]at d mono;simp only at d mono ⊢;rw[if_neg (by omega)];exact zSC own N A B f (k+1) _ d
  ·rw[if_neg h1]at d ⊢;rw[if_neg h1];exact zSC own N A B f (k+1) a d
theorem zSF(own N:Nat)(A:List (List Rat))(B:Nat):∀f k a,a.2≤B→B<(zSG own N A f k a).2→(zSz own N A B f k a).2=true∧(zSz own N A B f k a).1.2=B
 | 0,_,a,h0,h=>by simp only[zSG]at h;omega
 | f+1,k,a,h0,h=>by
  unfold zSz;have d:B<(zSG own N A f (k+1) (zuz own N A k a)).2:=h;unfold zuz at d;by_cases h1:own≤a.1.getD k 0
  ·rw[if_pos h1]at d ⊢;cases e:zkZ (zk8 N A a.1 k) own 0 with
   | none =>
    rw[e]at d;exact zSF own N A B f (k+1) a h0 d
   | some j =>
    rw[e]at d;simp only at d ⊢;by_cases hb:B≤a.2
    ·rw[if_pos hb];exact⟨rfl,by simp only;omega⟩
    ·rw[if_neg hb];exact zSF own N A B f (k+1) _ (by simp only;omega) d
  ·rw[if_neg h1]at d ⊢;exact zSF own N A B f (k+1) a h0 d
inductive Out where
 | spent:Nat→Out
 | none:List Nat→Nat→Out
 | best:List Nat→Nat→Out
 | falls:List Nat→Nat→Nat→Out
def zSB (N m:Nat) (A:List (List Rat)) (b:List Rat) (cols:List Nat):Rat:=zai (N+m) fun j=>el (zJG N m) j*pt m (fun k=>cols.getD k 0) (el (za5 (zt0 A b) (zwh b) cols)) j
def zSA (N m:Nat) (A:List (List Rat)) (b c:List Rat) (B:Nat):Out :=
  let r:=pivs (zBX (N+m) (zt0 A b) (zwh b) (zJG N m) (zKc N m)) B (zKa N m)
  if r.err then .spent r.n
  else if 0<zSB N m A b r.cols then .none r.cols r.n
  else
    let d:=zSz N (N+m) (zt0 A b) (B-r.n) m 0 (r.cols,0)
    if d.2 then .spent (r.n+d.1.2)
    else
      let s:=pivs (zBX (N+m) (zt0 A b) (zwh b) (zKb m c) (zKc N m)) (B-(r.n+d.1.2)) d.1.1
      if s.err then .spent (r.n+d.1.2+s.n)
      else match s.at_ with
        | some j=>.falls s.cols j (r.n+d.1.2+s.n)
        | .none=>.best s.cols (r.n+d.1.2+s.n)
def Out.pivots:Out→Nat
  | .spent n=>n
  | .none _ n=>n
  | .best _ n=>n
  | .falls _ _ n=>n
section
variable {m N:Nat} {A:List (List Rat)} {b c:List Rat} (hA:Rect m N A) (hb:b.length=m) (hc:c.length=N)
include hA hb
theorem zUF(u:binom (N+m) m≤B):∃cols n,pivs (zBX (N+m) (zt0 A b) (zwh b) (zJG N m) (zKc N m)) B (zKa N m)=⟨cols,none,n,false⟩∧n≤binom (N+m) m∧Basis m (N+m) (zt0 A b) cols∧zyF m (zt0 A b) (zwh b) cols ∧
  zBX (N+m) (zt0 A b) (zwh b) (zJG N m) (zKc N m) cols=.stop:=by
 have h:=zSU (b:=b) hA;have f:=zVN hA hb;have s:=zoW (zBX (N+m) (zt0 A b) (zwh b) (zJG N m) (zKc N m)) B (zKa N m);have ends:=zTd (may:=zKc N m) h (zSD N m) f;have p:=zVH (may:=zKc N m) h (zSD N m) f;generalize hr:pivs (zBX (N+m) (zt0 A b) (zwh b) (zJG N m) (zKc N m)) B (zKa N m)=r at *
 obtain⟨cols,at_,n,err⟩:=r;obtain⟨s1,s2,g,a,q⟩:=s;simp only at s1 s2 g a q;have o:=ends n s2;cases err with
 | true =>
  obtain⟨t,k,j,l⟩:=g rfl;have:=ends (B+1) fun i v=>by
   by_cases e:i=B
   ·rw[e];exact⟨k,j,l⟩
   ·exact s2 i (by omega)
  omega
 | false =>
  have a:=a rfl;rw[←s1]at a;have d:=p n;rw[←s1]at d;cases at_ with
  | some j => exact absurd a (zVC d.1 (zSD N m) (fun j => by
    unfold zJG el;rw[List.getD_eq_getElem?_getD];by_cases hj:j<N
    ·rw[List.getElem?_append_left (by simpa using hj),List.getElem?_replicate,if_pos hj];exact Rat.le_refl
    ·rw[List.getElem?_append_right (by simpa using hj),List.getElem?_replicate];split
     ·exact(by decide:(0:Rat)≤1)
     ·exact Rat.le_refl) j)
  | none=>exact⟨cols,n,rfl,o,d.1,d.2,a⟩
inductive Ends (m N:Nat) (A:List (List Rat)) (b c:List Rat):Out→Prop where
 | none {cols:List Nat} {n:Nat} (h:Basis m (N+m) (zt0 A b) cols) (f:zyF m (zt0 A b) (zwh b) cols) (s:zBX (N+m) (zt0 A b) (zwh b) (zJG N m) (zKc N m) cols=.stop) (v:0<zSB N m A b cols):Ends m N A b c (.none cols n)
 | best {cols:List Nat} {n:Nat} (h:Own m (N+m) N (zt0 A b) (zwh b) cols m) (s:zBX (N+m) (zt0 A b) (zwh b) (zKb m c) (zKc N m) cols=.stop):Ends m N A b c (.best cols n)
 | falls {cols:List Nat} {j n:Nat} (h:Own m (N+m) N (zt0 A b) (zwh b) cols m) (s:zBX (N+m) (zt0 A b) (zwh b) (zKb m c) (zKc N m) cols=.bad j):Ends m N A b c (.falls cols j n)
include hc in
theorem zUc(Q:2*binom (N+m) m+m≤B):Ends m N A b c (zSA N m A b c B)∧(zSA N m A b c B).pivots≤2*binom (N+m) m+m ∧
  ∀a,((zSA N m A b c B).pivots≤a→zSA N m A b c a=zSA N m A b c B)∧(a<(zSA N m A b c B).pivots→∃n,zSA N m A b c a=.spent n):=by
 obtain⟨cols,n,hr,S,h1,z,st⟩:=zUF (B:=B) hA hb (by omega);have more:=fun g=>zKI (zBX (N+m) (zt0 A b) (zwh b) (zJG N m) (zKc N m)) B g (zKa N m) (by rw[hr])
 have less:=fun g=>zKH (zBX (N+m) (zt0 A b) (zwh b) (zJG N m) (zKc N m)) B g (zKa N m) (by rw[hr])
 rw[hr]at more less;simp only at more less;by_cases q:0<zSB N m A b cols
 ·have f:∀a,n≤a→zSA N m A b c a=.none cols n:=fun a C=>by
   unfold zSA;rw[more a C];simp only[Bool.false_eq_true,if_false,if_pos q]
  rw[f B (by omega)];refine⟨.none h1 z st q,by show n≤_;omega,fun a=>⟨fun h=>f a h,fun h=>?_⟩⟩;obtain⟨e,_⟩:=less a h;exact⟨_,by unfold zSA;simp only[e,if_true];rfl⟩
 ·have M:=(zTS h1 z hA hb st).1 (by show zSB N m A b cols≤0;grind);obtain⟨t,J⟩:=M.drive (by omega) m (Nat.le_refl _);have hF:zSG N (N+m) (zt0 A b) m 0 (cols,0)=zAd N (N+m) (zt0 A b) cols m:=by
   have:=zTL N (N+m) (zt0 A b) cols m 0;rw[Nat.zero_add]at this;exact this
  generalize hdr:zAd N (N+m) (zt0 A b) cols m=d at *
  obtain⟨p,dn⟩:=d;simp only at t J;have lc:(zKb m c).length=N+m:=by rw[zSS,hc]
  have L:∀j,(zKc N m).getD j false=true→j<N:=fun j h=>by
   rcases Nat.lt_or_ge j N with h5 | h5
   ·exact h5
   ·rw[zUz h5]at h;cases h
  have seq:=t.seq (c:=zKb m c) (may:=zKc N m) lc L;have ends:=zTd (may:=zKc N m) t.basis lc t.feas;have s:=zoW (zBX (N+m) (zt0 A b) (zwh b) (zKb m c) (zKc N m)) (B-(n+dn)) p;have E:=fun g=>zKI (zBX (N+m) (zt0 A b) (zwh b) (zKb m c) (zKc N m)) (B-(n+dn)) g p
  have D:=fun g=>zKH (zBX (N+m) (zt0 A b) (zwh b) (zKb m c) (zKc N m)) (B-(n+dn)) g p
  generalize hr2:pivs (zBX (N+m) (zt0 A b) (zwh b) (zKb m c) (zKc N m)) (B-(n+dn)) p=r2 at *
  obtain⟨x,r,l,y⟩:=r2;obtain⟨s1,s2,F,o,O⟩:=s;simp only at s1 s2 F o O E D;have T:=ends l s2;have K:y=false:=by
   cases y with
   | false=>rfl
   | true =>
    obtain⟨P,k,j,G⟩:=F rfl;have:=ends (B-(n+dn)+1) fun i R=>by
     by_cases e:i=B-(n+dn)
     ·rw[e];exact⟨k,j,G⟩
     ·exact s2 i (by omega)
    omega
  subst K;have o:=o rfl;rw[←s1]at o;have u:=seq l;rw[←s1]at u;have f:∀a,n+dn+l≤a→zSA N m A b c a=match r with | some j=>.falls x j (n+dn+l) | .none=>.best x (n+dn+l):=fun a C=>by
   unfold zSA;rw[more a (by omega)];simp only[Bool.false_eq_true,if_false,if_neg q];rw[zSC N (N+m) (zt0 A b) (a-n) m 0 (cols,0) (by rw[hF];simp only;omega),hF];simp only[Bool.false_eq_true,if_false];rw[E (a-(n+dn)) rfl (by omega)];simp only[Bool.false_eq_true,if_false];cases r<;>rfl
  have v:(zSA N m A b c B).pivots=n+dn+l:=by rw[f B (by omega)];cases r<;>rfl
  refine⟨?_,by rw[v];omega,fun a=>⟨fun h=>?_,fun h=>?_⟩⟩
  ·rw[f B (by omega)];cases r with
   | none=>exact .best u o
   | some j=>exact .falls u o
  ·rw[v]at h;rw[f a h,f B (by omega)]
  ·rw[v]at h;by_cases H:a<n
   ·obtain⟨e,_⟩:=less a H;exact⟨_,by unfold zSA;simp only[e,if_true];rfl⟩
   ·by_cases I:a-n<dn
    ·obtain⟨e,_⟩:=zSF N (N+m) (zt0 A b) (a-n) m 0 (cols,0) (Nat.zero_le _) (by rw[hF];exact I);exact⟨_,by unfold zSA;rw[more a (by omega)];simp only[Bool.false_eq_true,if_false,if_neg q,e,if_true];rfl⟩
    ·obtain⟨e,_⟩:=D (a-(n+dn)) rfl (by omega);refine⟨n+dn+(pivs (zBX (N+m) (zt0 A b) (zwh b) (zKb m c) (zKc N m)) (a-(n+dn)) p).n,?_⟩;unfold zSA;rw[more a (by omega)];simp only[Bool.false_eq_true,if_false,if_neg q];rw[zSC N (N+m) (zt0 A b) (a-n) m 0 (cols,0) (by rw[hF];simp only;omega),hF];simp only[Bool.false_eq_true,if_false,e,if_true]
end
end Am
namespace Am
variable {F G cols:List Nat}{n:Nat}
def ys7 (p:List Rat) (may:List Bool):List Bool:=(List.range may.length).map fun j=>may.getD j false&&decide (el p j=0)
theorem yta{p:List Rat}{may:List Bool}{j:Nat}:(ys7 p may).getD j false=true↔may.getD j false=true∧el p j=0:=by
 unfold ys7;rw[List.getD_eq_getElem?_getD,List.getElem?_map];by_cases h:j<may.length
 ·rw[List.getElem?_range h];simp
 ·rw[List.getElem?_eq_none (by simpa using h),List.getD_eq_getElem?_getD (l:=may),List.getElem?_eq_none (by omega)];simp
structure LexOut where
  cols:List Nat
  n:Nat
  err:Bool
def ys2 (N:Nat) (A:List (List Rat)) (b:List Rat) (B:Nat):List (List Rat)→List Bool→List Nat→Nat→LexOut
  | [],_,cols,n=>⟨cols,n,false⟩
  | c :: cs,may,cols,n =>
    let r:=pivs (zBX N A b c may) (B-n) cols
    if r.err then ⟨r.cols,n+r.n,true⟩
    else ys2 N A b B cs (ys7 (zaC N A r.cols c) may) r.cols (n+r.n)
def ys5 (N:Nat):Nat→Nat→List (List Rat)
  | 0,_=>[]
  | f+1,k=>zdL N k::ys5 N f (k+1)
def ytw (m:Nat) (L:List (List Nat)):Prop:=L.Pairwise fun a b=>¬∀u,Bas m (fun k=>a.getD k 0) u↔Bas m (fun k=>b.getD k 0) u
section
variable {m N:Nat} {A:List (List Rat)} {b c:List Rat} {may:List Bool}
def ytk (next:List Nat→Next) (cols:List Nat) (n:Nat):List (List Nat):=(List.range n).map (zvo next cols)
theorem ytl(next:List Nat→Next)(cols:List Nat)(n:Nat):(ytk next cols n).length=n:=by simp[ytk]
theorem yt4{cols:List Nat}(h:Basis m N A cols)(hc:c.length=N)(f:zyF m A b cols):∀i k,k<m→may.getD ((zvo (zBX N A b c may) cols i).getD k 0) false=true∨Bas m (fun k=>cols.getD k 0) ((zvo (zBX N A b c may) cols i).getD k 0)
 | 0,k,hk=>.inr ⟨k,hk,rfl⟩
 | i+1,k,hk=>by
  have a:=yt4 h hc f i;have d:=zVH (may:=may) h hc f i;rw[zvo];split
  ·rename_i r j e
   have p:=zK6 d.1 hc e;rw[gset (by rw[d.1.len];exact p.hk)];split
   ·exact .inl p.hm
   ·exact a k hk
  ·exact a k hk
theorem yti(h:Basis m N A cols)(hc:c.length=N)(f:zyF m A b cols)(d:∀i,i<n→∃k j,zBX N A b c may (zvo (zBX N A b c may) cols i)=.piv k j):ytw m (ytk (zBX N A b c may) cols n):=by
 unfold ytw ytk;rw[List.pairwise_map];exact List.Pairwise.imp_of_mem (R:=fun a b=>a<b) (fun {i j} _ hj hij=>ysX h hc f n d _ _ hij (List.mem_range.1 hj)) List.pairwise_lt_range
theorem yto(h:Basis m N A cols)(hc:c.length=N)(f:zyF m A b cols):∃n G at_,n≤binom N m∧G=zvo (zBX N A b c may) cols n∧(∀i,i<n→∃k j,zBX N A b c may (zvo (zBX N A b c may) cols i)=.piv k j) ∧
  zBX N A b c may G=(match at_ with | none=>.stop | some k=>.bad k)∧(∀B,n≤B→pivs (zBX N A b c may) B cols=⟨G,at_,n,false⟩)∧∀B,B<n→(pivs (zBX N A b c may) B cols).err=true∧(pivs (zBX N A b c may) B cols).n=B:=by
 have s:=zoW (zBX N A b c may) (binom N m) cols;have ends:=zTd (may:=may) h hc f;have more:=fun g=>zKI (zBX N A b c may) (binom N m) g cols
 have less:=fun g=>zKH (zBX N A b c may) (binom N m) g cols
 generalize hr:pivs (zBX N A b c may) (binom N m) cols=r at *
 obtain⟨G,at_,n,err⟩:=r;obtain⟨s1,s2,l,a,q⟩:=s;simp only at s1 s2 l a q more less;have p:=ends n s2;cases err with
 | true =>
  obtain⟨t,k,j,o⟩:=l rfl;have:=ends (binom N m+1) fun i u=>by
   by_cases e:i=binom N m
   ·rw[e];exact⟨k,j,o⟩
   ·exact s2 i (by omega)
  omega
 | false =>
  have a:=a rfl;rw[←s1]at a;exact⟨n,G,at_,p,s1,s2,a,fun B d=>more B rfl d,fun B d=>less B rfl d⟩
theorem ywu{own:Nat}{cols:List Nat}(h:Own m N own A b cols m)(hc:c.length=N)(hm:∀j,may.getD j false=true→j<own):∀i k,k<m→(own≤cols.getD k 0→(zvo (zBX N A b c may) cols i).getD k 0=cols.getD k 0)∧(cols.getD k 0<own→(zvo (zBX N A b c may) cols i).getD k 0<own)
 | 0,_,_=>⟨fun _=>rfl,fun h=>h⟩
 | i+1,k,hk=>by
  have a:=ywu h hc hm i k hk;have o:=h.seq hc hm i;rw[zvo];split
  ·rename_i r j e
   have p:=zK6 o.basis hc e;rw[gset (by rw[o.basis.len];exact p.hk)];by_cases d:r=k
   ·subst d;rw[if_pos rfl];refine⟨fun q=>?_,fun _=>hm j p.hm⟩;have z:=o.line r hk hk (by rw[a.1 q];exact q) j (hm j p.hm);have t:=p.t;rw[z]at t;exact absurd t (by decide)
   ·rw[if_neg d];exact a
  ·exact a
structure Fea (m N:Nat) (A:List (List Rat)) (b:List Rat) (may:List Bool) (z:Nat→Rat):Prop where
  sol:∀i,i<m→zai N (fun j=>en A i j*z j)=el b i
  nn:∀j,j<N→0≤z j
  sup:∀j,j<N→z j≠0→may.getD j false=true
def ytn (N:Nat):List (List Rat)→(Nat→Rat)→(Nat→Rat)→Prop
  | [],_,_=>True
  | c::cs,x,z=>zai N (fun j=>el c j*x j)≤zai N (fun j=>el c j*z j)∧(zai N (fun j=>el c j*x j)=zai N (fun j=>el c j*z j)→ytn N cs x z)
structure Lex (m N:Nat) (A:List (List Rat)) (b:List Rat) (cs:List (List Rat)) (may:List Bool) (cols:List Nat) (L:List (List Nat)) (G:List Nat):Prop where
  enough:∀B n,n+L.length≤B→ys2 N A b B cs may cols n=⟨G,n+L.length,false⟩
  less:∀B n,n≤B→B<n+L.length→(ys2 N A b B cs may cols n).err=true∧(ys2 N A b B cs may cols n).n=B
  apart:ytw m L
  basis:∀l∈L,Basis m N A l∧zyF m A b l
  in_:∀l∈L,∀k,k<m→may.getD (l.getD k 0) false=true∨Bas m (fun k=>cols.getD k 0) (l.getD k 0)
  last:Basis m N A G∧zyF m A b G
  lastIn:∀k,k<m→may.getD (G.getD k 0) false=true∨Bas m (fun k=>cols.getD k 0) (G.getD k 0)
  fix:∀own,Own m N own A b cols m→(∀j,may.getD j false=true→j<own)→∀l∈L,∀k,k<m→(own≤cols.getD k 0→l.getD k 0=cols.getD k 0)∧(cols.getD k 0<own→l.getD k 0<own)
  best:∀z,Fea m N A b may z→ytn N cs (pt m (fun k=>G.getD k 0) (el (za5 A b G))) z
  lastOwn:∀own,Own m N own A b cols m→(∀j,may.getD j false=true→j<own)→Own m N own A b G m
theorem ytt{d e:List Nat}(h:Basis m N A d)(g:Basis m N A e)(hc:c.length=N)(a:∀k,k<m→el (zaC N A e c) (d.getD k 0)=0):∀j,j<N→el (zaC N A d c) j=el (zaC N A e c) j :=
 (h.pri hc).same (g.pri hc) (h.dic []) a
theorem ytC{cs:List (List Rat)}(hF:Basis m N A F)(hc:c.length=N)(r:zBX N A b c may F=.stop)(i:Basis m N A G)(o:∀k,k<m→(ys7 (zaC N A F c) may).getD (G.getD k 0) false=true∨Bas m (fun k=>F.getD k 0) (G.getD k 0))
  (rest:∀z,Fea m N A b (ys7 (zaC N A F c) may) z→ytn N cs (pt m (fun k=>G.getD k 0) (el (za5 A b G))) z) (z:Nat→Rat) (a:Fea m N A b may z):ytn N (c::cs) (pt m (fun k=>G.getD k 0) (el (za5 A b G))) z:=by
 have p:=hF.pri hc;have g:=p.cost a.sol;have d:=p.cost (i.dic b).pt_sol;have l:zai N (fun j=>el (zaC N A F c) j*pt m (fun k=>G.getD k 0) (fun k=>el (za5 A b G) k) j)=0:=by
  rw[zyA i.lt (fun k=>el (za5 A b G) k) (el (zaC N A F c))];refine zcn fun k hk=>?_
  have:el (zaC N A F c) (G.getD k 0)=0:=by
   rcases o k hk with q | ⟨q,hq,e⟩
   ·exact(yta.1 q).2
   ·rw[←e];exact p.zero q hq
  rw[this];grind
 have nn:∀j,j<N→0≤el (zaC N A F c) j*z j:=fun j hj=>by
  by_cases h0:z j=0
  ·rw[h0];grind
  ·exact Rat.mul_nonneg (zTe hc r j hj (a.sup j hj h0)) (a.nn j hj)
 have s:0≤zai N (fun j=>el (zaC N A F c) j*z j):=by
  have:=zUD (f:=fun _=>0) nn;rw[zgd]at this;exact this
 refine⟨by have d:=d;rw[l]at d;rw[g];grind,fun e=>rest z ⟨a.sol,a.nn,fun j hj h0=>yta.2 ⟨a.sup j hj h0,?_⟩⟩⟩;have:=zTg nn (by rw[l]at d;have e:=e;rw[g]at e;grind) j hj;rcases Rat.mul_eq_zero.1 this with h | h
 ·exact h
 ·exact absurd h h0
theorem ytq{L:List (List Nat)}{r:List (List Rat)}(h:Basis m N A cols)(hc:c.length=N)(f:zyF m A b cols)(hF:F=zvo (zBX N A b c may) cols n)(B:∀i,i<n→∃k j,zBX N A b c may (zvo (zBX N A b c may) cols i)=.piv k j)
  (C:zBX N A b c may F=.stop) (x:Lex m N A b r (ys7 (zaC N A F c) may) F L G) (a:List Nat) (y:a∈L) {i:Nat} (t:i<n):¬∀u,Bas m (fun k=>(zvo (zBX N A b c may) cols i).getD k 0) u↔Bas m (fun k=>a.getD k 0) u:=fun per=>by
 have g:=zVH (may:=may) h hc f;have l:=g n;rw[←hF]at l;obtain⟨k,j,e⟩:=B i t;have p:=zK6 (g i).1 hc e;have z:∀k,k<m→el (zaC N A F c) ((zvo (zBX N A b c may) cols i).getD k 0)=0:=fun k hk=>by
  obtain⟨D,v,o⟩:=(per _).1 ⟨k,hk,rfl⟩;simp only at o;rw[←o];rcases x.in_ a y D v with q | ⟨q,hq,e2⟩
  ·exact(yta.1 q).2
  ·rw[←e2];exact(l.1.pri hc).zero q hq
 have s:=ytt (g i).1 l.1 hc z j p.hj;have d:=p.d;rw[s]at d;have:=zTe hc C j p.hj p.hm;grind
theorem ytj:∀(cs:List (List Rat)) (may:List Bool) (cols:List Nat),(∀c∈cs,c.length=N∧∀j,0≤el c j)→Basis m N A cols→zyF m A b cols→∃L G,Lex m N A b cs may cols L G
 | [],may,cols,_,h,f=>⟨[],cols,fun _ _ _=>rfl,fun B n h1 p=>(by simp only[List.length_nil]at p;omega),List.Pairwise.nil,fun l hl=>(by cases hl),fun l hl=>(by cases hl),⟨h,f⟩,fun k hk=>.inr ⟨k,hk,rfl⟩,fun _ _ _ l hl=>(by cases hl),fun _ _=>trivial,fun _ ho _=>ho⟩
 | c::cs,may,cols,hcs,h,f=>by
  obtain⟨hc,C⟩:=hcs c (List.mem_cons_self ..);obtain⟨n,F,at_,_,hF,v,s,more,less⟩:=yto (may:=may) h hc f;have y:=zVH (may:=may) h hc f;have e:=y n;rw[←hF]at e;cases at_ with
  | some k=>exact absurd s (zVC e.1 hc C k)
  | none =>
   obtain⟨L,G,x⟩:=ytj cs (ys7 (zaC N A F c) may) F (fun c h=>hcs c (List.mem_cons_of_mem _ h)) e.1 e.2;have z:=ytl (zBX N A b c may) cols n;have t:=yt4 h hc f (may:=may);refine⟨ytk (zBX N A b c may) cols n++L,G,fun B k H=>?_,fun B k h1 p=>?_,?_,fun l hl=>?_,fun l hl=>?_,x.last,fun k hk=>?_,fun own ho hm l hl k hk=>?_,ytC e.1 hc s x.last.1 x.lastIn x.best,fun own ho hm=>?_⟩
   ·rw[List.length_append,z]at H ⊢;unfold ys2;rw[more (B-k) (by omega)];simp only[Bool.false_eq_true,if_false];rw[x.enough B (k+n) (by omega),Nat.add_assoc]
   ·rw[List.length_append,z]at p;unfold ys2;by_cases E:B-k<n
    ·obtain⟨D,a⟩:=less (B-k) E;simp only[D,if_true,a,true_and];omega
    ·rw[more (B-k) (by omega)];simp only[Bool.false_eq_true,if_false];exact x.less B (k+n) (by omega) (by omega)
   ·exact List.pairwise_append.2 ⟨yti h hc f v,x.apart,fun l hl J I per=>by
     obtain⟨i,o,rfl⟩:=List.mem_map.1 hl;exact ytq h hc f hF v s x J I (List.mem_range.1 o) per⟩
   ·rcases List.mem_append.1 hl with q | q
    ·obtain⟨i,o,rfl⟩:=List.mem_map.1 q;exact y i
    ·exact x.basis l q
   ·rcases List.mem_append.1 hl with q | q
    ·obtain⟨i,o,rfl⟩:=List.mem_map.1 q;exact fun k hk=>t i k hk
    ·intro k hk;rcases x.in_ l q k hk with r | ⟨r,hr,a⟩
     ·exact .inl (yta.1 r).1
     ·rw[←a,hF];exact t n r hr
   ·rcases x.lastIn k hk with r | ⟨r,hr,a⟩
    ·exact .inl (yta.1 r).1
    ·rw[←a,hF];exact t n r hr
   ·rcases List.mem_append.1 hl with q | q
    ·obtain⟨i,o,rfl⟩:=List.mem_map.1 q;exact ywu ho hc hm i k hk
    ·have d:=ho.seq hc hm n;have g:=ywu ho hc hm n k hk;rw[←hF]at d g;have u:=x.fix own d (fun j hj=>hm j (yta.1 hj).1) l q k hk;exact⟨fun h=>(u.1 (by rw[g.1 h];exact h)).trans (g.1 h),fun h=>u.2 (g.2 h)⟩
   ·have d:=ho.seq hc hm n;rw[←hF]at d;exact x.lastOwn own d fun j hj=>hm j (yta.1 hj).1
end
theorem ytm{N:Nat}:∀ {f k:Nat},k+f≤N→∀c∈ys5 N f k,c.length=N∧∀j,0≤el c j
 | 0,_,_,c,h=>by cases h
 | f+1,k,hk,c,h=>by
  rcases List.mem_cons.1 h with rfl | h
  ·refine⟨zfM _ _,fun j=>?_⟩;rw[zge (by omega)];split<;>decide
  ·exact ytm (by omega) c h
end Am
namespace Am
inductive COut where
  | spent:Nat→COut
  | none:Nat→COut
  | best:List Nat→List Nat→Nat→COut
  | falls:Nat→COut
def COut.pivots:COut→Nat
  | .spent n=>n
  | .none n=>n
  | .best _ _ n=>n
  | .falls n=>n
def yth (n:Nat) (cols:List Nat) (l:LexOut):COut:=if l.err then .spent (n+l.n)else .best cols l.cols (n+l.n)
def ys3 (N m own:Nat) (A:List (List Rat)) (b c:List Rat) (B:Nat):COut :=
  let r:=pivs (zBX (N+m) (zt0 A b) (zwh b) (zJG N m) (zKc N m)) B (zKa N m)
  if r.err then .spent r.n
  else if 0<zSB N m A b r.cols then .none r.n
  else
    let d:=zSz N (N+m) (zt0 A b) (B-r.n) m 0 (r.cols,0)
    if d.2 then .spent (r.n+d.1.2)
    else
      let s:=pivs (zBX (N+m) (zt0 A b) (zwh b) (zKb m c) (zKc N m)) (B-(r.n+d.1.2)) d.1.1
      if s.err then .spent (r.n+d.1.2+s.n)
      else match s.at_ with
        | some _=>.falls (r.n+d.1.2+s.n)
        | .none=>yth (r.n+d.1.2+s.n) s.cols (ys2 (N+m) (zt0 A b) (zwh b) (B-(r.n+d.1.2+s.n)) (ys5 (N+m) own 0) (ys7 (zaC (N+m) (zt0 A b) s.cols (zKb m c)) (zKc N m)) s.cols 0)
def bmax (N:Nat):Nat→Nat
  | 0=>1
  | k+1=>max (bmax N k) (binom N (k+1))
theorem yww(N:Nat){a:Nat}:∀ {k:Nat},a≤k→binom N a≤bmax N k
 | 0,h=>by rw[Nat.le_zero.1 h];unfold bmax binom;cases N<;>exact Nat.le_refl _
 | k+1,h=>by
  unfold bmax;by_cases e:a=k+1
  ·rw[e];exact Nat.le_max_right _ _
  ·exact Nat.le_trans (yww N (by omega)) (Nat.le_max_left _ _)
theorem ywv{m N:Nat}{cols:List Nat}{L:List (List Nat)}(h:ytw m L)(o:∀l∈L,∀i k,i<m→k<m→l.getD i 0=l.getD k 0→i=k)(q:∀l∈L,∀k,k<m→(N≤cols.getD k 0→l.getD k 0=cols.getD k 0)∧(cols.getD k 0<N→l.getD k 0<N)):L.length≤bmax N m:=by
 obtain⟨ps,d⟩:∃ps,(List.range m).filter (fun k=>decide (cols.getD k 0<N))=ps:=⟨_,rfl⟩
 have D:ps.length≤m:=by rw[←d];exact Nat.le_trans (List.length_filter_le _ _) (by simp)
 have f:∀k,k<ps.length→ps.getD k 0<m∧cols.getD (ps.getD k 0) 0<N:=fun k hk=>by
  have:ps.getD k 0∈ps:=by rw[List.getD_eq_getElem?_getD,List.getElem?_eq_getElem hk];exact List.getElem_mem hk
  rw[←d]at this;have:=List.mem_filter.1 this;rw[d]at this;exact⟨List.mem_range.1 this.1,of_decide_eq_true this.2⟩
 have pi:∀i k,i<ps.length→k<ps.length→ps.getD i 0=ps.getD k 0→i=k:=fun i k h1 y e=>by
  have F:ps.Nodup:=by rw[←d];exact List.Nodup.sublist List.filter_sublist List.nodup_range
  rw[List.getD_eq_getElem?_getD,List.getD_eq_getElem?_getD,List.getElem?_eq_getElem h1,List.getElem?_eq_getElem y]at e;exact(List.getElem_inj F).1 e
 have on:∀k,k<m→cols.getD k 0<N→∃t,t<ps.length∧ps.getD t 0=k:=fun k hk hc=>by
  have:k∈ps:=by rw[←d];exact List.mem_filter.2 ⟨List.mem_range.2 hk,decide_eq_true hc⟩
  obtain⟨t,p⟩:=List.mem_iff_getElem?.1 this;exact⟨t,(List.getElem?_eq_some_iff.1 p).1,getD_some p⟩
 have g:∀i,i<L.length→L.getD i []∈L:=fun i o=>by rw[List.getD_eq_getElem?_getD,List.getElem?_eq_getElem o];exact List.getElem_mem o
 refine Nat.le_trans (zLq (N:=N) (m:=ps.length) (β:=fun i k=>(L.getD i []).getD (ps.getD k 0) 0) (fun i r k hk=>(q _ (g i r) _ (f k hk).1).2 (f k hk).2) (fun i r k l hk hl e=>pi k l hk hl (o _ (g i r) _ _ (f k hk).1 (f l hl).1 e)) fun i j B hj per=>?_) (yww N D);have ap:=List.pairwise_iff_getElem.1 h i j (by omega) hj B;have v:L.getD i []=L[i]'(by omega):=by rw[List.getD_eq_getElem?_getD,List.getElem?_eq_getElem (by omega)];rfl
 have x:L.getD j []=L[j]:=by rw[List.getD_eq_getElem?_getD,List.getElem?_eq_getElem hj];rfl
 have one:∀a b:List Nat,a∈L→b∈L→(∀u,Bas ps.length (fun k=>a.getD (ps.getD k 0) 0) u→Bas ps.length (fun k=>b.getD (ps.getD k 0) 0) u)→∀u,Bas m (fun k=>a.getD k 0) u→Bas m (fun k=>b.getD k 0) u:=fun a b z hb C u ⟨k,hk,e⟩=>by
  by_cases hc:cols.getD k 0<N
  ·obtain⟨t,p,et⟩:=on k hk hc;obtain⟨s,E,es⟩:=C u ⟨t,p,by simp only[et];exact e⟩;exact⟨ps.getD s 0,(f s E).1,es⟩
  ·exact⟨k,hk,by simp only;rw[(q b hb k hk).1 (by omega),←(q a z k hk).1 (by omega)];exact e⟩
 refine ap fun u=>⟨?_,?_⟩
 ·rw[←v,←x];exact one _ _ (g i (by omega)) (g j hj) (fun u=>(per u).1) u
 ·rw[←v,←x];exact one _ _ (g j hj) (g i (by omega)) (fun u=>(per u).2) u
section
variable {m N own:Nat} {A:List (List Rat)} {b c:List Rat}
inductive CEnds (m N own:Nat) (A:List (List Rat)) (b c:List Rat):COut→Prop where
  | none {cols:List Nat} {n:Nat} (h:Basis m (N+m) (zt0 A b) cols) (f:zyF m (zt0 A b) (zwh b) cols) (s:zBX (N+m) (zt0 A b) (zwh b) (zJG N m) (zKc N m) cols=.stop) (v:0<zSB N m A b cols):CEnds m N own A b c (.none n)
  | best {cols G:List Nat} {n k:Nat} {L:List (List Nat)} (h:Own m (N+m) N (zt0 A b) (zwh b) cols m) (s:zBX (N+m) (zt0 A b) (zwh b) (zKb m c) (zKc N m) cols=.stop)
      (x:Lex m (N+m) (zt0 A b) (zwh b) (ys5 (N+m) own 0) (ys7 (zaC (N+m) (zt0 A b) cols (zKb m c)) (zKc N m)) cols L G) (e:n=k+L.length):CEnds m N own A b c (.best cols G n)
  | falls {cols:List Nat} {j n:Nat} (h:Own m (N+m) N (zt0 A b) (zwh b) cols m) (s:zBX (N+m) (zt0 A b) (zwh b) (zKb m c) (zKc N m) cols=.bad j):CEnds m N own A b c (.falls n)
theorem CEnds.not{o:COut}(h:CEnds m N own A b c o)(n:Nat):o≠.spent n:=fun e=>by subst e;cases h
variable (hA:Rect m N A) (hb:b.length=m) (hc:c.length=N) (ho:own≤N)
include hA hb hc ho
theorem yty:∃o,CEnds m N own A b c o∧o.pivots≤binom (N+m) m+m+bmax N m∧∀B,(o.pivots≤B→ys3 N m own A b c B=o)∧(B<o.pivots→ys3 N m own A b c B=.spent B):=by
 obtain⟨n,cols,at_,hn,hF,hp,J,more,less⟩:=yto (m:=m) (may:=zKc N m) (zSU (b:=b) hA) (zSD N m) (zVN hA hb);have r:=zVH (may:=zKc N m) (zSU (b:=b) hA) (zSD N m) (zVN hA hb) n;rw[←hF]at r;have V:∀j,0≤el (zJG N m) j:=fun j=>by
  unfold zJG el;rw[List.getD_eq_getElem?_getD];by_cases hj:j<N
  ·rw[List.getElem?_append_left (by simpa using hj),List.getElem?_replicate,if_pos hj];exact Rat.le_refl
  ·rw[List.getElem?_append_right (by simpa using hj),List.getElem?_replicate];split
   ·exact(by decide:(0:Rat)≤1)
   ·exact Rat.le_refl
 cases at_ with
 | some j=>exact absurd J (zVC r.1 (zSD N m) V j)
 | none =>
  by_cases C:0<zSB N m A b cols
  ·refine⟨.none n,.none r.1 r.2 J C,by show n≤_;omega,fun B=>⟨fun h=>?_,fun h=>?_⟩⟩
   ·unfold ys3;rw[more B h];simp only[Bool.false_eq_true,if_false,if_pos C]
   ·obtain⟨f,g⟩:=less B h;unfold ys3;simp only[f,if_true,g]
  ·have ad:=(zTS r.1 r.2 hA hb J).1 (by show zSB N m A b cols≤0;grind);obtain⟨e,Y⟩:=ad.drive (by omega) m (Nat.le_refl _);have E:zSG N (N+m) (zt0 A b) m 0 (cols,0)=zAd N (N+m) (zt0 A b) cols m:=by
    have:=zTL N (N+m) (zt0 A b) cols m 0;rw[Nat.zero_add]at this;exact this
   generalize hdr:zAd N (N+m) (zt0 A b) cols m=d at *
   obtain⟨t,dn⟩:=d;simp only at e Y;have lc:(zKb m c).length=N+m:=by rw[zSS,hc]
   have p:∀j,(zKc N m).getD j false=true→j<N:=fun j h=>by
    rcases Nat.lt_or_ge j N with h5 | h5
    ·exact h5
    ·rw[zUz h5]at h;cases h
   have O:∀B,n≤B→B<n+dn→ys3 N m own A b c B=.spent B:=fun B h1 u=>by
    obtain⟨f,g⟩:=zSF N (N+m) (zt0 A b) (B-n) m 0 (cols,0) (Nat.zero_le _) (by rw[E];simp only;omega);unfold ys3;rw[more B h1];simp only[Bool.false_eq_true,if_false,if_neg C,f,if_true,g]
    congr 1;omega
   have W:∀B,n+dn≤B→zSz N (N+m) (zt0 A b) (B-n) m 0 (cols,0)=((t,dn),false):=fun B h1=>by
    rw[zSC N (N+m) (zt0 A b) (B-n) m 0 (cols,0) (by rw[E];simp only;omega),E]
   have Q:∀B,B<n→ys3 N m own A b c B=.spent B:=fun B h=>by
    obtain⟨f,g⟩:=less B h;unfold ys3;simp only[f,if_true,g]
   have D:∀B,n+dn≤B→ys3 N m own A b c B=(let s:=pivs (zBX (N+m) (zt0 A b) (zwh b) (zKb m c) (zKc N m)) (B-(n+dn)) t
     if s.err then .spent (n+dn+s.n)
     else match s.at_ with
      | some _=>.falls (n+dn+s.n)
      | .none=>yth (n+dn+s.n) s.cols (ys2 (N+m) (zt0 A b) (zwh b) (B-(n+dn+s.n)) (ys5 (N+m) own 0) (ys7 (zaC (N+m) (zt0 A b) s.cols (zKb m c)) (zKc N m)) s.cols 0)):=fun B h1=>by
    conv=>lhs;unfold ys3
    rw[more B (by omega)];simp only[Bool.false_eq_true,if_false,if_neg C];rw[W B h1];simp only[Bool.false_eq_true,if_false]
   obtain⟨a,F,U,ag,H,I,K,M,ab⟩:=yto (may:=zKc N m) e.basis lc e.feas;have y:=e.seq (c:=zKb m c) (may:=zKc N m) lc p a;rw[←H]at y;have S:∀B,n+dn≤B→B<n+dn+a→ys3 N m own A b c B=.spent B:=fun B h1 u=>by
    obtain⟨f,g⟩:=ab (B-(n+dn)) (by omega);rw[D B h1];simp only[f,if_true,g];congr 1;omega
   cases U with
   | some j =>
    have c2:a≤bmax N m:=by
     have:=ywv (N:=N) (cols:=t) (yti (may:=zKc N m) e.basis lc e.feas I) (fun l hl=>by
      obtain⟨i,v,rfl⟩:=List.mem_map.1 hl;exact(zVH (may:=zKc N m) e.basis lc e.feas i).1.inj) fun l hl=>by
      obtain⟨i,v,rfl⟩:=List.mem_map.1 hl;exact fun k hk=>ywu e lc p i k hk
     rw[ytl]at this;exact this
    refine⟨.falls (n+dn+a),.falls y K,by show n+dn+a≤_;omega,fun B=>⟨fun h=>?_,fun h=>?_⟩⟩
    ·have h:n+dn+a≤B:=h;rw[D B (by omega),M (B-(n+dn)) (by omega)];simp only[Bool.false_eq_true,if_false]
    ·have h:B<n+dn+a:=h;by_cases h1:B<n
     ·exact Q B h1
     ·by_cases u:B<n+dn
      ·exact O B (by omega) u
      ·exact S B (by omega) h
   | none =>
    obtain⟨L,G,x⟩:=ytj (b:=zwh b) (ys5 (N+m) own 0) (ys7 (zaC (N+m) (zt0 A b) F (zKb m c)) (zKc N m)) F (ytm (by omega)) y.basis y.feas;have cnt:a+L.length≤bmax N m:=by
     have T:=yti (may:=zKc N m) e.basis lc e.feas I;have ac:=zVH (may:=zKc N m) e.basis lc e.feas;have R:=e.seq (c:=zKb m c) (may:=zKc N m) lc p a;have z:=ywu (c:=zKb m c) (may:=zKc N m) e lc p a;rw[←H]at R z;have:=ywv (N:=N) (m:=m) (cols:=t) (L:=ytk (zBX (N+m) (zt0 A b) (zwh b) (zKb m c) (zKc N m)) t a++L) (List.pairwise_append.2 ⟨T,x.apart,fun l hl l' Z per=>by
      obtain⟨i,v,rfl⟩:=List.mem_map.1 hl;exact ytq e.basis lc e.feas H I K x l' Z (List.mem_range.1 v) per⟩) (fun l hl=>by
       rcases List.mem_append.1 hl with q | q
       ·obtain⟨i,v,rfl⟩:=List.mem_map.1 q;exact(ac i).1.inj
       ·exact(x.basis l q).1.inj) fun l hl k hk=>by
       rcases List.mem_append.1 hl with q | q
       ·obtain⟨i,v,rfl⟩:=List.mem_map.1 q;exact ywu e lc p i k hk
       ·have P:=x.fix N R (fun j hj=>p j (yta.1 hj).1) l q k hk;exact⟨fun h=>(P.1 (by rw[(z k hk).1 h];exact h)).trans ((z k hk).1 h),fun h=>P.2 ((z k hk).2 h)⟩
     rw[List.length_append,ytl]at this;exact this
    refine⟨.best F G (n+dn+a+L.length),.best y K x rfl,by show n+dn+a+L.length≤_;omega,fun B=>⟨fun h=>?_,fun h=>?_⟩⟩
    ·have h:n+dn+a+L.length≤B:=h;rw[D B (by omega),M (B-(n+dn)) (by omega)];simp only[Bool.false_eq_true,if_false];rw[x.enough (B-(n+dn+a)) 0 (by omega)];unfold yth;simp only[Bool.false_eq_true,if_false,Nat.zero_add]
    ·have h:B<n+dn+a+L.length:=h;by_cases h1:B<n
     ·exact Q B h1
     ·by_cases u:B<n+dn
      ·exact O B (by omega) u
      ·by_cases X:B<n+dn+a
       ·exact S B (by omega) X
       ·rw[D B (by omega),M (B-(n+dn)) (by omega)];simp only[Bool.false_eq_true,if_false];obtain⟨f,g⟩:=x.less (B-(n+dn+a)) 0 (Nat.zero_le _) (by omega);unfold yth;simp only[f,if_true,g];congr 1;omega
end
end Am
namespace Am
variable {B:Nat}
section
variable {N m:Nat} {A:List (List Rat)} {b c:List Rat}
theorem yxt(own:Nat):ys5 own 0 0=[]:=rfl
theorem yxg{n:Nat}(h:zSA N m A b c B=.spent n):ys3 N m 0 A b c B=.spent n:=by
 unfold zSA at h;unfold ys3;simp only[yxt,ys2]at h ⊢;split at h
 ·rename_i e;rw[if_pos e];injection h with h;rw[h]
 ·rename_i e;rw[if_neg e]
  split at h
  ·cases h
  ·rename_i e2;rw[if_neg e2]
   split at h
   ·rename_i e3;rw[if_pos e3];injection h with h;rw[h]
   ·rename_i e3;rw[if_neg e3]
    split at h
    ·rename_i e4;rw[if_pos e4];injection h with h;rw[h]
    ·split at h<;>cases h
end
section
variable {N m:Nat} {A:List (List Rat)} {b c:List Rat} (hA:Rect m N A) (hb:b.length=m) (hc:c.length=N)
include hA hb hc
theorem yxk(f:binom (N+m) m+m+bmax N m≤B):Ends m N A b c (zSA N m A b c B)∧(zSA N m A b c B).pivots≤binom (N+m) m+m+bmax N m ∧
  ∀a,((zSA N m A b c B).pivots≤a→zSA N m A b c a=zSA N m A b c B)∧(a<(zSA N m A b c B).pivots→∃n,zSA N m A b c a=.spent n):=by
 obtain⟨E,_,d⟩:=zUc (B:=2*binom (N+m) m+m+B) hA hb hc (by omega);obtain⟨o,g,i,hm⟩:=yty (own:=0) hA hb hc (Nat.zero_le _);have le:(zSA N m A b c (2*binom (N+m) m+m+B)).pivots≤binom (N+m) m+m+bmax N m:=Nat.le_of_not_lt fun h=>by
  obtain⟨n,e⟩:=(d _).2 h;exact g.not n (((hm _).1 i).symm.trans (yxg e))
 have e:=(d B).1 (Nat.le_trans le f);rw[e];exact⟨E,le,d⟩
end
