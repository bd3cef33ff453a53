/- What the cards' conditions give a walk,for each law of the seat: the variable errors.errorType's one cell;a problem that is handed in. Conditions: as each says. -/
import Derived.Test.YtmflbanlgkdgeaaGreatDoorCards
import Derived.Test.YtmflbanlgkdgeaaGreatDoorTie
import Derived.Test.YtmflbanlgkdgeaaGreatDoorDuBZr
import Derived.Test.YtmflbanlgkdgeaaGreatDoorErrZr
import Derived.ChangeSame
import Derived.ChangeVars
import Derived.LaidLaws
import Derived.LaidHandle
import Derived.Stop.Joined
import Derived.Deep.DeepHandedRow
import Derived.SevenTiedAt
set_option linter.all false
set_option maxRecDepth 100000
namespace Go.Proofs.YtmflbanlgkdgeaaGreatDoor
open Err (z4a)
open Go.ChangeShapes Go.WideShapes Go.ChangeAt Go.RowKit Go.Deep
theorem et:Tryz.prog.globalNamed "errors.errorType" = some 0:=by kernel_rfl
theorem rt:(Tryz.prog.cutTypes.find? (·.1 == "internal/reflectlite.rtype")).map (·.2)=some 202:=by kernel_rfl
theorem size:Tryz.prog.types.size=258:=by kernel_rfl
theorem zDL:((List.range 258).filter fun t=>Tryz.prog.rowNamed t [101,114,114,111,114])=[36]:=by kernel_rfl
theorem zlF{W:World}(h:laidMetH Tryz.prog Rows.primalBeginsUptoRow.laid W):W.cell? ⟨0,0,none⟩=some z4a:=by
 have f:laidMet Tryz.prog [] W∧handlesMet Tryz.prog Rows.primalBeginsUptoRow.laid W:=h;obtain⟨i,u,j,b,c,d,e,a⟩:=f.2 _ (List.mem_singleton.2 rfl);have en:i=[101,114,114,111,114]:=(Option.some.inj b).symm;subst en;obtain rfl:=Option.some.inj (rt.symm.trans c);have hm:j∈(List.range 258).filter fun t=>Tryz.prog.rowNamed t [101,114,114,111,114]:=List.mem_filter.2 ⟨List.mem_range.2 (by rw[←size];exact d),e⟩
 rw[zDL]at hm;obtain rfl:=List.mem_singleton.1 hm;have g:typeHandle Tryz.prog 36=.pointer (some ⟨1,36,none⟩):=by kernel_rfl
 rw[g]at a;simpa using World.var?_cell et a 0
noncomputable def laidWorld (os:Os):World :=
 let w0:=World.holding Tryz.prog os ⟨#[],#[],[]⟩
 { w0 with heap:=w0.heap.modify 0 fun
   | .cells _ t frozen=>.cells #[z4a] t frozen
   | o=>o }
theorem znG(os:Os)(args:Array Value):laidMetH Tryz.prog Rows.primalBeginsUptoRow.laid ((laidWorld os).forCall (fun _ _=>0) ⟨#[],args,[]⟩).memory :=
 laidMetH_of_parts (laidMet_nil _ _) (by kernel_rfl)
theorem zMj{H:Type}{enc:TypeId × Value→H}{W:World}{base:Nat}{g:Nat→Bool}{held:Bool}{fuel:Nat}{cs:List Value}{x:DataW H × List MemPlace}(h:DataW.trod enc Tryz.prog W base g held fuel 25 cs=some x)(z:Rows.uptoBulk x.1≤1048576) :
  ∃(A:OA) (b cA:Nat) (L:OA) (c a:Nat) (qs:List (Int × Int)) (ls:List LineV),cs=[.slice A b cA,.slice L c a]∧zcs W A qs∧zex W L ls∧b=qs.length∧c=ls.length∧b≤cA∧c≤a∧cA≤9223372036854775807∧a≤9223372036854775807:=by
 obtain⟨zs,m,_,v,k,y,hg⟩:=DataW.trod_struct Tryz.underlying25 h;rw[zLt]at k
 match cs,k with
 | [c0,c1],_ =>
  have e:DataW.trod enc Tryz.prog W base g held m 22 ([c0,c1].take (Tryz.prog.cellsOf 22))=zs[0]?:=hg 0 _ rfl;have f:DataW.trod enc Tryz.prog W base g held m 23 ([c1].take (Tryz.prog.cellsOf 23))=zs[1]?:=hg 1 _ rfl;rw[zKr]at e;rw[zK3]at f;have C:zs.length=2:=y;rw[List.getElem?_eq_getElem (show 0<zs.length by omega)]at e;rw[List.getElem?_eq_getElem (show 1<zs.length by omega)]at f;have p:x.1=.agg (zs.map (·.1)):=by rw[v]
  have B:Rows.uptoBulk zs[1].1≤Rows.uptoBulk x.1:=by
   have:=zKR (d:=zs[1].1) (l:=zs.map (·.1)) (List.mem_map.2 ⟨zs[1],List.getElem_mem _,rfl⟩);rw[p];simp only[Rows.uptoBulk];omega
  obtain⟨A,b,cA,qs,i,s,q,t,n,_⟩:=zrv e;obtain⟨L,c,a,ls,j,hm,r,u,o⟩:=zLz f (by omega);simp at i j;subst i j;exact⟨A,b,cA,L,c,a,qs,ls,rfl,q,r,s,hm,t,u,n,o⟩
