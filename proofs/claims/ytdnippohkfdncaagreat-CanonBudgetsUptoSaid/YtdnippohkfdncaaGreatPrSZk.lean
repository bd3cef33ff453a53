/- Contracts and lemmas: PrY PrS Ng Shp Own. Conditions: as each says. -/
import Derived.Test.YtdnippohkfdncaaGreatPrFZk
import Derived.Test.YtdnippohkfdncaaGreatPrBZk
set_option linter.all false
set_option maxHeartbeats 2000000
set_option maxRecDepth 100000
namespace Go.Proofs.YtdnippohkfdncaaGreat
open Go.RowKit Am
attribute [local go_sem ↓] Go.wp_at_zero Go.wp_at_succ
def zTj (NN:Nat) (cols:List Nat) (col:List Rat) (j k:Nat):List Rat:=(List.range NN).map fun i=>way k (fun l=>cols.getD l 0) (fun r _=>el col r) j i
section
variable {W0 w:World} {H q:Nat} {rA:OA} {rc:Nat} {lA:List Value} {bA:OA} {bc_:Nat} {kA:OA} {kc:Nat} {eA:OA} {ec m NN S own:Nat} {A:List (List Rat)} {b c:List Rat} {left:List Int}
  {tA:OA} {tc:Nat} {cols:List Nat}
namespace Pr
end Pr
end
theorem zVF:∀n,n≤4→sB n 1 1≤1000000:=by decide +kernel
theorem zWc:∀n,n≤4→zor n 1≤LIM:=by unfold LIM;decide +kernel
def zVM (w:World) (nC m N NN:Nat) (A0:List (List Rat)) (b0 c0:List Rat) (B:Nat) (o:Out) (e:Ending) (w':World):Prop :=
  Below w.heap.size w w'∧match o with
    | .spent _=>∃ev,e=.returned (.tuple #[.agg #[.int .i64 0,.slice none 0 0,.slice none 0 0,.slice none 0 0,.int .i64 0],ev])∧Spent w' B ev
    | .none cols n=>∃(Y:OA) (cY:Nat),e=.returned (.tuple #[.agg #[.int .i64 2,.slice none 0 0,.slice Y m cY,.slice none 0 0,.int .i64 (n:Int)],.nilIface])∧VecS w' w.heap.size (.slice Y m cY) (bkL (b0.map sgI) (zcl (zt0 A0 b0) cols (zJG N m)) m)
    | .best cols n=>∃(P:OA) (cP:Nat) (Y:OA) (cY:Nat),e=.returned (.tuple #[.agg #[.int .i64 1,.slice P nC cP,.slice Y m cY,.slice none 0 0,.int .i64 (n:Int)],.nilIface])∧VecS w' w.heap.size (.slice P nC cP) ((zh1 NN cols (za5 (zt0 A0 b0) (zwh b0) cols)).take nC)∧VecS w' w.heap.size (.slice Y m cY) (bkL (b0.map sgI) (zcl (zt0 A0 b0) cols (zKb m c0)) m)
    | .falls cols j n=>∃(P:OA) (cP:Nat) (D:OA) (cD:Nat),e=.returned (.tuple #[.agg #[.int .i64 3,.slice P nC cP,.slice none 0 0,.slice D nC cD,.int .i64 (n:Int)],.nilIface])∧VecS w' w.heap.size (.slice P nC cP) ((zh1 NN cols (za5 (zt0 A0 b0) (zwh b0) cols)).take nC)∧VecS w' w.heap.size (.slice D nC cD) ((zTj NN cols (zav (zt0 A0 b0) cols j) j m).take nC)
namespace Pr
open Du (zCr)
theorem zYk(rA:OA)(rc:Nat)(lA:List Value)(bA:OA)(bc_:Nat)(kA:OA)(kc:Nat)(eA:OA)(ec m N NN S own:Nat)(d:List (List Rat))(a f:List Rat)(left:List Int)(w:World)(hS:StdP w rA rc lA bA bc_ kA kc eA ec m N S d a f left)(o:NN≤64)(j:N+m=NN)(hl:left.length=m)(l:8*S+8≤LIM) :
  Calls Tryz.prog 39 #[.agg #[.slice rA m rc,.int .i64 (N:Int),.slice bA m bc_,.slice kA N kc,.int .i64 (own:Int),.slice eA m ec]] w fun e w'=>∃(rA:OA) (rc:Nat) (lA:List Value) (bA:OA) (bc_:Nat) (kA:OA) (kc:Nat) (eA:OA) (ec:Nat) (g:OA) (i:Nat),
   e=.returned (.tuple #[.agg #[.slice rA m rc,.int .i64 (NN:Int),.slice bA m bc_,.slice kA NN kc,.int .i64 (own:Int),.slice eA m ec,.slice g m i,.int .i64 (N:Int)],.nilIface]) ∧
   StdP w' rA rc lA bA bc_ kA kc eA ec m NN S (zt0 d a) (zwh a) (zKb m f) left∧IntsZ w' 0 (.slice g m i) (a.map sgI)∧Below w.heap.size w w':=by
 subst j;exact pbegin rA rc lA bA bc_ kA kc eA ec m N S own d a f left w hS o hl l
end Pr
end Go.Proofs.YtdnippohkfdncaaGreat
namespace Go.Proofs.YtdnippohkfdncaaGreat
open Go.RowKit Am
theorem zLu{m N S:Nat}{A:List (List Rat)}{cols:List Nat}(a:Basis m N A cols)(zA:∀r∈A,∀q∈r,mw q≤S):zhg mw m S (bc A cols):=fun j hj i f=>by
 rw[ztZ (by rw[a.len];exact hj) (by rw[a.rect.len];exact f)];have e:=zaO (L:=A) (i:=i) (d:=[]) (by rw[a.rect.len];exact f);have hm:=List.mem_of_getElem? e;exact zA _ hm _ (List.mem_of_getElem? (zaH (by rw[a.rect.row i f];exact a.lt j hj)))
section
variable {n:Nat} {rows:List PRow} (hl:∀k,k<rows.length→(rows.getD k default).coef.length=n)
include hl
end
def zWY (p:PRow) (d:List Rat):Prop:=(p.kind=1→dot p.coef d≤0)∧(p.kind=2→0≤dot p.coef d)∧(p.kind=3→dot p.coef d=0)
structure Signs (m:Nat) (rows:List PRow) (y:List Rat):Prop where
  ly:y.length=m
  s1:∀k,k<m→(rows.getD k default).kind=1→el y k≤0
  s2:∀k,k<m→(rows.getD k default).kind=2→0≤el y k
def zUQ (nC m:Nat) (rows:List PRow) (y:List Rat):Prop:=Signs m rows y∧(∀j,j<nC→zai m (fun i=>el y i*el (rows.getD i default).coef j)≤0)∧0<sb y rows
def zUP (nC m:Nat) (cost:List Rat) (rows:List PRow) (x y:List Rat):Prop:=Signs m rows y∧x.length=nC∧znD cost rows x=true∧(∀j,j<nC→zai m (fun i=>el y i*el (rows.getD i default).coef j)≤el cost j)∧dot cost x=sb y rows
def zUE (nC:Nat) (cost:List Rat) (rows:List PRow) (x d:List Rat):Prop:=x.length=nC∧znD cost rows x=true∧d.length=nC∧(∀j,0≤el d j)∧(∀p∈rows,zWY p d)∧dot cost d<0
section
variable {nC m N:Nat} {cost:List Rat} {rows:List PRow} (hg:Good1 nC m cost rows) (hlc:cost.length=nC) (hlr:rows.length=m) (hN:nC+cnt rows m=N)
include hg hlc hlr hN
theorem zSE:∀k,k<rows.length→(rows.getD k default).coef.length=nC:=fun k hk=>(hg.rw_ _ (List.mem_of_getElem? (zaO hk))).1
theorem zVA:Rect m N (zc3 rows):=by have:=zlk (zSE hg hlc hlr hN);rw[hlr,hN]at this;exact this
theorem zVz:(zg8 rows).length=m:=by rw[zxG,hlr]
end
section
variable {nC m N:Nat} {cost:List Rat} {rows:List PRow} (hg:Good1 nC m cost rows) (hlc:cost.length=nC) (hlr:rows.length=m) (hN:nC+cnt rows m=N)
include hg hlr in
theorem z6N:∀r∈zc3 rows,∀q∈r,mw q≤1:=fun r hr q a=>by
 unfold zc3 at hr;obtain⟨k,hk,rfl⟩:=List.mem_map.1 hr;rw[List.mem_range]at hk;rcases List.mem_append.1 a with h1 | h1
 ·exact(hg.rw_ _ (List.mem_of_getElem? (zaO hk))).2.1 q h1
 ·exact zsi rows k q h1
include hg in
theorem z6O:∀q∈zg8 rows,mw q≤1:=fun q d=>by
 obtain⟨p,a,rfl⟩:=List.mem_map.1 d;exact(hg.rw_ p a).2.2
include hg in
include hg hlc hlr hN in
end
