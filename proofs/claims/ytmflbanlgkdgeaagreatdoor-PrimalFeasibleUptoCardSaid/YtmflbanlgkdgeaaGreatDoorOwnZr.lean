/- Contracts and lemmas: Own Sol18. Conditions: as each says. -/
import Derived.Test.YtmflbanlgkdgeaaGreatDoorPrSZr
set_option linter.all false
set_option maxHeartbeats 1000000
set_option maxRecDepth 100000
namespace Go.Proofs.YtmflbanlgkdgeaaGreatDoor
open Go.RowKit Am
theorem z6K{b ys:List Rat}{m S:Nat}(e:b.length=m)(d:ys.length=m)(zy:∀q∈ys,mw q≤S):∀q∈bkL (b.map sgI) ys m,mw q≤S:=fun q f=>by
 obtain⟨i,a⟩:=List.mem_iff_getElem?.1 f;have c:=(List.getElem?_eq_some_iff.1 a).1;rw[zSJ,d]at c;rw[←znd a,zWQ e d c,zWX];exact zrz zy (by omega)
section
variable {nC m N:Nat} {cost:List Rat} {rows:List PRow} (hg:Good1 nC m cost rows) (hlc:cost.length=nC) (hlr:rows.length=m) (hN:nC+cnt rows m=N)
include hg hlr in
include hg in
include hg in
include hg hlc hlr hN in
end
def oO:Out→Int
  | .spent _=>0
  | .none .. => 2
  | .best .. => 1
  | .falls .. => 3
section
variable (nC m:Nat) (cost:List Rat) (rows:List PRow)
def oX:Out→List Rat
  | .best cols _=>(zh1 (nC+cnt rows m+m) cols (za5 (zt0 (zc3 rows) (zg8 rows)) (zwh (zg8 rows)) cols)).take nC
  | .falls cols _ _=>(zh1 (nC+cnt rows m+m) cols (za5 (zt0 (zc3 rows) (zg8 rows)) (zwh (zg8 rows)) cols)).take nC
  | _=>[]
def oY:Out→List Rat
  | .none cols _=>bkL ((zg8 rows).map sgI) (zcl (zt0 (zc3 rows) (zg8 rows)) cols (zJG (nC+cnt rows m) m)) m
  | .best cols _=>bkL ((zg8 rows).map sgI) (zcl (zt0 (zc3 rows) (zg8 rows)) cols (zKb m (zjD cost rows))) m
  | _=>[]
def oZ:Out→List Rat
  | .falls cols j _=>(zTj (nC+cnt rows m+m) cols (zav (zt0 (zc3 rows) (zg8 rows)) cols j) j m).take nC
  | _=>[]
def sol:Out:=zSA (nC+cnt rows m) m (zc3 rows) (zg8 rows) (zjD cost rows) 4000
structure Sol (o:Int) (X Y Z:List Rat):Prop where
  shows:(o=1∧zUP nC m cost rows X Y∧Z=[])∨(o=2∧X=[]∧zUQ nC m rows Y∧Z=[])∨(o=3∧Y=[]∧zUE nC cost rows X Z)
  zx:∀q∈X,mw q≤sB m 1 1
  zy:∀q∈Y,mw q≤sB m 1 1
  zz:∀q∈Z,mw q≤sB m 1 1+2
end
theorem z6G:∀a,a≤9→∀b,b≤4→2*binom (a+b) b+b≤4000:=by decide +kernel
section
variable {nC m:Nat} {cost:List Rat} {rows:List PRow} (hg:Good1 nC m cost rows) (hlc:cost.length=nC) (hlr:rows.length=m)
include hg in
theorem z6C:2*binom (nC+cnt rows m+m) m+m≤4000:=z6G _ (by have:=hg.hc;have:=hg.hr;have:=zgO rows m;omega) _ hg.hr
include hg hlc hlr
end
def z6n (w:World) (o:Int) (X Y Z:List Rat) (n:Nat) (e:Ending) (w':World):Prop :=
  ∃(P:OA) (nP cP:Nat) (Q:OA) (nQ cQ:Nat) (D:OA) (nD cD:Nat),e=.returned (.tuple #[.agg #[.int .i64 o,.slice P nP cP,.slice Q nQ cQ,.slice D nD cD,.int .i64 (n:Int)],.nilIface])∧VecS w' 0 (.slice P nP cP) X∧VecS w' 0 (.slice Q nQ cQ) Y∧VecS w' 0 (.slice D nD cD) Z∧Below w.heap.size w w'
theorem zVM.u{w:World}{nC m:Nat}{cost:List Rat}{rows:List PRow}{B:Nat}{o:Out}{e:Ending}{w':World}(h:zVM w nC m (nC+cnt rows m) (nC+cnt rows m+m) (zc3 rows) (zg8 rows) (zjD cost rows) B o e w')(l:∀n,o≠.spent n):z6n w (oO o) (oX nC m rows o) (oY nC m cost rows o) (oZ nC m rows o) o.pivots e w':=by
 obtain⟨d,h⟩:=h;cases o with
 | spent n=>exact(l n rfl).elim
 | none cols n =>
  obtain⟨Y,c,a,g⟩:=h;exact⟨none,0,0,Y,m,c,none,0,0,a,.nil _ _,g.base (Nat.zero_le _),.nil _ _,d⟩
 | best cols n =>
  obtain⟨P,b,Y,c,a,f,g⟩:=h;exact⟨P,nC,b,Y,m,c,none,0,0,a,f.base (Nat.zero_le _),g.base (Nat.zero_le _),.nil _ _,d⟩
 | falls cols j n =>
  obtain⟨P,b,D,i,a,f,k⟩:=h;exact⟨P,nC,b,none,0,0,D,nC,i,a,f.base (Nat.zero_le _),.nil _ _,k.base (Nat.zero_le _),d⟩
namespace Pr
section
variable (C:OA) (nC cC:Nat) (R:OA) (m cR:Nat) (cost:List Rat) (rows:List PRow) (w:World) (hc:VecS w 0 (.slice C nC cC) cost) (hr:RowsS w 0 (.slice R m cR) rows) (hg:Good1 nC m cost rows)
include hc hr hg
end
