/- Contracts and lemmas: CaK CaA Sol21 Bsp Told Sol18. Conditions: as each says. -/
import Derived.Test.YtbhfhkcdfmmmiaaGreatCan1Zj
set_option linter.all false
set_option maxHeartbeats 2000000
set_option maxRecDepth 100000
namespace Go.Proofs.YtbhfhkcdfmmmiaaGreat
open Go.RowKit Am
attribute [local go_sem ↓] Go.wp_at_zero Go.wp_at_succ
variable {rows:List PRow}{cost:List Rat}{B N m nC:Nat}
def keepT (p:List Rat) (may:List Bool) (k:Nat):List Bool:=(List.range may.length).map fun j=>if j<k then may.getD j false&&decide (el p j=0)else may.getD j false
section
variable {W0 w w':World} {H q:Nat} {rA:OA} {rc:Nat} {lA:List Value} {bA:OA} {bc_:Nat} {kA:OA} {kc:Nat} {eA:OA} {ec m N S own:Nat} {A:List (List Rat)} {b c:List Rat} {left:List Int}
  {tA:OA} {tc:Nat} {cols:List Nat}
namespace Ca
end Ca
end
open Pb (zPu)
def ytf (nC NN:Nat) (A:List (List Rat)) (b:List Rat) (G:List Nat):List Rat:=(zh1 NN G (za5 A b G)).take nC
section
variable {W0 w w':World} {H q:Nat} {rA:OA} {rc:Nat} {lA:List Value} {bA:OA} {bc_:Nat} {kA:OA} {kc:Nat} {eA:OA} {ec m N S own:Nat} {A:List (List Rat)} {b c:List Rat} {left:List Int}
  {tA:OA} {tc:Nat} {cols:List Nat}
namespace Ca
end Ca
end
section
variable (nC m:Nat) (cost:List Rat) (rows:List PRow)
def cX:COut→List Rat
  | .best _ G _=>ytf nC (nC+cnt rows m+m) (zt0 (zc3 rows) (zg8 rows)) (zwh (zg8 rows)) G
  | _=>[]
def cV:COut→Rat
  | .best _ G _=>dot cost (ytf nC (nC+cnt rows m+m) (zt0 (zc3 rows) (zg8 rows)) (zwh (zg8 rows)) G)
  | _=>0
end
section
variable {nC m:Nat} {cost:List Rat} {rows:List PRow} (hg:Good1 nC m cost rows) (hlc:cost.length=nC) (hlr:rows.length=m)
include hg hlc hlr
end
namespace Ca
section
variable (C:OA) (nC cC:Nat) (R:OA) (m cR:Nat) (cost:List Rat) (rows:List PRow) (w:World) (hc:VecS w 0 (C,nC,cC) cost) (hr:RowsS w 0 (R,m,cR) rows) (hg:Good1 nC m cost rows)
include hc hr hg
end
end Ca
theorem yvx{n:Nat}(h:n≤N)(cols:List Nat)(xs:List Rat):(zh1 N cols xs).take n=(List.range n).map fun j=>pt cols.length (fun k=>cols.getD k 0) (el xs) j:=by
 unfold zh1;rw[←List.map_take,List.take_range,Xb h]
section
variable {nC m:Nat} {cost:List Rat} {rows:List PRow} (hg:Good1 nC m cost rows) (hlc:cost.length=nC) (hlr:rows.length=m)
include hg hlc hlr
end
namespace Ca
end Ca
theorem yxb{A:List (List Rat)}{b:List Rat}{G:List Nat}(d:G.length=m)(hN:nC≤N){X:Nat→Rat}(a:∀j,X j=pt m (fun k=>G.getD k 0) (el (za5 A b G)) j):ytf nC N A b G=(List.range nC).map X:=by
 unfold ytf;rw[yvx hN,d];exact YC fun j _=>(a j).symm
def oO:Out→Int
  | .spent _=>0
  | .none .. => 2
  | .best .. => 1
  | .falls .. => 3
section
variable (nC m:Nat) (cost:List Rat) (rows:List PRow)
def oX:Out→List Rat
  | .best cols _=>(zh1 (nC+cnt rows m+m) cols (za5 (zt0 (zc3 rows) (zg8 rows)) (zwh (zg8 rows)) cols)).take nC
  | .falls cols _ _=>(zh1 (nC+cnt rows m+m) cols (za5 (zt0 (zc3 rows) (zg8 rows)) (zwh (zg8 rows)) cols)).take nC
  | _=>[]
def oY:Out→List Rat
  | .none cols _=>bkL ((zg8 rows).map sgI) (zcl (zt0 (zc3 rows) (zg8 rows)) cols (zJG (nC+cnt rows m) m)) m
  | .best cols _=>bkL ((zg8 rows).map sgI) (zcl (zt0 (zc3 rows) (zg8 rows)) cols (zKb m (zjD cost rows))) m
  | _=>[]
def oZ:Out→List Rat
  | .falls cols j _=>(zTj (nC+cnt rows m+m) cols (zav (zt0 (zc3 rows) (zg8 rows)) cols j) j m).take nC
  | _=>[]
def sol:Out:=zSA (nC+cnt rows m) m (zc3 rows) (zg8 rows) (zjD cost rows) 4000
structure Sol (S:Nat) (o:Int) (X Y Z:List Rat):Prop where
  shows:(o=1∧zUP nC m cost rows X Y∧Z=[])∨(o=2∧X=[]∧zUQ nC m rows Y∧Z=[])∨(o=3∧Y=[]∧zUE nC cost rows X Z)
  zx:∀q∈X,mw q≤sB m S S
  zy:∀q∈Y,mw q≤sB m S S
  zz:∀q∈Z,mw q≤sB m S S+2
end
def Few (nC m:Nat) (rows:List PRow):Prop:=low (nC+cnt rows m) m+m+pmax 0 (nC+cnt rows m) m≤4000
theorem yxY(hc:nC≤5)(hm:m≤5)(h:nC+cnt rows m≤10):Few nC m rows:=yZD _ (by omega) _ hm
theorem Good1.few(h:Good1 nC m cost rows):Few nC m rows:=yxY h.hc (by have:=h.hr;omega) (by have:=h.hc;have:=h.hr;have:=zgO rows m;omega)
section
variable {S nC m:Nat} {cost:List Rat} {rows:List PRow} (hg:GoodS S nC m cost rows) (hF:Few nC m rows) (hlc:cost.length=nC) (hlr:rows.length=m)
include hg hF hlc hlr
theorem yxd(d:low (nC+cnt rows m) m+m+pmax 0 (nC+cnt rows m) m≤B):Am.Ends m (nC+cnt rows m) (zc3 rows) (zg8 rows) (zjD cost rows) (zSA (nC+cnt rows m) m (zc3 rows) (zg8 rows) (zjD cost rows) B)∧(zSA (nC+cnt rows m) m (zc3 rows) (zg8 rows) (zjD cost rows) B).pivots≤low (nC+cnt rows m) m+m+pmax 0 (nC+cnt rows m) m∧∀a,((zSA (nC+cnt rows m) m (zc3 rows) (zg8 rows) (zjD cost rows) B).pivots≤a→zSA (nC+cnt rows m) m (zc3 rows) (zg8 rows) (zjD cost rows) a=zSA (nC+cnt rows m) m (zc3 rows) (zg8 rows) (zjD cost rows) B)∧(a<(zSA (nC+cnt rows m) m (zc3 rows) (zg8 rows) (zjD cost rows) B).pivots→∃n,zSA (nC+cnt rows m) m (zc3 rows) (zg8 rows) (zjD cost rows) a=.spent n) :=
 yYO (P:=0) (zVA hg.sh hlc hlr rfl) (zVz hg.sh hlc hlr rfl) (by unfold zjD;rw[Zj,Zr,hlc,hlr]) (by omega) (fun t h=>absurd h (ZK _)) d
theorem z6D:(sol nC m cost rows).pivots≤4000∧∀a,((sol nC m cost rows).pivots≤a→zSA (nC+cnt rows m) m (zc3 rows) (zg8 rows) (zjD cost rows) a=sol nC m cost rows)∧(a<(sol nC m cost rows).pivots→∃n,zSA (nC+cnt rows m) m (zc3 rows) (zg8 rows) (zjD cost rows) a=.spent n):=by
 obtain⟨_,d,e⟩:=yxd hg hF hlc hlr hF;exact⟨Zc d hF,e⟩
theorem z6W:Sol nC m cost rows S (oO (sol nC m cost rows)) (oX nC m rows (sol nC m cost rows)) (oY nC m cost rows (sol nC m cost rows)) (oZ nC m rows (sol nC m cost rows)):=by
 have d:=(yxd hg hF hlc hlr hF).1;have h1:=z6E hg.sh hlc hlr rfl d;have a:=z6F hg hlc hlr rfl d;unfold sol;generalize zSA (nC+cnt rows m) m (zc3 rows) (zg8 rows) (zjD cost rows) 4000=o at *
 have nil:∀ {S:Nat},∀q∈([]:List Rat),mw q≤S:=fun q e=>by cases e
 cases o with
 | spent n=>grind
 | none cols n=>exact⟨.inr (.inl ⟨rfl,rfl,h1,rfl⟩),nil,a,nil⟩
 | best cols n=>exact⟨.inl ⟨rfl,h1,rfl⟩,a.1,a.2,nil⟩
 | falls cols j n=>exact⟨.inr (.inr ⟨rfl,rfl,h1⟩),a.1,nil,a.2⟩
theorem z6H(n:Nat):sol nC m cost rows≠.spent n:=fun h=>by
 have h1:=(yxd hg hF hlc hlr hF).1;unfold sol at h;rw[h]at h1;cases h1
end
def z6n (w:World) (o:Int) (X Y Z:List Rat) (n:Nat) (e:Ending) (w':World):Prop :=
  ∃(P:OA) (nP cP:Nat) (Q:OA) (nQ cQ:Nat) (D:OA) (nD cD:Nat),e=.returned (.tuple #[.agg #[.int .i64 o,(P,nP,cP),(Q,nQ,cQ),(D,nD,cD),(n:Int)],.nilIface])∧VecS w' 0 (P,nP,cP) X∧VecS w' 0 (Q,nQ,cQ) Y∧VecS w' 0 (D,nD,cD) Z∧Below w w w'
theorem zVM.u{w:World}{o:Out}{e:Ending}{w':World}(h:zVM w nC m (nC+cnt rows m) (nC+cnt rows m+m) (zc3 rows) (zg8 rows) (zjD cost rows) B o e w')(r:∀n,o≠.spent n):z6n w (oO o) (oX nC m rows o) (oY nC m cost rows o) (oZ nC m rows o) o.pivots e w':=by
 obtain⟨g,h⟩:=h;cases o with
 | spent n=>exact(r n rfl).elim
 | none cols n =>
  obtain⟨Y,f,a,k⟩:=h;exact⟨none,0,0,Y,m,f,none,0,0,a,.nil _ _,k.base (Zb _),.nil _ _,g⟩
 | best cols n =>
  obtain⟨P,d,Y,f,a,i,k⟩:=h;exact⟨P,nC,d,Y,m,f,none,0,0,a,i.base (Zb _),k.base (Zb _),.nil _ _,g⟩
 | falls cols j n =>
  obtain⟨P,d,D,l,a,i,p⟩:=h;exact⟨P,nC,d,none,0,0,D,nC,l,a,i.base (Zb _),.nil _ _,p.base (Zb _),g⟩
namespace Pr
section
variable (S:Nat) (C:OA) (nC cC:Nat) (R:OA) (m cR:Nat) (cost:List Rat) (rows:List PRow) (w:World) (hc:VecS w 0 (C,nC,cC) cost) (hr:RowsS w 0 (R,m,cR) rows) (hg:GoodS S nC m cost rows) (hF:Few nC m rows)
include hc hr hg hF
theorem z6T(K:Nat)(a:(sol nC m cost rows).pivots≤K)(d:K≤1000000):Calls Tryz.prog 29 #[.agg #[(C,nC,cC),(R,m,cR)],(K:Int)] w (z6n w (oO (sol nC m cost rows)) (oX nC m rows (sol nC m cost rows)) (oY nC m cost rows (sol nC m cost rows)) (oZ nC m rows (sol nC m cost rows)) (sol nC m cost rows).pivots):=by
 have h:=psolve S C nC cC R m cR cost rows _ _ K w hc hr hg rfl rfl d;rw[((z6D hg hF hc.len.symm hr.len.symm).2 K).1 a]at h;exact h.mono fun _ _ h=>h.u (z6H hg hF hc.len.symm hr.len.symm)
theorem z6X:Calls Tryz.prog 29 #[.agg #[(C,nC,cC),(R,m,cR)],.int .i64 4000] w (z6n w (oO (sol nC m cost rows)) (oX nC m rows (sol nC m cost rows)) (oY nC m cost rows (sol nC m cost rows)) (oZ nC m rows (sol nC m cost rows)) (sol nC m cost rows).pivots) :=
 z6T S C nC cC R m cR cost rows w hc hr hg hF 4000 (z6D hg hF hc.len.symm hr.len.symm).1 (by decide)
end
