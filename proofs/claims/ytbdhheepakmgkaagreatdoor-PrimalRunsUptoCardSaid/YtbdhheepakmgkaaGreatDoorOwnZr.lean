/- Contracts and lemmas: Own Sol18. Conditions: as each says. -/
import Derived.Test.YtbdhheepakmgkaaGreatDoorPrSZr
set_option linter.all false
set_option maxHeartbeats 1000000
set_option maxRecDepth 100000
namespace Go.Proofs.YtbdhheepakmgkaaGreatDoor
open Go.RowKit Am
theorem z6Q{m N:Nat}{A:List (List Rat)}{cols:List Nat}{col:List Rat}{Z:Nat}(f:Basis m N A cols)(a:1≤Z)(zc:∀q∈col,mw q≤Z)(j:Nat):∀q∈zTj N cols col j m,mw q≤Z+2:=fun q g=>by
 obtain⟨i,c⟩:=List.mem_iff_getElem?.1 g;have d:=(List.getElem?_eq_some_iff.1 c).1;rw[zSN]at d;have e:=c;rw[zTf d]at e;injection e with e;rw[←e];show mw ((if i=j then (1:Rat)else 0)+pt m (fun l=>cols.getD l 0) (fun l => -el col l) i)≤_
 have n:mw (if i=j then (1:Rat)else 0)≤1:=by split;exact mw1;exact mw0
 have h1:mw (pt m (fun l=>cols.getD l 0) (fun l => -el col l) i)≤Z:=by
  by_cases b:Bas m (fun k=>cols.getD k 0) i
  ·obtain⟨k,hk,rfl⟩:=b;rw[zA7 f.inj _ hk,zhY];exact zDJ a zc k
  ·rw[zyz _ b];exact Nat.le_trans mw0 a
 have o:=zrI (if i=j then (1:Rat)else 0) (pt m (fun l=>cols.getD l 0) (fun l => -el col l) i);omega
theorem z6K{b ys:List Rat}{m S:Nat}(e:b.length=m)(d:ys.length=m)(zy:∀q∈ys,mw q≤S):∀q∈bkL (b.map sgI) ys m,mw q≤S:=fun q f=>by
 obtain⟨i,a⟩:=List.mem_iff_getElem?.1 f;have c:=(List.getElem?_eq_some_iff.1 a).1;rw[zSJ,d]at c;rw[←znd a,zWQ e d c,zWX];exact zrz zy (by omega)
section
variable {nC m N:Nat} {cost:List Rat} {rows:List PRow} (hg:Good1 nC m cost rows) (hlc:cost.length=nC) (hlr:rows.length=m) (hN:nC+cnt rows m=N)
include hg hlr in
theorem z6N:∀r∈zc3 rows,∀q∈r,mw q≤1:=fun r hr q a=>by
 unfold zc3 at hr;obtain⟨k,hk,rfl⟩:=List.mem_map.1 hr;rw[List.mem_range]at hk;rcases List.mem_append.1 a with h1 | h1
 ·exact(hg.rw_ _ (List.mem_of_getElem? (zaO hk))).2.1 q h1
 ·exact zsi rows k q h1
include hg in
theorem z6O:∀q∈zg8 rows,mw q≤1:=fun q b=>by
 obtain⟨p,a,rfl⟩:=List.mem_map.1 b;exact(hg.rw_ p a).2.2
include hg in
theorem z6P:∀q∈zjD cost rows,mw q≤1:=fun q a=>by
 rcases List.mem_append.1 a with h1 | h1
 ·exact hg.sc q h1
 ·rw[(List.mem_replicate.1 h1).2];decide
include hg hlc hlr hN in
theorem z6F{B:Nat}(i:2*binom (N+m) m+m≤B):match zSA N m (zc3 rows) (zg8 rows) (zjD cost rows) B with
  | .spent _=>False
  | .none cols _=>∀q∈bkL ((zg8 rows).map sgI) (zcl (zt0 (zc3 rows) (zg8 rows)) cols (zJG N m)) m,mw q≤sB m 1 1
  | .best cols _=>(∀q∈(zh1 (N+m) cols (za5 (zt0 (zc3 rows) (zg8 rows)) (zwh (zg8 rows)) cols)).take nC,mw q≤sB m 1 1)∧∀q∈bkL ((zg8 rows).map sgI) (zcl (zt0 (zc3 rows) (zg8 rows)) cols (zKb m (zjD cost rows))) m,mw q≤sB m 1 1
  | .falls cols j _=>(∀q∈(zh1 (N+m) cols (za5 (zt0 (zc3 rows) (zg8 rows)) (zwh (zg8 rows)) cols)).take nC,mw q≤sB m 1 1)∧∀q∈(zTj (N+m) cols (zav (zt0 (zc3 rows) (zg8 rows)) cols j) j m).take nC,mw q≤sB m 1 1+2:=by
 have g:=zVA hg hlc hlr hN;have c:=zVz hg hlc hlr hN;have hc:(zjD cost rows).length=N:=by unfold zjD;rw[List.length_append,List.length_replicate,hlc,hlr];exact hN
 have d:=(zUc g c hc i).1;have zA:=zXc (b:=zg8 rows) (Nat.le_refl 1) (z6N hg hlr);have zb:=zXd (z6O hg);have zc:=zXe (m:=m) (Nat.le_refl 1) (z6P hg);have n:(zwh (zg8 rows)).length=m:=by rw[zUh,c]
 have e:1≤sB m 1 1:=zma _ _ _
 have P:∀cols,Basis m (N+m) (zt0 (zc3 rows) (zg8 rows)) cols→∀q∈(zh1 (N+m) cols (za5 (zt0 (zc3 rows) (zg8 rows)) (zwh (zg8 rows)) cols)).take nC,mw q≤sB m 1 1:=fun cols h q a =>
  z0l h (h.vals_ok _).2 (z0n h (zLu h zA) n zb) e q (List.mem_of_mem_take a)
 have Y:∀cols cs,Basis m (N+m) (zt0 (zc3 rows) (zg8 rows)) cols→cs.length=N+m→(∀q∈cs,mw q≤1)→∀q∈bkL ((zg8 rows).map sgI) (zcl (zt0 (zc3 rows) (zg8 rows)) cols cs) m,mw q≤sB m 1 1:=fun cols cs h l z =>
  z6K c (h.duals_ok cs).2 (znb h (zLu h zA) l z)
 generalize zSA N m (zc3 rows) (zg8 rows) (zjD cost rows) B=o at d ⊢;cases d with
 | none h f s v=>exact Y _ _ h (by simp[zJG]) (zTR N m)
 | best h s=>exact⟨P _ h.basis,Y _ _ h.basis (by simp[zKb,hc]) zc⟩
 | falls h s =>
  rename_i cols j k
  refine⟨P _ h.basis,fun q a=>z6Q h.basis e (zVc h.basis (zLu h.basis zA) fun q a=>?_) j q (List.mem_of_mem_take a)⟩;obtain⟨r,hr,rfl⟩:=List.mem_map.1 a;exact zDJ (Nat.le_refl 1) (zA r hr) j
end
def oO:Out→Int
  | .spent _=>0
  | .none .. => 2
  | .best .. => 1
  | .falls .. => 3
section
variable (nC m:Nat) (cost:List Rat) (rows:List PRow)
def oX:Out→List Rat
  | .best cols _=>(zh1 (nC+cnt rows m+m) cols (za5 (zt0 (zc3 rows) (zg8 rows)) (zwh (zg8 rows)) cols)).take nC
  | .falls cols _ _=>(zh1 (nC+cnt rows m+m) cols (za5 (zt0 (zc3 rows) (zg8 rows)) (zwh (zg8 rows)) cols)).take nC
  | _=>[]
def oY:Out→List Rat
  | .none cols _=>bkL ((zg8 rows).map sgI) (zcl (zt0 (zc3 rows) (zg8 rows)) cols (zJG (nC+cnt rows m) m)) m
  | .best cols _=>bkL ((zg8 rows).map sgI) (zcl (zt0 (zc3 rows) (zg8 rows)) cols (zKb m (zjD cost rows))) m
  | _=>[]
def oZ:Out→List Rat
  | .falls cols j _=>(zTj (nC+cnt rows m+m) cols (zav (zt0 (zc3 rows) (zg8 rows)) cols j) j m).take nC
  | _=>[]
def sol:Out:=zSA (nC+cnt rows m) m (zc3 rows) (zg8 rows) (zjD cost rows) 4000
structure Sol (o:Int) (X Y Z:List Rat):Prop where
  shows:(o=1∧zUP nC m cost rows X Y∧Z=[])∨(o=2∧X=[]∧zUQ nC m rows Y∧Z=[])∨(o=3∧Y=[]∧zUE nC cost rows X Z)
  zx:∀q∈X,mw q≤sB m 1 1
  zy:∀q∈Y,mw q≤sB m 1 1
  zz:∀q∈Z,mw q≤sB m 1 1+2
end
theorem z6G:∀a,a≤9→∀b,b≤4→2*binom (a+b) b+b≤4000:=by decide +kernel
section
variable {nC m:Nat} {cost:List Rat} {rows:List PRow} (hg:Good1 nC m cost rows) (hlc:cost.length=nC) (hlr:rows.length=m)
include hg in
theorem z6C:2*binom (nC+cnt rows m+m) m+m≤4000:=z6G _ (by have:=hg.hc;have:=hg.hr;have:=zgO rows m;omega) _ hg.hr
include hg hlc hlr
theorem z6D:(sol nC m cost rows).pivots≤2*binom (nC+cnt rows m+m) m+m∧∀a,((sol nC m cost rows).pivots≤a→zSA (nC+cnt rows m) m (zc3 rows) (zg8 rows) (zjD cost rows) a=sol nC m cost rows)∧(a<(sol nC m cost rows).pivots→∃n,zSA (nC+cnt rows m) m (zc3 rows) (zg8 rows) (zjD cost rows) a=.spent n):=by
 have b:=zVA hg hlc hlr rfl;have c:=zVz hg hlc hlr rfl;have hc:(zjD cost rows).length=nC+cnt rows m:=by unfold zjD;rw[List.length_append,List.length_replicate,hlc,hlr]
 exact(zUc b c hc (z6C hg)).2
theorem z6W:Sol nC m cost rows (oO (sol nC m cost rows)) (oX nC m rows (sol nC m cost rows)) (oY nC m cost rows (sol nC m cost rows)) (oZ nC m rows (sol nC m cost rows)):=by
 have h1:=z6E hg hlc hlr rfl (z6C hg);have a:=z6F hg hlc hlr rfl (z6C hg);unfold sol;generalize zSA (nC+cnt rows m) m (zc3 rows) (zg8 rows) (zjD cost rows) 4000=o at *
 have nil:∀ {S:Nat},∀q∈([]:List Rat),mw q≤S:=fun q b=>by cases b
 cases o with
 | spent n=>exact h1.elim
 | none cols n=>exact⟨.inr (.inl ⟨rfl,rfl,h1,rfl⟩),nil,a,nil⟩
 | best cols n=>exact⟨.inl ⟨rfl,h1,rfl⟩,a.1,a.2,nil⟩
 | falls cols j n=>exact⟨.inr (.inr ⟨rfl,rfl,h1⟩),a.1,nil,a.2⟩
theorem z6H(n:Nat):sol nC m cost rows≠.spent n:=fun h=>by
 have h1:=z6E hg hlc hlr rfl (z6C hg);unfold sol at h;rw[h]at h1;exact h1
end
def z6n (w:World) (o:Int) (X Y Z:List Rat) (n:Nat) (e:Ending) (w':World):Prop :=
  ∃(P:OA) (nP cP:Nat) (Q:OA) (nQ cQ:Nat) (D:OA) (nD cD:Nat),e=.returned (.tuple #[.agg #[.int .i64 o,.slice P nP cP,.slice Q nQ cQ,.slice D nD cD,.int .i64 (n:Int)],.nilIface])∧VecS w' 0 (.slice P nP cP) X∧VecS w' 0 (.slice Q nQ cQ) Y∧VecS w' 0 (.slice D nD cD) Z∧Below w.heap.size w w'
theorem zVM.u{w:World}{nC m:Nat}{cost:List Rat}{rows:List PRow}{B:Nat}{o:Out}{e:Ending}{w':World}(h:zVM w nC m (nC+cnt rows m) (nC+cnt rows m+m) (zc3 rows) (zg8 rows) (zjD cost rows) B o e w')(l:∀n,o≠.spent n):z6n w (oO o) (oX nC m rows o) (oY nC m cost rows o) (oZ nC m rows o) o.pivots e w':=by
 obtain⟨d,h⟩:=h;cases o with
 | spent n=>exact(l n rfl).elim
 | none cols n =>
  obtain⟨Y,c,a,g⟩:=h;exact⟨none,0,0,Y,m,c,none,0,0,a,.nil _ _,g.base (Nat.zero_le _),.nil _ _,d⟩
 | best cols n =>
  obtain⟨P,b,Y,c,a,f,g⟩:=h;exact⟨P,nC,b,Y,m,c,none,0,0,a,f.base (Nat.zero_le _),g.base (Nat.zero_le _),.nil _ _,d⟩
 | falls cols j n =>
  obtain⟨P,b,D,i,a,f,k⟩:=h;exact⟨P,nC,b,none,0,0,D,nC,i,a,f.base (Nat.zero_le _),.nil _ _,k.base (Nat.zero_le _),d⟩
namespace Pr
section
variable (C:OA) (nC cC:Nat) (R:OA) (m cR:Nat) (cost:List Rat) (rows:List PRow) (w:World) (hc:VecS w 0 (.slice C nC cC) cost) (hr:RowsS w 0 (.slice R m cR) rows) (hg:Good1 nC m cost rows)
include hc hr hg
theorem z6T(K:Nat)(a:(sol nC m cost rows).pivots≤K)(b:K≤1000000):Calls Tryz.prog 42 #[.agg #[.slice C nC cC,.slice R m cR],.int .i64 (K:Int)] w (z6n w (oO (sol nC m cost rows)) (oX nC m rows (sol nC m cost rows)) (oY nC m cost rows (sol nC m cost rows)) (oZ nC m rows (sol nC m cost rows)) (sol nC m cost rows).pivots):=by
 have h:=psolve C nC cC R m cR cost rows _ _ K w hc hr hg rfl rfl b;rw[((z6D hg hc.len.symm hr.len.symm).2 K).1 a]at h;exact h.mono fun _ _ h=>h.u (z6H hg hc.len.symm hr.len.symm)
theorem z6X:Calls Tryz.prog 42 #[.agg #[.slice C nC cC,.slice R m cR],.int .i64 4000] w (z6n w (oO (sol nC m cost rows)) (oX nC m rows (sol nC m cost rows)) (oY nC m cost rows (sol nC m cost rows)) (oZ nC m rows (sol nC m cost rows)) (sol nC m cost rows).pivots) :=
 z6T C nC cC R m cR cost rows w hc hr hg 4000 (Nat.le_trans (z6D hg hc.len.symm hr.len.symm).1 (z6C hg)) (by decide)
theorem z6Y(K:Nat)(b:K<(sol nC m cost rows).pivots):Calls Tryz.prog 42 #[.agg #[.slice C nC cC,.slice R m cR],.int .i64 (K:Int)] w fun e w'=>∃(a num:Nat),e=.returned (.tuple #[.agg #[.int .i64 0,.slice none 0 0,.slice none 0 0,.slice none 0 0,.int .i64 0],.iface 151 (.pointer (some ⟨a,0,none⟩))])∧num≤K∧w'.heap[a]? = some (.cells #[.string zve,.int .i64 (num:Int),.iface 81 (.int .i64 180)] 153 (0,0))∧Below w.heap.size w w':=by
 have f:=(z6D hg hc.len.symm hr.len.symm).1;have d:=z6C hg;have h:=psolve C nC cC R m cR cost rows _ _ K w hc hr hg rfl rfl (by omega);obtain⟨n,c⟩:=((z6D hg hc.len.symm hr.len.symm).2 K).2 b;rw[c]at h;refine h.mono fun e w' ⟨hb,ev,he,a,num,hev,hnum,hf⟩=>?_
 subst hev;exact⟨a,num,he,hnum,hf,hb⟩
end
