/- Contracts and lemmas: Sol21 Bsp Told Tnp Sol18. Conditions: as each says. -/
import Derived.Test.YtbhfhkcdfmmmiaaGreatCaSZv
set_option linter.all false
set_option maxHeartbeats 1000000
set_option maxRecDepth 100000
namespace Go.Proofs.YtbhfhkcdfmmmiaaGreat
open Go.RowKit Am
open Ca (solve)
variable {e:Ending}{rows:List PRow}{cost:List Rat}{B N S m nC:Nat}{w w':World}
def cO:COut→Int
  | .spent _=>0
  | .none _=>2
  | .best .. => 1
  | .falls _=>3
section
variable (nC m:Nat) (cost:List Rat) (rows:List PRow)
def cX:COut→List Rat
  | .best _ G _=>ytf nC (nC+cnt rows m+m) (zt0 (zc3 rows) (zg8 rows)) (zwh (zg8 rows)) G
  | _=>[]
def cV:COut→Rat
  | .best _ G _=>dot cost (ytf nC (nC+cnt rows m+m) (zt0 (zc3 rows) (zg8 rows)) (zwh (zg8 rows)) G)
  | _=>0
def cI:COut→List Nat
  | .best cols _ _=>ytJ (nC+cnt rows m) cols
  | _=>[]
def ys6:COut:=ys3 (nC+cnt rows m) m nC (zc3 rows) (zg8 rows) (zjD cost rows) 4000
end
theorem ytx:∀a,a≤9→∀b,b≤4→binom (a+b) b+b+bmax a b≤4000:=by decide +kernel
section
variable {nC m:Nat} {cost:List Rat} {rows:List PRow} (hg:Good1 nC m cost rows) (hlc:cost.length=nC) (hlr:rows.length=m)
include hg hlc hlr
theorem ys8:CEnds m (nC+cnt rows m) nC (zc3 rows) (zg8 rows) (zjD cost rows) (ys6 nC m cost rows)∧(ys6 nC m cost rows).pivots≤4000∧∀B,((ys6 nC m cost rows).pivots≤B→ys3 (nC+cnt rows m) m nC (zc3 rows) (zg8 rows) (zjD cost rows) B=ys6 nC m cost rows)∧(B<(ys6 nC m cost rows).pivots→ys3 (nC+cnt rows m) m nC (zc3 rows) (zg8 rows) (zjD cost rows) B=.spent B):=by
 have b:=zVA hg.toS.sh hlc hlr rfl;have c:=zVz hg.toS.sh hlc hlr rfl;have hc:(zjD cost rows).length=nC+cnt rows m:=by unfold zjD;rw[List.length_append,List.length_replicate,hlc,hlr]
 have f:=ytx (nC+cnt rows m) (by have:=hg.hc;have:=hg.hr;have:=zgO rows m;omega) m hg.hr;obtain⟨o,h1,d,a⟩:=yty (own:=nC) b c hc (by omega);have e:ys6 nC m cost rows=o:=(a 4000).1 (by omega);rw[e];exact⟨h1,by omega,a⟩
theorem ytu:(∀q∈cX nC m rows (ys6 nC m cost rows),mw q≤sB m 1 1)∧4*(mw (cV nC m cost rows (ys6 nC m cost rows))+mw (cV nC m cost rows (ys6 nC m cost rows)))+8≤LIM:=by
 have c:=(ys8 hg hlc hlr).1;have zA:=zXc (b:=zg8 rows) (Nat.le_refl 1) (z6N hg.toS hlr);have zb:=zXd (z6O hg.toS);have g:(zwh (zg8 rows)).length=m:=by rw[zUh,zVz hg.toS.sh hlc hlr rfl]
 generalize ys6 nC m cost rows=o at c ⊢;have d:4*(mw 0+mw 0)+8≤LIM:=by rw[zaP];decide +kernel
 cases c with
 | none h f s v=>exact⟨fun q a=>(by cases a),d⟩
 | falls h s=>exact⟨fun q a=>(by cases a),d⟩
 | best h s x e =>
  rename_i G n k L
  have P:∀q∈ytf nC (nC+cnt rows m+m) (zt0 (zc3 rows) (zg8 rows)) (zwh (zg8 rows)) G,mw q≤sB m 1 1:=fun q a=>z0l x.last.1 (x.last.1.vals_ok _).2 (z0n x.last.1 (zLu x.last.1 zA) g zb) (zma _ _ _) q (List.mem_of_mem_take a)
  refine⟨P,?_⟩;have i:=zVF m hg.hr;have:=zDI (xs:=cost) (ys:=ytf nC (nC+cnt rows m+m) (zt0 (zc3 rows) (zg8 rows)) (zwh (zg8 rows)) G) (fun q a=>Nat.le_trans (hg.sc q a) (by decide)) (fun q a=>Nat.le_trans (P q a) (by omega)) (by have:=hg.hc;omega);show 4*(mw (dot cost _)+mw (dot cost _))+8≤LIM
  rw[zaP];omega
end
def yu6 (w:World) (o:Int) (v:Rat) (X:List Rat) (I:List Nat) (n:Nat) (e:Ending) (w':World):Prop :=
  ∃(g:Bool) (A:OA) (m c:Nat) (D:OA) (md cd:Nat) (P:OA) (nP cP:Nat) (Ba:OA) (na ca:Nat),e=.returned (.tuple #[.agg #[.int .i64 o,g,(A,m,c),(D,md,cd),(P,nP,cP)],(n:Int),(Ba,na,ca),.nilIface])∧RatS w' g (A,m,c) (D,md,cd) v∧VecS w' 0 (P,nP,cP) X∧IntsS w' 0 (Ba,na,ca) I∧Below w w w'
theorem ytb.a{o:COut}(h:ytb w nC (nC+cnt rows m+m) (zt0 (zc3 rows) (zg8 rows)) (zwh (zg8 rows)) cost B (ytJ (nC+cnt rows m)) o e w')(q:∀n,o≠.spent n):yu6 w (cO o) (cV nC m cost rows o) (cX nC m rows o) (cI nC m rows o) o.pivots e w':=by
 obtain⟨b,h⟩:=h;cases o with
 | spent n=>exact(q n rfl).elim
 | none n=>exact⟨false,none,0,0,none,0,0,none,0,0,none,0,0,h,RatS.zero _,.nil _ _,IntsS.nil _ _,b⟩
 | falls n=>exact⟨false,none,0,0,none,0,0,none,0,0,none,0,0,h,RatS.zero _,.nil _ _,IntsS.nil _ _,b⟩
 | best cols G n =>
  obtain⟨g,A,s,c,D,r,j,P,f,d,t,i,k,hr,p,l⟩:=h;exact⟨g,A,s,c,D,r,j,P,nC,f,d,t,i,k,hr,p.base (Nat.zero_le _),l.base (Nat.zero_le _),b⟩
namespace Ca
section
variable (C:OA) (nC cC:Nat) (R:OA) (m cR:Nat) (cost:List Rat) (rows:List PRow) (w:World) (hc:VecS w 0 (C,nC,cC) cost) (hr:RowsS w 0 (R,m,cR) rows) (hg:Good1 nC m cost rows)
include hc hr hg
end
end Ca
open Ca (yuw)
theorem yvx{n:Nat}(h:n≤N)(cols:List Nat)(xs:List Rat):(zh1 N cols xs).take n=(List.range n).map fun j=>pt cols.length (fun k=>cols.getD k 0) (el xs) j:=by
 unfold zh1;rw[←List.map_take,List.take_range,Nat.min_eq_left h]
structure FromO (nC m N:Nat) (cost:List Rat) (rows:List PRow) (I:List Nat) (X:List Rat) (n:Nat):Prop where
  basis:Basis m N (zc3 rows) I
  right:zdi (zaC N (zc3 rows) I (zjD cost rows)) (List.replicate N true)=none
  dual:∀f,pivs (zbE N (zc3 rows) (zg8 rows) (zjD cost rows) (List.replicate N true)) f I=⟨I,none,0,false⟩
  frm:∃G k,yts N nC (zc3 rows) (zg8 rows) (zjD cost rows) 4000 I=.best I G k∧k≤n∧ytf nC N (zc3 rows) (zg8 rows) G=X
section
variable {nC m:Nat} {cost:List Rat} {rows:List PRow} (hg:Good1 nC m cost rows) (hlc:cost.length=nC) (hlr:rows.length=m)
include hg hlc hlr
end
namespace Ca
end Ca
theorem yxb{A:List (List Rat)}{b:List Rat}{G:List Nat}(c:G.length=m)(hN:nC≤N){X:Nat→Rat}(a:∀j,X j=pt m (fun k=>G.getD k 0) (el (za5 A b G)) j):ytf nC N A b G=(List.range nC).map X:=by
 unfold ytf;rw[yvx hN,c];exact List.map_congr_left fun j _=>(a j).symm
def yw0 (rows:List PRow) (t:Nat):List PRow:=(List.range rows.length).map fun k=>rows.getD ((k+t)%rows.length) default
def yxq (q:Rat) (p:PRow):PRow:=⟨scale q p.coef,p.kind,q*p.rhs⟩
def ywV (rows:List PRow) (t k:Nat) (q:Rat):List PRow:=yw0 rows t++[yxq q ((yw0 rows t).getD k default)]
theorem ywZ{k:Nat}(h:k<rows.length):rows.getD k default∈rows:=by
 rw[List.getD_eq_getElem?_getD,List.getElem?_eq_getElem h];exact List.getElem_mem h
def yxE (rows:List PRow) (t k:Nat):List PRow:=(yw0 rows t).take k++rows.drop k
theorem yxD:∀a,a≤10→∀b,b≤5→binom (a+b) b+b+bmax a b≤4000:=by decide +kernel
theorem yxV(hg:GoodS S nC m cost rows)(hlr:rows.length=m):Form nC m rows :=
 ⟨hlr,fun k hk=>(hg.rw_ _ (ywZ hk)).1,fun k hk=>by have:=hg.kd _ (ywZ hk);omega⟩
theorem yw6(hg:GoodS S nC m cost rows)(hlc:cost.length=nC)(hlr:rows.length=m)(hc:nC≤5)(hm:m≤5):Told nC m cost rows (ys6 nC m cost rows)∧∀n,ys6 nC m cost rows≠.spent n:=by
 have a:=yxV hg hlr;have c:(zjD cost rows).length=nC+cnt rows m:=by unfold zjD;rw[List.length_append,List.length_replicate,hlc,hlr]
 have f:=yxD (nC+cnt rows m) (by have:=zgO rows m;omega) m hm;obtain⟨o,h1,d,b⟩:=yty (own:=nC) (ywE a) (ywQ a) c (by omega);have e:ys6 nC m cost rows=o:=(b 4000).1 (by omega);rw[e];exact⟨ywS a hlc h1,h1.not⟩
namespace Ca
theorem yxW(S:Nat)(C:OA)(nC cC:Nat)(R:OA)(m cR:Nat)(cost:List Rat)(rows:List PRow)(w:World)(hc:VecS w 0 (C,nC,cC) cost)(hr:RowsS w 0 (R,m,cR) rows)(hg:GoodS S nC m cost rows)(b:nC≤5)(hm:m≤5):Calls Tryz.prog 16 #[.agg #[(C,nC,cC),(R,m,cR)],.int .i64 4000] w (yu6 w (cO (ys6 nC m cost rows)) (cV nC m cost rows (ys6 nC m cost rows)) (cX nC m rows (ys6 nC m cost rows)) (cI nC m rows (ys6 nC m cost rows)) (ys6 nC m cost rows).pivots) :=
 (solve S C nC cC R m cR cost rows _ _ 4000 w hc hr hg rfl rfl (by decide)).mono fun _ _ h=>ytb.a h (yw6 hg hc.len.symm hr.len.symm b hm).2
end Ca
def oO:Out→Int
  | .spent _=>0
  | .none .. => 2
  | .best .. => 1
  | .falls .. => 3
section
variable (nC m:Nat) (cost:List Rat) (rows:List PRow)
def oX:Out→List Rat
  | .best cols _=>(zh1 (nC+cnt rows m+m) cols (za5 (zt0 (zc3 rows) (zg8 rows)) (zwh (zg8 rows)) cols)).take nC
  | .falls cols _ _=>(zh1 (nC+cnt rows m+m) cols (za5 (zt0 (zc3 rows) (zg8 rows)) (zwh (zg8 rows)) cols)).take nC
  | _=>[]
def oY:Out→List Rat
  | .none cols _=>bkL ((zg8 rows).map sgI) (zcl (zt0 (zc3 rows) (zg8 rows)) cols (zJG (nC+cnt rows m) m)) m
  | .best cols _=>bkL ((zg8 rows).map sgI) (zcl (zt0 (zc3 rows) (zg8 rows)) cols (zKb m (zjD cost rows))) m
  | _=>[]
def oZ:Out→List Rat
  | .falls cols j _=>(zTj (nC+cnt rows m+m) cols (zav (zt0 (zc3 rows) (zg8 rows)) cols j) j m).take nC
  | _=>[]
def sol:Out:=zSA (nC+cnt rows m) m (zc3 rows) (zg8 rows) (zjD cost rows) 4000
structure Sol (S:Nat) (o:Int) (X Y Z:List Rat):Prop where
  shows:(o=1∧zUP nC m cost rows X Y∧Z=[])∨(o=2∧X=[]∧zUQ nC m rows Y∧Z=[])∨(o=3∧Y=[]∧zUE nC cost rows X Z)
  zx:∀q∈X,mw q≤sB m S S
  zy:∀q∈Y,mw q≤sB m S S
  zz:∀q∈Z,mw q≤sB m S S+2
end
theorem z6G:∀a,a≤10→∀b,b≤5→binom (a+b) b+b+bmax a b≤4000:=by decide +kernel
def Few (nC m:Nat) (rows:List PRow):Prop:=binom (nC+cnt rows m+m) m+m+bmax (nC+cnt rows m) m≤4000
theorem yxY(hc:nC≤5)(hm:m≤5)(h:nC+cnt rows m≤10):Few nC m rows:=z6G _ h _ hm
theorem Good1.few(h:Good1 nC m cost rows):Few nC m rows:=yxY h.hc (by have:=h.hr;omega) (by have:=h.hc;have:=h.hr;have:=zgO rows m;omega)
section
variable {S nC m:Nat} {cost:List Rat} {rows:List PRow} (hg:GoodS S nC m cost rows) (hF:Few nC m rows) (hlc:cost.length=nC) (hlr:rows.length=m)
include hg hF hlc hlr
theorem yxd(b:binom (nC+cnt rows m+m) m+m+bmax (nC+cnt rows m) m≤B):Am.Ends m (nC+cnt rows m) (zc3 rows) (zg8 rows) (zjD cost rows) (zSA (nC+cnt rows m) m (zc3 rows) (zg8 rows) (zjD cost rows) B)∧(zSA (nC+cnt rows m) m (zc3 rows) (zg8 rows) (zjD cost rows) B).pivots≤binom (nC+cnt rows m+m) m+m+bmax (nC+cnt rows m) m∧∀a,((zSA (nC+cnt rows m) m (zc3 rows) (zg8 rows) (zjD cost rows) B).pivots≤a→zSA (nC+cnt rows m) m (zc3 rows) (zg8 rows) (zjD cost rows) a=zSA (nC+cnt rows m) m (zc3 rows) (zg8 rows) (zjD cost rows) B)∧(a<(zSA (nC+cnt rows m) m (zc3 rows) (zg8 rows) (zjD cost rows) B).pivots→∃n,zSA (nC+cnt rows m) m (zc3 rows) (zg8 rows) (zjD cost rows) a=.spent n) :=
 yxk (zVA hg.sh hlc hlr rfl) (zVz hg.sh hlc hlr rfl) (by unfold zjD;rw[List.length_append,List.length_replicate,hlc,hlr]) b
theorem z6D:(sol nC m cost rows).pivots≤4000∧∀a,((sol nC m cost rows).pivots≤a→zSA (nC+cnt rows m) m (zc3 rows) (zg8 rows) (zjD cost rows) a=sol nC m cost rows)∧(a<(sol nC m cost rows).pivots→∃n,zSA (nC+cnt rows m) m (zc3 rows) (zg8 rows) (zjD cost rows) a=.spent n):=by
 obtain⟨_,b,c⟩:=yxd hg hF hlc hlr hF;exact⟨Nat.le_trans b hF,c⟩
theorem z6W:Sol nC m cost rows S (oO (sol nC m cost rows)) (oX nC m rows (sol nC m cost rows)) (oY nC m cost rows (sol nC m cost rows)) (oZ nC m rows (sol nC m cost rows)):=by
 have b:=(yxd hg hF hlc hlr hF).1;have h1:=z6E hg.sh hlc hlr rfl b;have a:=z6F hg hlc hlr rfl b;unfold sol;generalize zSA (nC+cnt rows m) m (zc3 rows) (zg8 rows) (zjD cost rows) 4000=o at *
 have nil:∀ {S:Nat},∀q∈([]:List Rat),mw q≤S:=fun q c=>by cases c
 cases o with
 | spent n=>exact h1.elim
 | none cols n=>exact⟨.inr (.inl ⟨rfl,rfl,h1,rfl⟩),nil,a,nil⟩
 | best cols n=>exact⟨.inl ⟨rfl,h1,rfl⟩,a.1,a.2,nil⟩
 | falls cols j n=>exact⟨.inr (.inr ⟨rfl,rfl,h1⟩),a.1,nil,a.2⟩
theorem z6H(n:Nat):sol nC m cost rows≠.spent n:=fun h=>by
 have h1:=(yxd hg hF hlc hlr hF).1;unfold sol at h;rw[h]at h1;cases h1
end
def z6n (w:World) (o:Int) (X Y Z:List Rat) (n:Nat) (e:Ending) (w':World):Prop :=
  ∃(P:OA) (nP cP:Nat) (Q:OA) (nQ cQ:Nat) (D:OA) (nD cD:Nat),e=.returned (.tuple #[.agg #[.int .i64 o,(P,nP,cP),(Q,nQ,cQ),(D,nD,cD),(n:Int)],.nilIface])∧VecS w' 0 (P,nP,cP) X∧VecS w' 0 (Q,nQ,cQ) Y∧VecS w' 0 (D,nD,cD) Z∧Below w w w'
theorem zVM.u{o:Out}(h:zVM w nC m (nC+cnt rows m) (nC+cnt rows m+m) (zc3 rows) (zg8 rows) (zjD cost rows) B o e w')(l:∀n,o≠.spent n):z6n w (oO o) (oX nC m rows o) (oY nC m cost rows o) (oZ nC m rows o) o.pivots e w':=by
 obtain⟨d,h⟩:=h;cases o with
 | spent n=>exact(l n rfl).elim
 | none cols n =>
  obtain⟨Y,c,a,g⟩:=h;exact⟨none,0,0,Y,m,c,none,0,0,a,.nil _ _,g.base (Nat.zero_le _),.nil _ _,d⟩
 | best cols n =>
  obtain⟨P,b,Y,c,a,f,g⟩:=h;exact⟨P,nC,b,Y,m,c,none,0,0,a,f.base (Nat.zero_le _),g.base (Nat.zero_le _),.nil _ _,d⟩
 | falls cols j n =>
  obtain⟨P,b,D,i,a,f,k⟩:=h;exact⟨P,nC,b,none,0,0,D,nC,i,a,f.base (Nat.zero_le _),.nil _ _,k.base (Nat.zero_le _),d⟩
namespace Pr
section
variable (S:Nat) (C:OA) (nC cC:Nat) (R:OA) (m cR:Nat) (cost:List Rat) (rows:List PRow) (w:World) (hc:VecS w 0 (C,nC,cC) cost) (hr:RowsS w 0 (R,m,cR) rows) (hg:GoodS S nC m cost rows) (hF:Few nC m rows)
include hc hr hg hF
theorem z6T(K:Nat)(a:(sol nC m cost rows).pivots≤K)(b:K≤1000000):Calls Tryz.prog 29 #[.agg #[(C,nC,cC),(R,m,cR)],(K:Int)] w (z6n w (oO (sol nC m cost rows)) (oX nC m rows (sol nC m cost rows)) (oY nC m cost rows (sol nC m cost rows)) (oZ nC m rows (sol nC m cost rows)) (sol nC m cost rows).pivots):=by
 have h:=psolve S C nC cC R m cR cost rows _ _ K w hc hr hg rfl rfl b;rw[((z6D hg hF hc.len.symm hr.len.symm).2 K).1 a]at h;exact h.mono fun _ _ h=>h.u (z6H hg hF hc.len.symm hr.len.symm)
theorem z6X:Calls Tryz.prog 29 #[.agg #[(C,nC,cC),(R,m,cR)],.int .i64 4000] w (z6n w (oO (sol nC m cost rows)) (oX nC m rows (sol nC m cost rows)) (oY nC m cost rows (sol nC m cost rows)) (oZ nC m rows (sol nC m cost rows)) (sol nC m cost rows).pivots) :=
 z6T S C nC cC R m cR cost rows w hc hr hg hF 4000 (z6D hg hF hc.len.symm hr.len.symm).1 (by decide)
end
