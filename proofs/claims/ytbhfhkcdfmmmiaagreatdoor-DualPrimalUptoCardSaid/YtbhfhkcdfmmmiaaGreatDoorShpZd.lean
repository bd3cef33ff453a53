/- Contracts and lemmas: Shp Own Sol18 Shq. Conditions: as each says. -/
import Derived.Test.YtbhfhkcdfmmmiaaGreatDoorPrSZd
set_option linter.all false
set_option maxHeartbeats 1000000
set_option maxRecDepth 100000
namespace Go.Proofs.YtbhfhkcdfmmmiaaGreatDoor
open Go.RowKit Am
variable {rows:List PRow}{b cost d x xs y ys:List Rat}{B i j k m n nC t:Nat}{z:Nat→Rat}
section
variable {n:Nat} {rows:List PRow} (hl:∀k,k<rows.length→(rows.getD k default).coef.length=n)
theorem zUo(h:t<rows.length)(a:(rows.getD t default).kind≠3):cnt rows t<cnt rows rows.length:=by
 have h1:cnt rows (t+1)=cnt rows t+1:=by rw[cnt,if_neg a]
 have b:=zyi rows (j:=t+1) (k:=rows.length) (by omega);omega
theorem zX7(a:(rows.getD i default).kind≠3)(b:(rows.getD t default).kind≠3)(e:cnt rows i=cnt rows t):i=t:=by
 have h1:cnt rows (i+1)=cnt rows i+1:=by rw[cnt,if_neg a]
 have c:cnt rows (t+1)=cnt rows t+1:=by rw[cnt,if_neg b]
 rcases Nat.lt_trichotomy i t with h | h | h
 ·have:=zyi rows (j:=i+1) (k:=t) (by omega);omega
 ·exact h
 ·have:=zyi rows (j:=t+1) (k:=i) (by omega);omega
include hl
theorem zWW(h:k<rows.length)(hj:j<n):en (zc3 rows) k j=el (rows.getD k default).coef j:=by
 unfold en;rw[zrT h,zkF (by rw[hl k h];exact hj)]
theorem zXg(y:Nat→Rat)(b:t<rows.length)(a:(rows.getD t default).kind≠3):zai rows.length (fun i=>y i*en (zc3 rows) i (n+cnt rows t))=y t*((zfI (rows.getD t default).kind:Int):Rat):=by
 have hc:=zUo b a;rw[zbI (k:=t) b fun i c d=>by
  rw[zvs hl c hc,if_neg (fun h=>d (zX7 h.1 a h.2.symm))];grind,zvs hl b hc,if_pos ⟨a,rfl⟩]
theorem zUC(z:Nat→Rat)(b:i<rows.length):zai (n+cnt rows rows.length) (fun j=>en (zc3 rows) i j*z j)=zai n (fun j=>el (rows.getD i default).coef j*z j)+(if (rows.getD i default).kind=3 then 0 else ((zfI (rows.getD i default).kind:Int):Rat)*z (n+cnt rows i)):=by
 rw[zgc _ n,zaj (g:=fun j=>el (rows.getD i default).coef j*z j) fun j hj=>by rw[zWW hl b hj]]
 congr 1
 by_cases a:(rows.getD i default).kind=3
 ·rw[if_pos a];exact zcn fun t c=>by rw[zvs hl b c,if_neg (fun h=>h.1 a)];grind
 ·rw[if_neg a,zbI (k:=cnt rows i) (zUo b a) fun t c d=>by rw[zvs hl b c,if_neg (fun h=>d h.2)];grind,zvs hl b (zUo b a),if_pos ⟨a,rfl⟩]
end
theorem zYn{k:Int}(h:k=1):((zfI k:Int):Rat)=1:=by unfold zfI;rw[if_pos h];rfl
theorem zYo{k:Int}(h:k≠1):((zfI k:Int):Rat) = -1:=by unfold zfI;rw[if_neg h];rfl
theorem zTB(a:cost.length=n):el (zjD cost rows) j=if j<n then el cost j else 0:=by
 unfold zjD;by_cases h:j<n
 ·rw[if_pos h,zkF (by omega)]
 ·rw[if_neg h];unfold el;rw[List.getD_eq_getElem?_getD,List.getElem?_append_right (by omega),List.getElem?_replicate];split<;>rfl
theorem zUp{K:Nat}(a:cost.length=n)(z:Nat→Rat):zai (n+K) (fun j=>el (zjD cost rows) j*z j)=zai n fun j=>el cost j*z j:=by
 rw[zgc _ n,zcn (f:=fun t=>el (zjD cost rows) (n+t)*z (n+t)) fun t _=>by rw[zTB a,if_neg (by omega)];grind,zaj (g:=fun j=>el cost j*z j) fun j hj=>by rw[zTB a,if_pos hj]];grind
theorem zWQ(a:b.length=m)(c:ys.length=m)(h:i<m):el (bkL (b.map sgI) ys m) i=sgn (el b i)*el ys i:=by
 rw[znd (zTv (by omega)),if_pos h,List.getD_eq_getElem?_getD,List.getElem?_map,zaH (xs:=b) (j:=i) (by omega)];show((sgI (el b i):Int):Rat)*_=_
 rw[zUb]
def zWY (p:PRow) (d:List Rat):Prop:=(p.kind=1→dot p.coef d≤0)∧(p.kind=2→0≤dot p.coef d)∧(p.kind=3→dot p.coef d=0)
structure Signs (m:Nat) (rows:List PRow) (y:List Rat):Prop where
  ly:y.length=m
  s1:∀k,k<m→(rows.getD k default).kind=1→el y k≤0
  s2:∀k,k<m→(rows.getD k default).kind=2→0≤el y k
def zUQ (nC m:Nat) (rows:List PRow) (y:List Rat):Prop:=Signs m rows y∧(∀j,j<nC→zai m (fun i=>el y i*el (rows.getD i default).coef j)≤0)∧0<sb y rows
def zUP (nC m:Nat) (cost:List Rat) (rows:List PRow) (x y:List Rat):Prop:=Signs m rows y∧x.length=nC∧znD cost rows x=true∧(∀j,j<nC→zai m (fun i=>el y i*el (rows.getD i default).coef j)≤el cost j)∧dot cost x=sb y rows
def zUE (nC:Nat) (cost:List Rat) (rows:List PRow) (x d:List Rat):Prop:=x.length=nC∧znD cost rows x=true∧d.length=nC∧(∀j,0≤el d j)∧(∀p∈rows,zWY p d)∧dot cost d<0
section
variable {nC m N:Nat} {cost:List Rat} {rows:List PRow} (hg:Shape nC rows) (hlc:cost.length=nC) (hlr:rows.length=m) (hN:nC+cnt rows m=N)
include hg hlc hlr hN
theorem zSE:∀k,k<rows.length→(rows.getD k default).coef.length=nC:=fun k hk=>hg.co _ (List.mem_of_getElem? (zaO hk))
theorem zVA:Rect m N (zc3 rows):=by have:=zlk (zSE hg hlc hlr hN);rw[hlr,hN]at this;exact this
theorem zVz:(zg8 rows).length=m:=by rw[zxG,hlr]
theorem zTr(ly:y.length=m)(h:∀t,t<m→(rows.getD t default).kind≠3→zai m (fun i=>el y i*en (zc3 rows) i (nC+cnt rows t))≤0):Signs m rows y:=by
 have b:∀t,t<m→(rows.getD t default).kind≠3→el y t*((zfI (rows.getD t default).kind:Int):Rat)≤0:=fun t c a=>by
  have:=h t c a;have e:=zXg (zSE hg hlc hlr hN) (el y) (t:=t) (by omega) a;rw[hlr]at e;rw[e]at this;exact this
 refine⟨ly,fun k hk e=>?_,fun k hk e=>?_⟩
 ·have:=b k hk (by omega);rw[zYn e]at this;grind
 ·have:=b k hk (by omega);rw[zYo (by omega)]at this;grind
theorem zTT(g:∀j,0≤z j)(t:∀i,i<m→zai N (fun j=>en (zc3 rows) i j*z j)=el (zg8 rows) i)(f:x.length=nC)(ex:∀j,j<nC→el x j=z j):znD cost rows x=true:=by
 have r:=zSE hg hlc hlr hN;rw[zoE (by rw[f,hlc]) (zNy fun j hj=>by rw[f]at hj;rw[ex j hj];exact g j),List.all_eq_true];intro p d;obtain⟨i,c⟩:=List.mem_iff_getElem?.1 d;have s:=(List.getElem?_eq_some_iff.1 c).1;have o:rows.getD i default=p:=zfC c;have e:=t i (by omega);rw[←hN,←hlr,zUC r z s,o]at e;have q:el (zg8 rows) i=p.rhs:=by unfold zg8;rw[znd (by rw[List.getElem?_map,c];rfl)]
 rw[q]at e;have l:dot p.coef x=zai nC fun j=>el p.coef j*z j:=by
  unfold dot ziw;rw[hg.co p d];exact zaj fun j hj=>by rw[ex j hj]
 have b:zdp p x = -(if p.kind=3 then 0 else ((zfI p.kind:Int):Rat)*z (nC+cnt rows i)):=by unfold zdp;rw[l];grind
 have zs:=g (nC+cnt rows i);unfold zdH;have hk:=hg.kd p d;by_cases a:p.kind=1
 ·rw[if_neg (by omega),zYn a]at b;rw[if_pos a,decide_eq_true];grind
 ·by_cases k2:p.kind=2
  ·rw[if_neg (by omega),zYo a]at b;rw[if_neg a,if_pos k2,decide_eq_true];grind
  ·have k3:p.kind=3:=by omega
   rw[if_pos k3]at b;rw[if_neg a,if_neg k2,decide_eq_true k3,decide_eq_true (by rw[b];grind)];rfl
theorem zWF(q:∀j,0≤z j)(o:∀i,i<m→zai N (fun j=>en (zc3 rows) i j*z j)=0)(r:d.length=nC)(f:∀j,j<nC→el d j=z j):∀p∈rows,zWY p d:=fun p c=>by
 obtain⟨i,b⟩:=List.mem_iff_getElem?.1 c;have l:=(List.getElem?_eq_some_iff.1 b).1;have g:rows.getD i default=p:=zfC b;have e:=o i (by omega);rw[←hN,←hlr,zUC (zSE hg hlc hlr hN) z l,g]at e;have a:dot p.coef d=zai nC fun j=>el p.coef j*z j:=by
  unfold dot ziw;rw[hg.co p c];exact zaj fun j hj=>by rw[f j hj]
 have zs:=q (nC+cnt rows i);refine⟨fun k=>?_,fun k=>?_,fun k=>?_⟩
 ·rw[if_neg (by omega),zYn k]at e;rw[a];grind
 ·rw[if_neg (by omega),zYo (by omega)]at e;rw[a];grind
 ·rw[if_pos k]at e;rw[a];grind
theorem zVB:sb y rows=zai m fun i=>el y i*el (zg8 rows) i:=by
 unfold sb zPV;rw[hlr];exact zaj fun i b=>by unfold zg8;rw[znd (xs:=rows.map fun r=>r.rhs) (a:=(rows.getD i default).rhs) (by rw[List.getElem?_map,zaO (d:=default) (show i<rows.length by omega)];rfl)]
theorem z6E(F:Am.Ends m N (zc3 rows) (zg8 rows) (zjD cost rows) (zSA N m (zc3 rows) (zg8 rows) (zjD cost rows) B)):match zSA N m (zc3 rows) (zg8 rows) (zjD cost rows) B with
  | .spent _=>False
  | .none cols _=>zUQ nC m rows (bkL ((zg8 rows).map sgI) (zcl (zt0 (zc3 rows) (zg8 rows)) cols (zJG N m)) m)
  | .best cols _=>zUP nC m cost rows ((zh1 (N+m) cols (za5 (zt0 (zc3 rows) (zg8 rows)) (zwh (zg8 rows)) cols)).take nC) (bkL ((zg8 rows).map sgI) (zcl (zt0 (zc3 rows) (zg8 rows)) cols (zKb m (zjD cost rows))) m)
  | .falls cols j _=>zUE nC cost rows ((zh1 (N+m) cols (za5 (zt0 (zc3 rows) (zg8 rows)) (zwh (zg8 rows)) cols)).take nC) ((zTj (N+m) cols (zav (zt0 (zc3 rows) (zg8 rows)) cols j) j m).take nC):=by
 have l:=zVA hg hlc hlr hN;have c:=zVz hg hlc hlr hN;have I:=zSE hg hlc hlr hN;have hc:(zjD cost rows).length=N:=by unfold zjD;rw[List.length_append,List.length_replicate,hlc,hlr];exact hN
 have G:∀t,t<m→(rows.getD t default).kind≠3→nC+cnt rows t<N:=fun t p d=>by
  have:=zUo (rows:=rows) (t:=t) (by omega) d;rw[hlr]at this;omega
 have own:∀(y:Nat→Rat) j,j<nC→zai m (fun i=>y i*en (zc3 rows) i j)=zai m fun i=>y i*el (rows.getD i default).coef j:=fun y j hj=>zaj fun i a=>by rw[zWW I (by omega) hj]
 have H:∀t,el (zjD cost rows) (nC+t)=0:=fun t=>by rw[zTB hlc,if_neg (by omega)]
 have co:∀j,j<nC→el (zjD cost rows) j=el cost j:=fun j hj=>by rw[zTB hlc,if_pos hj]
 have q:∀cols,((zh1 (N+m) cols (za5 (zt0 (zc3 rows) (zg8 rows)) (zwh (zg8 rows)) cols)).take nC).length=nC:=fun cols=>by rw[List.length_take,zl8];omega
 have x:∀cols,cols.length=m→∀j,j<nC→el ((zh1 (N+m) cols (za5 (zt0 (zc3 rows) (zg8 rows)) (zwh (zg8 rows)) cols)).take nC) j=pt m (fun k=>cols.getD k 0) (el (za5 (zt0 (zc3 rows) (zg8 rows)) (zwh (zg8 rows)) cols)) j:=fun cols hl j hj=>by rw[zT7 hj,zvg (by omega),hl]
 generalize zSA N m (zc3 rows) (zg8 rows) (zjD cost rows) B=o at F ⊢;cases F with
 | none h f s v =>
  rename_i cols k
  obtain⟨h1,z⟩:=(zTS h f l c s).2 v;have ly:=(h.duals_ok (zJG N m)).2;have b:∀i,i<m→el (bkL ((zg8 rows).map sgI) (zcl (zt0 (zc3 rows) (zg8 rows)) cols (zJG N m)) m) i=sgn (el (zg8 rows) i)*el (zcl (zt0 (zc3 rows) (zg8 rows)) cols (zJG N m)) i:=fun i a=>zWQ c ly a
  refine⟨zTr hg hlc hlr hN (by rw[zSJ,ly]) fun t p d=>?_,fun j hj=>?_,?_⟩
  ·rw[zaj fun i a=>by rw[b i a]];exact h1 _ (G t p d)
  ·have:=h1 j (by omega);rw[own _ j hj]at this;rw[zaj fun i a=>by rw[b i a]];exact this
  ·rw[zVB hg hlc hlr hN,zaj fun i a=>by rw[b i a]];exact z
 | best h s =>
  rename_i cols k
  obtain⟨h1,z⟩:=h.best l c hc s;obtain⟨E,A⟩:=h.fits l c;have hl:=h.basis.len;have ly:=(h.basis.duals_ok (zKb m (zjD cost rows))).2;have b:∀i,i<m→el (bkL ((zg8 rows).map sgI) (zcl (zt0 (zc3 rows) (zg8 rows)) cols (zKb m (zjD cost rows))) m) i=sgn (el (zg8 rows) i)*el (zcl (zt0 (zc3 rows) (zg8 rows)) cols (zKb m (zjD cost rows))) i:=fun i a=>zWQ c ly a
  refine⟨zTr hg hlc hlr hN (by rw[zSJ,ly]) fun t p d=>?_,q cols,zTT hg hlc hlr hN E A (q cols) (x cols hl),fun j hj=>?_,?_⟩
  ·rw[zaj fun i a=>by rw[b i a]];have:=h1 _ (G t p d);rw[H]at this;exact this
  ·have:=h1 j (by omega);rw[own _ j hj,co j hj]at this;rw[zaj fun i a=>by rw[b i a]];exact this
  ·have e:=zUp (K:=cnt rows m) hlc (rows:=rows) (pt m (fun k=>cols.getD k 0) (el (za5 (zt0 (zc3 rows) (zg8 rows)) (zwh (zg8 rows)) cols)));rw[hN]at e;rw[zVB hg hlc hlr hN,zaj (g:=fun i=>sgn (el (zg8 rows) i)*el (zcl (zt0 (zc3 rows) (zg8 rows)) cols (zKb m (zjD cost rows))) i*el (zg8 rows) i) fun i a=>by rw[b i a],←z,e];unfold dot ziw;rw[hlc];exact zaj fun j hj=>by rw[x cols hl j hj]
 | falls h s =>
  rename_i cols j k
  obtain⟨hj,w0,wz,wc⟩:=h.ray l c hc s;obtain⟨E,A⟩:=h.fits l c;have hl:=h.basis.len;have D:((zTj (N+m) cols (zav (zt0 (zc3 rows) (zg8 rows)) cols j) j m).take nC).length=nC:=by rw[List.length_take,zSN];omega
  have u:∀i,i<nC→el ((zTj (N+m) cols (zav (zt0 (zc3 rows) (zg8 rows)) cols j) j m).take nC) i=way m (fun k=>cols.getD k 0) (fun r s=>el (zav (zt0 (zc3 rows) (zg8 rows)) cols s) r) j i:=fun i a=>by rw[zT7 a,znd (zTf (by omega))];rfl
  refine⟨q cols,zTT hg hlc hlr hN E A (q cols) (x cols hl),D,fun i=>?_,zWF hg hlc hlr hN w0 wz D u,?_⟩
  ·by_cases a:i<nC
   ·rw[u i a];exact w0 i
   ·rw[zDb (by rw[D];omega)];exact Rat.le_refl
  ·have e:=zUp (K:=cnt rows m) hlc (rows:=rows) (way m (fun k=>cols.getD k 0) (fun r s=>el (zav (zt0 (zc3 rows) (zg8 rows)) cols s) r) j);rw[hN]at e;rw[e]at wc;unfold dot ziw;rw[hlc,zaj fun i a=>by rw[u i a]];exact wc
end
theorem z6Q{N:Nat}{A:List (List Rat)}{cols:List Nat}{col:List Rat}{Z:Nat}(d:Basis m N A cols)(a:1≤Z)(zc:∀q∈col,mw q≤Z)(j:Nat):∀q∈zTj N cols col j m,mw q≤Z+2:=fun q f=>by
 obtain⟨i,c⟩:=List.mem_iff_getElem?.1 f;have hl:=(List.getElem?_eq_some_iff.1 c).1;rw[zSN]at hl;have e:=c;rw[zTf hl]at e;injection e with e;rw[←e];show mw ((if i=j then (1:Rat)else 0)+pt m (fun l=>cols.getD l 0) (fun l => -el col l) i)≤_
 have g:mw (if i=j then (1:Rat)else 0)≤1:=by split;exact mw1;exact mw0
 have h1:mw (pt m (fun l=>cols.getD l 0) (fun l => -el col l) i)≤Z:=by
  by_cases b:Bas m (fun k=>cols.getD k 0) i
  ·obtain⟨k,hk,rfl⟩:=b;rw[zA7 d.inj _ hk,zhY];exact zDJ a zc k
  ·rw[zyz _ b];exact Nat.le_trans mw0 a
 have o:=zrI (if i=j then (1:Rat)else 0) (pt m (fun l=>cols.getD l 0) (fun l => -el col l) i);omega
theorem z6K{S:Nat}(d:b.length=m)(c:ys.length=m)(zy:∀q∈ys,mw q≤S):∀q∈bkL (b.map sgI) ys m,mw q≤S:=fun q e=>by
 obtain⟨i,a⟩:=List.mem_iff_getElem?.1 e;have hl:=(List.getElem?_eq_some_iff.1 a).1;rw[zSJ,c]at hl;rw[←znd a,zWQ d c hl,zWX];exact zrz zy (by omega)
section
variable {S nC m N:Nat} {cost:List Rat} {rows:List PRow} (hg:GoodS S nC m cost rows) (hlc:cost.length=nC) (hlr:rows.length=m) (hN:nC+cnt rows m=N)
include hg hlr in
theorem z6N:∀r∈zc3 rows,∀q∈r,mw q≤S:=fun r hr q a=>by
 unfold zc3 at hr;obtain⟨k,hk,rfl⟩:=List.mem_map.1 hr;rw[List.mem_range]at hk;rcases List.mem_append.1 a with h1 | h1
 ·exact(hg.rw_ _ (List.mem_of_getElem? (zaO hk))).2.1 q h1
 ·exact Nat.le_trans (zsi rows k q h1) hg.h1
include hg in
theorem z6O:∀q∈zg8 rows,mw q≤S:=fun q b=>by
 obtain⟨p,a,rfl⟩:=List.mem_map.1 b;exact(hg.rw_ p a).2.2
include hg in
theorem z6P:∀q∈zjD cost rows,mw q≤S:=fun q a=>by
 rcases List.mem_append.1 a with h1 | h1
 ·exact hg.sc q h1
 ·rw[(List.mem_replicate.1 h1).2];exact Nat.le_trans mw0 hg.h1
include hg hlc hlr hN in
theorem z6F(c:Am.Ends m N (zc3 rows) (zg8 rows) (zjD cost rows) (zSA N m (zc3 rows) (zg8 rows) (zjD cost rows) B)):match zSA N m (zc3 rows) (zg8 rows) (zjD cost rows) B with
  | .spent _=>False
  | .none cols _=>∀q∈bkL ((zg8 rows).map sgI) (zcl (zt0 (zc3 rows) (zg8 rows)) cols (zJG N m)) m,mw q≤sB m S S
  | .best cols _=>(∀q∈(zh1 (N+m) cols (za5 (zt0 (zc3 rows) (zg8 rows)) (zwh (zg8 rows)) cols)).take nC,mw q≤sB m S S)∧∀q∈bkL ((zg8 rows).map sgI) (zcl (zt0 (zc3 rows) (zg8 rows)) cols (zKb m (zjD cost rows))) m,mw q≤sB m S S
  | .falls cols j _=>(∀q∈(zh1 (N+m) cols (za5 (zt0 (zc3 rows) (zg8 rows)) (zwh (zg8 rows)) cols)).take nC,mw q≤sB m S S)∧∀q∈(zTj (N+m) cols (zav (zt0 (zc3 rows) (zg8 rows)) cols j) j m).take nC,mw q≤sB m S S+2:=by
 have i:=zVA hg.sh hlc hlr hN;have d:=zVz hg.sh hlc hlr hN;have hc:(zjD cost rows).length=N:=by unfold zjD;rw[List.length_append,List.length_replicate,hlc,hlr];exact hN
 have zA:=zXc (b:=zg8 rows) hg.h1 (z6N hg hlr);have zb:=zXd (z6O hg);have zc:=zXe (m:=m) hg.h1 (z6P hg);have g:(zwh (zg8 rows)).length=m:=by rw[zUh,d]
 have e:1≤sB m S S:=zma _ _ _
 have P:∀cols,Basis m (N+m) (zt0 (zc3 rows) (zg8 rows)) cols→∀q∈(zh1 (N+m) cols (za5 (zt0 (zc3 rows) (zg8 rows)) (zwh (zg8 rows)) cols)).take nC,mw q≤sB m S S:=fun cols h q a =>
  z0l h (h.vals_ok _).2 (z0n h (zLu h zA) g zb) e q (List.mem_of_mem_take a)
 have Y:∀cols cs,Basis m (N+m) (zt0 (zc3 rows) (zg8 rows)) cols→cs.length=N+m→(∀q∈cs,mw q≤S)→∀q∈bkL ((zg8 rows).map sgI) (zcl (zt0 (zc3 rows) (zg8 rows)) cols cs) m,mw q≤sB m S S:=fun cols cs h l z =>
  z6K d (h.duals_ok cs).2 (znb h (zLu h zA) l z)
 generalize zSA N m (zc3 rows) (zg8 rows) (zjD cost rows) B=o at c ⊢;cases c with
 | none h f s v=>exact Y _ _ h (by simp[zJG]) fun q a=>Nat.le_trans (zTR N m q a) hg.h1
 | best h s=>exact⟨P _ h.basis,Y _ _ h.basis (by simp[zKb,hc]) zc⟩
 | falls h s =>
  rename_i cols j k
  refine⟨P _ h.basis,fun q a=>z6Q h.basis e (zVc h.basis (zLu h.basis zA) fun q a=>?_) j q (List.mem_of_mem_take a)⟩;obtain⟨r,hr,rfl⟩:=List.mem_map.1 a;exact zDJ hg.h1 (zA r hr) j
end
def oO:Out→Int
  | .spent _=>0
  | .none .. => 2
  | .best .. => 1
  | .falls .. => 3
section
variable (nC m:Nat) (cost:List Rat) (rows:List PRow)
def oX:Out→List Rat
  | .best cols _=>(zh1 (nC+cnt rows m+m) cols (za5 (zt0 (zc3 rows) (zg8 rows)) (zwh (zg8 rows)) cols)).take nC
  | .falls cols _ _=>(zh1 (nC+cnt rows m+m) cols (za5 (zt0 (zc3 rows) (zg8 rows)) (zwh (zg8 rows)) cols)).take nC
  | _=>[]
def oY:Out→List Rat
  | .none cols _=>bkL ((zg8 rows).map sgI) (zcl (zt0 (zc3 rows) (zg8 rows)) cols (zJG (nC+cnt rows m) m)) m
  | .best cols _=>bkL ((zg8 rows).map sgI) (zcl (zt0 (zc3 rows) (zg8 rows)) cols (zKb m (zjD cost rows))) m
  | _=>[]
def oZ:Out→List Rat
  | .falls cols j _=>(zTj (nC+cnt rows m+m) cols (zav (zt0 (zc3 rows) (zg8 rows)) cols j) j m).take nC
  | _=>[]
def sol:Out:=zSA (nC+cnt rows m) m (zc3 rows) (zg8 rows) (zjD cost rows) 4000
structure Sol (S:Nat) (o:Int) (X Y Z:List Rat):Prop where
  shows:(o=1∧zUP nC m cost rows X Y∧Z=[])∨(o=2∧X=[]∧zUQ nC m rows Y∧Z=[])∨(o=3∧Y=[]∧zUE nC cost rows X Z)
  zx:∀q∈X,mw q≤sB m S S
  zy:∀q∈Y,mw q≤sB m S S
  zz:∀q∈Z,mw q≤sB m S S+2
end
theorem z6G:∀a,a≤10→∀b,b≤5→binom (a+b) b+b+bmax a b≤4000:=by decide +kernel
def Few (nC m:Nat) (rows:List PRow):Prop:=binom (nC+cnt rows m+m) m+m+bmax (nC+cnt rows m) m≤4000
theorem yxY(hc:nC≤5)(hm:m≤5)(h:nC+cnt rows m≤10):Few nC m rows:=z6G _ h _ hm
theorem Good1.few(h:Good1 nC m cost rows):Few nC m rows:=yxY h.hc (by have:=h.hr;omega) (by have:=h.hc;have:=h.hr;have:=zgO rows m;omega)
section
variable {S nC m:Nat} {cost:List Rat} {rows:List PRow} (hg:GoodS S nC m cost rows) (hF:Few nC m rows) (hlc:cost.length=nC) (hlr:rows.length=m)
include hg hF hlc hlr
theorem yxd(b:binom (nC+cnt rows m+m) m+m+bmax (nC+cnt rows m) m≤B):Am.Ends m (nC+cnt rows m) (zc3 rows) (zg8 rows) (zjD cost rows) (zSA (nC+cnt rows m) m (zc3 rows) (zg8 rows) (zjD cost rows) B)∧(zSA (nC+cnt rows m) m (zc3 rows) (zg8 rows) (zjD cost rows) B).pivots≤binom (nC+cnt rows m+m) m+m+bmax (nC+cnt rows m) m∧∀a,((zSA (nC+cnt rows m) m (zc3 rows) (zg8 rows) (zjD cost rows) B).pivots≤a→zSA (nC+cnt rows m) m (zc3 rows) (zg8 rows) (zjD cost rows) a=zSA (nC+cnt rows m) m (zc3 rows) (zg8 rows) (zjD cost rows) B)∧(a<(zSA (nC+cnt rows m) m (zc3 rows) (zg8 rows) (zjD cost rows) B).pivots→∃n,zSA (nC+cnt rows m) m (zc3 rows) (zg8 rows) (zjD cost rows) a=.spent n) :=
 yxk (zVA hg.sh hlc hlr rfl) (zVz hg.sh hlc hlr rfl) (by unfold zjD;rw[List.length_append,List.length_replicate,hlc,hlr]) b
theorem z6D:(sol nC m cost rows).pivots≤4000∧∀a,((sol nC m cost rows).pivots≤a→zSA (nC+cnt rows m) m (zc3 rows) (zg8 rows) (zjD cost rows) a=sol nC m cost rows)∧(a<(sol nC m cost rows).pivots→∃n,zSA (nC+cnt rows m) m (zc3 rows) (zg8 rows) (zjD cost rows) a=.spent n):=by
 obtain⟨_,b,c⟩:=yxd hg hF hlc hlr hF;exact⟨Nat.le_trans b hF,c⟩
theorem z6W:Sol nC m cost rows S (oO (sol nC m cost rows)) (oX nC m rows (sol nC m cost rows)) (oY nC m cost rows (sol nC m cost rows)) (oZ nC m rows (sol nC m cost rows)):=by
 have b:=(yxd hg hF hlc hlr hF).1;have h1:=z6E hg.sh hlc hlr rfl b;have a:=z6F hg hlc hlr rfl b;unfold sol;generalize zSA (nC+cnt rows m) m (zc3 rows) (zg8 rows) (zjD cost rows) 4000=o at *
 have nil:∀ {S:Nat},∀q∈([]:List Rat),mw q≤S:=fun q c=>by cases c
 cases o with
 | spent n=>exact h1.elim
 | none cols n=>exact⟨.inr (.inl ⟨rfl,rfl,h1,rfl⟩),nil,a,nil⟩
 | best cols n=>exact⟨.inl ⟨rfl,h1,rfl⟩,a.1,a.2,nil⟩
 | falls cols j n=>exact⟨.inr (.inr ⟨rfl,rfl,h1⟩),a.1,nil,a.2⟩
theorem z6H(n:Nat):sol nC m cost rows≠.spent n:=fun h=>by
 have h1:=(yxd hg hF hlc hlr hF).1;unfold sol at h;rw[h]at h1;cases h1
end
def z6n (w:World) (o:Int) (X Y Z:List Rat) (n:Nat) (e:Ending) (w':World):Prop :=
  ∃(P:OA) (nP cP:Nat) (Q:OA) (nQ cQ:Nat) (D:OA) (nD cD:Nat),e=.returned (.tuple #[.agg #[.int .i64 o,(P,nP,cP),(Q,nQ,cQ),(D,nD,cD),(n:Int)],.nilIface])∧VecS w' 0 (P,nP,cP) X∧VecS w' 0 (Q,nQ,cQ) Y∧VecS w' 0 (D,nD,cD) Z∧Below w.heap.size w w'
theorem zVM.u{w:World}{o:Out}{e:Ending}{w':World}(h:zVM w nC m (nC+cnt rows m) (nC+cnt rows m+m) (zc3 rows) (zg8 rows) (zjD cost rows) B o e w')(p:∀n,o≠.spent n):z6n w (oO o) (oX nC m rows o) (oY nC m cost rows o) (oZ nC m rows o) o.pivots e w':=by
 obtain⟨d,h⟩:=h;cases o with
 | spent n=>exact(p n rfl).elim
 | none cols n =>
  obtain⟨Y,c,a,g⟩:=h;exact⟨none,0,0,Y,m,c,none,0,0,a,.nil _ _,g.base (Nat.zero_le _),.nil _ _,d⟩
 | best cols n =>
  obtain⟨P,b,Y,c,a,f,g⟩:=h;exact⟨P,nC,b,Y,m,c,none,0,0,a,f.base (Nat.zero_le _),g.base (Nat.zero_le _),.nil _ _,d⟩
 | falls cols j n =>
  obtain⟨P,b,D,i,a,f,l⟩:=h;exact⟨P,nC,b,none,0,0,D,nC,i,a,f.base (Nat.zero_le _),.nil _ _,l.base (Nat.zero_le _),d⟩
namespace Pr
section
variable (S:Nat) (C:OA) (nC cC:Nat) (R:OA) (m cR:Nat) (cost:List Rat) (rows:List PRow) (w:World) (hc:VecS w 0 (C,nC,cC) cost) (hr:RowsS w 0 (R,m,cR) rows) (hg:GoodS S nC m cost rows) (hF:Few nC m rows)
include hc hr hg hF
theorem z6T(K:Nat)(a:(sol nC m cost rows).pivots≤K)(b:K≤1000000):Calls Tryz.prog 8 #[.agg #[(C,nC,cC),(R,m,cR)],(K:Int)] w (z6n w (oO (sol nC m cost rows)) (oX nC m rows (sol nC m cost rows)) (oY nC m cost rows (sol nC m cost rows)) (oZ nC m rows (sol nC m cost rows)) (sol nC m cost rows).pivots):=by
 have h:=psolve S C nC cC R m cR cost rows _ _ K w hc hr hg rfl rfl b;rw[((z6D hg hF hc.len.symm hr.len.symm).2 K).1 a]at h;exact h.mono fun _ _ h=>h.u (z6H hg hF hc.len.symm hr.len.symm)
theorem z6X:Calls Tryz.prog 8 #[.agg #[(C,nC,cC),(R,m,cR)],.int .i64 4000] w (z6n w (oO (sol nC m cost rows)) (oX nC m rows (sol nC m cost rows)) (oY nC m cost rows (sol nC m cost rows)) (oZ nC m rows (sol nC m cost rows)) (sol nC m cost rows).pivots) :=
 z6T S C nC cC R m cR cost rows w hc hr hg hF 4000 (z6D hg hF hc.len.symm hr.len.symm).1 (by decide)
end
end Pr
theorem z9v:((-1:Int):Rat) = -1:=rfl
theorem ydr(r:Rat)(h:k<xs.length):el (scale r xs) k=r*el xs k:=znd (zvn (zaH h))
theorem ybr(h:(xs.any fun q=>decide (q<0))=false)(k:Nat):0≤el xs k:=by
 by_cases hk:k<xs.length
 ·rw[List.any_eq_false]at h;have:=h _ (List.mem_of_getElem? (zaH hk));exact Rat.not_lt.1 fun e=>this (decide_eq_true e)
 ·rw[zDb (by omega)];exact Rat.le_refl
theorem yas{c:List Rat}{t:Rat}(h:x.length=d.length)(hc:c.length=x.length):dot c (zly x t d)=dot c x+t*dot c d:=by
 unfold dot ziw;rw[←za7,←zcm];exact zaj fun j hj=>by rw[zuD t h (by omega)];grind
theorem yav{t:Rat}(hw:∀p∈rows,p.coef.length=cost.length)(hk:Kinds rows)(i:0≤t)(e:znD cost rows x=true)(hl:d.length=x.length)(h0:∀j,0≤el d j)(hr:∀p∈rows,zWY p d):znD cost rows (zly x t d)=true:=by
 have s:=e;unfold znD at e;rw[Bool.and_eq_true,Bool.and_eq_true,decide_eq_true_iff,Bool.not_eq_true',List.all_eq_true]at e;obtain⟨⟨a,b⟩,c⟩:=e;have o:(zly x t d).length=x.length:=zdt hl.symm;rw[zoE (by omega) (zNy fun j hj=>by
  rw[o]at hj;rw[zuD t hl.symm hj];have:=Rat.mul_nonneg i (h0 j);have:=ybr b j;grind),List.all_eq_true]
 intro p f;have h1:=c p f;have l:zdp p (zly x t d)=zdp p x+t*dot p.coef d:=by
  unfold zdp;rw[yas hl.symm (by rw[hw p f,a])];grind
 obtain⟨w1,q,r⟩:=hr p f;unfold zdH at h1 ⊢;rw[l];by_cases g:p.kind=1
 ·rw[if_pos g,decide_eq_true_iff]at h1 ⊢;have:=Rat.mul_nonneg i (show 0 ≤ -dot p.coef d by have:=w1 g;grind);grind
 ·by_cases k2:p.kind=2
  ·rw[if_neg g,if_pos k2,decide_eq_true_iff]at h1 ⊢;have:=Rat.mul_nonneg i (q k2);grind
  ·have k3:p.kind=3:=by have:=hk p f;omega
   rw[if_neg g,if_neg k2,Bool.and_eq_true,decide_eq_true_iff,decide_eq_true_iff]at h1 ⊢;exact⟨k3,by rw[h1.2,r k3];grind⟩
structure Sh18 (nC nR:Nat) (cost:List Rat) (rows:List PRow) (o:Int) (X Y Z:List Rat):Prop where
  sx:Sm X
  sy:Sm Y
  sz:∀q∈Z,mw q≤1000002
  sw:Sm (zly X ((1000:Int):Rat) Z)
  le:Y.length≤nR
  s1:∀k,k<Y.length→(rows.getD k default).kind=1→el Y k≤0
  s2:∀k,k<Y.length→(rows.getD k default).kind=2→0≤el Y k
  best:o=1→Y.length=nR∧X.length=nC∧znD cost rows X=true∧((zly cost ((-1:Int):Rat) (sv nC Y rows)).any fun q=>decide (q<0))=false∧dot cost X=sb Y rows∧Z=[]
  none:o=2→Y.length=nR∧X=[]∧((scale ((-1:Int):Rat) (sv nC Y rows)).any fun q=>decide (q<0))=false∧0<sb Y rows∧Z=[]
  falls:o=3→Y=[]∧X.length=nC∧Z.length=nC∧znD cost rows X=true∧znD cost rows (zly X ((1000:Int):Rat) Z)=true∧dot cost Z<0
  o3:o=1∨o=2∨o=3
theorem yaU:mw ((1000:Int):Rat)≤1:=by decide +kernel
theorem Sol.sh{nR:Nat}{o:Int}{X Y Z:List Rat}(h:Sol nC nR cost rows 1 o X Y Z)(hg:Good1 nC nR cost rows)(hlc:cost.length=nC)(hlr:rows.length=nR):Sh18 nC nR cost rows o X Y Z:=by
 have K:=zVF nR hg.hr;subst hlr;have y:Rows nC rows:=fun p l=>⟨(hg.rw_ p l).1,fun q d=>Nat.le_trans ((hg.rw_ p l).2.1 q d) (by decide),Nat.le_trans (hg.rw_ p l).2.2 (by decide)⟩
 have v:∀ys,(sv nC ys rows).length=nC:=fun ys=>zPw y _ (Nat.le_refl _)
 have x:∀ys j,j<nC→el (sv nC ys rows) j=zai rows.length fun i=>el ys i*el (rows.getD i default).coef j:=fun ys j hj=>zPF y hj _ (Nat.le_refl _)
 have sx:Sm X:=fun q d=>Nat.le_trans (h.zx q d) (by omega)
 have sy:Sm Y:=fun q d=>Nat.le_trans (h.zy q d) (by omega)
 have sz:∀q∈Z,mw q≤1000002:=fun q d=>Nat.le_trans (h.zz q d) (by omega)
 have sw:Sm (zly X ((1000:Int):Rat) Z):=fun q d=>by
  obtain⟨a,B,b,D,rfl⟩:=zQr d;have h1:=h.zx a B;have G:=h.zz b D;have H:=zrI a (((1000:Int):Rat)*b);have I:=zdI ((1000:Int):Rat) b;have J:=yaU;omega
 have t:∀ {ys:List Rat},Signs rows.length rows ys→(∀k,k<ys.length→(rows.getD k default).kind=1→el ys k≤0)∧∀k,k<ys.length→(rows.getD k default).kind=2→0≤el ys k:=fun c=>⟨fun k hk=>c.s1 k (by rw[←c.ly];exact hk),fun k hk=>c.s2 k (by rw[←c.ly];exact hk)⟩
 rcases h.shows with ⟨rfl,⟨c,s,r,hj,g⟩,u⟩ | ⟨rfl,E,⟨c,hj,g⟩,u⟩ | ⟨rfl,F,s,r,z,A,hr,g⟩
 ·refine⟨sx,sy,sz,sw,by rw[c.ly];exact Nat.le_refl _,(t c).1,(t c).2,fun _=>⟨c.ly,s,r,zNy fun j f=>?_,g,u⟩,fun e=>absurd e (by decide),fun e=>absurd e (by decide),.inl rfl⟩;have hl:cost.length=(sv nC Y rows).length:=by rw[v,hlc]
  rw[zdt hl,hlc]at f;rw[zuD _ hl (by omega),x _ j f,z9v];have:=hj j f;grind
 ·refine⟨sx,sy,sz,sw,by rw[c.ly];exact Nat.le_refl _,(t c).1,(t c).2,fun e=>absurd e (by decide),fun _=>⟨c.ly,E,zNy fun j f=>?_,g,u⟩,fun e=>absurd e (by decide),.inr (.inl rfl)⟩;rw[zfH,v]at f;rw[ydr _ (by rw[v];exact f),x _ j f,z9v];have:=hj j f;grind
 ·subst F;refine⟨sx,sy,sz,sw,Nat.zero_le _,fun k hk=>absurd hk (Nat.not_lt_zero _),fun k hk=>absurd hk (Nat.not_lt_zero _),fun e=>absurd e (by decide),fun e=>absurd e (by decide),fun _=>⟨rfl,s,z,r,yav (fun p l=>by rw[(hg.rw_ p l).1,hlc]) hg.kd (by decide +kernel) r (by rw[z,s]) A hr,g⟩,.inr (.inr rfl)⟩
