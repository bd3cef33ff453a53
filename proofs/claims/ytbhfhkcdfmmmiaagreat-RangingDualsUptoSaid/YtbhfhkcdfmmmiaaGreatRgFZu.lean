/- Contracts and lemmas: RgF RgG. Conditions: as each says. -/
import Derived.Test.YtbhfhkcdfmmmiaaGreatRgDZu
import Derived.Test.YtbhfhkcdfmmmiaaGreatLstZu
set_option linter.all false
set_option maxHeartbeats 1000000
set_option maxRecDepth 100000
namespace Go.Proofs.YtbhfhkcdfmmmiaaGreat
open Go.RowKit Am
variable {rows:List PRow}{g y:List Rat}{k:Nat}{p:PRow}{v:Rat}
section
variable {rows:List PRow} {out:List Bool}
theorem yYZ:∀k,(wTo rows out k).length=2*k→∀t,t<k→(wTo rows out k)[2*t]? = some (t,1)∧(wTo rows out k)[2*t+1]? = some (t, -1)
 | 0,_,t,ht=>absurd ht (ZN _)
 | k+1,h,t,ht=>by
  have h1:=yJy rows out k;unfold wTo at h ⊢;rw[Zk]at h;by_cases f:out.getD k false=true
  ·rw[if_pos f]at h;simp at h;omega
  ·rw[if_neg f]at h ⊢;rw[Zl]at h;have i:=yJu (rows.getD k default).kind;have d:(wTo rows out k).length=2*k:=by omega
   have c:(yJt (rows.getD k default).kind).length=2:=by omega
   have g:yJt (rows.getD k default).kind=[1, -1]:=by
    unfold yJt at c ⊢;split at c
    ·rename_i e;rw[if_pos e]
    ·split at c
     ·simp at c
     ·split at c<;>simp at c
   rw[g];rcases Z8 t k with htk | htk
   ·obtain⟨a,b⟩:=yYZ k d t htk;rw[ZO (by omega),ZO (by omega)];exact⟨a,b⟩
   ·obtain rfl:t=k:=by omega
    rw[Zz (by omega),Zz (by omega),d];simp
end
theorem yZG:∀m,m≤6→sB m 61 61≤4000000:=by decide +kernel
theorem yZr:∀m,m≤6→zor m 61≤LIM:=by unfold LIM;decide +kernel
theorem yZH:∀m,m≤4→cB (m+1) 1≤61:=by decide +kernel
theorem yZu{g:Int}{q:Rat}(h:g=1∨g = -1):mw ((g:Rat)*q)=mw q:=yXO (by rcases h with rfl | rfl;exact .inl rfl;grind)
section
variable {nC m:Nat} {cost:List Rat} {rows:List PRow} (hg:Good1 nC m cost rows) (hlc:cost.length=nC) (hlr:rows.length=m)
include hg hlr in
theorem yZy(d:mw v≤61)(k:Nat):GoodS 61 (yLD rows).length (nC+1) (yJH (yLD rows) k) (yJL (yLD rows) rows cost++[yJI (yLD rows) rows v]):=by
 have f:=yJy rows (List.replicate rows.length false) rows.length;have hm:=hg.hr;have hc:=hg.hc;have h1:∀q∈cost,mw q≤61:=fun q a=>Zc (hg.sc q a) (by decide)
 have one:=yJz rows (List.replicate rows.length false) rows.length;have lt:=yJB rows (List.replicate rows.length false) rows.length;have row:∀x∈yLD rows,rows.getD x.1 default∈rows:=fun x b=>Zh (zaO (lt x b))
 refine⟨fun q a=>?_,fun p c=>?_,fun p c=>?_,by decide,by decide,by show(yLD rows).length≤24;unfold yLD;omega,by omega,yZr _ (by omega),yZG _ (by omega)⟩
 ·obtain⟨x,b,rfl⟩:=Zq.1 a;split
  ·exact Zc (zu9 _ (by rcases one x b with e | e<;>rw[e]<;>exact⟨by decide,by decide⟩)) (by decide)
  ·exact Zc mw0 (by decide)
 ·rcases ZD.1 c with h | h
  ·obtain⟨j,hj,rfl⟩:=Zq.1 h;refine⟨by simp[yJC],fun q a=>?_,?_⟩
   ·obtain⟨x,b,rfl⟩:=Zq.1 a;rw[yZu (one x b)];exact zDJ (by decide) (fun q a=>Zc ((hg.rw_ _ (row x b)).2.1 q a) (by decide)) j
   ·exact zDJ (by decide) h1 j
  ·rw[Yh.1 h];refine⟨by simp[yJI],fun q a=>?_,d⟩;obtain⟨x,b,rfl⟩:=Zq.1 a;rw[yZu (one x b)];exact Zc (hg.rw_ _ (row x b)).2.2 (by decide)
 ·rcases ZD.1 c with h | h
  ·obtain⟨j,hj,rfl⟩:=Zq.1 h;exact⟨show(1:Int)≤1 by decide,show(1:Int)≤3 by decide⟩
  ·rw[Yh.1 h];exact⟨show(1:Int)≤3 by decide,show(3:Int)≤3 by decide⟩
end
theorem yY8{U:List (Nat × Int)}(f:Nat→Rat){t:Nat}(h0:U[2*t]? = some (t,1))(h1:U[2*t+1]? = some (t, -1)):el (U.map fun x=>(x.2:Rat)*f x.1) (2*t+1) = -el (U.map fun x=>(x.2:Rat)*f x.1) (2*t):=by
 rw[znd (show(U.map fun x=>(x.2:Rat)*f x.1)[2*t+1]? = some _ by rw[Zx,h1];rfl),znd (show(U.map fun x=>(x.2:Rat)*f x.1)[2*t]? = some _ by rw[Zx,h0];rfl)];grind
theorem yY1{rows:List PRow}:∀k,(∀i,i<k→(rows.getD i default).kind≠3)→cnt rows k=k
 | 0,_=>rfl
 | k+1,h=>by rw[cnt,yY1 k fun i hi=>h i (by omega),if_neg (h k (by omega))]
section
variable {nC m:Nat} {cost:List Rat} {rows:List PRow} (hg:Good1 nC m cost rows) (hlc:cost.length=nC) (hlr:rows.length=m)
theorem yYY{U:List (Nat × Int)}{i:Nat}(h:i<cost.length):(yJL U rows cost++[p]).getD i default=⟨yJC U rows i,1,el cost i⟩:=by
 rw[Zi,ZO (by rw[yKO];exact h)];unfold yJL;rw[Zx,Z6 h];rfl
theorem yYS{U:List (Nat × Int)}:(yJL U rows cost++[p]).getD cost.length default=p:=by
 rw[Zi,Zz (by rw[yKO];omega),yKO,Z0];rfl
theorem yY0{U:List (Nat × Int)}(a:p.kind=3):cnt (yJL U rows cost++[p]) (cost.length+1)=cost.length:=by
 rw[cnt,yYS,if_pos a,yY1 _ fun i hi=>by rw[yYY hi];grind];rfl
include hg hlc hlr in
theorem yZI(z:mw v≤61)(d:g.length=(yLD rows).length) :
  Am.Ends (nC+1) ((yLD rows).length+nC) (zc3 (yJL (yLD rows) rows cost++[yJI (yLD rows) rows v])) (zg8 (yJL (yLD rows) rows cost++[yJI (yLD rows) rows v])) (zjD g (yJL (yLD rows) rows cost++[yJI (yLD rows) rows v]))
   (zSA ((yLD rows).length+nC) (nC+1) (zc3 (yJL (yLD rows) rows cost++[yJI (yLD rows) rows v])) (zg8 (yJL (yLD rows) rows cost++[yJI (yLD rows) rows v])) (zjD g (yJL (yLD rows) rows cost++[yJI (yLD rows) rows v])) 4000):=by
 have G:=yZy hg hlr z 0;have D:=yJy rows (List.replicate rows.length false) rows.length;have C:=hg.hc;have E:=hg.hr;have b:(yJL (yLD rows) rows cost++[yJI (yLD rows) rows v]).length=nC+1:=by rw[Zk,yKO,hlc];rfl
 have c:(yLD rows).length+cnt (yJL (yLD rows) rows cost++[yJI (yLD rows) rows v]) (nC+1)=(yLD rows).length+nC:=by
  have:=yY0 (rows:=rows) (cost:=cost) (U:=yLD rows) (p:=yJI (yLD rows) rows v) rfl;rw[hlc]at this;rw[this]
 have k:=zVA (cost:=g) G.sh d b c;have l:=zVz (cost:=g) G.sh d b c;have o:(zjD g (yJL (yLD rows) rows cost++[yJI (yLD rows) rows v])).length=(yLD rows).length+nC:=by unfold zjD;rw[Zk,Zr,d,b];exact c
 have y:(yLD rows).length=(wTo rows (List.replicate rows.length false) rows.length).length:=rfl;by_cases s:(yLD rows).length+nC=13
 ·have B:(yLD rows).length=8:=by omega
  have A:rows.length=4:=by omega
  have r:=yYZ (rows:=rows) (out:=List.replicate rows.length false) rows.length (by rw[←y];omega);refine(yYO (P:=4) (R:=5) k l o (by omega) (fun t q i hi=>?_) (by rw[s];exact yZz _ (by omega))).1;obtain⟨e,f⟩:=r t (by omega);rw[zWW (n:=(yLD rows).length) (zSE (cost:=g) G.sh d b c) (by rw[b];exact hi) (by omega),zWW (n:=(yLD rows).length) (zSE (cost:=g) G.sh d b c) (by rw[b];exact hi) (by omega)];by_cases u:i<cost.length
  ·rw[yYY u];exact yY8 (fun a=>el (rows.getD a default).coef i) e f
  ·obtain rfl:i=cost.length:=by omega
   rw[yYS];exact yY8 (fun a=>(rows.getD a default).rhs) e f
 ·exact(yYO (P:=0) (R:=(yLD rows).length+nC) k l o (by omega) (fun t q=>absurd q (ZN _)) (yZE _ (by omega) _ (by omega))).1
end
section
variable {nC m:Nat} {cost x:List Rat} {rows:List PRow} (hg:Good1 nC m cost rows) (hlc:cost.length=nC) (hlr:rows.length=m) (j:Nat)
end
def lsum {α:Type} (f:α→Rat):List α→Rat
  | []=>0
  | x::l=>f x+lsum f l
theorem yYW{α:Type}(f:α→Rat):∀l a,lsum f (l++a)=lsum f l+lsum f a
 | [],a=>by simp[lsum];grind
 | x::l,a=>by show f x+lsum f (l++a)=f x+lsum f l+lsum f a;rw[yYW f l a];grind
def yY9 (q:Rat):Rat:=if 0≤q then q else 0
theorem yZw(q:Rat):0≤yY9 q:=by unfold yY9;split<;>grind
def yY2 (U:List (Nat × Int)) (y:Nat→Rat) (u:Nat):Rat:=match U[u]? with
  | some x=>yY9 ((x.2:Rat)*y x.1)
  | none=>0
theorem yZm(U:List (Nat × Int))(y:Nat→Rat)(u:Nat):0≤yY2 U y u:=by
 unfold yY2;grind[yZw,Rat.le_refl]
theorem yY4(U:List (Nat × Int))(f y:Nat→Rat):∀k,k≤U.length→zai k (fun u=>el (U.map fun x=>(x.2:Rat)*f x.1) u*yY2 U y u)=lsum (fun x=>(x.2:Rat)*f x.1*yY9 ((x.2:Rat)*y x.1)) (U.take k)
 | 0,_=>by rfl
 | k+1,hk=>by
  have a:=Ze (l:=U) (i:=k) (by omega);rw[zai,yY4 U f y k (by omega),ZM,a,znd (show(U.map fun x=>(x.2:Rat)*f x.1)[k]? = some _ by rw[Zx,a];rfl),yYW];have e:yY2 U y k=yY9 ((U[k].2:Rat)*y U[k].1):=by unfold yY2;rw[a]
  rw[e];show _=_+lsum _ [U[k]]
  simp only[lsum];grind
theorem yZk{κ:Int}(k:Nat)(d:1≤κ∧κ≤3)(f y:Nat→Rat)(h1:κ=1→y k≤0)(c:κ=2→0≤y k):lsum (fun x=>((x:Nat × Int).2:Rat)*f x.1*yY9 ((x.2:Rat)*y x.1)) ((yJt κ).map fun g=>(k,g))=f k*y k:=by
 have a:((1:Int):Rat)=1:=rfl;have b:((-1:Int):Rat) = -1:=rfl;rcases(show κ=1∨κ=2∨κ=3 by omega)with rfl | rfl | rfl
 ·have:=h1 rfl;show((-1:Int):Rat)*f k*yY9 (((-1:Int):Rat)*y k)+0=_
  rw[b];unfold yY9;rw[if_pos (by grind)];grind
 ·have:=c rfl;show((1:Int):Rat)*f k*yY9 (((1:Int):Rat)*y k)+0=_
  rw[a];unfold yY9;rw[if_pos (by grind)];grind
 ·show((1:Int):Rat)*f k*yY9 (((1:Int):Rat)*y k)+(((-1:Int):Rat)*f k*yY9 (((-1:Int):Rat)*y k)+0)=_
  rw[a,b];unfold yY9;by_cases h:0≤y k
  ·rw[if_pos (by grind)];by_cases h0:y k=0
   ·rw[h0];split<;>grind
   ·rw[if_neg (by grind)];grind
  grind
theorem yZd(hk:Kinds rows)(f y:Nat→Rat){m:Nat}(hm:m≤rows.length)(out:List Bool)(b:∀k,k<m→out.getD k false=true→y k=0)(h1:∀k,k<m→(rows.getD k default).kind=1→y k≤0)(a:∀k,k<m→(rows.getD k default).kind=2→0≤y k) :
  lsum (fun x=>((x:Nat × Int).2:Rat)*f x.1*yY9 ((x.2:Rat)*y x.1)) (wTo rows out m)=zai m fun k=>f k*y k:=by
 induction m with
 | zero=>rfl
 | succ m ih =>
  rw[wTo,yYW,ih (by omega) (fun k hk=>b k (by omega)) (fun k hk=>h1 k (by omega)) fun k hk=>a k (by omega),zai];by_cases h:out.getD m false=true
  ·rw[if_pos h,b m (by omega) h];simp only[lsum];grind
  ·rw[if_neg h,yZk m (hk _ (Zh (zaO (by omega)))) f y (h1 m (by omega)) (a m (by omega))]
theorem yY3(hk:Kinds rows)(f y:Nat→Rat)(out:List Bool)(b:∀k,k<rows.length→out.getD k false=true→y k=0)(h1:∀k,k<rows.length→(rows.getD k default).kind=1→y k≤0)(a:∀k,k<rows.length→(rows.getD k default).kind=2→0≤y k) :
  zai (wTo rows out rows.length).length (fun u=>el ((wTo rows out rows.length).map fun x=>(x.2:Rat)*f x.1) u*yY2 (wTo rows out rows.length) y u)=zai rows.length fun k=>f k*y k:=by
 rw[yY4 _ f y _ (Za _),ZH (Za _),yZd hk f y (Za _) out b h1 a]
theorem yZp(rows:List PRow)(y:Nat→Rat):∀k,k<rows.length→(List.replicate rows.length false).getD k false=true→y k=0:=by grind
section
variable {nC m:Nat} {cost:List Rat} {rows:List PRow} (hk:Kinds rows) (hlc:cost.length=nC) (hlr:rows.length=m)
include hk hlc hlr in
theorem yZh(c:Signs m rows y)(d:∀j,j<nC→zai m (fun i=>el y i*el (rows.getD i default).coef j)≤el cost j)(l:zai m (fun i=>el y i*(rows.getD i default).rhs)=v) :
  ywM (yLD rows).length (yJL (yLD rows) rows cost++[yJI (yLD rows) rows v]) (yY2 (yLD rows) (el y)):=by
 subst hlr;have P:=fun f=>yY3 hk f (el y) (List.replicate rows.length false) (yZp rows _) c.s1 c.s2
 refine⟨fun u _=>yZm _ _ u,fun i hi=>?_⟩;rw[Zk,yKO]at hi;by_cases h:i<cost.length
 ·rw[yYY h];refine⟨fun _=>?_,fun e=>absurd e (show ¬(1:Int)=2 by decide),fun e=>absurd e (show ¬(1:Int)=3 by decide)⟩;show zai _ _≤el cost i
  have:=P fun a=>el (rows.getD a default).coef i
  refine Rat.le_trans (b:=zai rows.length fun k=>el (rows.getD k default).coef i*el y k) (by rw[←this];exact Rat.le_refl) ?_;rw[zaj (g:=fun k=>el y k*el (rows.getD k default).coef i) fun k _=>X5 _ _];exact d i (by omega)
 ·have hi:i<cost.length+1:=hi;obtain rfl:i=cost.length:=by omega
  rw[yYS];refine⟨fun e=>absurd e (show ¬(3:Int)=1 by decide),fun e=>absurd e (show ¬(3:Int)=2 by decide),fun _=>?_⟩;show zai _ _=v
  have:=P fun a=>(rows.getD a default).rhs
  refine this.trans ?_;rw[←l];exact zaj fun k _=>X5 _ _
include hk hlr in
theorem yZc(b:Signs m rows y)(c:k<m):ywA (yLD rows).length (yJH (yLD rows) k) (yY2 (yLD rows) (el y))=el y k:=by
 subst hlr;have P:=yY3 hk (fun a=>if a=k then 1 else 0) (el y) (List.replicate rows.length false) (yZp rows _) b.s1 b.s2;have e:yJH (yLD rows) k=(yLD rows).map fun x=>(x.2:Rat)*(if x.1=k then 1 else 0):=by
  unfold yJH;exact YA fun x _=>by split<;>grind
 rw[e];refine P.trans ?_;rw[zbI (k:=k) c fun i hi d=>by rw[if_neg d];grind,if_pos rfl];grind
end
theorem yY5{n:Nat}{r:Rat}{z:Nat→Rat}(a:g.length=n):ywA n (scale r g) z=r*ywA n g z:=by
 unfold ywA;rw[←za7];exact zaj fun j hj=>by
  rw[znd (zvn (zaH (xs:=g) (by omega)))];grind
section
variable {nC m:Nat} {cost:List Rat} {rows:List PRow} (hg:Good1 nC m cost rows) (hlc:cost.length=nC) (hlr:rows.length=m)
include hg hlc hlr in
theorem yZo(r:mw v≤61)(l:Signs m rows y)(t:∀j,j<nC→zai m (fun i=>el y i*el (rows.getD i default).coef j)≤el cost j)(B:zai m (fun i=>el y i*(rows.getD i default).rhs)=v)(hk:k<m)(e:Nat) :
  ∃q:Option Rat,yVC (yLD rows).length (yJH (yLD rows) k) (yJL (yLD rows) rows cost++[yJI (yLD rows) rows v]) 4000 e=.val q∧∀a,q=some a→a≤sgE e*el y k:=by
 have G:=yZy hg hlr r k;have d:(scale (sgE e) (yJH (yLD rows) k)).length=(yLD rows).length:=by rw[zfH];simp[yJH]
 have b:(yJL (yLD rows) rows cost++[yJI (yLD rows) rows v]).length=nC+1:=by rw[Zk,yKO,hlc];rfl
 have c:(yLD rows).length+cnt (yJL (yLD rows) rows cost++[yJI (yLD rows) rows v]) (nC+1)=(yLD rows).length+nC:=by
  have:=yY0 (rows:=rows) (cost:=cost) (U:=yLD rows) (p:=yJI (yLD rows) rows v) rfl;rw[hlc]at this;rw[this]
 have s:=yZI hg hlc hlr r d;have sh:=z6E G.sh d b c s;have g:Rows (yLD rows).length (yJL (yLD rows) rows cost++[yJI (yLD rows) rows v]):=fun p f=>⟨(G.rw_ p f).1,fun q z=>Zc ((G.rw_ p f).2.1 q z) (by decide),Zc (G.rw_ p f).2.2 (by decide)⟩
 have fit:=yZh hg.kd hlc hlr l t B;have pc:=yZc hg.kd hlr l hk
 have A:yVC (yLD rows).length (yJH (yLD rows) k) (yJL (yLD rows) rows cost++[yJI (yLD rows) rows v]) 4000 e=yJD (yLD rows).length (scale (sgE e) (yJH (yLD rows) k)) (yJL (yLD rows) rows cost++[yJI (yLD rows) rows v]) (zSA ((yLD rows).length+nC) (nC+1) (zc3 (yJL (yLD rows) rows cost++[yJI (yLD rows) rows v])) (zg8 (yJL (yLD rows) rows cost++[yJI (yLD rows) rows v])) (zjD (scale (sgE e) (yJH (yLD rows) k)) (yJL (yLD rows) rows cost++[yJI (yLD rows) rows v])) 4000):=by
  unfold yVC yJw;rw[b,c]
 have u:∀cols,yJA (yLD rows).length (yJL (yLD rows) rows cost++[yJI (yLD rows) rows v]) cols=(zh1 ((yLD rows).length+nC+(nC+1)) cols (za5 (zt0 (zc3 (yJL (yLD rows) rows cost++[yJI (yLD rows) rows v])) (zg8 (yJL (yLD rows) rows cost++[yJI (yLD rows) rows v]))) (zwh (zg8 (yJL (yLD rows) rows cost++[yJI (yLD rows) rows v]))) cols)).take (yLD rows).length:=fun cols=>by
  unfold yJA;rw[b,c]
 rw[A];generalize zSA ((yLD rows).length+nC) (nC+1) (zc3 (yJL (yLD rows) rows cost++[yJI (yLD rows) rows v])) (zg8 (yJL (yLD rows) rows cost++[yJI (yLD rows) rows v])) (zjD (scale (sgE e) (yJH (yLD rows) k)) (yJL (yLD rows) rows cost++[yJI (yLD rows) rows v])) 4000=o at *
 cases o with
 | spent n=>cases sh
 | none cols n=>exact absurd fit (yxj g G.sh b sh _)
 | falls cols j n=>exact⟨none,rfl,fun a h=>by cases h⟩
 | best cols n =>
  refine⟨some _,rfl,fun a h=>?_⟩;injection h with h;rw[←h,u];obtain⟨sg,_,_,C,sv⟩:=sh;have:=yxh g G.sh d b sg C fit;rw[yY5 (by simp[yJH]),pc]at this;exact Rat.le_trans (by rw[sv];exact Rat.le_refl) this
include hg hlc hlr in
theorem yZB(f:mw v≤61)(d:Signs m rows y)(c:∀j,j<nC→zai m (fun i=>el y i*el (rows.getD i default).coef j)≤el cost j)(e:zai m (fun i=>el y i*(rows.getD i default).rhs)=v)(hk:k<m) :
  ∃lo hi:Option Rat,yJF (yLD rows).length (yJH (yLD rows) k) (yJL (yLD rows) rows cost++[yJI (yLD rows) rows v]) 4000=.ends lo hi∧(∀a,lo=some a→a≤el y k)∧∀a,hi=some a→el y k≤a:=by
 obtain⟨o,l,h0⟩:=yZo hg hlc hlr f d c e hk 0;obtain⟨g,n,h1⟩:=yZo hg hlc hlr f d c e hk 1;refine⟨o,g.map fun q => -q,by unfold yJF;rw[l,n];rfl,fun a h=>?_,fun a h=>?_⟩
 ·have:=h0 a h;rw[show sgE 0=1 from rfl]at this;grind
 ·cases hq:g with
  | none=>rw[hq]at h;cases h
  | some b =>
   rw[hq]at h;injection h with h;have:=h1 b hq;rw[show sgE 1 = -1 from rfl]at this;grind
end
