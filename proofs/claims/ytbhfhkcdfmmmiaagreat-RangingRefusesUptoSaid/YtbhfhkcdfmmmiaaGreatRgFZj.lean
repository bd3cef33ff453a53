/- Contracts and lemmas: Lst RgF RgG. Conditions: as each says. -/
import Derived.Test.YtbhfhkcdfmmmiaaGreatSol18Zj
import Derived.Test.YtbhfhkcdfmmmiaaGreatCert1Zj
import Derived.Test.YtbhfhkcdfmmmiaaGreatRgDZj
set_option linter.all false
set_option maxHeartbeats 1000000
set_option maxRecDepth 100000
namespace Go.Proofs.YtbhfhkcdfmmmiaaGreat
open Go.RowKit Am
variable {rows:List PRow}{cost g x y:List Rat}{S i k m nC:Nat}{z:Nat→Rat}{p:PRow}{v:Rat}
def asL (nC:Nat) (x:Nat→Rat):List Rat:=(List.range nC).map x
theorem yxw(nC:Nat)(x:Nat→Rat):(asL nC x).length=nC:=by simp[asL]
theorem yxv{j:Nat}(x:Nat→Rat)(h:j<nC):el (asL nC x) j=x j:=by
 unfold asL
 conv=>lhs;unfold el
 rw[zbU _ _ (by grind) 0,zcA h]
theorem yxp(h:p.coef.length=nC):dot p.coef x=ywR nC p (el x):=by
 unfold dot ziw ywR;rw[h]
theorem ywX(h:cost.length=nC):dot cost x=ywA nC cost (el x):=by
 unfold dot ziw ywA;rw[h]
theorem yxz{x:Nat→Rat}(e:∀j,j<nC→x j=z j):ywR nC p x=ywR nC p z:=zaj fun j hj=>by rw[e j hj]
theorem yw9{x:Nat→Rat}(e:∀j,j<nC→x j=z j):ywA nC cost x=ywA nC cost z:=zaj fun j hj=>by rw[e j hj]
theorem yxf{x:Nat→Rat}(e:∀j,j<nC→x j=z j)(h:ywM nC rows x):ywM nC rows z :=
 ⟨fun j hj=>by rw[←e j hj];exact h.1 j hj,fun i hi=>by have a:=h.2 i hi;unfold ywH at a ⊢;rw[←yxz e];exact a⟩
theorem yxa(hk:1≤p.kind∧p.kind≤3)(d:p.coef.length=nC):zdH p x=true↔ywH nC p (el x):=by
 rw[yel hk];unfold ywH zdp;rw[yxp d];grind
theorem ywY(a:Shape nC rows)(hc:cost.length=nC)(lx:x.length=nC):znD cost rows x=true↔ywM nC rows (el x):=by
 rw[ydT];constructor
 ·rintro⟨_,b,c⟩;exact⟨fun j _=>b j,fun i hi=>(yxa (a.kd _ (yd2 hi)) (a.co _ (yd2 hi))).1 (c _ (yd2 hi))⟩
 ·rintro⟨b,c⟩;refine⟨by omega,fun j=>?_,fun p d=>?_⟩
  ·grind[zDb,Rat.le_refl]
  ·obtain⟨i,hi⟩:=Z0.1 d;have f:=(Zm.1 hi).1;have e:rows.getD i default=p:=zfC hi;have h:=c i f;rw[e]at h;exact(yxa (a.kd p d) (a.co p d)).2 h
theorem yw3(h:Rows nC rows)(hc:cost.length=nC)(hlr:rows.length=m)(c:Signs m rows y)(d:∀j,j<nC→zai m (fun i=>el y i*el (rows.getD i default).coef j)≤el cost j):ydS nC cost rows y=true:=by
 subst hlr;refine(ydU h hc).2 ⟨d,fun k hk=>?_⟩;unfold zIc;have a:=c.s1 k hk;have b:=c.s2 k hk;rw[Yb,Y7,YF,YF,decide_eq_false_iff_not,decide_eq_false_iff_not,decide_eq_false_iff_not,decide_eq_false_iff_not];grind
theorem yxh{x:Nat→Rat}(h:Rows nC rows)(a:Shape nC rows)(hc:cost.length=nC)(hlr:rows.length=m)(d:Signs m rows y)(b:∀j,j<nC→zai m (fun i=>el y i*el (rows.getD i default).coef j)≤el cost j)(e:ywM nC rows x):sb y rows≤ywA nC cost x:=by
 have c:znD cost rows (asL nC x)=true:=(ywY a hc (yxw _ _)).2 (yxf (fun j hj=>(yxv x hj).symm) e);have:=weak h a.kd hc (yw3 h hc hlr d b) c;rw[ywX hc,yw9 fun j hj=>yxv x hj]at this;exact this
theorem yxj(h:Rows nC rows)(c:Shape nC rows)(hlr:rows.length=m)(b:zUQ nC m rows y)(x:Nat→Rat):¬ywM nC rows x:=fun f=>by
 obtain⟨d,a,g⟩:=b;have:=yxh (cost:=List.replicate nC 0) h c (by simp) hlr d (fun j hj=>by rw[zrm];exact a j hj) f;have e:ywA nC (List.replicate nC 0) x=0:=zcn fun j _=>by rw[zrm,Rat.zero_mul]
 grind
theorem yxT{N:Nat}{A:List (List Rat)}{b c:List Rat}{cols:List Nat}(a:Basis m N A cols)(zA:∀r∈A,∀q∈r,mw q≤S)(p:b.length=m)(zb:∀q∈b,mw q≤S)(zc:∀j,mw (el c j)≤S)(h1:1≤S) :
  mw (zai m fun k=>el c (cols.getD k 0)*el (za5 A b cols) k)≤cB (m+1) S:=by
 obtain⟨e,_⟩:=a.vals_ok b;have l:=zLu a zA;have cut:∀(f:Nat→Rat),zai (m+1) f=zai m f+f m:=fun f=>rfl
 have o:=ywn (n:=m+1) (S:=S) (M:=fun i j=>if i<m then (if j<m then en (bc A cols) j i else 0)else (if j<m then el c (cols.getD j 0)else -1)) (b:=fun i=>if i<m then el b i else 0)
  (x:=fun j=>if j<m then el (za5 A b cols) j else zai m fun k=>el c (cols.getD k 0)*el (za5 A b cols) k) ?_ ?_ ?_ ?_ m (by omega)
 ·grind
 ·intro y d;have y0:∀j,j<m→y j=0:=a.reg y fun i hi=>by
   have:=d i (by omega);rw[cut,if_pos hi]at this;simp only[if_neg (Xt m)]at this;rw[zaj (g:=fun j=>en (bc A cols) j i*y j) fun j hj=>by rw[if_pos hi,if_pos hj]]at this;grind
  intro j hj;by_cases h:j<m
  ·exact y0 j h
  ·obtain rfl:j=m:=by omega
   have:=d j (by omega);rw[cut]at this;simp only[if_neg (Xt j)]at this;rw[zcn fun k hk=>by rw[y0 k hk,Rat.mul_zero]]at this;grind
 ·intro i _ j _;split
  ·split
   ·rename_i h1 h2;exact l j h2 i h1
   ·exact Zc mw0 h1
  grind[zhY,Nat.le_trans,mw1]
 ·intro i _;split
  ·rename_i h;exact zrz zb (by omega)
  ·exact Zc mw0 h1
 ·intro i hi;by_cases h:i<m
  ·simp only[if_pos h];rw[cut];simp only[if_neg (Xt m)];rw[zaj (g:=fun j=>en (bc A cols) j i*el (za5 A b cols) j) fun j hj=>by rw[if_pos hj,if_pos hj],e i h];grind
  ·simp only[if_neg h];rw[cut];simp only[if_neg (Xt m)];rw[zaj (g:=fun k=>el c (cols.getD k 0)*el (za5 A b cols) k) fun j hj=>by rw[if_pos hj,if_pos hj]];grind
theorem yBH(hg:GoodS S nC m cost rows)(hlc:cost.length=nC)(hlr:rows.length=m){G:List Nat}(d:Basis m (nC+cnt rows m+m) (zt0 (zc3 rows) (zg8 rows)) G):mw (dot cost (ytf nC (nC+cnt rows m+m) (zt0 (zc3 rows) (zg8 rows)) (zwh (zg8 rows)) G))≤cB (m+1) S:=by
 have zc:=zXe (m:=m) hg.h1 (z6P hg);have f:(zjD cost rows).length=nC+cnt rows m:=by unfold zjD;rw[Zj,Zr,hlc,hlr]
 have k:=yxT d (zXc (b:=zg8 rows) hg.h1 (z6N hg hlr)) (by rw[zUh,zVz hg.sh hlc hlr rfl]) (zXd (z6O hg)) (c:=zKb m (zjD cost rows)) (fun j=>zDJ hg.h1 zc j) hg.h1;have e:=ywB (m:=m) hlc rows f (pt m (fun k=>G.getD k 0) (el (za5 (zt0 (zc3 rows) (zg8 rows)) (zwh (zg8 rows)) G)));rw[zyA d.lt]at e;rw[yxb (X:=pt m (fun k=>G.getD k 0) (el (za5 (zt0 (zc3 rows) (zg8 rows)) (zwh (zg8 rows)) G))) d.len (by omega) fun j=>rfl]
 have a:=ywX (x:=asL nC (pt m (fun k=>G.getD k 0) (el (za5 (zt0 (zc3 rows) (zg8 rows)) (zwh (zg8 rows)) G)))) hlc;rw[yw9 fun j hj=>yxv _ hj,←e]at a;unfold asL at a;rw[a];exact k
section
variable {rows:List PRow} {out:List Bool}
theorem yYZ:∀k,(wTo rows out k).length=2*k→∀t,t<k→(wTo rows out k)[2*t]? = some (t,1)∧(wTo rows out k)[2*t+1]? = some (t, -1)
 | 0,_,t,ht=>absurd ht (ZK _)
 | k+1,h,t,ht=>by
  have h1:=yJy rows out k;unfold wTo at h ⊢;rw[Zj]at h;by_cases f:out.getD k false=true
  ·rw[if_pos f]at h;simp at h;omega
  ·rw[if_neg f]at h ⊢;rw[Zl]at h;have i:=yJu (rows.getD k default).kind;have d:(wTo rows out k).length=2*k:=by omega
   have c:(yJt (rows.getD k default).kind).length=2:=by omega
   have g:yJt (rows.getD k default).kind=[1, -1]:=by
    unfold yJt at c ⊢;split at c
    ·rename_i e;rw[if_pos e]
    ·split at c
     ·simp at c
     ·split at c<;>simp at c
   rw[g];rcases ZV t k with htk | htk
   ·obtain⟨a,b⟩:=yYZ k d t htk;rw[ZO (by omega),ZO (by omega)];exact⟨a,b⟩
   ·obtain rfl:t=k:=by omega
    rw[Zy (by omega),Zy (by omega),d];simp
end
theorem yZG:∀m,m≤6→sB m 61 61≤4000000:=by decide +kernel
theorem yZr:∀m,m≤6→zor m 61≤LIM:=by unfold LIM;decide +kernel
theorem yZH:∀m,m≤4→cB (m+1) 1≤61:=by decide +kernel
theorem yZu{g:Int}{q:Rat}(h:g=1∨g = -1):mw ((g:Rat)*q)=mw q:=yXO (by rcases h with rfl | rfl;exact .inl rfl;grind)
section
variable {nC m:Nat} {cost:List Rat} {rows:List PRow} (hg:Good1 nC m cost rows) (hlc:cost.length=nC) (hlr:rows.length=m)
include hg hlr in
theorem yZy(d:mw v≤61)(k:Nat):GoodS 61 (yLD rows).length (nC+1) (yJH (yLD rows) k) (yJL (yLD rows) rows cost++[yJI (yLD rows) rows v]):=by
 have f:=yJy rows (List.replicate rows.length false) rows.length;have hm:=hg.hr;have hc:=hg.hc;have h1:∀q∈cost,mw q≤61:=fun q a=>Zc (hg.sc q a) (by decide)
 have one:=yJz rows (List.replicate rows.length false) rows.length;have lt:=yJB rows (List.replicate rows.length false) rows.length;have row:∀x∈yLD rows,rows.getD x.1 default∈rows:=fun x b=>Zh (zaO (lt x b))
 refine⟨fun q a=>?_,fun p c=>?_,fun p c=>?_,by decide,by decide,by show(yLD rows).length≤24;unfold yLD;omega,by omega,yZr _ (by omega),yZG _ (by omega)⟩
 ·obtain⟨x,b,rfl⟩:=Zq.1 a;split
  ·exact Zc (zu9 _ (by rcases one x b with e | e<;>rw[e]<;>exact⟨by decide,by decide⟩)) (by decide)
  ·exact Zc mw0 (by decide)
 ·rcases ZD.1 c with h | h
  ·obtain⟨j,hj,rfl⟩:=Zq.1 h;refine⟨by simp[yJC],fun q a=>?_,?_⟩
   ·obtain⟨x,b,rfl⟩:=Zq.1 a;rw[yZu (one x b)];exact zDJ (by decide) (fun q a=>Zc ((hg.rw_ _ (row x b)).2.1 q a) (by decide)) j
   ·exact zDJ (by decide) h1 j
  ·rw[Yi.1 h];refine⟨by simp[yJI],fun q a=>?_,d⟩;obtain⟨x,b,rfl⟩:=Zq.1 a;rw[yZu (one x b)];exact Zc (hg.rw_ _ (row x b)).2.2 (by decide)
 ·rcases ZD.1 c with h | h
  ·obtain⟨j,hj,rfl⟩:=Zq.1 h;exact⟨show(1:Int)≤1 by decide,show(1:Int)≤3 by decide⟩
  ·rw[Yi.1 h];exact⟨show(1:Int)≤3 by decide,show(3:Int)≤3 by decide⟩
end
theorem yY8{U:List (Nat × Int)}(f:Nat→Rat){t:Nat}(h0:U[2*t]? = some (t,1))(h1:U[2*t+1]? = some (t, -1)):el (U.map fun x=>(x.2:Rat)*f x.1) (2*t+1) = -el (U.map fun x=>(x.2:Rat)*f x.1) (2*t):=by
 rw[znd (show(U.map fun x=>(x.2:Rat)*f x.1)[2*t+1]? = some _ by rw[Zw,h1];rfl),znd (show(U.map fun x=>(x.2:Rat)*f x.1)[2*t]? = some _ by rw[Zw,h0];rfl)];grind
theorem yY1{rows:List PRow}:∀k,(∀i,i<k→(rows.getD i default).kind≠3)→cnt rows k=k
 | 0,_=>rfl
 | k+1,h=>by rw[cnt,yY1 k fun i hi=>h i (by omega),if_neg (h k (by omega))]
section
variable {nC m:Nat} {cost:List Rat} {rows:List PRow} (hg:Good1 nC m cost rows) (hlc:cost.length=nC) (hlr:rows.length=m)
theorem yYY{U:List (Nat × Int)}(h:i<cost.length):(yJL U rows cost++[p]).getD i default=⟨yJC U rows i,1,el cost i⟩:=by
 rw[Zi,ZO (by rw[yKO];exact h)];unfold yJL;rw[Zw,Z4 h];rfl
theorem yYS{U:List (Nat × Int)}:(yJL U rows cost++[p]).getD cost.length default=p:=by
 rw[Zi,Zy (by rw[yKO];omega),yKO,ZZ];rfl
theorem yY0{U:List (Nat × Int)}(a:p.kind=3):cnt (yJL U rows cost++[p]) (cost.length+1)=cost.length:=by
 rw[cnt,yYS,if_pos a,yY1 _ fun i hi=>by rw[yYY hi];grind];rfl
include hg hlc hlr in
theorem yZI(z:mw v≤61)(d:g.length=(yLD rows).length) :
  Am.Ends (nC+1) ((yLD rows).length+nC) (zc3 (yJL (yLD rows) rows cost++[yJI (yLD rows) rows v])) (zg8 (yJL (yLD rows) rows cost++[yJI (yLD rows) rows v])) (zjD g (yJL (yLD rows) rows cost++[yJI (yLD rows) rows v]))
   (zSA ((yLD rows).length+nC) (nC+1) (zc3 (yJL (yLD rows) rows cost++[yJI (yLD rows) rows v])) (zg8 (yJL (yLD rows) rows cost++[yJI (yLD rows) rows v])) (zjD g (yJL (yLD rows) rows cost++[yJI (yLD rows) rows v])) 4000):=by
 have G:=yZy hg hlr z 0;have D:=yJy rows (List.replicate rows.length false) rows.length;have C:=hg.hc;have E:=hg.hr;have b:(yJL (yLD rows) rows cost++[yJI (yLD rows) rows v]).length=nC+1:=by rw[Zj,yKO,hlc];rfl
 have c:(yLD rows).length+cnt (yJL (yLD rows) rows cost++[yJI (yLD rows) rows v]) (nC+1)=(yLD rows).length+nC:=by
  have:=yY0 (rows:=rows) (cost:=cost) (U:=yLD rows) (p:=yJI (yLD rows) rows v) rfl;rw[hlc]at this;rw[this]
 have k:=zVA (cost:=g) G.sh d b c;have l:=zVz (cost:=g) G.sh d b c;have o:(zjD g (yJL (yLD rows) rows cost++[yJI (yLD rows) rows v])).length=(yLD rows).length+nC:=by unfold zjD;rw[Zj,Zr,d,b];exact c
 have y:(yLD rows).length=(wTo rows (List.replicate rows.length false) rows.length).length:=rfl;by_cases s:(yLD rows).length+nC=13
 ·have B:(yLD rows).length=8:=by omega
  have A:rows.length=4:=by omega
  have r:=yYZ (rows:=rows) (out:=List.replicate rows.length false) rows.length (by rw[←y];omega);refine(yYO (P:=4) (R:=5) k l o (by omega) (fun t q i hi=>?_) (by rw[s];exact yZz _ (by omega))).1;obtain⟨e,f⟩:=r t (by omega);rw[zWW (n:=(yLD rows).length) (zSE (cost:=g) G.sh d b c) (by rw[b];exact hi) (by omega),zWW (n:=(yLD rows).length) (zSE (cost:=g) G.sh d b c) (by rw[b];exact hi) (by omega)];by_cases u:i<cost.length
  ·rw[yYY u];exact yY8 (fun a=>el (rows.getD a default).coef i) e f
  ·obtain rfl:i=cost.length:=by omega
   rw[yYS];exact yY8 (fun a=>(rows.getD a default).rhs) e f
 ·exact(yYO (P:=0) (R:=(yLD rows).length+nC) k l o (by omega) (fun t q=>absurd q (ZK _)) (yZE _ (by omega) _ (by omega))).1
end
theorem yZF:∀m,m≤5→sB m 1 1≤4000000:=by decide +kernel
theorem yZq:∀m,m≤5→zor m 1≤LIM:=by unfold LIM;decide +kernel
theorem yZt(b:Bool):∀q∈rats (if b=true then [-1,1]else [0,0]),mw q≤1:=by cases b<;>decide +kernel
section
variable {nC m:Nat} {cost x:List Rat} {rows:List PRow} (hg:Good1 nC m cost rows) (hlc:cost.length=nC) (hlr:rows.length=m) (j:Nat)
theorem yYU{U:List (Nat × Int)}:(yJJ U rows cost x j k).coef=yJC U rows k++rats (if decide (k=j)=true then [-1,1]else [0,0]):=by
 unfold yJJ;simp only[decide_eq_true_eq]
theorem yYX:(rats (if decide (k=j)=true then [-1,1]else [0,0])).length=2:=by split<;>rfl
include hg hlc hlr in
theorem yZC:GoodS 1 ((yKS rows x).length+2) nC (yJG (yKS rows x)) (yJK (yKS rows x) rows cost x j):=by
 have d:=yJy rows (yLU rows x) rows.length;have hm:=hg.hr;have hc:=hg.hc;have one:=yJz rows (yLU rows x) rows.length;have lt:=yJB rows (yLU rows x) rows.length;have row:∀y∈yKS rows x,rows.getD y.1 default∈rows:=fun y b=>Zh (zaO (lt y b))
 refine⟨fun q a=>?_,fun p c=>?_,fun p c=>?_,by decide,by decide,by show(yKS rows x).length+2≤24;unfold yKS;omega,by omega,yZq _ hc,yZF _ hc⟩
 ·rcases ZD.1 a with h | h
  ·rw[(Yk.1 h).2];exact mw0
  ·exact(show ∀q∈rats [1, -1],mw q≤1 by decide +kernel) q h
 ·obtain⟨k,hk,rfl⟩:=Zq.1 c;refine⟨by rw[yYU,Zj,yYX];simp[yJC],fun q a=>?_,?_⟩
  ·rw[yYU]at a;rcases ZD.1 a with h | h
   ·obtain⟨y,b,rfl⟩:=Zq.1 h;rw[yZu (one y b)];exact zDJ (by decide) (hg.rw_ _ (row y b)).2.1 k
   ·exact yZt _ q h
  ·show mw (if k=j then 0 else el cost k)≤1
   split
   ·exact mw0
   ·exact zDJ (by decide) hg.sc k
 ·obtain⟨k,hk,rfl⟩:=Zq.1 c;show 1≤(if el x k=0 then (1:Int)else 3)∧(if el x k=0 then (1:Int)else 3)≤3
  split<;>exact⟨by decide,by decide⟩
theorem yZn{U:List (Nat × Int)}(h:i<cost.length):(yJK U rows cost x j).getD i default=yJJ U rows cost x j i:=by
 rw[Zi];unfold yJK;rw[Zw,Z4 h];rfl
include hg hlc hlr in
theorem yZJ(c:g.length=(yKS rows x).length+2){K:Nat}(o:cnt (yJK (yKS rows x) rows cost x j) nC=K) :
  Am.Ends nC ((yKS rows x).length+2+K) (zc3 (yJK (yKS rows x) rows cost x j)) (zg8 (yJK (yKS rows x) rows cost x j)) (zjD g (yJK (yKS rows x) rows cost x j))
   (zSA ((yKS rows x).length+2+K) nC (zc3 (yJK (yKS rows x) rows cost x j)) (zg8 (yJK (yKS rows x) rows cost x j)) (zjD g (yJK (yKS rows x) rows cost x j)) 4000):=by
 have G:=yZC (x:=x) hg hlc hlr j;have E:=yJy rows (yLU rows x) rows.length;have A:=hg.hc;have F:=hg.hr;have b:(yJK (yKS rows x) rows cost x j).length=nC:=by rw[yLT,hlc]
 have d:(yKS rows x).length+2+cnt (yJK (yKS rows x) rows cost x j) nC=(yKS rows x).length+2+K:=by rw[o]
 have D:=zgO (yJK (yKS rows x) rows cost x j) nC;have k:=zVA (cost:=g) G.sh c b d;have p:=zVz (cost:=g) G.sh c b d;have q:(zjD g (yJK (yKS rows x) rows cost x j)).length=(yKS rows x).length+2+K:=by unfold zjD;rw[Zj,Zr,c,b,o]
 have B:(yKS rows x).length=(wTo rows (yLU rows x) rows.length).length:=rfl;by_cases y:(yKS rows x).length+2+K=15
 ·have z:(yKS rows x).length=8:=by omega
  have C:rows.length=4:=by omega
  have v:=yYZ (rows:=rows) (out:=yLU rows x) rows.length (by rw[←B];omega);refine(yYO (P:=5) (R:=5) k p q (by omega) (fun t r i hi=>?_) (by rw[y];exact yZA _ (by omega))).1;rw[zWW (n:=(yKS rows x).length+2) (zSE (cost:=g) G.sh c b d) (by rw[b];exact hi) (by omega),zWW (n:=(yKS rows x).length+2) (zSE (cost:=g) G.sh c b d) (by rw[b];exact hi) (by omega),yZn j (by omega),yYU];have e:(yJC (yKS rows x) rows i).length=8:=by unfold yJC;rw[Zl,z]
  rcases ZV t 4 with h | h
  ·obtain⟨s,u⟩:=v t (by omega);rw[zkF (by omega),zkF (by omega)];exact yY8 (fun a=>el (rows.getD a default).coef i) s u
  ·obtain rfl:t=4:=by omega
   have f:∀l:List Rat,l.length=2→el (yJC (yKS rows x) rows i++l) (2*4+1)=el l 1∧el (yJC (yKS rows x) rows i++l) (2*4)=el l 0:=fun l _=>by
    exact⟨by unfold el;rw[Zi,Zy (by omega),e,←Zi],by unfold el;rw[Zi,Zy (by omega),e,←Zi]⟩
   rw[(f _ (yYX j)).1,(f _ (yYX j)).2];generalize decide (i=j)=bb;cases bb<;>decide +kernel
 ·exact(yYO (P:=0) (R:=(yKS rows x).length+2+K) k p q (by omega) (fun t r=>absurd r (ZK _)) (yZD _ (by omega) _ A)).1
end
def lsum {α:Type} (f:α→Rat):List α→Rat
  | []=>0
  | x::l=>f x+lsum f l
theorem yYW{α:Type}(f:α→Rat):∀l a,lsum f (l++a)=lsum f l+lsum f a
 | [],a=>by simp[lsum];grind
 | x::l,a=>by show f x+lsum f (l++a)=f x+lsum f l+lsum f a;rw[yYW f l a];grind
def yY9 (q:Rat):Rat:=if 0≤q then q else 0
theorem yZw(q:Rat):0≤yY9 q:=by unfold yY9;split<;>grind
def yY2 (U:List (Nat × Int)) (y:Nat→Rat) (u:Nat):Rat:=match U[u]? with
  | some x=>yY9 ((x.2:Rat)*y x.1)
  | none=>0
theorem yZm(U:List (Nat × Int))(y:Nat→Rat)(u:Nat):0≤yY2 U y u:=by
 unfold yY2;grind[yZw,Rat.le_refl]
theorem yY4(U:List (Nat × Int))(f y:Nat→Rat):∀k,k≤U.length→zai k (fun u=>el (U.map fun x=>(x.2:Rat)*f x.1) u*yY2 U y u)=lsum (fun x=>(x.2:Rat)*f x.1*yY9 ((x.2:Rat)*y x.1)) (U.take k)
 | 0,_=>by rfl
 | k+1,hk=>by
  have a:=Ze (l:=U) (i:=k) (by omega);rw[zai,yY4 U f y k (by omega),ZN,a,znd (show(U.map fun x=>(x.2:Rat)*f x.1)[k]? = some _ by rw[Zw,a];rfl),yYW];have e:yY2 U y k=yY9 ((U[k].2:Rat)*y U[k].1):=by unfold yY2;rw[a]
  rw[e];show _=_+lsum _ [U[k]]
  simp only[lsum];grind
theorem yZk{κ:Int}(k:Nat)(d:1≤κ∧κ≤3)(f y:Nat→Rat)(h1:κ=1→y k≤0)(c:κ=2→0≤y k):lsum (fun x=>((x:Nat × Int).2:Rat)*f x.1*yY9 ((x.2:Rat)*y x.1)) ((yJt κ).map fun g=>(k,g))=f k*y k:=by
 have a:((1:Int):Rat)=1:=rfl;have b:((-1:Int):Rat) = -1:=rfl;rcases(show κ=1∨κ=2∨κ=3 by omega)with rfl | rfl | rfl
 ·have:=h1 rfl;show((-1:Int):Rat)*f k*yY9 (((-1:Int):Rat)*y k)+0=_
  rw[b];unfold yY9;rw[if_pos (by grind)];grind
 ·have:=c rfl;show((1:Int):Rat)*f k*yY9 (((1:Int):Rat)*y k)+0=_
  rw[a];unfold yY9;rw[if_pos (by grind)];grind
 ·show((1:Int):Rat)*f k*yY9 (((1:Int):Rat)*y k)+(((-1:Int):Rat)*f k*yY9 (((-1:Int):Rat)*y k)+0)=_
  rw[a,b];unfold yY9;by_cases h:0≤y k
  ·rw[if_pos (by grind)];by_cases h0:y k=0
   ·rw[h0];split<;>grind
   ·rw[if_neg (by grind)];grind
  grind
theorem yZd(hk:Kinds rows)(f y:Nat→Rat)(hm:m≤rows.length)(out:List Bool)(b:∀k,k<m→out.getD k false=true→y k=0)(h1:∀k,k<m→(rows.getD k default).kind=1→y k≤0)(a:∀k,k<m→(rows.getD k default).kind=2→0≤y k) :
  lsum (fun x=>((x:Nat × Int).2:Rat)*f x.1*yY9 ((x.2:Rat)*y x.1)) (wTo rows out m)=zai m fun k=>f k*y k:=by
 induction m with
 | zero=>rfl
 | succ m ih =>
  rw[wTo,yYW,ih (by omega) (fun k hk=>b k (by omega)) (fun k hk=>h1 k (by omega)) fun k hk=>a k (by omega),zai];by_cases h:out.getD m false=true
  ·rw[if_pos h,b m (by omega) h];simp only[lsum];grind
  ·rw[if_neg h,yZk m (hk _ (Zh (zaO (by omega)))) f y (h1 m (by omega)) (a m (by omega))]
theorem yY3(hk:Kinds rows)(f y:Nat→Rat)(out:List Bool)(b:∀k,k<rows.length→out.getD k false=true→y k=0)(h1:∀k,k<rows.length→(rows.getD k default).kind=1→y k≤0)(a:∀k,k<rows.length→(rows.getD k default).kind=2→0≤y k) :
  zai (wTo rows out rows.length).length (fun u=>el ((wTo rows out rows.length).map fun x=>(x.2:Rat)*f x.1) u*yY2 (wTo rows out rows.length) y u)=zai rows.length fun k=>f k*y k:=by
 rw[yY4 _ f y _ (Za _),ZH (Za _),yZd hk f y (Za _) out b h1 a]
theorem yZp(rows:List PRow)(y:Nat→Rat):∀k,k<rows.length→(List.replicate rows.length false).getD k false=true→y k=0:=by grind
section
variable {nC m:Nat} {cost:List Rat} {rows:List PRow} (hk:Kinds rows) (hlc:cost.length=nC) (hlr:rows.length=m)
include hk hlc hlr in
theorem yZh(c:Signs m rows y)(d:∀j,j<nC→zai m (fun i=>el y i*el (rows.getD i default).coef j)≤el cost j)(l:zai m (fun i=>el y i*(rows.getD i default).rhs)=v) :
  ywM (yLD rows).length (yJL (yLD rows) rows cost++[yJI (yLD rows) rows v]) (yY2 (yLD rows) (el y)):=by
 subst hlr;have P:=fun f=>yY3 hk f (el y) (List.replicate rows.length false) (yZp rows _) c.s1 c.s2
 refine⟨fun u _=>yZm _ _ u,fun i hi=>?_⟩;rw[Zj,yKO]at hi;by_cases h:i<cost.length
 ·rw[yYY h];refine⟨fun _=>?_,fun e=>absurd e (show ¬(1:Int)=2 by decide),fun e=>absurd e (show ¬(1:Int)=3 by decide)⟩;show zai _ _≤el cost i
  have:=P fun a=>el (rows.getD a default).coef i
  refine Rat.le_trans (b:=zai rows.length fun k=>el (rows.getD k default).coef i*el y k) (by rw[←this];exact Rat.le_refl) ?_;rw[zaj (g:=fun k=>el y k*el (rows.getD k default).coef i) fun k _=>X7 _ _];exact d i (by omega)
 ·have hi:i<cost.length+1:=hi;obtain rfl:i=cost.length:=by omega
  rw[yYS];refine⟨fun e=>absurd e (show ¬(3:Int)=1 by decide),fun e=>absurd e (show ¬(3:Int)=2 by decide),fun _=>?_⟩;show zai _ _=v
  have:=P fun a=>(rows.getD a default).rhs
  refine this.trans ?_;rw[←l];exact zaj fun k _=>X7 _ _
include hk hlr in
theorem yZc(b:Signs m rows y)(c:k<m):ywA (yLD rows).length (yJH (yLD rows) k) (yY2 (yLD rows) (el y))=el y k:=by
 subst hlr;have P:=yY3 hk (fun a=>if a=k then 1 else 0) (el y) (List.replicate rows.length false) (yZp rows _) b.s1 b.s2;have e:yJH (yLD rows) k=(yLD rows).map fun x=>(x.2:Rat)*(if x.1=k then 1 else 0):=by
  unfold yJH;exact YC fun x _=>by split<;>grind
 rw[e];refine P.trans ?_;rw[zbI (k:=k) c fun i hi d=>by rw[if_neg d];grind,if_pos rfl];grind
end
theorem yY5{n:Nat}{r:Rat}(a:g.length=n):ywA n (scale r g) z=r*ywA n g z:=by
 unfold ywA;rw[←za7];exact zaj fun j hj=>by
  rw[znd (zvn (zaH (xs:=g) (by omega)))];grind
section
variable {nC m:Nat} {cost:List Rat} {rows:List PRow} (hg:Good1 nC m cost rows) (hlc:cost.length=nC) (hlr:rows.length=m)
include hg hlc hlr in
theorem yZo(r:mw v≤61)(l:Signs m rows y)(t:∀j,j<nC→zai m (fun i=>el y i*el (rows.getD i default).coef j)≤el cost j)(B:zai m (fun i=>el y i*(rows.getD i default).rhs)=v)(hk:k<m)(e:Nat) :
  ∃q:Option Rat,yVC (yLD rows).length (yJH (yLD rows) k) (yJL (yLD rows) rows cost++[yJI (yLD rows) rows v]) 4000 e=.val q∧∀a,q=some a→a≤sgE e*el y k:=by
 have G:=yZy hg hlr r k;have d:(scale (sgE e) (yJH (yLD rows) k)).length=(yLD rows).length:=by rw[zfH];simp[yJH]
 have b:(yJL (yLD rows) rows cost++[yJI (yLD rows) rows v]).length=nC+1:=by rw[Zj,yKO,hlc];rfl
 have c:(yLD rows).length+cnt (yJL (yLD rows) rows cost++[yJI (yLD rows) rows v]) (nC+1)=(yLD rows).length+nC:=by
  have:=yY0 (rows:=rows) (cost:=cost) (U:=yLD rows) (p:=yJI (yLD rows) rows v) rfl;rw[hlc]at this;rw[this]
 have s:=yZI hg hlc hlr r d;have sh:=z6E G.sh d b c s;have g:Rows (yLD rows).length (yJL (yLD rows) rows cost++[yJI (yLD rows) rows v]):=fun p f=>⟨(G.rw_ p f).1,fun q z=>Zc ((G.rw_ p f).2.1 q z) (by decide),Zc (G.rw_ p f).2.2 (by decide)⟩
 have fit:=yZh hg.kd hlc hlr l t B;have pc:=yZc hg.kd hlr l hk
 have A:yVC (yLD rows).length (yJH (yLD rows) k) (yJL (yLD rows) rows cost++[yJI (yLD rows) rows v]) 4000 e=yJD (yLD rows).length (scale (sgE e) (yJH (yLD rows) k)) (yJL (yLD rows) rows cost++[yJI (yLD rows) rows v]) (zSA ((yLD rows).length+nC) (nC+1) (zc3 (yJL (yLD rows) rows cost++[yJI (yLD rows) rows v])) (zg8 (yJL (yLD rows) rows cost++[yJI (yLD rows) rows v])) (zjD (scale (sgE e) (yJH (yLD rows) k)) (yJL (yLD rows) rows cost++[yJI (yLD rows) rows v])) 4000):=by
  unfold yVC yJw;rw[b,c]
 have u:∀cols,yJA (yLD rows).length (yJL (yLD rows) rows cost++[yJI (yLD rows) rows v]) cols=(zh1 ((yLD rows).length+nC+(nC+1)) cols (za5 (zt0 (zc3 (yJL (yLD rows) rows cost++[yJI (yLD rows) rows v])) (zg8 (yJL (yLD rows) rows cost++[yJI (yLD rows) rows v]))) (zwh (zg8 (yJL (yLD rows) rows cost++[yJI (yLD rows) rows v]))) cols)).take (yLD rows).length:=fun cols=>by
  unfold yJA;rw[b,c]
 rw[A];generalize zSA ((yLD rows).length+nC) (nC+1) (zc3 (yJL (yLD rows) rows cost++[yJI (yLD rows) rows v])) (zg8 (yJL (yLD rows) rows cost++[yJI (yLD rows) rows v])) (zjD (scale (sgE e) (yJH (yLD rows) k)) (yJL (yLD rows) rows cost++[yJI (yLD rows) rows v])) 4000=o at *
 cases o with
 | spent n=>cases sh
 | none cols n=>exact absurd fit (yxj g G.sh b sh _)
 | falls cols j n=>exact⟨none,rfl,fun a h=>by cases h⟩
 | best cols n =>
  refine⟨some _,rfl,fun a h=>?_⟩;injection h with h;rw[←h,u];obtain⟨sg,_,_,C,sv⟩:=sh;have:=yxh g G.sh d b sg C fit;rw[yY5 (by simp[yJH]),pc]at this;exact Rat.le_trans (by rw[sv];exact Rat.le_refl) this
include hg hlc hlr in
theorem yZB(f:mw v≤61)(d:Signs m rows y)(c:∀j,j<nC→zai m (fun i=>el y i*el (rows.getD i default).coef j)≤el cost j)(e:zai m (fun i=>el y i*(rows.getD i default).rhs)=v)(hk:k<m) :
  ∃lo hi:Option Rat,yJF (yLD rows).length (yJH (yLD rows) k) (yJL (yLD rows) rows cost++[yJI (yLD rows) rows v]) 4000=.ends lo hi∧(∀a,lo=some a→a≤el y k)∧∀a,hi=some a→el y k≤a:=by
 obtain⟨o,l,h0⟩:=yZo hg hlc hlr f d c e hk 0;obtain⟨g,n,h1⟩:=yZo hg hlc hlr f d c e hk 1;refine⟨o,g.map fun q => -q,by unfold yJF;rw[l,n];rfl,fun a h=>?_,fun a h=>?_⟩
 ·have:=h0 a h;rw[show sgE 0=1 from rfl]at this;grind
 ·cases hq:g with
  | none=>rw[hq]at h;cases h
  | some b =>
   rw[hq]at h;injection h with h;have:=h1 b hq;rw[show sgE 1 = -1 from rfl]at this;grind
end
