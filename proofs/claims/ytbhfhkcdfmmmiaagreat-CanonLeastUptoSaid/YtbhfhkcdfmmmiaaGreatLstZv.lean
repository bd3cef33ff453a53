/- Contracts and lemmas: Lst. Conditions: as each says. -/
import Derived.Test.YtbhfhkcdfmmmiaaGreatSol18Zv
import Derived.Test.YtbhfhkcdfmmmiaaGreatCert1Zv
set_option linter.all false
set_option maxHeartbeats 1000000
set_option maxRecDepth 100000
namespace Go.Proofs.YtbhfhkcdfmmmiaaGreat
open Go.RowKit Am
variable {rows:List PRow}{X Y Z a cost x y:List Rat}{S m nC:Nat}{z:Nat→Rat}{p:PRow}{v:Rat}
def asL (nC:Nat) (x:Nat→Rat):List Rat:=(List.range nC).map x
theorem yxw(nC:Nat)(x:Nat→Rat):(asL nC x).length=nC:=by simp[asL]
theorem yxv{j:Nat}(x:Nat→Rat)(h:j<nC):el (asL nC x) j=x j:=by
 unfold asL
 conv=>lhs;unfold el
 rw[zbU _ _ (by simpa using h) 0,zcA h]
theorem yxp(h:p.coef.length=nC):dot p.coef x=ywR nC p (el x):=by
 unfold dot ziw ywR;rw[h]
theorem ywX(h:cost.length=nC):dot cost x=ywA nC cost (el x):=by
 unfold dot ziw ywA;rw[h]
theorem yxz{x:Nat→Rat}(e:∀j,j<nC→x j=z j):ywR nC p x=ywR nC p z:=zaj fun j hj=>by rw[e j hj]
theorem yw9{x:Nat→Rat}(e:∀j,j<nC→x j=z j):ywA nC cost x=ywA nC cost z:=zaj fun j hj=>by rw[e j hj]
theorem yxf{x:Nat→Rat}(e:∀j,j<nC→x j=z j)(h:ywM nC rows x):ywM nC rows z :=
 ⟨fun j hj=>by rw[←e j hj];exact h.1 j hj,fun i b=>by have a:=h.2 i b;unfold ywH at a ⊢;rw[←yxz e];exact a⟩
theorem yxa(hk:1≤p.kind∧p.kind≤3)(d:p.coef.length=nC):zdH p x=true↔ywH nC p (el x):=by
 rw[yel hk];unfold ywH zdp;rw[yxp d];exact⟨fun⟨a,b,c⟩=>⟨fun k=>by have:=a k;grind,fun k=>by have:=b k;grind,fun k=>by have:=c k;grind⟩,fun⟨a,b,c⟩=>⟨fun k=>by have:=a k;grind,fun k=>by have:=b k;grind,fun k=>by have:=c k;grind⟩⟩
theorem ywY(d:Shape nC rows)(hc:cost.length=nC)(k:x.length=nC):znD cost rows x=true↔ywM nC rows (el x):=by
 rw[ydT];constructor
 ·rintro⟨_,b,c⟩;exact⟨fun j _=>b j,fun i a=>(yxa (d.kd _ (yd2 a)) (d.co _ (yd2 a))).1 (c _ (yd2 a))⟩
 ·rintro⟨b,c⟩;refine⟨by omega,fun j=>?_,fun p f=>?_⟩
  ·by_cases hj:j<nC
   ·exact b j hj
   ·rw[zDb (by omega)];exact Rat.le_refl
  ·obtain⟨i,a⟩:=List.mem_iff_getElem?.1 f;have g:=(List.getElem?_eq_some_iff.1 a).1;have e:rows.getD i default=p:=zfC a;have h:=c i g;rw[e]at h;exact(yxa (d.kd p f) (d.co p f)).2 h
theorem yw3(h:Rows nC rows)(hc:cost.length=nC)(f:rows.length=m)(c:Signs m rows y)(d:∀j,j<nC→zai m (fun i=>el y i*el (rows.getD i default).coef j)≤el cost j):ydS nC cost rows y=true:=by
 subst f;refine(ydU h hc).2 ⟨d,fun k hk=>?_⟩;unfold zIc;have a:=c.s1 k hk;have b:=c.s2 k hk;rw[Bool.not_eq_true',Bool.or_eq_false_iff,Bool.and_eq_false_iff,Bool.and_eq_false_iff,decide_eq_false_iff_not,decide_eq_false_iff_not,decide_eq_false_iff_not,decide_eq_false_iff_not];exact⟨by by_cases e:(rows.getD k default).kind=1;exact .inr (Rat.not_lt.2 (a e));exact .inl e,by by_cases e:(rows.getD k default).kind=2;exact .inr (Rat.not_lt.2 (b e));exact .inl e⟩
theorem yxh{x:Nat→Rat}(h:Rows nC rows)(a:Shape nC rows)(hc:cost.length=nC)(d:rows.length=m)(e:Signs m rows y)(b:∀j,j<nC→zai m (fun i=>el y i*el (rows.getD i default).coef j)≤el cost j)(f:ywM nC rows x):sb y rows≤ywA nC cost x:=by
 have c:znD cost rows (asL nC x)=true:=(ywY a hc (yxw _ _)).2 (yxf (fun j hj=>(yxv x hj).symm) f);have:=weak h a.kd hc (yw3 h hc d e b) c;rw[ywX hc,yw9 fun j hj=>yxv x hj]at this;exact this
theorem yxj(h:Rows nC rows)(d:Shape nC rows)(b:rows.length=m)(c:zUQ nC m rows y)(x:Nat→Rat):¬ywM nC rows x:=fun g=>by
 obtain⟨f,a,i⟩:=c;have:=yxh (cost:=List.replicate nC 0) h d (by simp) b f (fun j hj=>by rw[zrm];exact a j hj) g;have e:ywA nC (List.replicate nC 0) x=0:=zcn fun j _=>by rw[zrm,Rat.zero_mul]
 grind
theorem yxy{d:List Rat}(m:Shape nC rows)(hc:cost.length=nC)(h:zUE nC cost rows x d)(M:Rat):∃z,ywM nC rows z∧ywA nC cost z<M:=by
 obtain⟨v,u,B,q,hw,A⟩:=h;have l:=(ywY m hc v).1 u;have way:∀t:Rat,0≤t→ywM nC rows fun j=>el x j+t*el d j:=fun t g=>by
  refine⟨fun j hj=>?_,fun i f=>?_⟩
  ·have:=l.1 j hj;have:=Rat.mul_nonneg g (q j);grind
  ·have e:ywR nC (rows.getD i default) (fun j=>el x j+t*el d j)=ywR nC (rows.getD i default) (el x)+t*ywR nC (rows.getD i default) (el d):=by
    unfold ywR;rw[←za7,←zcm];exact zaj fun j _=>by grind
   obtain⟨w1,n,o⟩:=hw _ (yd2 f);rw[yxp (m.co _ (yd2 f))]at w1 n o;obtain⟨a,b,c⟩:=l.2 i f;unfold ywH;rw[e];refine⟨fun k=>?_,fun k=>?_,fun k=>?_⟩
   ·have:=a k;have:=Rat.mul_nonneg g (show 0 ≤ -ywR nC (rows.getD i default) (el d)by have:=w1 k;grind);grind
   ·have:=b k;have:=Rat.mul_nonneg g (n k);grind
   ·rw[o k,c k];grind
 have p:∀t:Rat,ywA nC cost (fun j=>el x j+t*el d j)=ywA nC cost (el x)+t*dot cost d:=fun t=>by
  rw[ywX hc];unfold ywA;rw[←za7,←zcm];exact zaj fun j _=>by grind
 by_cases s:ywA nC cost (el x)<M
 ·exact⟨el x,l,s⟩
 ·have r:0 < -dot cost d:=by grind
  refine⟨_,way ((ywA nC cost (el x)-M+1)*(-dot cost d)⁻¹) (Rat.mul_nonneg (by grind) (Rat.le_of_lt (Rat.inv_pos.2 r))),?_⟩;rw[p];have e:(-dot cost d)⁻¹*(-dot cost d)=1:=Rat.inv_mul_cancel _ (by grind);have y:(ywA nC cost (el x)-M+1)*(-dot cost d)⁻¹*dot cost d = -(ywA nC cost (el x)-M+1):=by
   have:(ywA nC cost (el x)-M+1)*(-dot cost d)⁻¹*dot cost d = -((ywA nC cost (el x)-M+1)*((-dot cost d)⁻¹*(-dot cost d))):=by grind
   rw[this,e,Rat.mul_one]
  grind
theorem yxL{o:COut}{o':Int}(h0:Rows nC rows)(b:Shape nC rows)(hc:cost.length=nC)(f:rows.length=m)(h:Told nC m cost rows o)(e:Sol nC m cost rows S o' X Y Z):cO o=o':=by
 cases h with
 | none h =>
  rcases e.shows with ⟨rfl,⟨_,d,a,_⟩,_⟩ | ⟨rfl,_⟩ | ⟨rfl,_,d,a,_⟩
  ·exact absurd ((ywY b hc d).1 a) (h _)
  ·rfl
  ·exact absurd ((ywY b hc d).1 a) (h _)
 | falls h =>
  rcases e.shows with ⟨rfl,⟨j,d,a,i,_⟩,_⟩ | ⟨rfl,_,g,_⟩ | ⟨rfl,_⟩
  ·obtain⟨x,c,lt⟩:=h (sb Y rows);have:=yxh h0 b hc f j i c;grind
  ·obtain⟨x,c,_⟩:=h 0;exact absurd c (yxj h0 b f g x)
  ·rfl
 | best W c he hl hb =>
  rcases e.shows with ⟨rfl,_⟩ | ⟨rfl,_,g,_⟩ | ⟨rfl,_,a⟩
  ·rfl
  ·exact absurd c (yxj h0 b f g W)
  ·obtain⟨z,k,lt⟩:=yxy b hc a (ywA nC cost W);have:=(hb z k).1;grind
structure LeastA (nC:Nat) (cost:List Rat) (rows:List PRow) (a:List Rat) (v:Rat):Prop where
  la:a.length=nC
  fit:ywM nC rows (el a)
  val:v=dot cost a
  min:∀x,ywM nC rows x→ywA nC cost (el a)≤ywA nC cost x∧(ywA nC cost (el a)=ywA nC cost x→ywU nC (el a) x)
theorem yxK{o:COut}(h:Told nC m cost rows o)(h1:cO o=1):LeastA nC cost rows (cX nC m rows o) (cV nC m cost rows o):=by
 cases h with
 | none=>exact absurd (show(2:Int)=1 from h1) (by decide)
 | falls=>exact absurd (show(3:Int)=1 from h1) (by decide)
 | best W b he c hb =>
  rename_i cols G n
  have e:cX nC m rows (.best cols G n)=asL nC W:=yxb c (by omega) he;have a:∀j,j<nC→W j=el (asL nC W) j:=fun j hj=>(yxv W hj).symm
  have f:cV nC m cost rows (.best cols G n)=dot cost (cX nC m rows (.best cols G n)):=rfl;rw[f,e];refine⟨yxw _ _,yxf a b,rfl,fun x b=>?_⟩;rw[←yw9 a];exact⟨(hb x b).1,fun q i d c=>by rw[←a i d];exact(hb x b).2 q i d fun l g=>by rw[a l (by omega)];exact c l g⟩
theorem yxQ{o:COut}(h:Told nC m cost rows o)(h1:cO o≠1):cX nC m rows o=[]∧cV nC m cost rows o=0:=by
 cases h with
 | none=>exact⟨rfl,rfl⟩
 | falls=>exact⟨rfl,rfl⟩
 | best=>exact absurd rfl h1
theorem yxi:∀(a x:List Rat),a.length=x.length→ywU a.length (el a) (el x)→zlz a x≤0
 | [],[],_,_=>by simp[zlz]
 | a::az,x::xs,b,h=>by
  have h0:a≤x:=h 0 (by simp) fun l b=>by omega
  unfold zlz;by_cases e:a=x
  ·subst e;rw[if_pos ((zkD a a).2 rfl)];refine yxi az xs (by simpa using b) fun i f d=>?_
   have:=h (i+1) (by simp;omega) fun l g=>by
    cases l with
    | zero=>rfl
    | succ l=>exact d l (by omega)
   exact this
  ·have lt:a<x:=by grind
   have c:zlX a x = -1:=by unfold zlX;rw[if_pos lt]
   rw[c,if_neg (by decide)];decide
theorem yxG(h0:Rows nC rows)(b:Shape nC rows)(hc:cost.length=nC)(d:rows.length=m)(h:LeastA nC cost rows a v)(j:Sol nC m cost rows S 1 X Y Z) :
  X.length=nC∧Y.length=m∧znD cost rows a=true∧dot cost X=v∧yeG nC cost rows a Y=true∧zlz a X≤0:=by
 rcases j.shows with ⟨_,⟨c,f,o,g,n⟩,_⟩ | ⟨e,_⟩ | ⟨e,_⟩
 ·have k:=(ywY b hc f).1 o;have l:=yxh h0 b hc d c g h.fit;obtain⟨p,i⟩:=h.min _ k;rw[←ywX hc,←ywX hc]at p i;rw[←ywX hc]at l;have e:dot cost X=dot cost a:=by grind
  refine⟨f,c.ly,(ywY b hc h.la).2 h.fit,by rw[e,h.val],?_,yxi _ _ (by rw[h.la,f]) (by rw[h.la];exact i e.symm)⟩;unfold yeG yep;rw[yw3 h0 hc d c g,(ywY b hc h.la).2 h.fit,decide_eq_true (show Y.length=rows.length by rw[c.ly,d]),decide_eq_true (show sb Y rows=dot cost a by rw[←n,e])];rfl
 ·exact absurd e (by decide)
 ·exact absurd e (by decide)
def yw5 (rows:List PRow) (cost:List Rat) (v:Rat):List PRow:=rows++[⟨cost,3,v⟩]
theorem yxc(rows:List PRow)(cost:List Rat)(v:Rat):(yw5 rows cost v).length=rows.length+1:=by simp[yw5]
theorem yxo{i:Nat}(h:i<rows.length):(yw5 rows cost v).getD i default=rows.getD i default:=by
 unfold yw5;rw[List.getD_eq_getElem?_getD,List.getD_eq_getElem?_getD,List.getElem?_append_left h]
theorem yxn:(yw5 rows cost v).getD rows.length default=⟨cost,3,v⟩:=by
 unfold yw5;rw[List.getD_eq_getElem?_getD,List.getElem?_append_right (Nat.le_refl _),Nat.sub_self];rfl
theorem yxm(x:Nat→Rat):ywM nC (yw5 rows cost v) x↔ywM nC rows x∧ywA nC cost x=v:=by
 have e:ywH nC ⟨cost,3,v⟩ x↔ywA nC cost x=v :=
  ⟨fun h=>h.2.2 rfl,fun h=>⟨fun k=>absurd (show(3:Int)=1 from k) (by decide),fun k=>absurd (show(3:Int)=2 from k) (by decide),fun _=>h⟩⟩
 constructor
 ·rintro⟨a,b⟩;refine⟨⟨a,fun i d=>by have:=b i (by rw[yxc];omega);rwa [yxo d]at this⟩,?_⟩;have:=b rows.length (by rw[yxc];omega);rw[yxn]at this;exact e.1 this
 ·rintro⟨⟨a,b⟩,c⟩;refine⟨a,fun i d=>?_⟩;rw[yxc]at d;by_cases h:i<rows.length
  ·rw[yxo h];exact b i h
  ·obtain rfl:i=rows.length:=by omega
   rw[yxn];exact e.2 c
theorem yxI{cost':List Rat}{o:Int}(h0:Rows nC (yw5 rows cost v))(c:Shape nC (yw5 rows cost v))(hc:cost.length=nC)(i:cost'.length=nC)(k:(yw5 rows cost v).length=m)(h:LeastA nC cost rows a v)(f:Sol nC m cost' (yw5 rows cost v) S o X Y Z) :
  o≠2∧(o=1→X.length=nC∧zlz a X≤0):=by
 have d:ywA nC cost (el a)=v:=by rw[h.val,ywX hc]
 rcases f.shows with ⟨rfl,⟨_,b,j,_⟩,_⟩ | ⟨rfl,_,l,_⟩ | ⟨rfl,_⟩
 ·refine⟨by decide,fun _=>⟨b,?_⟩⟩;obtain⟨g,n⟩:=(yxm _).1 ((ywY c i b).1 j);exact yxi _ _ (by rw[h.la,b]) (by rw[h.la];exact(h.min _ g).2 (by rw[n,d]))
 ·exact absurd ((yxm _).2 ⟨h.fit,d⟩) (yxj h0 c k l _)
 ·exact⟨by decide,fun e=>absurd e (by decide)⟩
theorem yxT{N:Nat}{A:List (List Rat)}{b c:List Rat}{cols:List Nat}(a:Basis m N A cols)(zA:∀r∈A,∀q∈r,mw q≤S)(s:b.length=m)(zb:∀q∈b,mw q≤S)(zc:∀j,mw (el c j)≤S)(h1:1≤S) :
  mw (zai m fun k=>el c (cols.getD k 0)*el (za5 A b cols) k)≤cB (m+1) S:=by
 obtain⟨l,_⟩:=a.vals_ok b;have o:=zLu a zA;have cut:∀(f:Nat→Rat),zai (m+1) f=zai m f+f m:=fun f=>rfl
 have p:=ywn (n:=m+1) (S:=S) (M:=fun i j=>if i<m then (if j<m then en (bc A cols) j i else 0)else (if j<m then el c (cols.getD j 0)else -1)) (b:=fun i=>if i<m then el b i else 0)
  (x:=fun j=>if j<m then el (za5 A b cols) j else zai m fun k=>el c (cols.getD k 0)*el (za5 A b cols) k) ?_ ?_ ?_ ?_ m (by omega)
 ·simpa using p
 ·intro y e;have y0:∀j,j<m→y j=0:=a.reg y fun i d=>by
   have:=e i (by omega);rw[cut,if_pos d]at this;simp only[if_neg (Nat.lt_irrefl m)]at this;rw[zaj (g:=fun j=>en (bc A cols) j i*y j) fun j hj=>by rw[if_pos d,if_pos hj]]at this;grind
  intro j hj;by_cases h:j<m
  ·exact y0 j h
  ·obtain rfl:j=m:=by omega
   have:=e j (by omega);rw[cut]at this;simp only[if_neg (Nat.lt_irrefl j)]at this;rw[zcn fun k hk=>by rw[y0 k hk,Rat.mul_zero]]at this;grind
 ·intro i _ j _;split
  ·split
   ·rename_i h1 h2;exact o j h2 i h1
   ·exact Nat.le_trans mw0 h1
  ·split
   ·exact zc _
   ·rw[show(-1:Rat) = -(1:Rat)from rfl,zhY];exact Nat.le_trans mw1 h1
 ·intro i _;split
  ·rename_i h;exact zrz zb (by omega)
  ·exact Nat.le_trans mw0 h1
 ·intro i d;by_cases h:i<m
  ·simp only[if_pos h];rw[cut];simp only[if_neg (Nat.lt_irrefl m)];rw[zaj (g:=fun j=>en (bc A cols) j i*el (za5 A b cols) j) fun j hj=>by rw[if_pos hj,if_pos hj],l i h];grind
  ·simp only[if_neg h];rw[cut];simp only[if_neg (Nat.lt_irrefl m)];rw[zaj (g:=fun k=>el c (cols.getD k 0)*el (za5 A b cols) k) fun j hj=>by rw[if_pos hj,if_pos hj]];grind
theorem yBH(hg:GoodS S nC m cost rows)(a:cost.length=nC)(g:rows.length=m){G:List Nat}(f:Basis m (nC+cnt rows m+m) (zt0 (zc3 rows) (zg8 rows)) G):mw (dot cost (ytf nC (nC+cnt rows m+m) (zt0 (zc3 rows) (zg8 rows)) (zwh (zg8 rows)) G))≤cB (m+1) S:=by
 have zc:=zXe (m:=m) hg.h1 (z6P hg);have i:(zjD cost rows).length=nC+cnt rows m:=by unfold zjD;rw[List.length_append,List.length_replicate,a,g]
 have k:=yxT f (zXc (b:=zg8 rows) hg.h1 (z6N hg g)) (by rw[zUh,zVz hg.sh a g rfl]) (zXd (z6O hg)) (c:=zKb m (zjD cost rows)) (fun j=>zDJ hg.h1 zc j) hg.h1;have e:=ywB (m:=m) a rows i (pt m (fun k=>G.getD k 0) (el (za5 (zt0 (zc3 rows) (zg8 rows)) (zwh (zg8 rows)) G)));rw[zyA f.lt]at e;rw[yxb (X:=pt m (fun k=>G.getD k 0) (el (za5 (zt0 (zc3 rows) (zg8 rows)) (zwh (zg8 rows)) G))) f.len (by omega) fun j=>rfl]
 have d:=ywX (x:=asL nC (pt m (fun k=>G.getD k 0) (el (za5 (zt0 (zc3 rows) (zg8 rows)) (zwh (zg8 rows)) G)))) a;rw[yw9 fun j hj=>yxv _ hj,←e]at d;unfold asL at d;rw[d];exact k
theorem yCI:∀m,m≤4→cB (m+1) 1≤64:=by decide +kernel
theorem yBE:∀m,m≤5→zor m 64≤LIM∧sB m 64 64≤4000000:=by unfold LIM;decide +kernel
theorem yAU(a:rows.length=m):cnt (yw5 rows cost v) (m+1)=cnt rows m:=by
 have e:∀k,k≤m→cnt (yw5 rows cost v) k=cnt rows k:=by
  intro k
  induction k with
  | zero=>intro _;rfl
  | succ k ih =>
   intro h;rw[cnt,cnt,ih (by omega),yxo (by omega)]
 rw[cnt,e m (Nat.le_refl _)];subst a;rw[yxn,if_pos rfl,Nat.add_zero]
structure LstF (nC m:Nat) (cost:List Rat) (rows:List PRow) (o:Int) (X:List Rat) (V:Rat) (so:Int) (sx sy:List Rat):Prop where
  same:o=so
  none:o≠1→X=[]∧V=0
  zX:Sm X
  zx:Sm sx
  zy:Sm sy
  zV:mw V≤64
  lens:o=1→X.length=nC∧sx.length=nC∧sy.length=m
  fit:o=1→znD cost rows X=true
  val:o=1→dot cost X=V∧dot cost sx=V
  opt:o=1→yeG nC cost rows X sy=true
  cmp:o=1→zlz X sx≤0
  more:o=1→∀cost':List Rat,cost'.length=nC→(∀q∈cost',mw q≤1)→GoodS 64 nC (m+1) cost' (yw5 rows cost V)∧Few nC (m+1) (yw5 rows cost V)∧∀S o' X' Y' Z',Sol nC (m+1) cost' (yw5 rows cost V) S o' X' Y' Z'→o'≠2∧(o'=1→X'.length=nC∧zlz X X'≤0)
theorem yzZ(hg:Good1 nC m cost rows)(c:cost.length=nC)(d:rows.length=m):LstF nC m cost rows (cO (ys6 nC m cost rows)) (cX nC m rows (ys6 nC m cost rows)) (cV nC m cost rows (ys6 nC m cost rows)) (oO (sol nC m cost rows)) (oX nC m rows (sol nC m cost rows)) (oY nC m cost rows (sol nC m cost rows)):=by
 have r:=hg.hr;have n:=hg.hc;have y:=zVF m r;have l:Rows nC rows:=fun p b=>⟨(hg.rw_ p b).1,fun q a=>Nat.le_trans ((hg.rw_ p b).2.1 q a) (by decide),Nat.le_trans (hg.rw_ p b).2.2 (by decide)⟩
 have g:=(yw6 hg.toS c d n (by omega)).1;have hS:=z6W hg.toS hg.few c d;have u:=(ytu hg c d).1;have k:=(ys8 hg c d).1;have zV:mw (cV nC m cost rows (ys6 nC m cost rows))≤64:=by
  generalize ys6 nC m cost rows=o at k ⊢;cases k with
  | none h f s v=>exact Nat.le_trans mw0 (by decide)
  | falls h s=>exact Nat.le_trans mw0 (by decide)
  | best h s x e=>exact Nat.le_trans (yBH hg.toS c d x.last.1) (yCI m r)
 generalize ys6 nC m cost rows=o at *
 generalize oO (sol nC m cost rows)=so,oX nC m rows (sol nC m cost rows)=sx,oY nC m cost rows (sol nC m cost rows)=sy,oZ nC m rows (sol nC m cost rows)=sz at *
 have e:=yxL l hg.toS.sh c d g hS;have first:cO o=1→_:=fun h=>yxG (S:=1) (Z:=sz) l hg.toS.sh c d (yxK g h) (by rw[←e,h]at hS;exact hS)
 refine⟨e,yxQ g,fun q a=>Nat.le_trans (u q a) (by omega),fun q a=>Nat.le_trans (hS.zx q a) (by omega),fun q a=>Nat.le_trans (hS.zy q a) (by omega),zV,fun h=>⟨(yxK g h).la,(first h).1,(first h).2.1⟩,fun h=>(first h).2.2.1,fun h=>⟨(yxK g h).val.symm,(first h).2.2.2.1⟩,fun h=>(first h).2.2.2.2.1,fun h=>(first h).2.2.2.2.2,fun h cost' lc zc=>?_⟩;have i:∀p∈yw5 rows cost (cV nC m cost rows o),p.coef.length=nC∧(∀q∈p.coef,mw q≤64)∧mw p.rhs≤64:=fun p b=>by
  rcases List.mem_append.1 b with h1 | h1
  ·exact⟨(hg.rw_ p h1).1,fun q a=>Nat.le_trans ((hg.rw_ p h1).2.1 q a) (by decide),Nat.le_trans (hg.rw_ p h1).2.2 (by decide)⟩
  ·rw[List.mem_singleton.1 h1];exact⟨c,fun q a=>Nat.le_trans (hg.sc q a) (by decide),zV⟩
 have j:GoodS 64 nC (m+1) cost' (yw5 rows cost (cV nC m cost rows o)):=by
  refine⟨fun q a=>Nat.le_trans (zc q a) (by decide),i,fun p b=>?_,by decide,by decide,by omega,by omega,(yBE (m+1) (by omega)).1,(yBE (m+1) (by omega)).2⟩;rcases List.mem_append.1 b with h1 | h1
  ·exact hg.kd p h1
  ·rw[List.mem_singleton.1 h1];exact⟨show(1:Int)≤3 by decide,show(3:Int)≤3 by decide⟩
 refine⟨j,yxY n (by omega) (by rw[yAU d];have:=zgO rows m;omega),fun S o' X' Y' Z' t=>yxI (fun p b=>⟨(i p b).1,fun q a=>Nat.le_trans ((i p b).2.1 q a) (by decide),Nat.le_trans (i p b).2.2 (by decide)⟩) j.sh c lc (by rw[yxc,d]) (yxK g h) t⟩
