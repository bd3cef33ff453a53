/- Contracts and lemmas: Rf1 Rf2 Rf3 Rf4 Fra Dbd Dpt Bst. Conditions: as each says. -/
import Derived.Test.YtbpjabgfcbjjmaaGreatDetYe
set_option linter.all false
set_option maxHeartbeats 1000000
namespace Dz
open Am
variable {k n:Nat}{v w:Nat->Nat->Rat}
theorem y1Y(f:Nat->Rat)(n:Nat):zai (n+1) f=zai n f+f n:=rfl
theorem y3n{l:Nat}(h:y3r k n v)(c:Nat->Nat->Rat)(hc:∀i,i<k->∀j,j<n->v i j=zai l λt=>c i t*w t j):k<=l:=by
 rcases ZI l k with hl | hl;obtain⟨x,⟨i,hi,b⟩,d⟩:=y3l hl λt i=>c i t
 have:=h x (λj hj=>by rw[zaj λi hi=>by rw[hc i hi j hj,<-za7],zbq];exact zcn λt a=>by rw[show zai k (λi=>x i*(c i t*w t j))=zai k (λi=>c i t*x i)*w t j by rw[<-zb6];exact zaj λi _=>ψ];rw[d t a];grind) i hi;grind;exact hl
theorem y3G(h:y3r k n v)(d:¬y3r (k+1) n v):∃c:Nat->Rat,∀j,j<n->v k j=zai k λi=>c i*v i j:=by
 have:∃y:Nat->Rat,(∀j,j<n->zai (k+1) (λi=>y i*v i j)=0)/\∃i,i<k+1/\y i≠0:=by by_cases e:∃y:Nat->Rat,(∀j,j<n->zai (k+1) (λi=>y i*v i j)=0)/\∃i,i<k+1/\y i≠0;exact e;exact absurd (λy a i hi=>by simp_all) d
 obtain⟨y,a,i,hi,b⟩:=this;have hk:y k≠0:=λe=>by have:=h y (λj hj=>by have:=a j hj;rw[y1Y,e]at this;grind);rcases ZI i k with q | q;exact b (this i q);obtain rfl:i=k:=ω;exact b e
 refine⟨λi => -(y i)/y k,λj hj=>?_⟩;have h1:=a j hj;rw[y1Y]at h1;rw[show zai k (λi => -(y i)/y k*v i j) = -(1/y k)*zai k λi=>y i*v i j by rw[<-za7];exact zaj λi _=>by rw[Z5,Z5];grind];have:=Rat.mul_inv_cancel _ hk;rw[Z5];grind
def y1i (A:List (List Int)) (n:Nat):Nat->List Nat
  | 0=>[]
  | r+1=>if y1J A (y1i A n r++[r]) n=true then y1i A n r++[r]else y1i A n r
def y1x (A:List (List Int)) (rs:List Nat) (i j:Nat):Rat:=(ez A (rs.getD i 0) j:Rat)
theorem y1m{α:Type}{l m:List α}{i:Nat}{d:α}(h:i<l.length):(l++m).getD i d=l.getD i d:=by rw[Zg,Z1 h,<-Zg]
theorem y1r{α:Type}{l:List α}{x d:α}:(l++[x]).getD l.length d=x:=by rw[Zg,ZJ (Za _),Xq];rfl
theorem y2G(e:∀i,i<k->∀j,j<n->v i j=w i j)(h:y3r k n v):y3r k n w:=λy b i hi=>h y (λj hj=>by rw[<-b j hj];grind[zaj]) i hi
theorem y1I(A:List (List Int))(n:Nat):∀r,y3r (y1i A n r).length n (y1x A (y1i A n r))
 | 0=>λ_ _ i h=>absurd h (ZM _)
 | r+1=>by unfold y1i;by_cases e:y1J A (y1i A n r++[r]) n=true;rw[if_pos e];exact y27.1 e;rw[if_neg e];exact y1I A n r
theorem y1M(A:List (List Int))(n:Nat):∀r q,q<r->∃c:Nat->Rat,∀j,j<n->(ez A q j:Rat)=zai (y1i A n r).length λt=>c t*y1x A (y1i A n r) t j
 | 0,q,h=>absurd h (ZM _)
 | r+1,q,h=>by
  have keep:q<r->∃c:Nat->Rat,∀j,j<n->(ez A q j:Rat)=zai (y1i A n (r+1)).length λt=>c t*y1x A (y1i A n (r+1)) t j:=λa=>by
   obtain⟨c,hc⟩:=y1M A n r q a;unfold y1i;by_cases e:y1J A (y1i A n r++[r]) n=true;rw[if_pos e];refine⟨λt=>if t<(y1i A n r).length then c t else 0,λj hj=>?_⟩
   dsimp only
   rw[ZD,hc j hj,show[r].length=1 from rfl,y1Y,if_neg (XW _),zaj (n:=(y1i A n r).length) (f:=λt=>(if t<(y1i A n r).length then c t else 0)*y1x A (y1i A n r++[r]) t j) (g:=λt=>c t*y1x A (y1i A n r) t j) λt b=>by rw[if_pos b];unfold y1x;rw[y1m b]];grind;rw[if_neg e];exact⟨c,hc⟩
  rcases ZI q r with a | a;exact keep a;obtain rfl:q=r:=ω;unfold y1i;by_cases e:y1J A (y1i A n q++[q]) n=true;rw[if_pos e];refine⟨λt=>if t=(y1i A n q).length then 1 else 0,λj hj=>?_⟩
  dsimp only
  rw[ZD,show[q].length=1 from rfl];rw[zbI (k:=(y1i A n q).length) (Nat.lt_succ_self _) λt _ d=>by rw[if_neg d];grind,if_pos rfl];unfold y1x;rw[y1r];grind;rw[if_neg e];have hi:=y1I A n q;have l:y3r (y1i A n q).length n (y1x A (y1i A n q++[q])):=y2G (λi hi j _=>by unfold y1x;rw[y1m hi]) hi;obtain⟨c,hc⟩:=y3G l λh=>e (y27.2 (by rw[ZD];exact h))
  refine⟨c,λj hj=>?_⟩;have:=hc j hj;unfold y1x at this;rw[y1r]at this;rw[this];exact zaj λt b=>by unfold y1x;rw[y1m b]
theorem rankTo_lt(A:List (List Int))(n:Nat):∀r,∀x∈y1i A n r,x<r
 | 0,x,h=>by cases h
 | r+1,x,h=>by
  unfold y1i at h;split at h
  rcases ZU.1 h with h | h;have:=rankTo_lt A n r x h;omega;have:=XE.1 h;omega;have:=rankTo_lt A n r x h;omega
theorem y41{M:Nat->Nat->Rat}(h:y1z k M≠0)(b:Nat->Rat):∃u:Nat->Rat,∀i,i<k->zai k (λt=>M i t*u t)=b i:=by
 obtain⟨x,⟨j,hj,a⟩,c⟩:=y1V k λi t=>if t=k then b i else M i t
 have split:∀i,i<k->zai k (λt=>M i t*x t)+b i*x k=0:=λi hi=>by have:=c i hi;change zai k (λt=>(if t=k then b i else M i t)*x t)+(if k=k then b i else M i k)*x k=0 at this;rw[if_pos rfl,zaj (g:=λt=>M i t*x t) λt d=>by rw[if_neg ω]]at this;exact this
 have hk:x k≠0:=λe=>by
  have:=y3W h x λi hi=>by have:=split i hi;rw[e]at this;grind
  rcases ZI j k with q | q;exact a (this j q);obtain rfl:j=k:=ω;exact a e
 refine⟨λt => -(x t)/x k,λi hi=>?_⟩;rw[show zai k (λt=>M i t*(-(x t)/x k)) = -(1/x k)*zai k λt=>M i t*x t by rw[<-za7];exact zaj λt _=>by rw[Z5,Z5];grind];have:=split i hi;have:=Rat.mul_inv_cancel _ hk;rw[Z5];grind
end Dz
namespace Dz
open Am
variable {j k:Nat}
def y17 (a:List (List Int)) (j:Nat) (b:Nat->Int):List (List Int):=a.mapIdx λr row=>row.set j (b r)
theorem y5E{a:List (List Int)}{b:Nat->Int}(c:a.length=k)(hr:∀r∈a,r.length=k)(hj:j<k){i t:Nat}(hi:i<k):ez (y17 a j b) i t=if t=j then b i else ez a i t:=by
 have d:=hr _ (Xj (show i<a.length by omega))
 conv=>lhs;unfold ez y17
 rw[Zg (l:=List.mapIdx _ a),List.getElem?_mapIdx,Ze (show i<a.length by omega)];show((a[i]' ω).set j (b i)).getD t 0=_
 rw[Zg,XA];by_cases e:j=t;rw[if_pos e,if_pos ω,if_pos e.symm];rfl;rw[if_neg e,if_neg (Z4 e)];unfold ez;rw[Zg (l:=a),Ze (show i<a.length by omega),Zg];rfl
theorem y4V{a:List (List Int)}{b:Nat->Int}(c:a.length=k)(hr:∀r∈a,r.length=k)(hj:j<k):((y1C k (y17 a j b):Int):Rat)=y1z k (colc (λi t=>(ez a i t:Rat)) j λi=>(b i:Rat)):=by rw[y2J (by unfold y17;rw[List.length_mapIdx,c]) λr h=>by unfold y17 at h;obtain⟨i,hi,e⟩:=List.mem_mapIdx.1 h;rw[<-e,ZQ];exact hr _ (Xj hi)];exact y1o λi hi t d=>by rw[y5E c hr hj hi];unfold colc;split<;>rfl
def y6y (N:Nat) (cols:List Nat) (v:Nat->Rat):Nat->List Rat
  | 0=>List.replicate N 0
  | t+1=>(y6y N cols v t).set (cols.getD t 0) (v t)
theorem y6v(N:Nat)(cols:List Nat)(v:Nat->Rat):∀t,(y6y N cols v t).length=N
 | 0=>ZO
 | t+1=>by unfold y6y;rw[ZQ,y6v N cols v t]
theorem y6A{N:Nat}{P:Nat->Bool}(v:Nat->Rat):∀ {t:Nat},t<=(plZ P N).length->∀j,j<N->el (y6y N (plZ P N) v t) j=if P j=true/\(plZ P j).length<t then v (plZ P j).length else 0
 | 0,_,j,hj=>by rw[if_neg λh=>absurd h.2 (ZM _)];exact zrm N j
 | t+1,h,j,hj=>by
  unfold y6y;obtain⟨h1,b⟩:=y4h (P:=P) (N:=N) (t:=t) ω;have d:=y2r P (N:=N) (t:=t) ω;rw[ziZ (by rw[y6v];exact h1)];by_cases e:(plZ P N).getD t 0=j;rw[if_pos e];rw[e]at d b;rw[if_pos ⟨b,ω⟩,d];rw[if_neg e,y6A v ω j hj];by_cases q:P j=true;have k:(plZ P j).length≠t:=λi=>by obtain⟨s,g,es⟩:=y4e hj q;have c:=y2r P g;rw[es,i]at c;rw[<-c]at es;exact e es
  by_cases f:(plZ P j).length<t;rw[if_pos ⟨q,f⟩,if_pos ⟨q,ω⟩];rw[if_neg λa=>f a.2,if_neg λa=>by have:=a.2;omega];grind
theorem y4S{N:Nat}{P:Nat->Bool}(v:Nat->Rat)(hj:j<N):el (y6y N (plZ P N) v (plZ P N).length) j=y3i P N v j:=by
 rw[y6A v (Za _) j hj];unfold y3i;by_cases q:P j=true;have:(plZ P j).length<(plZ P N).length:=by obtain⟨s,b,es⟩:=y4e hj q;have a:=y2r P b;rw[es]at a;omega
 rw[if_pos ⟨q,this⟩,if_pos ⟨q,hj⟩];grind
def y6w (A:List (List Int)) (B:List Int) (N:Nat) (rs cols:List Nat):List Rat :=
  y6y N cols (λt=>Rat.divInt (y1C rs.length (y17 (y1p A rs cols) t λr=>B.getD (rs.getD r 0) 0)) (y1C rs.length (y1p A rs cols))) cols.length
section
variable {A:List (List Int)} {B:List Int} {N:Nat} {rs:List Nat} {P:Nat->Bool} (hl:(plZ P N).length=rs.length) (hd:y1C rs.length (y1p A rs (plZ P N))≠0)
include hl hd
theorem y2H{u:Nat->Rat}(k:∀i,i<rs.length->zai rs.length (λt=>(ez A (rs.getD i 0) ((plZ P N).getD t 0):Rat)*u t)=(B.getD (rs.getD i 0) 0:Int))(hj:j<N):el (y6w A B N rs (plZ P N)) j=y3i P N u j:=by
 unfold y6w;rw[y4S _ hj];unfold y3i;by_cases q:P j=true/\j<N;rw[if_pos q,if_pos q];obtain⟨s,g,es⟩:=y4e q.2 q.1;have a:=y2r P g;rw[es]at a;rw[a];have c:s<rs.length:=ω;have f:∀r∈y1p A rs (plZ P N),r.length=rs.length:=λr hr=>by obtain⟨x,_,rfl⟩:=ZH.1 hr;rw[ZK,hl]
 dsimp only
 rw[YA,y4V (by simp[y1p]) f c,y1W hl];have hc:=y2B (λi t=>(ez A (rs.getD i 0) ((plZ P N).getD t 0):Rat)) u (λi=>((B.getD (rs.getD i 0) 0:Int):Rat)) c k;rw[y1o (b:=colc (λi t=>(ez A (rs.getD i 0) ((plZ P N).getD t 0):Rat)) s λi=>((B.getD (rs.getD i 0) 0:Int):Rat)) λi hi t l=>by
  unfold colc;split
  rfl
  dsimp only;rw[y39 hi ω],hc]
 have d:y1z rs.length (λi t=>(ez A (rs.getD i 0) ((plZ P N).getD t 0):Rat))≠0:=λe=>by rw[<-y1W (A:=A) hl]at e;exact hd (by exact_mod_cast e)
 rw[Z5,YG,Rat.mul_inv_cancel _ d,Rat.mul_one];grind
theorem y4j:∃u:Nat->Rat,(∀i,i<rs.length->zai rs.length (λt=>(ez A (rs.getD i 0) ((plZ P N).getD t 0):Rat)*u t)=(B.getD (rs.getD i 0) 0:Int))/\∀j,j<N->el (y6w A B N rs (plZ P N)) j=y3i P N u j:=by
 have b:y1z rs.length (λi t=>(ez A (rs.getD i 0) ((plZ P N).getD t 0):Rat))≠0:=λe=>by rw[<-y1W (A:=A) hl]at e;simp_all
 obtain⟨u,a⟩:=y41 b λi=>((B.getD (rs.getD i 0) 0:Int):Rat)
 exact⟨u,a,λj hj=>y2H hl hd a hj⟩
end
end Dz
namespace Dz
open Am
variable {i:Nat}
def y1q (A:List (List Int)) (B:List Int):List (List Int):=A.mapIdx λr row=>row++[B.getD r 0]
def y2p (A:List (List Int)) (B:List Int) (N:Nat):Bool:=decide ((y1i (y1q A B) (N+1) A.length).length=(y1i A N A.length).length)
def y1G (z:List Rat):Bool:=z.any λq=>decide (q<0)
def y1k (A:List (List Int)) (B:List Int) (N:Nat):List (List Rat) :=
  if y2p A B N=true then (y1l N (y1i A N A.length).length).filterMap λp=>if y1C (y1i A N A.length).length (y1p A (y1i A N A.length) p)=0 then none else if y1G (y6w A B N (y1i A N A.length) p)=true then none else some (y6w A B N (y1i A N A.length) p)
  else []
structure FitZ (A:List (List Int)) (B:List Int) (N:Nat) (z:Nat->Rat):Prop where
  row:∀i,i<A.length->zai N (λj=>(ez A i j:Rat)*z j)=(B.getD i 0:Int)
  nn:∀j,j<N->0<=z j
section
variable {A:List (List Int)} {B:List Int} {N:Nat} (hA:∀r∈A,r.length=N)
theorem y4w(i:Nat)(hi:i<A.length):(y1q A B).getD i []=A.getD i []++[B.getD i 0]:=by unfold y1q;rw[Zg,List.getElem?_mapIdx,Ze hi,Zg (l:=A),Ze hi];rfl
include hA
theorem y4m(hi:i<A.length):(A.getD i []).length=N:=by rw[Zg,Ze hi];exact hA _ (Xj hi)
theorem y2t{j:Nat}(hi:i<A.length)(hj:j<N):ez (y1q A B) i j=ez A i j:=by unfold ez;rw[y4w i hi,y1m (by rw[y4m hA hi];exact hj)]
theorem y2b(hi:i<A.length):ez (y1q A B) i N=B.getD i 0:=by unfold ez;rw[y4w i hi,<-y4m hA hi,y1r]
theorem y2T{t:Nat}(a:t<(y1i A N A.length).length):(y1i A N A.length).getD t 0<A.length:=by rw[Zg,Ze a];exact rankTo_lt A N A.length _ (Xj a)
theorem y3J:y3r (y1i A N A.length).length (N+1) (y1x (y1q A B) (y1i A N A.length)):=λy b i hi =>
 y1I A N A.length y (λj hj=>by rw[<-b j ω];exact zaj λt a=>by unfold y1x;rw[y2t hA (y2T hA a) hj]) i hi
theorem y4L(hf:y2p A B N=true){r:Nat}(hr:r<A.length):∃c:Nat->Rat,(∀j,j<N->(ez A r j:Rat)=zai (y1i A N A.length).length λt=>c t*(ez A ((y1i A N A.length).getD t 0) j:Rat))/\((B.getD r 0:Int):Rat)=zai (y1i A N A.length).length λt=>c t*((B.getD ((y1i A N A.length).getD t 0) 0:Int):Rat):=by
 have hw:=y3J (B:=B) hA;have f:y3r (y1i A N A.length).length (N+1) (y1x (y1q A B) (y1i A N A.length++[r])):=y2G (λi hi j _=>by unfold y1x;rw[y1m hi]) hw;have d:¬y3r ((y1i A N A.length).length+1) (N+1) (y1x (y1q A B) (y1i A N A.length++[r])):=λh=>by
  have b:∀i,i<(y1i A N A.length).length+1->∃c:Nat->Rat,∀j,j<N+1->y1x (y1q A B) (y1i A N A.length++[r]) i j=zai (y1i (y1q A B) (N+1) A.length).length λt=>c t*y1x (y1q A B) (y1i (y1q A B) (N+1) A.length) t j:=λi hi=>by
   have e:(y1i A N A.length++[r]).getD i 0<A.length:=by rcases ZI i (y1i A N A.length).length with q | q;rw[y1m q];exact y2T hA q;grind
   exact y1M (y1q A B) (N+1) A.length _ e
  have hle:=y3n h (λi=>if hi:i<(y1i A N A.length).length+1 then (b i hi).choose else λ_=>0) λi hi j hj=>by rw[dif_pos hi];exact(b i hi).choose_spec j hj
  have:=XP hf;omega
 obtain⟨c,hc⟩:=y3G f d;refine⟨c,λj hj=>?_,?_⟩;have:=hc j ω;unfold y1x at this;rw[y1r,y2t hA hr hj]at this;rw[this];grind[zaj,y1m,y2t,y2T];have:=hc N ω;unfold y1x at this;rw[y1r,y2b hA hr]at this;rw[this];grind[zaj,y1m,y2b,y2T]
theorem points_fit{z:List Rat}(h:z∈y1k A B N):z.length=N/\FitZ A B N (el z):=by
 unfold y1k at h;split at h
 rename_i hf;obtain⟨p,f,e⟩:=List.mem_filterMap.1 h;obtain⟨P,rfl,hl⟩:=picks_pl f;split at e
 cases e;rename_i hd;split at e
 cases e;rename_i hb;injection e with e;subst e;have b:(y6w A B N (y1i A N A.length) (plZ P N)).length=N:=by unfold y6w;simp[y6v]
 obtain⟨u,i,k⟩:=y4j (A:=A) (B:=B) hl hd;refine⟨b,λr hr=>?_,λj hj=>?_⟩;obtain⟨c,h1,a⟩:=y4L hA hf hr;rw[a,zaj λj hj=>by rw[h1 j hj,k j hj,<-zb6],zbq];refine zaj λt g=>?_;rw[<-i t g,<-hl,<-y3j (P:=P) (N:=N) (λj=>(ez A ((y1i A N A.length).getD t 0) j:Rat)) u,<-za7];grind;rw[show el (y6w A B N (y1i A N A.length) (plZ P N)) j=(y6w A B N (y1i A N A.length) (plZ P N))[j]'(ω)by unfold el;rw[Zg,Ze ω];rfl];refine XF.1 λd=>hb ?_
 unfold y1G;rw[List.any_eq_true];exact⟨_,Xj ω,ZT d⟩;cases h
theorem y30{x:Nat->Rat}(l:FitZ A B N x)(hi:y2X A.length N (λi j=>(ez A i j:Rat)) λj=>decide (x j≠0)):∃z∈y1k A B N,∀j,j<N->el z j=x j:=by
 have hr:=y1I A N A.length;have C:=y1M A N A.length;have hf:y2p A B N=true:=by
  refine ZT (YN ?_ ?_)
  have f:∀i,i<(y1i (y1q A B) (N+1) A.length).length->∃c:Nat->Rat,∀j,j<N+1->y1x (y1q A B) (y1i (y1q A B) (N+1) A.length) i j=zai (y1i A N A.length).length λt=>c t*y1x (y1q A B) (y1i A N A.length) t j:=λi a=>by
   have b:(y1i (y1q A B) (N+1) A.length).getD i 0<A.length:=by rw[Zg,Ze a];exact rankTo_lt _ _ A.length _ (Xj a)
   obtain⟨c,hc⟩:=C _ b;refine⟨c,λj hj=>?_⟩;unfold y1x;rcases ZI j N with q | q;rw[y2t hA b q,hc j q];exact zaj λt d=>by unfold y1x;rw[y2t hA (y2T hA d) q]
   obtain rfl:j=N:=ω;rw[y2b hA b,<-l.row _ b,zaj λj hj=>by rw[hc j hj,<-zb6],zbq];refine zaj λt d=>?_;rw[y2b hA (y2T hA d),<-l.row _ (y2T hA d),<-za7];exact zaj λj hj=>by unfold y1x;grind
  exact y3n (y1I (y1q A B) (N+1) A.length) (λi=>if hi:i<(y1i (y1q A B) (N+1) A.length).length then (f i hi).choose else λ_=>0) λi hi j hj=>by rw[dif_pos hi];exact(f i hi).choose_spec j hj
  have f:∀i,i<(y1i A N A.length).length->∃c:Nat->Rat,∀j,j<N+1->y1x (y1q A B) (y1i A N A.length) i j=zai (y1i (y1q A B) (N+1) A.length).length λt=>c t*y1x (y1q A B) (y1i (y1q A B) (N+1) A.length) t j:=λi a=>y1M (y1q A B) (N+1) A.length _ (y2T hA a)
  exact y3n (y3J (B:=B) hA) (λi=>if hi:i<(y1i A N A.length).length then (f i hi).choose else λ_=>0) λi hi j hj=>by rw[dif_pos hi];exact(f i hi).choose_spec j hj
 have o:y2X (y1i A N A.length).length N (y1x A (y1i A N A.length)) λj=>decide (x j≠0):=λy I n=>hi y I λi a=>by
  obtain⟨c,hc⟩:=C i a;show zai N (λj=>(ez A i j:Rat)*y j)=0
  rw[zaj λj hj=>by rw[hc j hj,<-zb6],zbq];exact zcn λt d=>by rw[zaj (g:=λj=>c t*(y1x A (y1i A N A.length) t j*y j)) λj _=>ψ,za7,n t d];grind
 obtain⟨Q,b,E,hl⟩:=y2X.full hr _ o (Nat.add_sub_cancel' o.le);have F:=E.det hl;have hd:y1C (y1i A N A.length).length (y1p A (y1i A N A.length) (plZ Q N))≠0:=λe=>F (by have:=y1W (A:=A) (rs:=y1i A N A.length) (cols:=plZ Q N) hl;rw[e]at this;exact this.symm)
 have zero:∀j,Q j=false->x j=0:=λj hj=>by by_cases e:x j=0;exact e;have:=b j (by simp[e]);rw[hj]at this;cases this
 have H:∀i,i<(y1i A N A.length).length->zai (y1i A N A.length).length (λt=>(ez A ((y1i A N A.length).getD i 0) ((plZ Q N).getD t 0):Rat)*x ((plZ Q N).getD t 0))=(B.getD ((y1i A N A.length).getD i 0) 0:Int):=λi a=>by rw[<-l.row _ (y2T hA a)];have:=y4i Q (λj=>(ez A ((y1i A N A.length).getD i 0) j:Rat)*x j) N;rw[hl]at this;rw[this];exact zaj λj _=>by cases e:Q j;rw[zero j e];simp;simp
 have v:∀j,j<N->el (y6w A B N (y1i A N A.length) (plZ Q N)) j=x j:=λj hj=>by
  rw[y2H (u:=λt=>x ((plZ Q N).getD t 0)) hl hd H hj];unfold y3i
  dsimp only
  by_cases e:Q j=true;obtain⟨s,n,es⟩:=y4e hj e;have k:=y2r Q n;rw[es]at k;rw[if_pos ⟨e,hj⟩,k,es];rw[if_neg λq=>e q.1,zero j (by simpa using e)]
 have J:(y6w A B N (y1i A N A.length) (plZ Q N)).length=N:=by unfold y6w;exact y6v _ _ _ _
 refine⟨_,?_,v⟩;unfold y1k;rw[if_pos hf];refine List.mem_filterMap.2 ⟨plZ Q N,by have:=y2R Q N;rwa [hl]at this,?_⟩;rw[if_neg hd,if_neg];intro m;unfold y1G at m;rw[List.any_eq_true]at m;obtain⟨q,G,p⟩:=m;obtain⟨j,hj,rfl⟩:=List.mem_iff_getElem.1 G;have h1:=v j ω;have D:=l.nn j ω;have k:el (y6w A B N (y1i A N A.length) (plZ Q N)) j=(y6w A B N (y1i A N A.length) (plZ Q N))[j]:=by unfold el;rw[Zg,Ze hj];rfl
 rw[<-k,h1]at p;exact absurd (XP p) (XF.2 D)
end
end Dz
namespace Dz
open Am
variable {j:Nat}{d z:Nat->Rat}
theorem y3y(p:Nat->Prop)(f:Nat->Rat):∀N,(∃j,j<N/\p j)->∃j,j<N/\p j/\∀i,i<N->p i->f j<=f i
 | 0,⟨j,hj,_⟩=>absurd hj (ZM _)
 | N+1,h=>by
  by_cases e:∃j,j<N/\p j;obtain⟨j,hj,b,hm⟩:=y3y p f N e;by_cases q:p N/\f N<f j;refine⟨N,ω,q.1,λi hi a=>?_⟩;rcases ZI i N with h1 | h1;exact YL (XU q.2) (hm i h1 a);obtain rfl:i=N:=ω;exact XB;refine⟨j,ω,b,λi hi a=>?_⟩;rcases ZI i N with h1 | h1;exact hm i h1 a;obtain rfl:i=N:=ω;exact XF.1 λc=>q ⟨a,c⟩
  obtain⟨j,hj,b⟩:=h;have:j=N:=by rcases ZI j N with h1 | h1;exact absurd ⟨j,h1,b⟩ e;omega
  subst this;refine⟨j,ω,b,λi hi a=>?_⟩;rcases ZI i j with h1 | h1;exact absurd ⟨i,h1,a⟩ e;obtain rfl:i=j:=ω;exact XB
theorem y5V{P Q:Nat->Bool}:∀ {N:Nat},(∀t,t<N->P t=true->Q t=true)->(plZ P N).length<=(plZ Q N).length
 | 0,_=>Za _
 | N+1,hs=>by
  have b:=y5V (P:=P) (Q:=Q) (N:=N) λt a=>hs t ω
  rw[y1F,y1F,ZD,ZD];cases e:P N;simp;omega;rw[hs N ω e];simp;omega
theorem y4g{P Q:Nat->Bool}{j:Nat}(b:Q j=true)(a:P j=false):∀ {N:Nat},j<N->(∀t,t<N->P t=true->Q t=true)->(plZ P N).length<(plZ Q N).length
 | 0,hj,_=>absurd hj (ZM _)
 | N+1,hj,hs=>by
  rw[y1F,y1F,ZD,ZD];by_cases e:j=N;subst e;have:=y5V (P:=P) (Q:=Q) (N:=j) λt c=>hs t ω
  rw[b,a];simp;omega;have:=y4g b a (N:=N) ω λt c=>hs t ω
  grind
def y1j (N:Nat) (c:Nat->Rat) (z:Nat->Rat):Rat:=zai N λj=>c j*z j
structure WayZ (A:List (List Int)) (N:Nat) (d:Nat->Rat):Prop where
  row:∀i,i<A.length->zai N (λj=>(ez A i j:Rat)*d j)=0
  nn:∀j,j<N->0<=d j
section
variable {A:List (List Int)} {B:List Int} {N:Nat}
theorem y2j(g z d:Nat->Rat)(t:Rat):zai N (λj=>g j*(z j+t*d j))=zai N (λj=>g j*z j)+t*zai N λj=>g j*d j:=by rw[<-za7,<-zcm];grind
theorem y3p(b:FitZ A B N z)(hd:∀i,i<A.length->zai N (λj=>(ez A i j:Rat)*d j)=0)(h0:∀j,j<N->z j=0->d j=0)(l:∃j,j<N/\d j<0) :
  ∃t:Rat,0<=t/\FitZ A B N (λj=>z j+t*d j)/\(plZ (λj=>decide (z j+t*d j≠0)) N).length<(plZ (λj=>decide (z j≠0)) N).length:=by
 obtain⟨k,hk,c,hm⟩:=y3y (λj=>d j<0) (λj=>z j / -d j) N l;have m : -d k≠0:=ψ;have hi:0<=(-d k)⁻¹:=by refine XF.1 λq=>?_;have:=Xg (show(0:Rat) <= -d k by grind) (show(0:Rat) <= -(-d k)⁻¹ by grind);grind
 have s:=Rat.mul_inv_cancel _ m;have a:0<=z k / -d k:=by rw[Z5];exact Xg (b.nn k hk) hi
 have p:z k+z k / -d k*d k=0:=by rw[Z5];grind
 refine⟨z k / -d k,a,⟨λi f=>?_,λj hj=>?_⟩,?_⟩;rw[y2j,hd i f,b.row i f];grind;by_cases q:d j<0;have h1:=hm j hj q;have n : -d j≠0:=ψ;have u:=Rat.mul_inv_cancel _ n;have g:z k / -d k * -d j<=z j / -d j * -d j:=Vx h1 ψ;rw[show z j / -d j * -d j=z j by rw[Z5];grind]at g;grind;have:=Xg a (XF.1 q);have:=b.nn j hj;grind;refine y4g (j:=k) ?_ ?_ hk λt a o=>?_;refine ZT λe=>?_;have:=h0 k hk e;rw[this]at c;exact absurd c δ;simp[p];refine ZT λe=>?_;have h1:=XP o;rw[e,h0 t a e]at h1;exact h1 ψ
theorem vertex(c:Nat->Rat)(hw:∀d,WayZ A N d->0<=y1j N c d):∀(n:Nat) {z:Nat->Rat},(plZ (λj=>decide (z j≠0)) N).length<n->FitZ A B N z ->
  ∃y:Nat->Rat,FitZ A B N y/\y2X A.length N (λi j=>(ez A i j:Rat)) (λj=>decide (y j≠0))/\y1j N c y<=y1j N c z
 | 0,z,h,_=>absurd h (ZM _)
 | n+1,z,h,hz=>by
  by_cases hi:y2X A.length N (λi j=>(ez A i j:Rat)) λj=>decide (z j≠0)
  exact⟨z,hz,hi,XB⟩;have:∃x:Nat->Rat,(∀j,j<N->z j=0->x j=0)/\(∀i,i<A.length->zai N (λj=>(ez A i j:Rat)*x j)=0)/\∃j,j<N/\x j≠0:=by by_cases e:∃x:Nat->Rat,(∀j,j<N->z j=0->x j=0)/\(∀i,i<A.length->zai N (λj=>(ez A i j:Rat)*x j)=0)/\∃j,j<N/\x j≠0;exact e;exact absurd (λx F f j hj=>by by_cases q:x j=0;exact q;exact absurd ⟨x,λt b h0=>F t b (by simp[h0]),f,j,hj,q⟩ e) hi
  obtain⟨x,m,o,j,hj,G⟩:=this
  -- a way with a number below 0 that costs no more
  have:∃d:Nat->Rat,(∀j,j<N->z j=0->d j=0)/\(∀i,i<A.length->zai N (λj=>(ez A i j:Rat)*d j)=0)/\(∃j,j<N/\d j<0)/\y1j N c d<=0:=by
   have turn:∀x:Nat->Rat,(∀i,i<A.length->zai N (λj=>(ez A i j:Rat)*x j)=0)->∀i,i<A.length->zai N (λj=>(ez A i j:Rat) * -x j)=0:=λx f i hi=>by rw[zaj (g:=λj => -1*((ez A i j:Rat)*x j)) λj _=>ψ,za7,f i hi];grind
   have p:∀x:Nat->Rat,y1j N c (λj => -x j) = -y1j N c x:=λx=>by unfold y1j;rw[zaj (g:=λj => -1*(c j*x j)) λj _=>ψ,za7];grind
   have k:∀x:Nat->Rat,(∀j,j<N->z j=0->x j=0)->(∀i,i<A.length->zai N (λj=>(ez A i j:Rat)*x j)=0)->(∃j,j<N/\x j≠0)->y1j N c x<=0->∃d:Nat->Rat,(∀j,j<N->z j=0->d j=0)/\(∀i,i<A.length->zai N (λj=>(ez A i j:Rat)*d j)=0)/\(∃j,j<N/\d j<0)/\y1j N c d<=0:=λx h0 f ⟨j,hj,hne⟩ hc=>by
    by_cases q:∃j,j<N/\x j<0;exact⟨x,h0,f,q,hc⟩;have l:∀t,t<N->0<=x t:=λt b=>XF.1 λh=>q ⟨t,b,h⟩
    have:=hw x ⟨f,l⟩;exact⟨λj => -x j,λt b h=>ψ,turn x f,⟨j,hj,by have:=l j hj;grind⟩,by rw[p];grind⟩
   by_cases q:y1j N c x<=0;exact k x m o ⟨j,hj,G⟩ q;exact k (λj => -x j) (λt b h=>ψ) (turn x o) ⟨j,hj,ψ⟩ (by rw[p];grind)
  obtain⟨d,v,D,C,H⟩:=this;obtain⟨t,b,E,I⟩:=y3p hz D v C;obtain⟨y,h1,s,u⟩:=vertex c hw n (z:=λj=>z j+t*d j) ω E;refine⟨y,h1,s,YL u ?_⟩;unfold y1j;rw[y2j];have:=Xg b (show(0:Rat) <= -y1j N c d by grind);unfold y1j at this;grind
theorem y2i(hA:∀r∈A,r.length=N)(c:Nat->Rat)(hw:∀d,WayZ A N d->0<=y1j N c d)(g:FitZ A B N z):∃y∈y1k A B N,y1j N c (el y)<=y1j N c z:=by obtain⟨y,h1,a,b⟩:=vertex c hw _ (Nat.lt_succ_self _) g;obtain⟨p,f,e⟩:=y30 hA h1 a;exact⟨p,f,YL (by unfold y1j;rw[zaj λj hj=>by rw[e j hj]];exact XB) b⟩
theorem y16(hA:∀r∈A,r.length=N):(∃z,FitZ A B N z)↔y1k A B N≠[]:=by constructor;rintro⟨z,a⟩ e;obtain⟨y,b,_⟩:=y2i hA (λ_=>0) (λd _=>by unfold y1j;rw[zcn λj _=>ψ];exact XB) a;rw[e]at b;cases b;intro h;obtain⟨z,a⟩:=List.exists_mem_of_ne_nil _ h;exact⟨el z,(points_fit hA a).2⟩
def y1A (A:List (List Int)) (N:Nat):List (List Int):=A++[List.replicate N 1]
def y1B (m:Nat):List Int:=List.replicate m 0++[1]
def y1E (A:List (List Int)) (c:Nat->Rat) (N:Nat):Bool:=(y1k (y1A A N) (y1B A.length) N).any λz=>decide (y1j N c (el z)<0)
theorem y3q{i:Nat}(hi:i<A.length):ez (y1A A N) i j=ez A i j:=by unfold ez y1A;rw[y1m hi]
theorem y3I(hj:j<N):ez (y1A A N) A.length j=1:=by unfold ez y1A;rw[y1r,Zg,List.getElem?_replicate_of_lt hj];rfl
theorem y3H:FitZ (y1A A N) (y1B A.length) N d↔WayZ A N d/\zai N d=1:=by
 have hl:(y1A A N).length=A.length+1:=by simp[y1A]
 have h0:∀i,i<A.length->(y1B A.length).getD i 0=0:=λi hi=>by unfold y1B;rw[y1m ψ,Zg,List.getElem?_replicate_of_lt hi];rfl
 have h1:(y1B A.length).getD A.length 0=1:=by unfold y1B;have:=y1r (l:=List.replicate A.length (0:Int)) (x:=1) (d:=0);rw[ZO]at this;exact this
 have a:zai N (λj=>(ez (y1A A N) A.length j:Rat)*d j)=zai N d:=zaj λj hj=>by rw[y3I hj];grind
 constructor;intro h;refine⟨⟨λi hi=>?_,h.nn⟩,?_⟩;have:=h.row i ω;rw[h0 i hi,zaj λj _=>by rw[y3q hi]]at this;exact this;have:=h.row A.length ω;rw[a,h1]at this;exact this;rintro⟨h,b⟩;refine⟨λi hi=>?_,h.nn⟩;rcases ZI i A.length with q | q;rw[h0 i q,zaj λj _=>by rw[y3q q]];exact h.row i q;obtain rfl:i=A.length:=ω;rw[a,h1,b];rfl
theorem y4u{d:Nat->Rat}:∀ {N:Nat},(∀j,j<N->0<=d j)->0<=zai N d/\(zai N d=0->∀j,j<N->d j=0)
 | 0,_=>⟨XB,λ_ j h=>absurd h (ZM _)⟩
 | N+1,h=>by
  obtain⟨h1,a⟩:=y4u (d:=d) (N:=N) λj hj=>h j ω
  have b:=h N ω;rw[y1Y];refine⟨ψ,λe j hj=>?_⟩;rcases ZI j N with q | q;exact a ψ j q;obtain rfl:j=N:=ω;grind
theorem y2Z(hA:∀r∈A,r.length=N)(c:Nat->Rat):y1E A c N=true↔∃d,WayZ A N d/\y1j N c d<0:=by
 have hw:∀r∈y1A A N,r.length=N:=λr hr=>by unfold y1A at hr;rcases ZU.1 hr with h | h;exact hA r h;rw[XE.1 h,ZO]
 unfold y1E;rw[List.any_eq_true];constructor;rintro⟨z,p,hc⟩;exact⟨el z,(y3H.1 (points_fit hw p).2).1,XP hc⟩;rintro⟨d,hd,hc⟩;obtain⟨h1,k⟩:=y4u hd.nn;have f:zai N d≠0:=λe=>by have:=k e;unfold y1j at hc;rw[zcn λj hj=>by rw[this j hj];grind]at hc;grind
 have n:0<zai N d:=Vg.1 λh=>f (Rat.le_antisymm h h1)
 have b:=Yp.2 n;have q:=Rat.mul_inv_cancel _ f
 have m:FitZ (y1A A N) (y1B A.length) N λj=>(zai N d)⁻¹*d j:=y3H.2 ⟨⟨λi hi=>by rw[zaj (g:=λj=>(zai N d)⁻¹*((ez A i j:Rat)*d j)) λj _=>ψ,za7,hd.row i hi];grind,
  λj hj=>Xg (XU b) (hd.nn j hj)⟩,by rw[za7];grind⟩
 obtain⟨y,o,hle⟩:=y2i hw c (λe a=>by
  have l:WayZ A N e/\zai N e=0:=by refine⟨⟨λi hi=>?_,a.nn⟩,?_⟩;have:=a.row i (by simp[y1A];omega);rw[zaj λj _=>by rw[y3q hi]]at this;exact this;have:=a.row A.length (by simp[y1A]);rw[zaj (g:=e) λj hj=>by rw[y3I hj];grind]at this;exact this
  have:=(y4u a.nn).2 l.2;unfold y1j;rw[zcn λj hj=>by rw[this j hj];grind];exact XB) m
 refine⟨y,o,ZT ?_⟩;have e:y1j N c (λj=>(zai N d)⁻¹*d j)=(zai N d)⁻¹*y1j N c d:=by unfold y1j;rw[<-za7];grind
 rw[e]at hle;have:=Rat.mul_pos b (show(0:Rat) < -y1j N c d by grind);grind
end
end Dz
namespace Dz
open Am
variable {d p:Int}
def newG (p d:Int):Int:=if d<0 then -(Int.gcd p d:Int)else (Int.gcd p d:Int)
theorem newG_ne(hd:d≠0):newG p d≠0:=by
 have:Int.gcd p d≠0:=λh=>hd (Int.gcd_eq_zero_iff.1 h).2
 unfold newG;split<;>omega
theorem new_num(hd:d≠0):p.tdiv (newG p d)=(Rat.divInt p d).num:=by
 rw[Rat.num_divInt,Y1];have hg:Int.gcd p d≠0:=λh=>hd (Int.gcd_eq_zero_iff.1 h).2
 obtain⟨a,e⟩:=Int.gcd_dvd_left (a:=p) (b:=d);unfold newG;generalize hgd:(Int.gcd p d:Int)=g at *
 have c:g≠0:=ω;split
 rename_i h;rw[YZ h,e,Int.tdiv_neg,Int.mul_tdiv_cancel_left _ c,show -1*(g*a)=g * -a by grind,Int.mul_ediv_cancel_left _ c];rename_i h;rw[Y0 ω,Int.one_mul,e,Int.mul_tdiv_cancel_left _ c,Int.mul_ediv_cancel_left _ c]
theorem new_den(hd:d≠0):d.tdiv (newG p d)=((Rat.divInt p d).den:Int):=by
 rw[Rat.den_divInt,if_neg hd,Y1];have hg:Int.gcd p d≠0:=λh=>hd (Int.gcd_eq_zero_iff.1 h).2
 obtain⟨a,c⟩:=Int.gcd_dvd_right (a:=p) (b:=d);have f:((d.natAbs/Int.gcd p d:Nat):Int)=(d.natAbs:Int)/(Int.gcd p d:Int):=XR _ _;rw[f];unfold newG;generalize hgd:(Int.gcd p d:Int)=g at *
 have e:g≠0:=ω;split
 rename_i h;rw[show((d.natAbs:Nat):Int)=g * -a by rw[Int.ofNat_natAbs_of_nonpos ω];rw[c];grind,Int.mul_ediv_cancel_left _ e]
 conv=>lhs;rw[c]
 rw[Int.tdiv_neg,Int.mul_tdiv_cancel_left _ e];grind
theorem add_new(a b:Rat):Rat.divInt (a.num*b.den+b.num*a.den) (a.den*b.den)=a+b:=by rw[Rat.add_def',<-Y7,XO]
theorem mul_new(a b:Rat):Rat.divInt (a.num*b.num) (a.den*b.den)=a*b:=by rw[Rat.mul_def',<-Y7,XO]
theorem cmp_new(a b:Rat):(a.num*b.den-b.num*a.den<0↔a<b)/\(0<a.num*b.den-b.num*a.den↔b<a):=by rw[Rat.lt_iff,Rat.lt_iff];constructor<;>constructor<;>intro h<;>omega
end Dz
namespace Dz
open Am
variable {K n:Nat}
def fct:Nat->Nat
  | 0=>1
  | n+1=>(n+1)*fct n
def y1U (K:Nat) (M:List (List Int)):Prop:=∀r∈M,∀x∈r,x.natAbs<=K
theorem getD_abs{r:List Int}(h:∀x∈r,x.natAbs<=K)(j:Nat):(r.getD j 0).natAbs<=K:=by
 rw[Zg];cases e:r[j]? with
 | none=>exact Zb _
 | some x=>exact h x (Zz e)
theorem y1U.ez{K:Nat}{M:List (List Int)}(h:y1U K M)(i j:Nat):(ez M i j).natAbs<=K:=by
 unfold Dz.ez;rw[Zg (l:=M)];cases e:M[i]? with
 | none=>exact Zb _
 | some r=>exact getD_abs (h r (Zz e)) j
theorem y1U.cut{M:List (List Int)}(h:y1U K M)(c:Nat):y1U K (M.tail.map (y2h c)):=λr hr x a=>by obtain⟨y,b,rfl⟩:=ZH.1 hr;unfold y2h at a;rcases ZU.1 a with q | q;exact h y (List.mem_of_mem_tail b) x (Yh q);exact h y (List.mem_of_mem_tail b) x (Vi q)
theorem y1U.part{M:List (List Int)}(h:y1U K M)(rs cols:List Nat):y1U K (y1p M rs cols):=λr hr x a=>by obtain⟨y,_,rfl⟩:=ZH.1 hr;obtain⟨c,_,rfl⟩:=ZH.1 a;exact h.ez _ _
theorem y1U.set{M:List (List Int)}(h:y1U K M)(j:Nat){b:Nat->Int}(a:∀i,(b i).natAbs<=K):y1U K (y17 M j b):=λr hr x c=>by unfold y17 at hr;obtain⟨i,hi,rfl⟩:=List.mem_mapIdx.1 hr;rcases Vj c with q | q;exact h _ (Xj hi) x q;rw[q];exact a i
theorem sumZ_abs{f:Nat->Int}{K:Nat}:∀ {n:Nat},(∀i,i<n->(f i).natAbs<=K)->(y2u n f).natAbs<=n*K
 | 0,_=>Zb _
 | n+1,h=>by
  have:=sumZ_abs (f:=f) (n:=n) λi hi=>h i ω
  have:=h n ω;have:=Int.natAbs_add_le (y2u n f) (f n);rw[XD];show(y2u n f+f n).natAbs<=_;omega
def y1O (n:Nat) (M:List (List Int)) (c:Nat):Int:=if ez M 0 c=0 then 0 else if c%2=0 then ez M 0 c*y1C n (M.tail.map (y2h c))else -(ez M 0 c*y1C n (M.tail.map (y2h c)))
theorem y3V(n:Nat)(M:List (List Int)):y1C (n+1) M=y2u (n+1) (y1O n M):=rfl
theorem y6z{M:List (List Int)}(h:y1U K M)(a:∀c,(y1C n (M.tail.map (y2h c))).natAbs<=fct n*K^n)(c:Nat):(y1O n M c).natAbs<=K*(fct n*K^n):=by
 have hm:(ez M 0 c*y1C n (M.tail.map (y2h c))).natAbs<=K*(fct n*K^n):=by rw[XZ];exact Xn (h.ez 0 c) (a c)
 unfold y1O;split
 exact Zb _;split
 exact hm;rw[Y5];exact hm
theorem detZ_abs{K:Nat}:∀ {n:Nat} {M:List (List Int)},y1U K M->(y1C n M).natAbs<=fct n*K^n
 | 0,_,_=>Za _
 | n+1,M,h=>by
  rw[y3V];refine Zl (sumZ_abs λc _=>y6z h (λc=>detZ_abs (h.cut c)) c) ?_;show(n+1)*(K*(fct n*K^n))<=(n+1)*fct n*K^(n+1)
  rw[Xd];exact Nat.le_of_eq ψ
theorem detAt_abs{M:List (List Int)}(h:y1U K M)(c:Nat):(y1O n M c).natAbs<=K*(fct n*K^n):=y6z h (λc=>detZ_abs (h.cut c)) c
theorem frac_abs{p d:Int}(hd:d≠0):(Rat.divInt p d).num.natAbs<=p.natAbs/\(Rat.divInt p d).den<=d.natAbs:=by
 have hg:0<Int.gcd d p:=X9 λh=>hd (Int.gcd_eq_zero_iff.1 h).1
 constructor;rw[Rat.num_divInt];refine Zl (Int.natAbs_ediv_le_natAbs _ _) ?_;rw[XZ,Int.natAbs_sign_of_ne_zero hd];omega;rw[Rat.den_divInt,if_neg hd];exact Ya _ _
theorem y2N{d:Int}(hd:d≠0)(c x:Nat->Int):∀n,zai n (λj=>(c j:Rat)*Rat.divInt (x j) d)=Rat.divInt (y2u n λj=>c j*x j) d
 | 0=>by show(0:Rat)=Rat.divInt 0 d;rw[Rat.zero_divInt]
 | n+1=>by
  show zai n (λj=>(c j:Rat)*Rat.divInt (x j) d)+(c n:Rat)*Rat.divInt (x n) d=Rat.divInt (y2u n (λj=>c j*x j)+c n*x n) d
  rw[y2N hd c x n,YA,YA,YA,Rat.intCast_add,Rat.intCast_mul,Z5,Z5,Z5];grind
end Dz
namespace Dz
open Am
variable {B:List Int}{z:List Rat}{N n:Nat}
def Fz (q:Rat):Prop:=q.num.natAbs<=100000000/\q.den<=100000000
def y14 (z:List Rat):Prop:=∃(d:Int) (x:Nat->Int),d≠0/\d.natAbs<=157464/\∀j,el z j=Rat.divInt (x j) d/\(x j).natAbs<=157464
theorem y23(N:Nat)(cols:List Nat){X:Nat->Int}{d:Int}(a:∀t,(X t).natAbs<=157464):∀k,∃x:Nat->Int,∀j,el (y6y N cols (λt=>Rat.divInt (X t) d) k) j=Rat.divInt (x j) d/\(x j).natAbs<=157464
 | 0=>⟨λ_=>0,λj=>⟨by rw[Rat.zero_divInt];exact zrm N j,Zb _⟩⟩
 | k+1=>by obtain⟨x,b⟩:=y23 N cols (d:=d) a k;unfold y6y;rcases ZI (cols.getD k 0) N with h | h;refine⟨λj=>if cols.getD k 0=j then X k else x j,λj=>?_⟩;rw[ziZ (by rw[y6v];exact h)];grind;rw[List.set_eq_of_length_le (by rw[y6v];exact h)];exact⟨x,b⟩
theorem det_small{M:List (List Int)}(h:y1U 9 M)(a:n<=4):(y1C n M).natAbs<=157464:=by refine Zl (detZ_abs h) ?_;rcases(show n=0\/n=1\/n=2\/n=3\/n=4 by omega)with rfl | rfl | rfl | rfl | rfl<;>decide
theorem rankTo_len(A:List (List Int))(n:Nat):∀r,(y1i A n r).length<=r
 | 0=>Za _
 | r+1=>by
  have:=rankTo_len A n r;unfold y1i;split
  rw[ZD];show _+1<=_;omega
  omega
theorem y3m{A:List (List Int)}{rs cols:List Nat}(hA:y1U 9 A)(a:∀x∈B,x.natAbs<=9)(hl:rs.length<=4)(hd:y1C rs.length (y1p A rs cols)≠0):y14 (y6w A B N rs cols):=by obtain⟨x,b⟩:=y23 N cols (X:=λt=>y1C rs.length (y17 (y1p A rs cols) t λr=>B.getD (rs.getD r 0) 0)) (d:=y1C rs.length (y1p A rs cols)) (λt=>det_small ((hA.part rs cols).set t λi=>getD_abs a _) hl) cols.length;exact⟨_,x,hd,det_small (hA.part rs cols) hl,b⟩
theorem y1w{A:List (List Int)}(hA:y1U 9 A)(b:∀x∈B,x.natAbs<=9)(hl:A.length<=4)(a:z∈y1k A B N):y14 z:=by
 unfold y1k at a;split at a
 obtain⟨p,_,h⟩:=List.mem_filterMap.1 a;split at h
 cases h;rename_i hd;split at h
 cases h;injection h with h;rw[<-h];exact y3m hA b (Zl (rankTo_len A N _) hl) hd;cases a
theorem y14.at_(h:y14 z)(j:Nat):Fz (el z j):=by obtain⟨d,x,hd,h1,a⟩:=h;obtain⟨e,b⟩:=a j;have:=frac_abs (p:=x j) hd;rw[e];exact⟨ω,ω⟩
theorem y14.sum(h:y14 z){c:Nat->Int}(hc:∀j,(c j).natAbs<=9)(b:n<=10):Fz (zai n λj=>(c j:Rat)*el z j):=by
 obtain⟨d,x,hd,h1,a⟩:=h;rw[zaj λj _=>by rw[(a j).1],y2N hd];have e:=sumZ_abs (f:=λj=>c j*x j) (K:=9*157464) (n:=n) λi _=>by rw[XZ];exact Xn (hc i) (a i).2
 have g:n*(9*157464)<=10*(9*157464):=ZV _ b;have:=frac_abs (p:=y2u n λj=>c j*x j) hd;exact⟨ω,ω⟩
theorem y14.mul(h:y14 z){c:Int}(hc:c.natAbs<=9)(j:Nat):Fz ((c:Rat)*el z j):=by
 obtain⟨d,x,hd,h1,a⟩:=h;have e:(c:Rat)*Rat.divInt (x j) d=Rat.divInt (c*x j) d:=by have:=y2N hd (λ_=>c) (λ_=>x j) 1;simp only[zai,y2u]at this;rw[Int.zero_add]at this;rw[<-this];grind
 rw[(a j).1,e];have b:(c*x j).natAbs<=9*157464:=by rw[XZ];exact Xn hc (a j).2
 have:=frac_abs (p:=c*x j) hd;exact⟨ω,ω⟩
theorem Fz.zero:Fz 0:=⟨δ,δ⟩
end Dz
namespace Dz
open Am
variable {x y z:List Rat}{n own:Nat}
def y28 (a b:Rat):Int:=if a<b then -1 else if b<a then 1 else 0
def y5G (k:List Rat->Rat) (z:List Rat):Nat->Rat
  | 0=>k z
  | j+1=>el z j
def kTo (k:List Rat->Rat) (x y:List Rat):Nat->Int
  | 0=>y28 (k x) (k y)
  | j+1=>if kTo k x y j=0 then y28 (el x j) (el y j)else kTo k x y j
def y2x (k:List Rat->Rat) (own:Nat) (x y:List Rat):Bool:=decide (kTo k x y own<0)
def y4z (k:List Rat->Rat) (n:Nat) (x y:List Rat):Prop:=∃i,i<n+1/\(∀l,l<i->y5G k x l=y5G k y l)/\y5G k x i<y5G k y i
theorem y2A(a b:Rat):(y28 a b = -1/\a<b)\/(y28 a b=1/\b<a)\/(y28 a b=0/\a=b):=by unfold y28;by_cases h:a<b;rw[if_pos h];exact .inl ⟨rfl,h⟩;rw[if_neg h];by_cases c:b<a;rw[if_pos c];exact .inr (.inl ⟨rfl,c⟩);rw[if_neg c];exact .inr (.inr ⟨rfl,Rat.le_antisymm (XF.1 c) (XF.1 h)⟩)
theorem y22(k:List Rat->Rat)(x y:List Rat):∀n,(kTo k x y n = -1/\y4z k n x y)\/(kTo k x y n=1/\y4z k n y x)\/(kTo k x y n=0/\∀l,l<n+1->y5G k x l=y5G k y l)
 | 0=>by
  rcases y2A (k x) (k y)with ⟨h,e⟩ | ⟨h,e⟩ | ⟨h,e⟩
  exact .inl ⟨h,0,ω,λl hl=>absurd hl (ZM _),e⟩;exact .inr (.inl ⟨h,0,ω,λl hl=>absurd hl (ZM _),e⟩);refine .inr (.inr ⟨h,λl hl=>?_⟩);obtain rfl:l=0:=ω;exact e
 | n+1=>by
  unfold kTo;rcases y22 k x y n with ⟨h,i,h1,a,b⟩ | ⟨h,i,h1,a,b⟩ | ⟨h,h0⟩
  rw[h,if_neg δ];exact .inl ⟨rfl,i,ω,a,b⟩;rw[h,if_neg δ];exact .inr (.inl ⟨rfl,i,ω,a,b⟩);rw[h,if_pos rfl];rcases y2A (el x n) (el y n)with ⟨h,e⟩ | ⟨h,e⟩ | ⟨h,e⟩
  exact .inl ⟨h,n+1,ω,h0,e⟩;exact .inr (.inl ⟨h,n+1,ω,λl hl=>(h0 l hl).symm,e⟩);refine .inr (.inr ⟨h,λl hl=>?_⟩);rcases ZI l (n+1)with q | q;exact h0 l q;obtain rfl:l=n+1:=ω;exact e
theorem y3k{k:List Rat->Rat}(h:y4z k n x y):¬y4z k n y x:=by obtain⟨i,h1,b,e⟩:=h;rintro⟨j,c,a,d⟩;rcases XJ i j with q | q | q;have:=a i q;grind;subst q;grind;have:=b j q;grind
theorem y3B{k:List Rat->Rat}:y2x k own x y=true↔y4z k own x y:=by
 unfold y2x;rcases y22 k x y own with ⟨h,e⟩ | ⟨h,e⟩ | ⟨h,e⟩
 rw[h];simp[e];rw[h];grind[y3k];rw[h];simp;rintro⟨i,h1,_,a⟩;rw[e i h1]at a;grind
theorem y37{k:List Rat->Rat}(h:y4z k n x y)(g:¬y4z k n z y):¬y4z k n z x:=by obtain⟨i,h1,b,e⟩:=h;rintro⟨j,c,a,d⟩;rcases XJ i j with q | q | q;exact g ⟨i,h1,λl hl=>by rw[a l ω,b l hl],by rw[a i q];exact e⟩;subst q;exact g ⟨i,h1,λl hl=>by rw[a l hl,b l hl],ψ⟩;exact g ⟨j,c,λl hl=>by rw[a l hl,b l ω],by rw[<-b j q];exact d⟩
def y1s (k:List Rat->Rat) (own:Nat) (ps:List (List Rat)):Nat->List Rat
  | 0=>ps.getD 0 []
  | i+1=>if y2x k own (ps.getD (i+1) []) (y1s k own ps i)=true then ps.getD (i+1) []else y1s k own ps i
theorem y2f(k:List Rat->Rat)(own:Nat){ps:List (List Rat)}:∀ {i},i<ps.length->y1s k own ps i∈ps
 | 0,h=>by unfold y1s;rw[Zg,Ze h];exact Xj h
 | i+1,h=>by
  unfold y1s;split
  rw[Zg,Ze h];exact Xj h;exact y2f k own ω
theorem y2y(k:List Rat->Rat)(own:Nat)(ps:List (List Rat)):∀i t,t<=i->¬y4z k own (ps.getD t []) (y1s k own ps i)
 | 0,t,h=>by obtain rfl:t=0:=ω;intro q;exact y3k q q
 | i+1,t,h=>by
  have a:=y2y k own ps i;unfold y1s;split
  rename_i e;rcases ZI t (i+1)with q | q;exact y37 (y3B.1 e) (a t ω);obtain rfl:t=i+1:=ω;intro q;exact y3k q q;rename_i e;rcases ZI t (i+1)with q | q;exact a t ω;obtain rfl:t=i+1:=ω;exact λq=>e (y3B.2 q)
theorem y3R{k:List Rat->Rat}{ps:List (List Rat)}(h:ps≠[])(b:z∈ps):k (y1s k own ps (ps.length-1))<=k z:=by obtain⟨t,a,rfl⟩:=List.mem_iff_getElem.1 b;have:=y2y k own ps (ps.length-1) t ω;rw[Zg,Ze a]at this;exact XF.1 λq=>this ⟨0,ω,λl hl=>absurd hl (ZM _),q⟩
