/- Contracts and lemmas: Det Pck Rnk. Conditions: as each says. -/
import Derived.Test.YtbpjabgfcbjjmaaGreatLin0Ye
set_option linter.all false
set_option maxHeartbeats 1000000
namespace Dz
open Am
variable {c j k n:Nat}{a:Nat->Nat->Rat}{u:Nat->Rat}
def skp (c j:Nat):Nat:=if j<c then j else j+1
def y4y (c:Nat):Rat:=if c%2=0 then 1 else -1
def y1z:Nat->(Nat->Nat->Rat)->Rat
  | 0,_=>1
  | n+1,a=>zai (n+1) λc=>y4y c*a 0 c*y1z n λi j=>a (i+1) (skp c j)
theorem y4Y(c:Nat):y4y (c+1) = -y4y c:=by unfold y4y;grind
theorem y5Z(c:Nat):y4y c≠0:=by unfold y4y;split<;>decide
theorem y24(h:j<n):skp c j<n+1:=by unfold skp;split<;>omega
theorem y4p(c j:Nat):skp c j≠c:=by unfold skp;split<;>omega
theorem y5F{i:Nat}(h:skp c i=skp c j):i=j:=by unfold skp at h;split at h<;>split at h<;>omega
theorem y1o:∀ {n:Nat} {a b:Nat->Nat->Rat},(∀i,i<n->∀j,j<n->a i j=b i j)->y1z n a=y1z n b
 | 0,_,_,_=>rfl
 | n+1,a,b,h=>by unfold y1z;exact zaj λc hc=>by rw[h 0 ω c hc,y1o λi hi j hj=>h (i+1) ω _ (y24 hj)]
def colc (a:Nat->Nat->Rat) (k:Nat) (u:Nat->Rat) (i j:Nat):Rat:=if j=k then u i else a i j
theorem y1t(a:Nat->Nat->Rat)(k:Nat)(u:Nat->Rat)(i:Nat):colc a k u i k=u i:=if_pos rfl
theorem y1u(a:Nat->Nat->Rat)(u:Nat->Rat)(i:Nat)(h:j≠k):colc a k u i j=a i j:=if_neg h
def drp (c k:Nat):Nat:=if k<c then k else k-1
theorem y2U(h:k≠c):skp c (drp c k)=k:=by unfold skp drp;grind
theorem y5f(h:k≠c)(hk:k<n+1)(hc:c<n+1):drp c k<n:=by unfold drp;split<;>omega
theorem y5t(c j:Nat):drp c (skp c j)=j:=by unfold skp drp;grind
theorem y4v(f:Nat->Rat):∀ {n c:Nat},c<n+1->zai (n+1) f=f c+zai n λj=>f (skp c j)
 | 0,c,h=>by
  obtain rfl:c=0:=ω;show(0:Rat)+f 0=f 0+0
  grind
 | n+1,c,h=>by
  by_cases e:c=n+1;subst e;show _+f (n+1)=_
  rw[zaj (f:=f) (g:=λj=>f (skp (n+1) j)) (n:=n+1) λj hj=>by rw[show skp (n+1) j=j by unfold skp;rw[if_pos hj]]];grind;show zai (n+1) f+f (n+1)=_+(zai n (λj=>f (skp c j))+f (skp c n))
  rw[y4v f (c:=c) (n:=n) ω,show skp c n=n+1 by unfold skp;rw[if_neg ω]];grind
theorem y2Q(h:k≠c):(λi j=>colc a k u (i+1) (skp c j))=colc (λi j=>a (i+1) (skp c j)) (drp c k) λi=>u (i+1):=by
 funext i j
 grind[y2U,y1t,y1u,y5F]
theorem y2P:(λi j=>colc a k u (i+1) (skp k j))=λi j=>a (i+1) (skp k j):=by
 funext i j;simp[y1u,y4p]
theorem y15(s t:Rat):∀ {n k:Nat} (a:Nat->Nat->Rat) (u v:Nat->Rat),k<n->y1z n (colc a k λi=>s*u i+t*v i)=s*y1z n (colc a k u)+t*y1z n (colc a k v)
 | 0,_,_,_,_,h=>absurd h (ZM _)
 | n+1,k,a,u,v,h=>by unfold y1z;rw[<-za7,<-za7,<-zcm];refine zaj λc hc=>?_;by_cases e:k=c;subst e;rw[y2P,y2P,y2P,y1t,y1t,y1t];grind;rw[y2Q e,y2Q e,y2Q e,y1u _ _ _ (Z4 e),y1u _ _ _ (Z4 e),y1u _ _ _ (Z4 e),y15 s t _ _ _ (y5f e h hc)];grind
theorem y3w(a:Nat->Nat->Rat)(hk:k<n):y1z n (colc a k λ_=>0)=0:=by have:=y15 0 0 a (λ_=>0) (λ_=>0) hk;grind
theorem y2n:∀ {n k:Nat} {a:Nat->Nat->Rat},k+1<n->(∀i,i<n->a i k=a i (k+1))->y1z n a=0
 | 0,_,_,h,_=>absurd h (ZM _)
 | n+1,k,a,h,e=>by
  unfold y1z;have o:=zdJ (f:=λc=>y4y c*a 0 c*y1z n λi j=>a (i+1) (skp c j)) (k:=k) (n:=n+1) ω;rw[o,zbI (k:=k+1) ω λc hc r=>?_];rw[if_neg ω];have l:y1z n (λi j=>a (i+1) (skp (k+1) j))=y1z n λi j=>a (i+1) (skp k j):=y1o λi hi j hj=>by by_cases g:j=k;subst g;rw[show skp (j+1) j=j by unfold skp;rw[if_pos ω],show skp j j=j+1 by unfold skp;rw[if_neg ω]];grind;rw[show skp (k+1) j=skp k j by unfold skp;split<;>split<;>omega]
  rw[l,y4Y,e 0 ω];grind;by_cases b:c=k;rw[if_pos b];rw[if_neg b];have m:¬k=c:=λq=>b q.symm
  have d:drp c (k+1)=drp c k+1:=by unfold drp;split<;>split<;>omega
  have p:y1z n (λi j=>a (i+1) (skp c j))=0:=y2n (k:=drp c k) (by have:=y5f (c:=c) (k:=k+1) (n:=n) ω ω hc;omega) λi hi=>by rw[y2U m,<-d,y2U ω];grind
  rw[p];grind
theorem y4I(a:Nat->Nat->Rat)(h:k+1<n):y1z n (colc (colc a k λi=>a i (k+1)) (k+1) λi=>a i k) = -y1z n a:=by
 have sum:∀x y:Nat->Rat,y1z n (colc (colc a k x) (k+1) y)+y1z n (colc (colc a k y) (k+1) x)=0:=λx y=>by
  have f:y1z n (colc (colc a k λi=>1*x i+1*y i) (k+1) λi=>1*x i+1*y i)=0:=y2n (k:=k) h λi _=>by rw[y1u _ _ _ ω,y1t,y1t]
  have g:y1z n (colc (colc a k x) (k+1) x)=0:=y2n (k:=k) h λi _=>by rw[y1u _ _ _ ω,y1t,y1t]
  have l:y1z n (colc (colc a k y) (k+1) y)=0:=y2n (k:=k) h λi _=>by rw[y1u _ _ _ ω,y1t,y1t]
  have d:∀u v:Nat->Rat,colc (colc a k u) (k+1) v=colc (colc a (k+1) v) k u:=λu v=>by
   funext i j
   unfold colc;grind
  rw[y15 1 1 _ _ _ h,d,d,y15 1 1 _ _ _ ω,y15 1 1 _ _ _ ω]at f;rw[<-d,<-d,<-d,<-d]at f;grind
 have:=sum (λi=>a i (k+1)) λi=>a i k
 have e:y1z n (colc (colc a k λi=>a i k) (k+1) λi=>a i (k+1))=y1z n a:=y1o λi _ j _=>by unfold colc;grind
 rw[e]at this;grind
theorem y2K{n:Nat}:∀(d:Nat) {k:Nat} {a:Nat->Nat->Rat},k+d+1<n->(∀i,i<n->a i k=a i (k+d+1))->y1z n a=0
 | 0,k,a,h,e=>y2n h e
 | d+1,k,a,h,e=>by
  have b:=y4I a (k:=k+d+1) h;have c:=y2K (n:=n) d (k:=k) (a:=colc (colc a (k+d+1) λi=>a i (k+d+1+1)) (k+d+1+1) λi=>a i (k+d+1)) ω λi hi=>by rw[y1u (k:=k+d+1+1) _ _ i (show k≠k+d+1+1 by omega),y1u (k:=k+d+1) _ _ i (show k≠k+d+1 by omega),y1u (k:=k+d+1+1) _ _ i (show k+d+1≠k+d+1+1 by omega),y1t];exact e i hi
  rw[c]at b;grind
theorem y2Y(a:Nat->Nat->Rat)(hk:k<n)(hj:j<n)(h:j≠k):y1z n (colc a k λi=>a i j)=0:=by rcases Nat.lt_or_gt_of_ne h with hl | hl;refine y2K (k-j-1) (k:=j) ω λi _=>?_;rw[show j+(k-j-1)+1=k by omega,y1t,y1u _ _ _ h];refine y2K (j-k-1) (k:=k) ω λi _=>?_;rw[show k+(j-k-1)+1=j by omega,y1t,y1u _ _ _ h]
theorem y3v(a:Nat->Nat->Rat):y1z n (colc a k λi=>a i k)=y1z n a:=by grind[y1o,y1t,y1u]
theorem y3X{n k:Nat}(a:Nat->Nat->Rat)(f:Nat->Nat->Rat)(x:Nat->Rat)(hk:k<n):∀m:Nat,y1z n (colc a k λi=>zai m λj=>x j*f j i)=zai m λj=>x j*y1z n (colc a k (f j))
 | 0=>by show y1z n (colc a k λ_=>0)=0;grind[y3w]
 | m+1=>by
  have:=y15 (x m) 1 a (f m) (λi=>zai m λj=>x j*f j i) hk;rw[y3X a f x hk m]at this;rw[show(λi=>zai (m+1) λj=>x j*f j i)=λi=>x m*f m i+1*zai m λj=>x j*f j i by funext i;show _+_=_;grind,this];show _=_+_
  grind
theorem y2B(a:Nat->Nat->Rat)(x b:Nat->Rat)(hk:k<n)(h:∀i,i<n->zai n (λj=>a i j*x j)=b i):y1z n (colc a k b)=x k*y1z n a:=by
 have e:y1z n (colc a k b)=y1z n (colc a k λi=>zai n λj=>x j*a i j):=y1o λi hi j _=>by grind[y1t,zaj,y1u]
 rw[e,y3X a (λj i=>a i j) x hk n,zbI (k:=k) hk λj hj d=>by rw[y2Y a hk hj d];grind,y3v]
theorem y3W(h:y1z n a≠0):Reg n a:=λx b j hj=>by have:=y2B a x (λ_=>0) hj b;rw[y3w a hj]at this;grind
def y4T (c:Nat) (v:Rat) (x:Nat->Rat) (t:Nat):Rat:=if t=c then v else x (drp c t)
theorem y5X(c:Nat)(v:Rat)(x:Nat->Rat):y4T c v x c=v:=if_pos rfl
theorem y2S(c:Nat)(v:Rat)(x:Nat->Rat)(j:Nat):y4T c v x (skp c j)=x j:=by unfold y4T;rw[if_neg (y4p _ _),y5t]
theorem y3o(hc:c<n+1)(g:Nat->Rat)(v:Rat)(x:Nat->Rat):zai (n+1) (λj=>g j*y4T c v x j)=g c*v+zai n λj=>g (skp c j)*x j:=by rw[y4v _ hc,y5X,zaj λj _=>by rw[y2S]]
def y3h (M:Nat->Nat->Rat) (c i j:Nat):Rat:=M (i+1) (skp c j)-M 0 (skp c j)/M 0 c*M (i+1) c
theorem y3x(M:Nat->Nat->Rat)(hc:c<n+1)(x:Nat->Rat)(i:Nat) :
  zai (n+1) (λj=>M (i+1) j*y4T c (-(zai n λj=>M 0 (skp c j)*x j)/M 0 c) x j)=zai n λj=>y3h M c i j*x j:=by
 rw[y3o hc];have e:(zai n λj=>y3h M c i j*x j)=zai n (λj=>M (i+1) (skp c j)*x j) + -(M (i+1) c/M 0 c)*zai n λj=>M 0 (skp c j)*x j:=by rw[<-za7,<-zcm];exact zaj λj _=>by unfold y3h;rw[Z5,Z5];grind
 rw[e];generalize zai n (λj=>M 0 (skp c j)*x j)=s;rw[Z5,Z5];grind
theorem y2D(M:Nat->Nat->Rat)(hc:c<n+1)(a:M 0 c≠0)(x:Nat->Rat) :
  zai (n+1) (λj=>M 0 j*y4T c (-(zai n λj=>M 0 (skp c j)*x j)/M 0 c) x j)=0:=by
 rw[y3o hc];generalize zai n (λj=>M 0 (skp c j)*x j)=s;rw[Z5];have:=Rat.mul_inv_cancel _ a;grind
theorem y1V:∀(n:Nat) (M:Nat->Nat->Rat),∃x:Nat->Rat,(∃j,j<n+1/\x j≠0)/\∀i,i<n->zai (n+1) (λj=>M i j*x j)=0
  | 0,M=>⟨λ_=>1,⟨0,ω,δ⟩,λi h=>absurd h (ZM _)⟩
  | n + 1,M => by
    by_cases h0:∃c,c<n+2/\M 0 c≠0;obtain⟨c,hc,d⟩:=h0;obtain⟨x,⟨j,hj,a⟩,b⟩:=y1V n (y3h M c);refine⟨y4T c (-(zai (n+1) λj=>M 0 (skp c j)*x j)/M 0 c) x,⟨skp c j,y24 hj,by rw[y2S];exact a⟩,λi hi=>?_⟩;cases i with
    | zero=>exact y2D M hc d x
    | succ i=>rw[y3x M hc x i];exact b i ω
    obtain⟨x,⟨j,hj,a⟩,b⟩:=y1V n λi j=>M (i+1) (skp (n+1) j)
    refine⟨y4T (n+1) 0 x,⟨skp (n+1) j,y24 hj,by rw[y2S];exact a⟩,λi hi=>?_⟩;cases i with
    | zero=>exact zcn λj hj=>by
                have:M 0 j=0:=by by_cases e:M 0 j=0;exact e;exact absurd ⟨j,hj,e⟩ h0
                rw[this];grind
    | succ i=>rw[y3o ω,b i ω];grind
def y2V (a:Nat->Nat->Rat) (c t i j:Nat):Rat:=if j<t/\j≠c then a i j-a 0 j/a 0 c*a i c else a i j
theorem y3u{n c:Nat}(a:Nat->Nat->Rat)(hc:c<n):∀t,t<=n->y1z n (y2V a c t)=y1z n a
 | 0,_=>y1o λi _ j _=>if_neg λh=>absurd h.1 (ZM _)
 | t+1,h=>by
  rw[<-y3u a hc t ω];by_cases e:t=c;exact y1o λi _ j _=>by unfold y2V;grind
  have d:=y15 1 (-(a 0 t/a 0 c)) (y2V a c t) (λi=>y2V a c t i t) (λi=>y2V a c t i c) (show t<n by omega);rw[y3v,y2Y _ ω hc (Z4 e)]at d;have f:y1z n (y2V a c (t+1))=y1z n (colc (y2V a c t) t λi=>1*y2V a c t i t + -(a 0 t/a 0 c)*y2V a c t i c):=y1o λi _ j _=>by by_cases b:j=t;rw[b,y1t];unfold y2V;rw[if_pos ⟨ω,e⟩,if_neg ω,if_neg ω];grind;rw[y1u _ _ _ b];unfold y2V;grind
  rw[f,d];grind
theorem y4G(a:Nat->Nat->Rat)(hc:c<n+1)(f:a 0 c≠0):y1z (n+1) a=y4y c*a 0 c*y1z n (y3h a c):=by
 rw[<-y3u a hc (n+1) (Za _)];show(zai (n+1) λd=>y4y d*y2V a c (n+1) 0 d*y1z n λi j=>y2V a c (n+1) (i+1) (skp d j))=_
 rw[zbI hc λj hj e=>?_];rw[show y2V a c (n+1) 0 c=a 0 c from if_neg λh=>h.2 rfl];rw[y1o (b:=y3h a c) λi _ j hj=>?_];show y2V a c (n+1) (i+1) (skp c j)=_
 unfold y2V;rw[if_pos ⟨y24 hj,y4p _ _⟩];rfl;rw[show y2V a c (n+1) 0 j=0 by unfold y2V;rw[if_pos ⟨hj,e⟩,Z5];have:=Rat.mul_inv_cancel _ f;grind];grind
theorem y4l:∀ {n:Nat} {a:Nat->Nat->Rat},Reg n a->y1z n a≠0
  | 0,_,_=>by show(1:Rat)≠0;decide
  | n + 1,a,h => by
    by_cases h0:∃c,c<n+1/\a 0 c≠0;obtain⟨c,hc,b⟩:=h0;rw[y4G a hc b]
    have hr:Reg n (y3h a c):=λx d j hj=>by
      have:=h (y4T c (-(zai n λj=>a 0 (skp c j)*x j)/a 0 c) x) (λi hi=>by
        cases i with
        | zero=>exact y2D a hc b x
        | succ i=>rw[y3x a hc x i];exact d i ω) (skp c j) (y24 hj)
      rw[y2S]at this;exact this
    have h1:=y4l hr;have f:=y5Z c;intro e;rcases Yq.1 e with e | e;rcases Yq.1 e with e | e;exact f e;exact b e;exact h1 e;obtain⟨x,⟨j,hj,d⟩,g⟩:=y1V n λi j=>a (i+1) j
    exact absurd (h x (λi hi=>by
      cases i with
      | zero=>grind[zcn]
      | succ i=>grind) j hj) d
end Dz
namespace Dz
open Am
variable {N j k t:Nat}{a:Nat->Nat->Rat}
def plZ (P:Nat->Bool) (N:Nat):List Nat:=(List.range N).filter P
theorem y1F(P:Nat->Bool)(N:Nat):plZ P (N+1)=plZ P N++if P N=true then [N]else []:=by unfold plZ;rw[Yd,List.filter_append];congr 1;cases h:P N<;>simp[h]
theorem pl_mem{P:Nat->Bool}:j∈plZ P N↔j<N/\P j=true:=by simp[plZ]
theorem y4i(P:Nat->Bool)(f:Nat->Rat):∀N,zai (plZ P N).length (λt=>f ((plZ P N).getD t 0))=zai N λj=>if P j=true then f j else 0
 | 0=>rfl
 | N+1=>by
  rw[y1F];show _=zai N (λj=>if P j=true then f j else 0)+if P N=true then f N else 0
  rw[<-y4i P f N];cases h:P N;simp;grind;rw[if_pos rfl,if_pos rfl,ZD];show zai (plZ P N).length _+_=_
  rw[zaj (g:=λt=>f ((plZ P N).getD t 0)) λt a=>by rw[Zg,Z1 a,<-Zg]];show _+f ((plZ P N++[N]).getD (plZ P N).length 0)=_
  rw[Zg,ZJ (Za _),Xq];rfl
theorem y4h{P:Nat->Bool}(h:t<(plZ P N).length):(plZ P N).getD t 0<N/\P ((plZ P N).getD t 0)=true:=by rw[<-pl_mem,Zg,Ze h];exact Xj h
theorem y4e{P:Nat->Bool}(hj:j<N)(h:P j=true):∃t,t<(plZ P N).length/\(plZ P N).getD t 0=j:=by obtain⟨t,a,e⟩:=List.mem_iff_getElem.1 (pl_mem.2 ⟨hj,h⟩);exact⟨t,a,by rw[Zg,Ze a];exact e⟩
theorem y2r(P:Nat->Bool):∀ {N t:Nat},t<(plZ P N).length->(plZ P ((plZ P N).getD t 0)).length=t
 | 0,t,h=>absurd h (ZM _)
 | N+1,t,h=>by rw[y1F]at h ⊢;rcases ZI t (plZ P N).length with h1 | h1;rw[Zg,Z1 h1,<-Zg];exact y2r P h1;cases q:P N;rw[q]at h;simp at h;omega;rw[q]at h;simp at h;obtain rfl:t=(plZ P N).length:=ω;rw[if_pos rfl,Zg,ZJ (Za _),Xq];rfl
def y3i (P:Nat->Bool) (N:Nat) (x:Nat->Rat) (j:Nat):Rat:=if P j=true/\j<N then x (plZ P j).length else 0
theorem y34{P:Nat->Bool}(x:Nat->Rat)(h:t<(plZ P N).length):y3i P N x ((plZ P N).getD t 0)=x t:=by obtain⟨h1,a⟩:=y4h h;unfold y3i;rw[if_pos ⟨a,h1⟩,y2r P h]
theorem y35{P:Nat->Bool}(x:Nat->Rat)(h:P j=false):y3i P N x j=0:=if_neg λq=>by rw[h]at q;grind
def y2X (k N:Nat) (a:Nat->Nat->Rat) (P:Nat->Bool):Prop:=∀x:Nat->Rat,(∀j,j<N->P j=false->x j=0)->(∀i,i<k->zai N (λj=>a i j*x j)=0)->∀j,j<N->x j=0
def y3r (k N:Nat) (a:Nat->Nat->Rat):Prop:=∀y:Nat->Rat,(∀j,j<N->zai k (λi=>y i*a i j)=0)->∀i,i<k->y i=0
theorem y3l{n:Nat}(h:n<k)(M:Nat->Nat->Rat):∃x:Nat->Rat,(∃j,j<k/\x j≠0)/\∀i,i<n->zai k (λj=>M i j*x j)=0:=by obtain⟨x,⟨j,hj,a⟩,b⟩:=y1V n M;refine⟨λj=>if j<n+1 then x j else 0,⟨j,ω,by simp only[hj,if_true];exact a⟩,λi hi=>?_⟩;rw[zh6 (m:=n+1) ω λj h1 _=>by simp only[show ¬j<n+1 by omega,if_false];grind];rw[<-b i hi];simp_all[zaj,if_true]
theorem y3j{P:Nat->Bool}(g x:Nat->Rat):zai N (λj=>g j*y3i P N x j)=zai (plZ P N).length λt=>g ((plZ P N).getD t 0)*x t:=by
 have h:=y4i P (λj=>g j*y3i P N x j) N;rw[zaj (f:=λj=>g j*y3i P N x j) (g:=λj=>if P j=true then g j*y3i P N x j else 0) λj _=>?_,<-h];exact zaj λt a=>by rw[y34 x a]
 grind[y35]
theorem y2X.le{P:Nat->Bool}(h:y2X k N a P):(plZ P N).length<=k:=by
 rcases ZI k (plZ P N).length with hl | hl;obtain⟨x,⟨t,b,d⟩,e⟩:=y3l hl λi t=>a i ((plZ P N).getD t 0)
 have:=h (y3i P N x) (λj _ c=>y35 x c) (λi hi=>by rw[y3j];exact e i hi) _ (y4h b).1;rw[y34 x b]at this;grind;exact hl
theorem y2X.more{P:Nat->Bool}(h:y2X k N a P)(hr:y3r k N a)(m:(plZ P N).length<k):∃j,j<N/\P j=false/\y2X k N a λt=>P t||decide (t=j):=by
 obtain⟨y,⟨i,hi,r⟩,u⟩:=y3l m λt i=>a i ((plZ P N).getD t 0)
 have ex:∃j,j<N/\zai k (λi=>y i*a i j)≠0:=by by_cases e:∃j,j<N/\zai k (λi=>y i*a i j)≠0;exact e;exact absurd (hr y (λj hj=>by by_cases q:zai k (λi=>y i*a i j)=0;exact q;exact absurd ⟨j,hj,q⟩ e) i hi) r
 obtain⟨j,hj,f⟩:=ex;have zero:∀t,t<N->P t=true->zai k (λi=>y i*a i t)=0:=λt b d=>by obtain⟨s,c,e⟩:=y4e b d;have:=u s c;rw[e]at this;rw[<-this];exact zaj λi _=>ψ
 have d:P j=false:=by cases q:P j;rfl;exact absurd (zero j hj q) f
 refine⟨j,hj,d,λx l c=>?_⟩;have g:zai N (λt=>zai k (λi=>y i*a i t)*x t)=0:=by rw[show zai N (λt=>zai k (λi=>y i*a i t)*x t)=zai k λi=>y i*zai N λt=>a i t*x t by rw[zaj λt _=>(zb6 _ _ _).symm,zbq];exact zaj λi _=>by rw[<-za7];exact zaj λt _=>ψ];exact zcn λi hi=>by rw[c i hi];grind
 rw[zbI (k:=j) hj λt b n=>by cases q:P t;rw[l t b (by simp[q,n])];grind;rw[zero t b q];grind]at g;have p:x j=0:=by rcases Yq.1 g with e | e;exact absurd e f;exact e
 refine h x (λt b o=>?_) c;grind
theorem y5B{P:Nat->Bool}(hj:j<N)(a:P j=false):(plZ (λt=>P t||decide (t=j)) N).length=(plZ P N).length+1:=by
 induction N with
 | zero=>exact absurd hj (ZM _)
 | succ N ih =>
  rw[y1F,y1F,ZD,ZD];by_cases e:j=N;subst e;rw[show plZ (λt=>P t||decide (t=j)) j=plZ P j from List.filter_congr λt b=>by have:=Xu.1 b;simp;omega];simp[a];grind
theorem y2X.full{k N:Nat}{a:Nat->Nat->Rat}(hr:y3r k N a):∀(d:Nat) {P:Nat->Bool},y2X k N a P->(plZ P N).length+d=k->∃Q,(∀j,P j=true->Q j=true)/\y2X k N a Q/\(plZ Q N).length=k
 | 0,P,h,e=>⟨P,λ_ q=>q,h,e⟩
 | d+1,P,h,e=>by obtain⟨j,hj,f,hi⟩:=h.more hr ω;obtain⟨Q,g,b,c⟩:=y2X.full hr d hi (by rw[y5B hj f];omega);grind
theorem y2X.det{P:Nat->Bool}(h:y2X k N a P)(b:(plZ P N).length=k):y1z k (λi t=>a i ((plZ P N).getD t 0))≠0 :=
 y4l λx d t e=>by have:=h (y3i P N x) (λj _ c=>y35 x c) (λi hi=>by rw[y3j,b];exact d i hi) _ (y4h (P:=P) (N:=N) (t:=t) ω).1;rw[y34 x ω]at this;exact this
end Dz
namespace Dz
open Am
variable {cols rs:List Nat}{N:Nat}
def y1l:Nat->Nat->List (List Nat)
  | _,0=>[[]]
  | 0,_+1=>[]
  | n+1,k+1=>if n+1<k+1 then []else y1l n (k+1)++(y1l n k).map λx=>x++[n]
theorem y4f(P:Nat->Bool)(N:Nat):(plZ P N).length<=N:=by have:=List.length_filter_le P (List.range N);rw[Yf]at this;exact this
theorem y2R(P:Nat->Bool):∀N,plZ P N∈y1l N (plZ P N).length
 | 0=>XE.2 rfl
 | N+1=>by
  have a:=y2R P N;have hle:=y4f P N;rw[y1F];cases q:P N;simp only[if_false,XI,XS];generalize hk:(plZ P N).length=k at *
  cases k with
  | zero=>rw[Xk.1 hk];exact XE.2 rfl
  | succ k=>unfold y1l;rw[if_neg ω];exact ZU.2 (.inl a)
  simp only[if_true,ZD,List.length_singleton];unfold y1l;rw[if_neg ω];exact ZU.2 (.inr (ZH.2 ⟨_,a,rfl⟩))
theorem y3F{P Q:Nat->Bool}(h:∀j,j<N->P j=Q j):plZ P N=plZ Q N:=List.filter_congr λj hj=>h j (Xu.1 hj)
theorem picks_pl:∀ {n k:Nat} {l:List Nat},l∈y1l n k->∃P,l=plZ P n/\l.length=k
 | n,0,l,h=>by unfold y1l at h;obtain rfl:=XE.1 h;exact⟨λ_=>false,by simp[plZ],rfl⟩
 | 0,k+1,l,h=>by unfold y1l at h;cases h
 | n+1,k+1,l,h=>by
  unfold y1l at h;split at h
  cases h;rcases ZU.1 h with h | h;obtain⟨P,rfl,a⟩:=picks_pl h;refine⟨λt=>P t&&decide (t<n),?_,a⟩;rw[y1F,if_neg σ,XS];exact y3F λj hj=>by simp[hj]
  obtain⟨x,b,rfl⟩:=ZH.1 h;obtain⟨P,rfl,a⟩:=picks_pl b;refine⟨λt=>P t||decide (t=n),?_,by simp[a]⟩;rw[y1F,if_pos σ];congr 1;exact y3F λj hj=>by simp[show j≠n by omega]
def y2u:Nat->(Nat->Int)->Int
  | 0,_=>0
  | n+1,f=>y2u n f+f n
theorem y26(f:Nat->Int):∀n,((y2u n f:Int):Rat)=zai n λi=>(f i:Rat)
 | 0=>rfl
 | n+1=>by show((y2u n f+f n:Int):Rat)=_+_;rw[Rat.intCast_add,y26 f n]
def ez (A:List (List Int)) (i j:Nat):Int:=(A.getD i []).getD j 0
def y2h (c:Nat) (r:List Int):List Int:=r.take c++r.drop (c+1)
theorem y5o(c:Nat)(r:List Int)(j:Nat)(hc:c<r.length):(y2h c r).getD j 0=r.getD (skp c j) 0:=by unfold y2h skp;rw[Zg,Zg];by_cases h:j<c;rw[if_pos h,Z1 (by rw[ZG];omega),List.getElem?_take_of_lt h];rw[if_neg h,ZJ (by rw[ZG];omega),ZG,YT,show c+1+(j-min c r.length)=j+1 by omega]
theorem cutL_len(c:Nat)(r:List Int)(hc:c<r.length):(y2h c r).length=r.length-1:=by unfold y2h;rw[ZD,ZG,Yc];omega
def y1C:Nat->List (List Int)->Int
  | 0,_=>1
  | n+1,M=>y2u (n+1) λc=>if ez M 0 c=0 then 0 else if c%2=0 then ez M 0 c*y1C n (M.tail.map (y2h c))else -(ez M 0 c*y1C n (M.tail.map (y2h c)))
theorem y2J:∀ {n:Nat} {M:List (List Int)},M.length=n->(∀r∈M,r.length=n)->((y1C n M:Int):Rat)=y1z n λi j=>(ez M i j:Rat)
 | 0,_,_,_=>rfl
 | n+1,M,hl,hr=>by
  unfold y1C y1z;rw[y26];refine zaj λc hc=>?_
  have hm:((y1C n (M.tail.map (y2h c)):Int):Rat)=y1z n λi j=>(ez M (i+1) (skp c j):Rat):=by
   rw[y2J (by rw[ZK,List.length_tail];omega) λr h=>by obtain⟨x,d,rfl⟩:=ZH.1 h;have:=hr x (List.mem_of_mem_tail d);rw[cutL_len c x ω];omega];refine y1o λi hi j hj=>?_;unfold ez;have b:i<M.tail.length:=by rw[List.length_tail];omega
   rw[Zg (l:=List.map _ _),Z2,Ze b];show((y2h c M.tail[i]).getD j 0:Rat)=_
   have d:=hr _ (List.mem_of_mem_tail (Xj b));rw[y5o c _ j ω,List.getElem_tail,Zg (l:=M),Ze ω];rfl
  rw[<-hm];unfold y4y;show _=_*((ez M 0 c:Int):Rat)*_
  by_cases h0:ez M 0 c=0;rw[if_pos h0,h0,show((0:Int):Rat)=0 from rfl];grind;rw[if_neg h0];by_cases a:c%2=0;rw[if_pos a,if_pos a,Rat.intCast_mul];grind;rw[if_neg a,if_neg a,Rat.intCast_neg,Rat.intCast_mul];grind
def y1p (A:List (List Int)) (rs cols:List Nat):List (List Int):=rs.map λr=>cols.map λc=>ez A r c
theorem y39{A:List (List Int)}{i j:Nat}(hi:i<rs.length)(hj:j<cols.length):ez (y1p A rs cols) i j=ez A (rs.getD i 0) (cols.getD j 0):=by
 conv=>lhs;unfold ez y1p
 rw[Zg (l:=List.map _ rs),Z2,Ze hi];show(cols.map λc=>ez A rs[i] c).getD j 0=_
 rw[Zg,Z2,Ze hj,Zg (l:=rs),Ze hi,Zg (l:=cols),Ze hj];rfl
theorem y1W{A:List (List Int)}(h:cols.length=rs.length):((y1C rs.length (y1p A rs cols):Int):Rat)=y1z rs.length λi t=>(ez A (rs.getD i 0) (cols.getD t 0):Rat):=by rw[y2J (by simp[y1p]) λr hr=>by obtain⟨x,_,rfl⟩:=ZH.1 hr;rw[ZK,h]];exact y1o λi hi j hj=>by rw[y39 hi ω]
def y1J (A:List (List Int)) (rs:List Nat) (n:Nat):Bool:=(y1l n rs.length).any λp=>decide (y1C rs.length (y1p A rs p)≠0)
theorem y4H{k:Nat}{a:Nat->Nat->Rat}{p:Nat->Nat}(n:∀t,t<k->p t<N)(h:y1z k (λi t=>a i (p t))≠0):y3r k N a:=λy o i hi=>by
 have hr:=y3W h;obtain⟨x,⟨j,hj,d⟩,q⟩:=y1V k λr t=>if t=k then (if r=i then 1 else 0)else a r (p t)
 have split:∀r,r<k->zai k (λt=>a r (p t)*x t)+(if r=i then 1 else 0)*x k=0:=λr b=>by
  have:=q r b;have e:zai (k+1) (λt=>(if t=k then (if r=i then 1 else 0)else a r (p t))*x t)=zai k (λt=>a r (p t)*x t)+(if r=i then 1 else 0)*x k:=by
   show zai k (λt=>(if t=k then (if r=i then (1:Rat)else 0)else a r (p t))*x t)+(if k=k then (if r=i then (1:Rat)else 0)else a r (p k))*x k=_
   rw[if_pos rfl,zaj (g:=λt=>a r (p t)*x t) λt c=>by rw[if_neg ω]]
  rw[<-e];exact this
 have dot:y i*x k=0:=by
  have h1:zai k (λr=>y r*(zai k (λt=>a r (p t)*x t)+(if r=i then 1 else 0)*x k))=0:=zcn λr b=>by rw[split r b];grind
  have f:zai k (λr=>y r*(zai k (λt=>a r (p t)*x t)+(if r=i then 1 else 0)*x k))=zai k (λt=>zai k (λr=>y r*a r (p t))*x t)+zai k λr=>y r*((if r=i then 1 else 0)*x k):=by rw[zaj (g:=λr=>zai k (λt=>y r*a r (p t)*x t)+y r*((if r=i then 1 else 0)*x k)) λr _=>by rw[Rat.mul_add,<-za7];congr 1;exact zaj λt _=>ψ];rw[zcm,zbq];simp[zaj,zb6]
  rw[f,zcn (λt c=>by rw[o _ (n t c)];grind),zbI (k:=i) hi λr _ m=>by rw[if_neg m];grind,if_pos rfl]at h1;grind
 rcases Yq.1 dot with e | e;exact e;have l:=hr x λr b=>by have:=split r b;rw[e]at this;grind
 rcases ZI j k with hjk | hjk;exact absurd (l j hjk) d;obtain rfl:j=k:=ω;exact absurd e d
theorem y27{A:List (List Int)}{n:Nat}:y1J A rs n=true↔y3r rs.length n λi j=>(ez A (rs.getD i 0) j:Rat):=by
 unfold y1J;rw[List.any_eq_true];constructor;rintro⟨p,f,c⟩;obtain⟨P,rfl,a⟩:=picks_pl f;have d:=XP c;refine y4H (p:=λt=>(plZ P n).getD t 0) (λt k=>(y4h ω).1) ?_;intro e;rw[<-y1W (A:=A) (cols:=plZ P n) a]at e;simp_all
 intro h;obtain⟨Q,_,b,a⟩:=y2X.full h rs.length (P:=λ_=>false) (λx g _ j hj=>g j hj rfl) (by simp[plZ]);refine⟨plZ Q n,by have:=y2R Q n;rwa [a]at this,ZT λe=>b.det a ?_⟩;rw[<-y1W (A:=A) (cols:=plZ Q n) a,e];rfl
