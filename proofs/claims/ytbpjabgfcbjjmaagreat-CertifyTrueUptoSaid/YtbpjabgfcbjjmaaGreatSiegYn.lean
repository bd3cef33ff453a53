/- Contracts and lemmas: Sieg Rat6 Rat7. Conditions: as each says. -/
import Derived.Test.YtbpjabgfcbjjmaaGreatEtaYn
import Derived.Test.YtbpjabgfcbjjmaaGreatRat5Yn
set_option linter.all false
set_option maxHeartbeats 4000000
set_option maxRecDepth 100000
namespace Am
variable {n:Nat}
def ywc:Nat->(Nat->Nat)->Nat
  | 0,_=>0
  | n+1,f=>ywc n f+f n
def ywg{f:Nat->Nat}{k:Nat}:∀ {n:Nat},(∀i,i<n->f i<=k)->ywc n f<=n*k
 | 0,_=>by simp[ywc]
 | n+1,h=>by have h1:=ywg (n:=n) (λi hi=>h i ω);have a:=h n ω;rw[ywc,XE];omega
def yv4(f:Nat->Nat):∀n:Nat,((ywc n f:Nat):Rat)=zai n λi=>(f i:Rat)
 | 0=>rfl
 | n+1=>by rw[ywc,zai,<-yv4 f n];grind
def ywk (k:Nat):Nat->List (List Nat)
  | 0=>[[]]
  | n+1=>(List.range (k+1)).flatMap λx=>(ywk k n).map (x :: ·)
def ywe(k:Nat):∀n,(ywk k n).length=(k+1)^n
 | 0=>rfl
 | n+1=>by
  have:∀m,((List.range m).flatMap λx=>(ywk k n).map (x :: ·)).length=m*(k+1)^n:=λm=>by
   induction m with
   | zero=>simp
   | succ m ih=>rw[Yp,List.flatMap_append,Zz,ih];simp[ywe,XE]
  unfold ywk;rw[this,Xg,ZO]
def ywf{k:Nat}:∀ {n:Nat} {l:List Nat},l.length=n->(∀x∈l,x<=k)->l∈ywk k n
 | 0,l,h,_=>by rw[Xo.1 h];simp[ywk]
 | n+1,[],h,_=>by cases h
 | n+1,x::l,h,hx=>by unfold ywk;exact List.mem_flatMap.2 ⟨x,Xb.2 (by have:=hx x (List.mem_cons_self ..);omega),ZH.2 ⟨l,ywf ψ λy a=>hx y (List.mem_cons_of_mem _ a),rfl⟩⟩
def yv3{q:Nat}:∀ {n a b:Nat},a<q^n->b<q^n->(∀j,j<n->a/q^j%q=b/q^j%q)->a=b
 | 0,a,b,ha,hb,_=>ψ
 | n+1,a,b,ha,hb,h=>by
  have h0:=h 0 ω;rw[Nat.pow_zero,YP,YP]at h0;rw[Xg]at ha hb;have e:=yv3 (q:=q) (n:=n) (a:=a/q) (b:=b/q) (Nat.div_lt_of_lt_mul (by rw[ZO];exact ha)) (Nat.div_lt_of_lt_mul (by rw[ZO];exact hb)) λj hj=>by have:=h (j+1) ω;rw[Xg,ZO,<-Ym,<-Ym]at this;exact this
  rw[<-Xu a q,<-Xu b q,e,h0]
def sgB (n H:Nat):Nat:=((n+1)*H)^n
def siegel{H:Nat}{P Q:Nat->Nat->Nat}(z:∀i,i<n->∀j,j<n+1->P i j+Q i j<=H)(h1:1<=H):∃u v:Nat->Nat,(∀j,u j<=sgB n H/\v j<=sgB n H)/\(∃j,j<n+1/\u j≠v j) /\
  ∀i,i<n->zai (n+1) (λj=>((P i j:Rat)-(Q i j:Rat))*((u j:Rat)-(v j:Rat)))=0:=by
 generalize hB:sgB n H=B;have K:1<=(n+1)*H:=YV ω h1;let f:Nat->Nat->Nat:=λa j=>a/(B+1)^j%(B+1)
 have dl:∀a j,f a j<=B:=λa j=>Nat.le_of_lt_succ (Z0 _ ω)
 let g:Nat->Nat->Nat:=λa i=>ywc (n+1) λj=>P i j*f a j+Q i j*(B-f a j)
 have E:∀a i,i<n->g a i<=(n+1)*(H*B):=λa i hi=>ywg λj hj=>by have k:=z i hi j hj;have I:P i j*f a j<=P i j*B:=Xp _ (dl a j);have J:Q i j*(B-f a j)<=Q i j*B:=Xp _ (Nat.sub_le _ _);have y:(P i j+Q i j)*B<=H*B:=ZV _ k;rw[XE]at y;omega
 have F:∃a b,a<b/\b<(B+1)^(n+1)/\∀i,i<n->g a i=g b i:=by
  refine Vk λo=>?_;have p:=pigeon (ywk ((n+1)*(H*B)) n) ((B+1)^(n+1)) (λa=>(List.range n).map (g a)) (λa _=>ywf σ λx D=>by obtain⟨i,hi,rfl⟩:=ZH.1 D;exact E a i (Xb.1 hi)) λa b r m e=>o ⟨a,b,r,m,λi hi=>by have:=congrArg (λl:List Nat=>l[i]?) e;simpa[Z1,XH hi]using this⟩
  rw[ywe]at p;have s:(n+1)*(H*B)+1<=(n+1)*H*(B+1):=by rw[XX,Yb];omega
  have t:((n+1)*(H*B)+1)^n<=((n+1)*H*(B+1))^n:=Nat.pow_le_pow_left s n;rw[Nat.mul_pow,show((n+1)*H)^n=B from hB]at t;rw[Xg]at p;have G:0<(B+1)^n:=Z3 ω;grind
 obtain⟨a,b,r,m,A⟩:=F;refine⟨f a,f b,λj=>⟨dl a j,dl b j⟩,?_,λi hi=>?_⟩;refine Vk λo=>?_;have:=yv3 (q:=B+1) (n:=n+1) (a:=a) (b:=b) ω m λj hj=>Vk λh=>o ⟨j,hj,h⟩
 omega
 have e:=congrArg (λx:Nat=>(x:Rat)) (A i hi);have c:∀a,((g a i:Nat):Rat)=zai (n+1) (λj=>((P i j:Rat)-(Q i j:Rat))*(f a j:Rat))+zai (n+1) λj=>(Q i j:Rat)*(B:Rat):=λa=>by
  rw[<-zcm];refine(yv4 _ _).trans (zaj λj _=>?_);have C:((B-f a j:Nat):Rat)=(B:Rat)-(f a j:Rat):=by
   have:=dl a j;have k:((B-f a j+f a j:Nat):Rat)=(B:Rat):=by rw[Nat.sub_add_cancel this]
   rw[Rat.natCast_add]at k;grind
  rw[Rat.natCast_add,VG,VG,C];grind
 rw[c a,c b]at e;have d:zai (n+1) (λj=>((P i j:Rat)-(Q i j:Rat))*((f a j:Rat)-(f b j:Rat)))=zai (n+1) (λj=>((P i j:Rat)-(Q i j:Rat))*(f a j:Rat))+(-1)*zai (n+1) (λj=>((P i j:Rat)-(Q i j:Rat))*(f b j:Rat)):=by rw[<-za7,<-zcm];grind
 rw[d];grind
def yv2:Nat->(Nat->Nat)->Nat
  | 0,_=>1
  | n+1,f=>yv2 n f*f n
def ywa{f:Nat->Nat}{T:Nat}:∀ {n:Nat},(∀i,i<n->f i<=T)->yv2 n f<=T^n
 | 0,_=>by simp[yv2]
 | n+1,h=>by rw[yv2,Xg];exact Xr (ywa λi hi=>h i ω) (h n ω)
def yv6{f:Nat->Nat}:∀ {n:Nat},(∀i,i<n->1<=f i)->1<=yv2 n f
 | 0,_=>Za _
 | n+1,h=>YV (yv6 λi hi=>h i ω) (h n ω)
def yv5{f:Nat->Nat}{j:Nat}:∀ {n:Nat},j<n->f j∣yv2 n f
 | 0,h=>absurd h (ZS _)
 | n+1,h=>by rw[yv2];by_cases e:j=n;rw[e];simp[VB];exact Nat.dvd_trans (yv5 ω) (Nat.dvd_mul_right _ _)
def yv9(z:Int):((z.toNat:Rat)-((-z).toNat:Rat))=(z:Rat)/\z.toNat+(-z).toNat=z.natAbs:=by
 refine⟨?_,ω⟩;have h:z=(z.toNat:Int)-((-z).toNat:Int):=ω;have a:(z:Rat)=((z.toNat:Int):Rat)-(((-z).toNat:Int):Rat):=by rw[<-Rat.intCast_sub,<-h]
 rw[a];rfl
def ywd(q:Rat):((q.num:Int):Rat)=q*((q.den:Nat):Rat):=by
 have h:=Rat.num_divInt_den q;rw[YD]at h;have dn:(((q.den:Nat):Int):Rat)≠0:=λe=>q.den_nz (by simp_all)
 have e:=Vg (a:=((q.num:Int):Rat)) dn;rw[h]at e;exact e.symm
def cramer{T:Nat}{M:Nat->Nat->Rat}{b x:Nat->Rat}(h1:1<=T)(hr:∀y:Nat->Rat,(∀i,i<n->zai n (λj=>M i j*y j)=0)->∀j,j<n->y j=0)(Y:∀i,i<n->∀j,j<n->(M i j).num.natAbs<=T/\(M i j).den<=T)(zb:∀i,i<n->(b i).num.natAbs<=T/\(b i).den<=T)
  (S:∀i,i<n->zai n (λj=>M i j*x j)=b i):∀j,j<n->∃p q:Int,q≠0/\x j=Rat.divInt p q/\p.natAbs<=sgB n (T^(n+2))/\q.natAbs<=sgB n (T^(n+2)):=by
 -- the numbers' row and what it makes,as one row
 let a:Nat->Nat->Rat:=λi j=>if j<n then M i j else -b i
 have E:∀i,i<n->∀j,j<n+1->(a i j).num.natAbs<=T/\(a i j).den<=T:=λi hi j hj=>by
  show(if j<n then M i j else -b i).num.natAbs<=T/\(if j<n then M i j else -b i).den<=T
  by_cases h:j<n;rw[if_pos h];exact Y i hi j h;rw[if_neg h,Va,Rat.neg_den,Y7];exact zb i hi
 obtain⟨D,l⟩:∃D:Nat->Nat,∀i,D i=yv2 (n+1) λj=>(a i j).den:=⟨_,λ_=>rfl⟩
 have K:∀i,i<n->D i<=T^(n+1):=λi hi=>by rw[l];exact ywa λj hj=>(E i hi j hj).2
 have J:∀i,1<=D i:=λi=>by rw[l];exact yv6 λj _=>Ye (a i j).den_nz
 obtain⟨z,C⟩:∃z:Nat->Nat->Int,∀i j,z i j=(a i j).num*((D i/(a i j).den:Nat):Int):=⟨_,λ_ _=>rfl⟩
 have V:∀i j,j<n+1->((z i j:Int):Rat)=(D i:Rat)*a i j:=λi j hj=>by
  obtain⟨c,hc⟩:=(yv5 (f:=λj=>(a i j).den) hj)
  rw[<-l i]at hc;have p:0<(a i j).den:=Ye (a i j).den_nz;have e:D i/(a i j).den=c:=by rw[hc];exact Nat.mul_div_cancel_left _ p
  rw[C,e,Rat.intCast_mul];have W:((a i j).num:Rat)=a i j*((a i j).den:Rat):=ywd (a i j);have N:(D i:Rat)=((a i j).den:Rat)*(c:Rat):=by rw[hc];exact VG _ _
  rw[N,W];show a i j*((a i j).den:Rat)*(c:Rat)=_
  grind
 have X:∀i,i<n->∀j,j<n+1->(z i j).natAbs<=T^(n+2):=λi hi j hj=>by rw[C,X4,XN,Xg (m:=n+1),ZO];exact Xr (Zf (Yf _ _) (K i hi)) (E i hi j hj).1
 obtain⟨u,v,B,⟨g,Z,R⟩,O⟩:=siegel (n:=n) (H:=T^(n+2)) (P:=λi j=>(z i j).toNat) (Q:=λi j=>(-z i j).toNat) (λi hi j hj=>by rw[(yv9 _).2];exact X i hi j hj) (Z3 h1);obtain⟨d,o⟩:∃d:Nat->Rat,∀j,d j=(u j:Rat)-(v j:Rat):=⟨_,λ_=>rfl⟩
 have t:∀i,i<n->zai n (λj=>M i j*d j)=b i*d n:=λi hi=>by
  have e:=O i hi;have F:zai (n+1) (λj=>(((z i j).toNat:Rat)-((-z i j).toNat:Rat))*((u j:Rat)-(v j:Rat)))=(D i:Rat)*zai (n+1) (λj=>a i j*d j):=by rw[<-za7];exact zaj λj hj=>by rw[(yv9 _).1,V i j hj,o];grind
  rw[F]at e;have L:(D i:Rat)≠0:=λh=>by
   have h1:=J i;have s:D i=0:=by exact_mod_cast h
   omega
  have r:zai (n+1) (λj=>a i j*d j)=0:=by rcases YN.1 e with h | h;exact absurd h L;exact h
  rw[zai]at r;have G:zai n (λj=>a i j*d j)=zai n λj=>M i j*d j:=zaj λj hj=>by show(if j<n then M i j else -b i)*d j=_;rw[if_pos hj]
  have I:a i n = -b i:=if_neg (X5 n);rw[G,I]at r;grind
 have A:d n≠0:=λh0=>by
  have zz:=hr d λi hi=>by rw[t i hi,h0];grind
  have h1:d g=0:=by by_cases e:g=n;rw[e];exact h0;exact zz g ω
  rw[o]at h1;exact R (by have s:(u g:Rat)=(v g:Rat):=ψ;exact_mod_cast s)
 intro j hj;have U:x j*d n=d j:=by
  have:=hr (λj=>x j*d n-d j) (λi hi=>by
   have e:zai n (λj=>M i j*(x j*d n-d j))=zai n (λj=>M i j*x j)*d n+(-1)*zai n (λj=>M i j*d j):=by rw[<-zb6,<-za7,<-zcm];exact zaj λj _=>ψ
   rw[e,S i hi,t i hi];grind) j hj
  grind
 have k:∀j,d j=(((u j:Int)-(v j:Int):Int):Rat):=λj=>by rw[o,Rat.intCast_sub];rfl
 refine⟨(u j:Int)-(v j:Int),(u n:Int)-(v n:Int),λh=>A (by rw[k,h];rfl),?_,by have:=B j;omega,by have:=B n;omega⟩;rw[YD,<-k,<-k,<-U];grind
end Am
namespace Go.Proofs.YtbpjabgfcbjjmaaGreat
open Go.RowKit Am Tryz
attribute [local go_sem ↓] Go.wp_at_zero Go.wp_at_succ
variable {S n:Nat}
def zlX (a b:Rat):Int:=if a<b then -1 else if b<a then 1 else 0
def zz6(a b:Rat):ze9 (a.num*(b.den:Int)) (b.num*(a.den:Int))=zlX a b:=by unfold ze9 zlX;simp[Rat.lt_iff]
def zkD(a b:Rat):zlX a b=0↔a=b:=by unfold zlX;grind
def zA9 (a b:Rat):Bool:=decide (a=b)
namespace Rt
def cmpr(g:Bool)(A:OA)(m c:Nat)(D:OA)(k i:Nat)(a:Rat)(g':Bool)(d:OA)(m' c':Nat)(f:OA)(l j:Nat)(b:Rat)(w:World)(h:RatS w g (A,m,c) (D,k,i) a)(n:RatS w g' (d,m',c') (f,l,j) b)(o:4*(mw a+mw b)+8<=LIM) :
  Calls prog 27 #[.agg #[g,(A,m,c),(D,k,i)],.agg #[g',(d,m',c'),(f,l,j)]] w λe w'=>e=.returned (.int .i64 (zlX a b))/\Below w w w':=by
 rw[<-zz6];grind[cmp]
def same(g:Bool)(A:OA)(m c:Nat)(D:OA)(l i:Nat)(a:Rat)(g':Bool)(d:OA)(m' c':Nat)(f:OA)(n j:Nat)(b:Rat)(w:World)(h:RatS w g (A,m,c) (D,l,i) a)(q:RatS w g' (d,m',c') (f,n,j) b)(r:4*(mw a+mw b)+8<=LIM) :
  Calls prog 55 #[.agg #[g,(A,m,c),(D,l,i)],.agg #[g',(d,m',c'),(f,n,j)]] w λe w'=>e=.returned (.bool (zA9 a b))/\Below w w w':=by
 have s:=un r;have p:=un (show(zlX a b == 0)=zA9 a b from decide_eq_decide.2 (zkD a b));generalize zA9 a b=bs at *
 obtain⟨W,k⟩:∃W,((w.alloc (.cells #[g,(A,m,c),(D,l,i)] 62)).alloc (.cells #[g',(d,m',c'),(f,n,j)] 62))=W:=⟨_,rfl⟩
 refine μ5 (show θ W w.heap.size #[g,(A,m,c),(D,l,i)] 62by rw[<-k];exact zak (zam σ)) (show θ W (w.heap.size+1) #[g',(d,m',c'),(f,n,j)] 62by rw[<-k];exact zam σ) (show Below w w W by rw[<-k];exact(zae w _).alloc σ _) (show RatS W g (A,m,c) (D,l,i) a by rw[<-k];exact((h).alloc _).alloc _) (show RatS W g' (d,m',c') (f,n,j) b by rw[<-k];exact((q).alloc _).alloc _) λv x o t u=>?_;obtain⟨B,_,C,_,E,_⟩:=bc3 v.o;obtain⟨G,_,F,_,H,_⟩:=bc3 x.o;go_enter func55,ntmps55;go_wp2_with fail
 refine(cmpr g A m c D l i a g' d m' c' f n j b _ t.o u.o s.o).mono ?_
 rintro e w1 ⟨rfl,hb⟩;have y:=un (o.o.trans ((hb).mono o.o.size));have z:=p.o;go_wp2;go_ret;exact⟨by rw[<-p.o];rfl,y.o⟩
end Rt
def zyx{q:Rat}(h:q≠0):q.num≠0:=by simp_all
def zuX(q:Rat):Rat.divInt (q.den:Int) q.num=q⁻¹:=(Rat.inv_def q).symm
def zva(q:Rat):mw q⁻¹<=mw q:=by by_cases h:q=0;grind;rw[<-zuX];have:=zhX (q.den:Int) q.num (zyx h);rw[XN]at this;have:=zd2 q;have:=zds q;omega
theorem mw0:mw 0<=1:=δ
theorem mw1:mw 1<=1:=δ
def ywi{p:Nat}(h:p<=sgB n ((B64^S)^(n+2))):wlen p<=cB n S:=by
 refine zaZ (XR h ?_);have a:sgB n ((B64^S)^(n+2))<=(B64^(S*(n+2)+n))^n:=by unfold sgB;refine Nat.pow_le_pow_left ?_ n;rw[<-Nat.pow_mul,XA,ZO];refine Xp _ ?_;have:n+1<=2^n:=Nat.lt_two_pow_self;grind[Nat.le_trans,Nat.pow_le_pow_left]
 rw[<-Nat.pow_mul B64 (S*(n+2)+n) n]at a;exact XR a (YW δ (by unfold cB;omega))
def ywn{M:Nat->Nat->Rat}{b x:Nat->Rat}(hr:∀y:Nat->Rat,(∀i,i<n->zai n (λj=>M i j*y j)=0)->∀j,j<n->y j=0)(g:∀i,i<n->∀j,j<n->mw (M i j)<=S)(zb:∀i,i<n->mw (b i)<=S)(f:∀i,i<n->zai n (λj=>M i j*x j)=b i):∀j,j<n->mw (x j)<=cB n S:=λj hj=>by
 have a:∀q:Rat,mw q<=S->q.num.natAbs<=B64^S/\q.den<=B64^S:=λq h=>⟨Xm (ys0 (Zf (zd2 q) h)),Xm (ys0 (Zf (zds q) h))⟩
 obtain⟨p,q,d,e,h1,c⟩:=cramer (T:=B64^S) (Z3 δ) hr (λi hi j hj=>a _ (g i hi j hj)) (λi hi=>a _ (zb i hi)) f j hj;rw[e];have a1:=zhX p q d;have a2:=ywi h1;have a3:=ywi c;omega
def zo5:SzLaw mw:=⟨zrI,zdI,zhY,zva,mw0,mw1,ywn⟩
namespace Rt
def inv(g:Bool)(A:OA)(m c:Nat)(D:OA)(b a:Nat)(q:Rat)(w:World)(h:RatS w g (A,m,c) (D,b,a) q)(k:q≠0)(B:mw q+1<=LIM) :
  Calls prog 180 #[.agg #[g,(A,m,c),(D,b,a)]] w (zii w q⁻¹ true):=by
 refine μ4 (zuX q) (zyx k) (show wlen (q.den:Int).natAbs+1<=LIM by rw[XN];have:=zds q;omega) (show wlen q.num.natAbs+1<=LIM by have:=zd2 q;omega) λu s y z=>?_;obtain⟨W,d⟩:∃W,((w.alloc (.cells #[g,(A,m,c),(D,b,a)] 62)).alloc (.cells #[false,(),()] 62))=W:=⟨_,rfl⟩
 refine μ4 (show θ W w.heap.size #[g,(A,m,c),(D,b,a)] 62by rw[<-d];exact zak (zam σ)) (show θ W (w.heap.size+1) #[false,(),()] 62by rw[<-d];exact zam σ) (show Below w w W by rw[<-d];exact(zae w _).alloc σ _) (show RatS W g (A,m,c) (D,b,a) q by rw[<-d];exact((h).alloc _).alloc _) λj x f i=>?_;obtain⟨Q,_,R,_,X,_⟩:=bc3 j.o;go_enter func180,ntmps180;go_wp2_with fail
 go_region_held3 (λw'=>χ w' w 0 (.bool g)/\χ w' w 1 (A,m,c)/\χ w' w 2 (D,b,a))
  (((try go_split_ands);(try simp only[Xi]);(repeat' apply And.intro)<;>(repeat(first | with_reducible assumption | refine cell_set ω ?_ | refine cell_al ?_))))
  (first
   | (go_at_call 87;(refine(below g A m c D b a q _ i.o.drew).mono ?_);rintro e v1 ⟨g1,A1,m1,c1,rfl,hn,hb⟩;refine μ5 (zad hb j.o) (zad hb x.o) (i.o.drew.below hb) (show IntS v1 g1 (A1,m1,c1) (q.den:Int)from hn) (f.o.trans ((It.bdrew0' hb).mono f.o.size)) λn E N r l=>?_;obtain⟨O,_,P,_,V,_⟩:=bc3 n.o)
   | (go_at_call 81;(refine(newd g1 A1 m1 c1 (q.den:Int) g A m c q.num _ r.o (by have h:=N.o;exact h.num) s.o y.o z.o).mono ?_);rintro e C ⟨g2,A2,m2,c2,D2,md2,cd2,rfl,hn,hb⟩;refine μ4 (zad hb n.o) (zad hb E.o) (show RatS C g2 (A2,m2,c2) (D2,md2,cd2) (Rat.divInt (q.den:Int) q.num)from hn) (l.o.trans ((hb).mono l.o.size)) λG o t K=>?_;obtain⟨S,_,T,_,Z,_⟩:=bc3 G.o;obtain⟨J,H,U,_,L,F,Y,_,M,I,aa,_⟩:=bf3 o.o)
   | fail)
 all_goals
  go_wp2;refine Zi (v:=.tuple #[.agg #[g2,(A2,m2,c2),(D2,md2,cd2)],true]) (by simp[results,results180,go_sem,J,H,L,F,M,I]) rfl ?_;have hi:=t.o;rw[u.o]at hi;exact⟨g2,A2,m2,c2,D2,md2,cd2,rfl,hi.set3 o.o δ _ _ _,bsc (bsc (bsc K.o))⟩
def div(g:Bool)(A:OA)(m c:Nat)(D:OA)(i f:Nat)(a:Rat)(g':Bool)(k:OA)(m' c':Nat)(l:OA)(o n:Nat)(b:Rat)(w:World)(h:RatS w g (A,m,c) (D,i,f) a)(r:RatS w g' (k,m',c') (l,o,n) b)(d:b≠0)(J:4*(mw a+mw b)+8<=LIM) :
  Calls prog 159 #[.agg #[g,(A,m,c),(D,i,f)],.agg #[g',(k,m',c'),(l,o,n)]] w (zii w (a/b) true):=by
 refine μ4 (Xa a b) d (show mw b+1<=LIM by omega) (show 4*(mw a+mw b⁻¹)+8<=LIM by have:=zva b;omega) λz u H I=>?_;obtain⟨W,j⟩:∃W,(((w.alloc (.cells #[g,(A,m,c),(D,i,f)] 62)).alloc (.cells #[g',(k,m',c'),(l,o,n)] 62)).alloc (.cells #[false,(),()] 62))=W:=⟨_,rfl⟩
 refine μ6 (show θ W w.heap.size #[g,(A,m,c),(D,i,f)] 62by rw[<-j];exact zak (zak (zam σ))) (show θ W (w.heap.size+1) #[g',(k,m',c'),(l,o,n)] 62by rw[<-j];exact zak (zam σ)) (show θ W (w.heap.size+1+1) #[false,(),()] 62by rw[<-j];exact zam σ) (show Below w w W by rw[<-j];exact((zae w _).alloc σ _).alloc (by simp;omega) _) (show RatS W g (A,m,c) (D,i,f) a by rw[<-j];exact(((h).alloc _).alloc _).alloc _) (show RatS W g' (k,m',c') (l,o,n) b by rw[<-j];exact(((r).alloc _).alloc _).alloc _) λE F G q B C=>?_;obtain⟨ae,_,ad,_,af,_⟩:=bc3 F.o;go_enter func159,ntmps159;go_wp2_with fail
 refine(inv g' k m' c' l o n b _ C.o u.o H.o).mono ?_
 rintro e w1 ⟨g1,A1,m1,c1,D1,md1,cd1,rfl,hn,d⟩;refine μ6 (show θ (w1.alloc (.cells #[g1,(A1,m1,c1),(D1,md1,cd1)] 62)) w.heap.size #[g,(A,m,c),(D,i,f)] 62from zak (zad d E.o)) (show θ (w1.alloc (.cells #[g1,(A1,m1,c1),(D1,md1,cd1)] 62)) (w.heap.size+1+1) #[false,(),()] 62from zak (zad d G.o)) (show RatS (w1.alloc (.cells #[g1,(A1,m1,c1),(D1,md1,cd1)] 62)) g (A,m,c) (D,i,f) a from(B.o.below d).alloc _) (show RatS (w1.alloc (.cells #[g1,(A1,m1,c1),(D1,md1,cd1)] 62)) g1 (A1,m1,c1) (D1,md1,cd1) b⁻¹ from(hn).alloc _) (show Below w w (w1.alloc (.cells #[g1,(A1,m1,c1),(D1,md1,cd1)] 62))from((q.o.trans ((d).mono q.o.size))).alloc ((q.o.trans ((d).mono q.o.size))).size _) (show θ (w1.alloc (.cells #[g1,(A1,m1,c1),(D1,md1,cd1)] 62)) w1.heap.size #[g1,(A1,m1,c1),(D1,md1,cd1)] 62from zam σ) λM O V x s L=>?_;obtain⟨aa,_,ab,_,ac,_⟩:=bc3 M.o;obtain⟨X,_,Y,_,Z,_⟩:=bc3 L.o;go_wp2_with fail
 refine(mul g A m c D i f a g1 A1 m1 c1 D1 md1 cd1 b⁻¹ _ V.o x.o I.o).mono ?_
 rintro e K ⟨g2,A2,m2,c2,D2,md2,cd2,rfl,hn,d⟩;refine μ3 (zad d O.o) (show RatS K g2 (A2,m2,c2) (D2,md2,cd2) (a*b⁻¹)from hn) (s.o.trans ((d).mono s.o.size)) λt y N=>?_;obtain⟨S,Q,ag,_,T,R,ah,_,U,P,ai,_⟩:=bf3 t.o;go_wp2;refine Zi (v:=.tuple #[.agg #[g2,(A2,m2,c2),(D2,md2,cd2)],true]) (by simp[results,results159,go_sem,S,Q,T,R,U,P]) rfl ?_;have hi:=y.o;rw[<-z.o]at hi;exact⟨g2,A2,m2,c2,D2,md2,cd2,rfl,hi.set3 t.o δ _ _ _,bsc (bsc (bsc N.o))⟩
