/- Contracts and lemmas: Lin0 Lu Lu2 Size Reg. Conditions: as each says. -/
import Derived.Deep.RegionHeld
import Derived.Test.YtbpjabgfcbjjmaaGreatWord3Ye
set_option linter.all false
namespace Am
variable {xs:List Rat}{i j n:Nat}{M:Nat->Nat->Rat}{f y:Nat->Rat}{a:Rat}
def zai:Nat->(Nat->Rat)->Rat
  | 0,_=>0
  | n+1,f=>zai n f+f n
def el (xs:List Rat) (i:Nat):Rat:=xs.getD i 0
theorem znd(h:xs[i]? = some a):el xs i=a:=by unfold el;rw[Zg,h];rfl
theorem zaH(h:j<xs.length):xs[j]? = some (el xs j):=by rw[Ze h];unfold el;rw[Zg,Ze h];rfl
theorem zDb(h:xs.length<=j):el xs j=0:=by unfold el;rw[Zg,Xe h];rfl
theorem zrm(n j:Nat):el (List.replicate n (0:Rat)) j=0:=by unfold el;rw[Zg,Z8];split<;>rfl
theorem ziZ(hi:i<xs.length):el (xs.set i a) j=if i=j then a else el xs j:=by unfold el;rw[Zg,Zg,XA];grind
theorem zyn{ys:List Rat}(d:xs.length=ys.length)(h:∀i,i<xs.length->el xs i=el ys i):xs=ys:=by apply Xc;grind[zaH,List.getElem?_eq_none]
theorem zaj{f g:Nat->Rat}:∀ {n:Nat},(∀i,i<n->f i=g i)->zai n f=zai n g
 | 0,_=>rfl
 | n+1,h=>by rw[zai,zai,zaj (λi hi=>h i ω),h n ω]
theorem zUD{f g:Nat->Rat}:∀ {n:Nat},(∀i,i<n->f i<=g i)->zai n f<=zai n g
 | 0,_=>XB
 | n+1,h=>by have h1:=zUD (n:=n) (λi hi=>h i ω);have d:=h n ω;rw[zai,zai];grind
theorem zgd:∀n:Nat,zai n (λ_=>0)=0
 | 0=>rfl
 | n+1=>by rw[zai,zgd n];grind
theorem zcn(h:∀i,i<n->f i=0):zai n f=0:=(zaj h).trans (zgd n)
theorem zcm(f g:Nat->Rat):∀n:Nat,zai n (λi=>f i+g i)=zai n f+zai n g
 | 0=>by simp only[zai];grind
 | n+1=>by rw[zai,zai,zai,zcm f g n];grind
theorem za7(f:Nat->Rat)(c:Rat):∀n:Nat,zai n (λi=>c*f i)=c*zai n f
 | 0=>by simp only[zai];grind
 | n+1=>by rw[zai,zai,za7 f c n];grind
theorem zb6(f:Nat->Rat)(c:Rat)(n:Nat):zai n (λi=>f i*c)=zai n f*c:=by rw[Rat.mul_comm,<-za7];grind
theorem zbq(f:Nat->Nat->Rat)(m:Nat):∀n:Nat,zai n (λi=>zai m (λj=>f i j))=zai m (λj=>zai n (λi=>f i j))
 | 0=>by simp only[zai];rw[zgd]
 | n+1=>by rw[zai,zbq f m n,<-zcm];rfl
theorem zbI{f:Nat->Rat}{k:Nat}:∀ {n:Nat},k<n->(∀i,i<n->i≠k->f i=0)->zai n f=f k
 | 0,h,_=>absurd h (ZM _)
 | n+1,h,hz=>by rw[zai];by_cases e:k=n;grind[zcn];rw[zbI ω λi hi=>hz i ω,hz n ω ω];grind
theorem zh6{f:Nat->Rat}{m:Nat}:∀ {n:Nat},m<=n->(∀i,m<=i->i<n->f i=0)->zai n f=zai m f
 | 0,h,_=>by rw[Nat.le_zero.1 h]
 | n+1,h,hz=>by by_cases e:m=n+1;rw[e];rw[zai,zh6 (n:=n) ω λi h1 d=>hz i h1 ω,hz n ω ω];grind
theorem zdJ{k:Nat}(h:k<n):zai n f=f k+zai n (λi=>if i=k then 0 else f i):=by
 have e:zai n f=zai n (λi=>(if i=k then f k else 0)+(if i=k then 0 else f i)):=zaj λi _=>ψ
 rw[e,zcm,zbI (k:=k) h λi _ hi=>if_neg hi,if_pos rfl]
def en (L:List (List Rat)) (i j:Nat):Rat:=el (L.getD i []) j
theorem gset{α:Type}{L:List α}{a d:α}(hi:i<L.length):(L.set i a).getD j d=if i=j then a else L.getD j d:=by rw[Zg,Zg,XA];grind
theorem zbU{α β:Type}(f:α->β)(l:List α)(h:i<l.length)(d:α)(e:β):(l.map f).getD i e=f (l.getD i d):=by rw[Zg,Zg,Z2,Ze h];rfl
theorem zcA(h:i<n)(d:Nat):(List.range n).getD i d=i:=by rw[Zg,XC h];rfl
theorem zaO{α:Type}{L:List α}{d:α}(hi:i<L.length):L[i]? = some (L.getD i d):=by rw[Ze hi,Zg,Ze hi];rfl
theorem getD_some{α:Type}{L:List α}{a d:α}(h:L[i]? = some a):L.getD i d=a:=by rw[Zg,h];rfl
def Reg (n:Nat) (M:Nat->Nat->Rat):Prop:=∀x:Nat->Rat,(∀i,i<n->zai n (λj=>M i j*x j)=0)->∀j,j<n->x j=0
theorem Reg.unique(h:Reg n M){x:Nat->Rat}(e:∀i,i<n->zai n (λj=>M i j*x j)=zai n (λj=>M i j*y j)):∀j,j<n->x j=y j:=by
 intro j hj;have:=h (λj=>x j+(-1)*y j) (λi hi=>by
  have d:zai n (λj=>M i j*(x j+(-1)*y j))=zai n (λj=>M i j*x j+(-1)*(M i j*y j)):=zaj λj _=>ψ
  rw[d,zcm,za7,e i hi];grind) j hj
 grind
theorem zqE(ex:∀v:Nat->Rat,∃x:Nat->Rat,∀i,i<n->zai n (λj=>M i j*x j)=v i){z:Nat->Rat}
  (e:∀j,j<n->zai n (λi=>y i*M i j)=zai n (λi=>z i*M i j)):∀i,i<n->y i=z i:=by
 intro k hk;obtain⟨x,l⟩:=ex λi=>if i=k then 1 else 0
 have d:∀y:Nat->Rat,zai n (λj=>zai n (λi=>y i*M i j)*x j)=y k:=by
  intro y;have f:zai n (λj=>zai n (λi=>y i*M i j)*x j)=zai n (λj=>zai n (λi=>y i*(M i j*x j))):=zaj λj _=>by rw[<-zb6];exact zaj λi _=>ψ
  rw[f,zbq];have g:zai n (λi=>zai n (λj=>y i*(M i j*x j)))=zai n (λi=>y i*(if i=k then 1 else 0)):=zaj λi hi=>by rw[za7,l i hi]
  rw[g,zbI hk λi _ hi=>by rw[if_neg hi];grind,if_pos rfl];grind
 rw[<-d y,<-d z];grind[zaj]
end Am
namespace Am
variable {L:List (List Rat)}{xs ys:List Rat}{c i j k n:Nat}{r:Rat}
structure LUv where
  lo:List (List Rat)
  up:List (List Rat)
  perm:List Nat
  odd:Bool
def zly (xs:List Rat) (r:Rat) (ys:List Rat):List Rat:=List.zipWith (λa b=>a+r*b) xs ys
theorem zdt(h:xs.length=ys.length):(zly xs r ys).length=xs.length:=by simp[zly];omega
theorem zmR{a b:Rat}(d:xs[k]? = some a)(e:ys[k]? = some b):(zly xs r ys)[k]? = some (a+r*b):=by simp[zly,List.getElem?_zipWith,d,e]
theorem zuD(r:Rat)(h:xs.length=ys.length)(hk:k<xs.length):el (zly xs r ys) k=el xs k+r*el ys k :=
 znd (zmR (zaH hk) (zaH ω))
def sw {α:Type} (L:List α) (i j:Nat) (d:α):List α:=(L.set i (L.getD j d)).set j (L.getD i d)
theorem zja{α:Type}(L:List α)(i j:Nat)(d:α):(sw L i j d).length=L.length:=by simp[sw]
def tw (i j k:Nat):Nat:=if k=j then i else if k=i then j else k
theorem zlp(hi:i<n)(hj:j<n)(hk:k<n):tw i j k<n:=by unfold tw;grind
theorem zxO(i j k:Nat):tw i j (tw i j k)=k:=by unfold tw;grind
theorem zgp{α:Type}{L:List α}{d:α}(hi:i<L.length)(hj:j<L.length)(k:Nat):(sw L i j d).getD k d=L.getD (tw i j k) d:=by unfold sw tw;rw[gset (by simpa using hj),gset hi];grind
def zaT (c:Nat) (lo up:List (List Rat)):Nat->List (List Rat) × List (List Rat)
  | 0=>(lo,up)
  | t + 1 => ((zaT c lo up t).1.set (c + 1 + t) (((zaT c lo up t).1.getD (c + 1 + t) []).set c (en (zaT c lo up t).2 (c + 1 + t) c / en (zaT c lo up t).2 c c)),
      (zaT c lo up t).2.set (c+1+t) (zly ((zaT c lo up t).2.getD (c+1+t) []) (-(en (zaT c lo up t).2 (c+1+t) c/en (zaT c lo up t).2 c c)) ((zaT c lo up t).2.getD c [])))
structure Sq (n:Nat) (F:LUv):Prop where
  ll:F.lo.length=n
  lr:∀i,i<n->(F.lo.getD i []).length=n
  ul:F.up.length=n
  ur:∀i,i<n->(F.up.getD i []).length=n
  pl:F.perm.length=n
def LUv.turn (F:LUv) (c k:Nat):LUv:=⟨(sw F.lo c k []).set c (((sw F.lo c k []).getD c []).set c 1),sw F.up c k [],sw F.perm c k 0,if c=k then F.odd else !F.odd⟩
def LUv.step (F:LUv) (c k:Nat):LUv:=let G:=F.turn c k;{ G with lo:=(zaT c G.lo G.up (F.up.length-(c+1))).1,up:=(zaT c G.lo G.up (F.up.length-(c+1))).2 }
structure LUinv (n:Nat) (M:Nat->Nat->Rat) (c:Nat) (F:LUv):Prop where
  sq:Sq n F
  pr:∀i,i<n->F.perm.getD i 0<n
  pi:∀i j,i<n->j<n->F.perm.getD i 0=F.perm.getD j 0->i=j
  sum:∀i,i<n->∀j,j<n->M (F.perm.getD i 0) j=zai c (λt=>en F.lo i t*en F.up t j)+(if c<=i then en F.up i j else 0)
  one:∀i,i<c->en F.lo i i=1
  tri:∀i t,i<n->t<n->i<t\/c<=t->en F.lo i t=0
  zero:∀t i,t<c->i<n->t<i->en F.up i t=0
  piv:∀t,t<c->en F.up t t≠0
theorem zi2{r:List Rat}(hi:i<L.length)(k j:Nat):en (L.set i r) k j=if i=k then el r j else en L k j:=by unfold en;rw[gset hi];split<;>rfl
theorem zyp(n k i j:Nat):en (List.replicate n (List.replicate k (0:Rat))) i j=0:=by
 unfold en;rw[Zg,Z8];split
 simp[zrm];rfl
theorem zfU(c n:Nat)(lo up:List (List Rat))(h1:lo.length=n)(q:∀i,i<n->(lo.getD i []).length=n)(r:up.length=n)(s:∀i,i<n->(up.getD i []).length=n)(hc:c<n) :
  ∀t,c+1+t<=n ->
   ((zaT c lo up t).1.length=n/\(∀i,i<n->((zaT c lo up t).1.getD i []).length=n)/\(zaT c lo up t).2.length=n/\(∀i,i<n->((zaT c lo up t).2.getD i []).length=n)) /\
   (∀i,i<n->∀j,j<n->en (zaT c lo up t).2 i j=if c<i/\i<c+1+t then en up i j + -(en up i c/en up c c)*en up c j else en up i j) /\
   (∀i,i<n->∀j,j<n->en (zaT c lo up t).1 i j=if (c<i/\i<c+1+t)/\j=c then en up i c/en up c c else en lo i j)
 | 0,_=>by refine⟨⟨h1,q,r,s⟩,λi _ j _=>?_,λi _ j _=>?_⟩;rw[if_neg ω];rfl;rw[if_neg ω];rfl
 | t+1,ht=>by
  obtain⟨⟨A,k,B,f⟩,g,y⟩:=zfU c n lo up h1 q r s hc t ω;have p:en (zaT c lo up t).2 (c+1+t) c=en up (c+1+t) c:=by rw[g _ ω _ hc,if_neg ω]
  have l:∀j,j<n->en (zaT c lo up t).2 c j=en up c j:=λj hj=>by rw[g _ hc _ hj,if_neg ω]
  refine⟨⟨by simp[zaT,A],λi hi=>?_,by simp[zaT,B],λi hi=>?_⟩,λi hi j hj=>?_,λi hi j hj=>?_⟩;show(List.getD (List.set _ _ _) i []).length=n
  rw[gset ω];grind;show(List.getD (List.set _ _ _) i []).length=n
  rw[gset ω];grind[zdt];show en (List.set _ _ _) i j=_
  rw[zi2 ω];by_cases e:c+1+t=i;subst e;rw[if_pos rfl,if_pos ω,zuD _ (by rw[f _ ω,f _ hc]) (by rw[f _ hi];exact hj)];show en (zaT c lo up t).2 (c+1+t) j + -(en (zaT c lo up t).2 (c+1+t) c/en (zaT c lo up t).2 c c)*en (zaT c lo up t).2 c j=_
  rw[p,l _ hc,l _ hj,g _ hi _ hj,if_neg ω];grind;show en (List.set _ _ _) i j=_
  rw[zi2 ω];by_cases e:c+1+t=i;subst e;rw[if_pos rfl,ziZ (by rw[k _ hi];exact hc)];by_cases d:c=j;rw[if_pos d,if_pos ω,p,l _ hc];rw[if_neg d,if_neg ω];show en (zaT c lo up t).1 (c+1+t) j=_
  rw[y _ hi _ hj,if_neg ω];grind
theorem LUinv.start(h:L.length=n)(hr:∀i,i<n->(L.getD i []).length=n):LUinv n (en L) 0 ⟨List.replicate n (List.replicate n 0),L,List.range n,false⟩:=by
 have hg:∀i,i<n->(List.range n).getD i 0=i:=λi hi=>by rw[Zg,XC hi];rfl
 refine⟨⟨σ,λi hi=>?_,h,hr,σ⟩,λi hi=>by rw[hg i hi];exact hi,λi j hi hj e=>by rw[hg i hi,hg j hj]at e;exact e,λi hi j _=>?_,λi hi=>absurd hi (ZM _),λi t _ _ _=>zyp _ _ _ _,λt i hi=>absurd hi (ZM _),λt hi=>absurd hi (ZM _)⟩;rw[Zg,Z8,if_pos hi];simp;rw[hg i hi,if_pos (Zb _)];simp only[zai];grind
theorem zvA{F:LUv}(s:Sq n F)(hc:c<n)(hk:k<n):∀i j,i<n->j<n->en (F.turn c k).lo i j=if i=c/\j=c then 1 else en F.lo (tw c k i) j:=by
 intro i j hi hj;show en (List.set _ _ _) i j=_
 rw[zi2 (by rw[zja,s.ll];exact hc)];by_cases e:c=i;subst e;rw[if_pos rfl,ziZ (by rw[zgp (by rw[s.ll];exact hc) (by rw[s.ll];exact hk),s.lr _ (zlp hc hk hc)];exact hc)];by_cases d:c=j;rw[if_pos d,if_pos ⟨rfl,d.symm⟩];rw[if_neg d,if_neg ω,zgp (by rw[s.ll];exact hc) (by rw[s.ll];exact hk)];rfl;rw[if_neg e,if_neg ω];unfold en;rw[zgp (by rw[s.ll];exact hc) (by rw[s.ll];exact hk)]
theorem zlo{F:LUv}(s:Sq n F)(hc:c<n)(hk:k<n):∀i j,en (F.turn c k).up i j=en F.up (tw c k i) j:=by
 intro i j;show en (sw _ _ _ _) i j=_
 unfold en;rw[zgp (by rw[s.ul];exact hc) (by rw[s.ul];exact hk)]
theorem znV{F:LUv}(s:Sq n F)(hc:c<n)(hk:k<n):Sq n (F.turn c k):=by
 refine⟨?_,λi hi=>?_,?_,λi hi=>?_,?_⟩;show(List.set _ _ _).length=n;rw[ZQ,zja,s.ll]
 show(List.getD (List.set _ _ _) i []).length=n
 rw[gset (by rw[zja,s.ll];exact hc)];split
 rw[ZQ,zgp (by rw[s.ll];exact hc) (by rw[s.ll];exact hk)];exact s.lr _ (zlp hc hk hc);rw[zgp (by rw[s.ll];exact hc) (by rw[s.ll];exact hk)];exact s.lr _ (zlp hc hk hi);show(sw _ _ _ _).length=n;rw[zja,s.ul]
 show(List.getD (sw _ _ _ _) i []).length=n
 rw[zgp (by rw[s.ul];exact hc) (by rw[s.ul];exact hk)];exact s.ur _ (zlp hc hk hi);show(sw _ _ _ _).length=n;rw[zja,s.pl]
theorem zvt{F:LUv}(s:Sq n F)(hc:c<n)(hk:k<n):∀i j,i<n->j<n->en (F.step c k).lo i j=if c<i/\j=c then en (F.turn c k).up i c/en (F.turn c k).up c c else en (F.turn c k).lo i j:=by
 have t:=znV s hc hk;obtain⟨_,_,d⟩:=zfU c n (F.turn c k).lo (F.turn c k).up t.ll t.lr t.ul t.ur hc (n-(c+1)) ω;intro i j hi hj;show en (zaT c _ _ (F.up.length-(c+1))).1 i j=_
 rw[s.ul,d i hi j hj];grind
theorem zvu{F:LUv}(s:Sq n F)(hc:c<n)(hk:k<n):∀i j,i<n->j<n->en (F.step c k).up i j=if c<i then en (F.turn c k).up i j + -(en (F.turn c k).up i c/en (F.turn c k).up c c)*en (F.turn c k).up c j else en (F.turn c k).up i j:=by
 have t:=znV s hc hk;obtain⟨_,d,_⟩:=zfU c n (F.turn c k).lo (F.turn c k).up t.ll t.lr t.ul t.ur hc (n-(c+1)) ω;intro i j hi hj;show en (zaT c _ _ (F.up.length-(c+1))).2 i j=_
 rw[s.ul,d i hi j hj];grind
theorem zqB{F:LUv}(s:Sq n F)(hc:c<n)(hk:k<n):Sq n (F.step c k):=by
 have t:=znV s hc hk;obtain⟨⟨d,e,f,g⟩,_,_⟩:=zfU c n (F.turn c k).lo (F.turn c k).up t.ll t.lr t.ul t.ur hc (n-(c+1)) ω;refine⟨?_,?_,?_,?_,t.pl⟩;show(zaT c _ _ (F.up.length-(c+1))).1.length=n;rw[s.ul];exact d
 show ∀i,i<n->(List.getD (zaT c _ _ (F.up.length-(c+1))).1 i []).length=n;rw[s.ul];exact e
 show(zaT c _ _ (F.up.length-(c+1))).2.length=n;rw[s.ul];exact f
 show ∀i,i<n->(List.getD (zaT c _ _ (F.up.length-(c+1))).2 i []).length=n;rw[s.ul];exact g
theorem LUinv.step{n:Nat}{M:Nat->Nat->Rat}{c k:Nat}{F:LUv}(h:LUinv n M c F)(hc:c<n)(K:c<=k)(hk:k<n)(H:en F.up k c≠0):LUinv n M (c+1) (F.step c k):=by
 have s:=h.sq;have q:=zvA s (k:=k) hc hk;have f:=zlo s (k:=k) hc hk;have y:∀i,(F.turn c k).perm.getD i 0=F.perm.getD (tw c k i) 0:=λi=>zgp (by rw[s.pl];exact hc) (by rw[s.pl];exact hk) i
 have l:∀i,i<c->tw c k i=i:=λi hi=>by unfold tw;rw[if_neg ω,if_neg ω]
 have B:∀i,c<=i->c<=tw c k i:=λi hi=>by unfold tw;grind
 have p:∀i,i<n->tw c k i<n:=λi hi=>zlp hc hk hi
 have tc:tw c k c=k:=by unfold tw;by_cases e:c=k<;>simp[e]
 have I:en (F.turn c k).up c c≠0:=by rw[f,tc];exact H
 have A:=zvt s (k:=k) hc hk;have r:=zvu s (k:=k) hc hk;refine⟨zqB s hc hk,λi hi=>?_,λi j hi hj e=>?_,λi hi j hj=>?_,λi hi=>?_,λi t hi g hit=>?_,λt i g hi D=>?_,λt g=>?_⟩;show(F.turn c k).perm.getD i 0<n;rw[y];exact h.pr _ (p i hi)
 have C:(F.turn c k).perm.getD i 0=(F.turn c k).perm.getD j 0:=e;rw[y,y]at C;have:=h.pi _ _ (p i hi) (p j hj) C;rw[<-zxO c k i,this,zxO];show M ((F.turn c k).perm.getD i 0) j=_
 rw[y,h.sum _ (p i hi) j hj];have G:zai (c+1) (λt=>en (F.step c k).lo i t*en (F.step c k).up t j)=zai c (λt=>en F.lo (tw c k i) t*en F.up t j)+en (F.step c k).lo i c*en (F.step c k).up c j:=by
  rw[zai]
  congr 1
  refine zaj λt g=>?_;rw[A i t hi ω,if_neg ω,q i t hi ω,if_neg ω,r t j ω hj,if_neg ω,f,l t g]
 rw[G,A i c hi hc,r c j hc hj,if_neg (XW c),r i j hi hj];rcases XJ i c with d | d | d;rw[l i d,if_neg ω,if_neg ω,if_neg ω,q i c hi hc,if_neg ω,l i d,h.tri i c hi hc ω];grind;subst d;rw[if_pos (B i (Za _)),if_neg ω,if_neg ω,q i i hi hi,if_pos ⟨rfl,rfl⟩,f];grind;grind;rw[A i i ω ω,if_neg ω,q i i ω ω];by_cases e:i=c;rw[if_pos ⟨e,e⟩];rw[if_neg ω,l i ω];exact h.one i ω;rw[A i t hi g,if_neg ω,q i t hi g,if_neg ω];refine h.tri _ _ (p i hi) g ?_;grind;rw[r i t hi ω];by_cases e:t=c;grind;have E:en (F.turn c k).up i t=0:=by rw[f];refine h.zero t _ ω (p i hi) ?_;by_cases d:i<c;rw[l i d];exact D;have:=B i ω;omega
 by_cases d:c<i;have J:en (F.turn c k).up c t=0:=by rw[f,tc];exact h.zero t k ω hk ω
 rw[if_pos d,E,J];grind;grind;rw[r t t ω ω,if_neg ω];by_cases e:t=c;grind;rw[f,l t ω];exact h.piv t ω
end Am
namespace Am
variable {xs:List Rat}{c i j n:Nat}{M:Nat->Nat->Rat}
def zeg (up:List (List Rat)) (c:Nat):Nat->Nat->Nat
  | 0,k=>k
  | f+1,k=>if en up k c=0 then zeg up c f (k+1)else k
theorem ziG(up:List (List Rat))(c:Nat):∀f k,k<=zeg up c f k/\zeg up c f k<=k+f/\(∀i,k<=i->i<zeg up c f k->en up i c=0)/\(zeg up c f k<k+f->en up (zeg up c f k) c≠0)
 | 0,k=>⟨Za _,Za _,λi h1 g=>absurd g (by simp only[zeg];omega),λh=>absurd h (by simp only[zeg];omega)⟩
 | f+1,k=>by
  unfold zeg;split
  rename_i h;obtain⟨a,b,c',d⟩:=ziG up c f (k+1);refine⟨ω,ω,λi h1 g=>?_,λh1=>d ω⟩;by_cases e:i=k;rw[e];exact h;exact c' i ω g;grind
def zsD (n:Nat):Nat->Nat->LUv->Option LUv
  | 0,_,F=>some F
  | f+1,c,F=>if zeg F.up c (n-c) c=n then none else zsD n f (c+1) (F.step c (zeg F.up c (n-c) c))
def zg4 (n:Nat) (L:List (List Rat)):LUv:=⟨List.replicate n (List.replicate n 0),L,List.range n,false⟩
def zoN (n:Nat) (L:List (List Rat)):Option LUv:=zsD n n 0 (zg4 n L)
def zji (U:Nat->Nat->Rat) (n:Nat) (v:Nat->Rat):Nat->Nat->Rat
  | 0,_=>0
  | f+1,j=>if j=n-(f+1)then (v (n-(f+1))-zai n (λt=>if n-(f+1)<t then U (n-(f+1)) t*zji U n v f t else 0))/U (n-(f+1)) (n-(f+1))else zji U n v f j
theorem ziL(U:Nat->Nat->Rat)(n:Nat)(v:Nat->Rat)(f j:Nat):zji U n v (f+1) j=if j=n-(f+1)then (v (n-(f+1))-zai n (λt=>if n-(f+1)<t then U (n-(f+1)) t*zji U n v f t else 0))/U (n-(f+1)) (n-(f+1))else zji U n v f j:=rfl
theorem zjb(U:Nat->Nat->Rat)(n:Nat)(v:Nat->Rat)(q:∀t,t<n->U t t≠0)(l:∀t i,t<n->i<n->t<i->U i t=0) :
  ∀f,f<=n->∀i,n-f<=i->i<n->zai n (λt=>U i t*zji U n v f t)=v i
 | 0,_=>λi h1 g=>absurd h1 ω
 | f+1,hf=>λi h1 g=>by
  have hk:n-(f+1)<n:=ω;by_cases e:i=n-(f+1);rw[zdJ (k:=i) g];have r:zai n (λt=>if t=i then 0 else U i t*zji U n v (f+1) t)=zai n (λt=>if i<t then U i t*zji U n v f t else 0):=zaj λt j=>by by_cases d:t=i;rw[if_pos d,if_neg ω];rw[if_neg d];by_cases p:i<t;rw[if_pos p,ziL,if_neg ω];grind
  rw[r];have d:zji U n v (f+1) i=(v i-zai n (λt=>if i<t then U i t*zji U n v f t else 0))/U i i:=by rw[ziL,if_pos e,<-e]
  rw[d];have:=q i g;grind;have s:=zjb U n v q l f ω i ω g;rw[<-s];refine zaj λt j=>?_;rw[ziL];grind
theorem zi9{F:LUv}(h:LUinv n M c F)(hi:i<n)(x:Nat->Rat) :
  zai n (λj=>M (F.perm.getD i 0) j*x j)=zai c (λt=>en F.lo i t*zai n (λj=>en F.up t j*x j))+(if c<=i then zai n (λj=>en F.up i j*x j)else 0):=by
 have d:zai n (λj=>M (F.perm.getD i 0) j*x j)=zai n (λj=>zai c (λt=>en F.lo i t*(en F.up t j*x j))+(if c<=i then en F.up i j*x j else 0)):=zaj λj hj=>by
  rw[h.sum i hi j hj];have:zai c (λt=>en F.lo i t*(en F.up t j*x j))=zai c (λt=>en F.lo i t*en F.up t j)*x j:=by rw[<-zb6];grind
  rw[this];split<;>grind
 rw[d,zcm,zbq]
 congr 1
 simp[zaj,za7];split
 rfl;simp[zgd]
theorem zh0{F:LUv}(h:LUinv n M c F):∀k,k<n->∃i,i<n/\F.perm.getD i 0=k:=by
 have y:∀(m:Nat) (p:Nat->Nat),(∀i,i<m->p i<m)->(∀i j,i<m->j<m->p i=p j->i=j)->∀k,k<m->∃i,i<m/\p i=k:=by
  intro m
  induction m with
  | zero=>omega
  | succ m ih =>
   intro p h1 f k hk;by_cases l:p m=k;grind
   -- the place m is given away: what is sent to m goes where m goes
   have q:∀i,i<m->(if p i=m then p m else p i)<m:=ψ;have r:∀i j,i<m->j<m->(if p i=m then p m else p i)=(if p j=m then p m else p j)->i=j:=ψ;by_cases s:k=m;subst s
   -- somebody is sent to m
   obtain⟨i,hi,e⟩:=ih (λi=>if p i=k then p k else p i) q r (p k) (by have:=h1 k ω;omega);grind;obtain⟨i,hi,e⟩:=ih (λi=>if p i=m then p m else p i) q r k ω;grind
 exact y n (λi=>F.perm.getD i 0) h.pr h.pi
theorem LUinv.stuck{F:LUv}(h:LUinv n M c F)(hc:c<n)(p:∀i,c<=i->i<n->en F.up i c=0):¬Reg n M:=by
 intro hr
 -- x c = 1,nothing behind,and back from the triangle ahead of it
 let x:Nat->Rat:=λj=>if j<c then zji (en F.up) c (λi => - en F.up i c) c j else if j=c then 1 else 0
 have f:∀i,i<n->zai n (λj=>en F.up i j*x j)=zai c (λj=>en F.up i j*zji (en F.up) c (λi => - en F.up i c) c j)+en F.up i c:=by
  intro i hi;rw[zh6 (m:=c+1) ω λj h1 s=>by show en F.up i j*(if j<c then _ else if j=c then 1 else 0)=0;rw[if_neg ω,if_neg ω];grind];rw[zai]
  congr 1
  exact zaj λj hj=>by show en F.up i j*(if j<c then _ else if j=c then 1 else 0)=_;rw[if_pos hj]
  show en F.up i c*(if c<c then _ else if c=c then 1 else 0)=_;rw[if_neg ω,if_pos rfl];grind
 have r:∀i,i<c->zai n (λj=>en F.up i j*x j)=0:=by intro i hi;rw[f i ω,zjb (en F.up) c _ (λt d=>h.piv t d) (λt i d y l=>h.zero t i d ω l) c (Za _) i ω hi];grind
 have q:∀i,c<=i->i<n->zai n (λj=>en F.up i j*x j)=0:=by intro i hi e;rw[f i e,p i hi e,zcn λj hj=>by rw[h.zero j i hj e ω];grind];grind
 have g:∀k,k<n->zai n (λj=>M k j*x j)=0:=by
  intro k hk;obtain⟨i,hi,rfl⟩:=zh0 h k hk;rw[zi9 h hi,zcn λt d=>by rw[r t d];grind];split
  rw[q i (by assumption) hi];grind;grind
 have:=hr x g c hc;grind
theorem zoM{n:Nat}{M:Nat->Nat->Rat}:∀f c F,c+f=n->LUinv n M c F->(∃G,zsD n f c F=some G/\LUinv n M n G)\/(zsD n f c F=none/\¬Reg n M)
 | 0,c,F,e,h=>.inl ⟨F,rfl,by obtain rfl:c=n:=ω;exact h⟩
 | f+1,c,F,e,h=>by
  obtain⟨a,b,j,g⟩:=ziG F.up c (n-c) c;unfold zsD;split
  rename_i h1;exact .inr ⟨rfl,h.stuck ω λi d k=>j i d ω⟩;rename_i h1;exact zoM f (c+1) _ ω (h.step ω a ω (g ω))
theorem zoO{L:List (List Rat)}(h:L.length=n)(hr:∀i,i<n->(L.getD i []).length=n):(∃G,zoN n L=some G/\LUinv n (en L) n G)\/(zoN n L=none/\¬Reg n (en L)) :=
 zoM n 0 _ ω (LUinv.start h hr)
def fwd (F:LUv) (b:List Rat):Nat->List Rat
  | 0=>[]
  | k+1=>fwd F b k++[el b (F.perm.getD k 0)-zai k (λc=>en F.lo k c*el (fwd F b k) c)]
theorem zcx(F:LUv)(b:List Rat):∀k,(fwd F b k).length=k
 | 0=>rfl
 | k+1=>by simp[fwd,zcx F b k]
theorem zkF{ys:List Rat}(h:i<xs.length):el (xs++ys) i=el xs i:=by unfold el;rw[Zg,Zg,Z1 h]
theorem zoz{a:Rat}:el (xs++[a]) xs.length=a:=by unfold el;rw[Zg,ZJ (Za _)];simp
theorem zoG(F:LUv)(b:List Rat){i:Nat}:∀ {k:Nat},i<k->el (fwd F b k) i=el b (F.perm.getD i 0)-zai i (λc=>en F.lo i c*el (fwd F b i) c)
 | 0,h=>absurd h (ZM _)
 | k+1,h=>by
  by_cases e:i=k;subst e
  conv=>lhs;unfold fwd
  have:=zoz (xs:=fwd F b i) (a:=el b (F.perm.getD i 0)-zai i (λc=>en F.lo i c*el (fwd F b i) c));rw[zcx]at this;exact this
  conv=>lhs;unfold fwd
  rw[zkF (by rw[zcx];omega)];exact zoG F b ω
theorem zrx(F:LUv)(b:List Rat):∀ {k:Nat},i<j->j<=k->el (fwd F b k) i=el (fwd F b j) i:=by intro k h1 d;rw[zoG F b ω,zoG F b h1]
def bwd (F:LUv) (n:Nat) (z:List Rat):Nat->List Rat
  | 0=>[]
  | f+1=>(el z (n-(f+1))-zai f (λc=>en F.up (n-(f+1)) (n-f+c)*el (bwd F n z f) c))/en F.up (n-(f+1)) (n-(f+1))::bwd F n z f
theorem zpC(F:LUv)(n:Nat)(z:List Rat):∀f,(bwd F n z f).length=f
 | 0=>rfl
 | f+1=>by simp[bwd,zpC F n z f]
theorem zlL(F:LUv)(n:Nat)(z:List Rat):∀ {f j:Nat},j<f->∀i,el (bwd F n z f) (j+i)=el (bwd F n z (f-j)) i
 | 0,_,h,_=>absurd h (ZM _)
 | f+1,0,_,i=>by rw[Z6];rfl
 | f+1,j+1,h,i=>by rw[show j+1+i=(j+i)+1 by omega,show f+1-(j+1)=f-j by omega];exact zlL F n z ω i
def zaR (n:Nat) (F:LUv) (b:List Rat):List Rat:=bwd F n (fwd F b n) n
theorem zgc(g:Nat->Rat)(a:Nat):∀b,zai (a+b) g=zai a g+zai b (λc=>g (a+c))
 | 0=>by simp only[zai,Yj];grind
 | b+1=>by rw[show a+(b+1)=(a+b)+1 by omega,zai,zai,zgc g a b];grind
theorem zlb(n:Nat)(F:LUv)(b:List Rat):(zaR n F b).length=n:=zpC _ _ _ _
theorem zl5(n:Nat)(F:LUv)(b:List Rat)(h:i<n) :
  el (zaR n F b) i=(el (fwd F b n) i-zai (n-(i+1)) (λc=>en F.up i (i+1+c)*el (zaR n F b) (i+1+c)))/en F.up i i:=by
 have d:=zlL F n (fwd F b n) (f:=n) (j:=i) h 0;unfold zaR;rw[Yj]at d;rw[d,show n-i=(n-(i+1))+1 by omega];show(el (fwd F b n) (n-(n-(i+1)+1))-_)/_=_
 rw[show n-(n-(i+1)+1)=i by omega]
 congr 2
 refine zaj λc hc=>?_;rw[show n-(n-(i+1))=i+1 by omega]
 congr 1
 exact(zlL F n (fwd F b n) (f:=n) (j:=i+1) ω c).symm
theorem zsm{F:LUv}(h:LUinv n M n F)(b:List Rat)(hi:i<n):zai n (λt=>en F.up i t*el (zaR n F b) t)=el (fwd F b n) i:=by have e:=zl5 n F b hi;have g:=h.piv i hi;have d:=zgc (λt=>en F.up i t*el (zaR n F b) t) (i+1) (n-(i+1));rw[show i+1+(n-(i+1))=n by omega,zai,zcn (n:=i) (λt f=>by rw[h.zero t i ω hi f];grind)]at d;rw[d];grind
theorem zsl{F:LUv}(h:LUinv n M n F)(b:List Rat){k:Nat}(hk:k<n):zai n (λj=>M k j*el (zaR n F b) j)=el b k:=by
 obtain⟨i,hi,rfl⟩:=zh0 h k hk;rw[zi9 h hi,if_neg ω];have e:zai n (λt=>en F.lo i t*zai n (λj=>en F.up t j*el (zaR n F b) j))=zai n (λt=>en F.lo i t*el (fwd F b n) t):=zaj λt d=>by rw[zsm h b d]
 have g:=zh6 (f:=λt=>en F.lo i t*el (fwd F b n) t) (m:=i+1) (n:=n) ω λt h1 p=>by rw[h.tri i t hi p ω];grind
 rw[e,g,zai,h.one i hi,zoG F b hi];have l:zai i (λt=>en F.lo i t*el (fwd F b n) t)=zai i (λt=>en F.lo i t*el (fwd F b i) t):=zaj λt d=>by rw[zrx F b d ω]
 rw[l];grind
theorem zsx{p:Nat->Nat}(g:Nat->Rat)(h1:∀i,i<n->p i<n)(f:∀i j,i<n->j<n->p i=p j->i=j)(l:∀k,k<n->∃i,i<n/\p i=k):zai n (λk=>g (p k))=zai n g:=by
 have d:zai n (λk=>g (p k))=zai n (λk=>zai n (λi=>if i=p k then g i else 0)):=zaj λk hk=>by rw[zbI (k:=p k) (h1 k hk) λi _ hi=>if_neg hi,if_pos rfl]
 rw[d,zbq];refine zaj λi hi=>?_;obtain⟨k,hk,e⟩:=l i hi;rw[zbI (k:=k) hk λj hj q=>if_neg λr=>q (f j k hj hk ω),if_pos e.symm]
def zbX (F:LUv) (c:List Rat):Nat->List Rat
  | 0=>[]
  | k+1=>zbX F c k++[(el c k-zai k (λr=>en F.up r k*el (zbX F c k) r))/en F.up k k]
theorem zbT(F:LUv)(c:List Rat):∀k,(zbX F c k).length=k
 | 0=>rfl
 | k+1=>by simp[zbX,zbT F c k]
theorem zk1(F:LUv)(b:List Rat){i:Nat}:∀ {k:Nat},i<k->el (zbX F b k) i=(el b i-zai i (λc=>en F.up c i*el (zbX F b i) c))/en F.up i i
 | 0,h=>absurd h (ZM _)
 | k+1,h=>by
  by_cases e:i=k;subst e
  conv=>lhs;unfold zbX
  have:=zoz (xs:=zbX F b i) (a:=(el b i-zai i (λc=>en F.up c i*el (zbX F b i) c))/en F.up i i);rw[zbT]at this;exact this
  conv=>lhs;unfold zbX
  rw[zkF (by rw[zbT];omega)];exact zk1 F b ω
theorem znE(F:LUv)(b:List Rat):∀ {k:Nat},i<j->j<=k->el (zbX F b k) i=el (zbX F b j) i:=by intro k h1 d;rw[zk1 F b ω,zk1 F b h1]
def zlK (F:LUv) (n:Nat) (z:List Rat):Nat->List Rat
  | 0=>[]
  | f+1=>(el z (n-(f+1))-zai f (λc=>en F.lo (n-f+c) (n-(f+1))*el (zlK F n z f) c))::zlK F n z f
theorem zmU(F:LUv)(n:Nat)(z:List Rat):∀f,(zlK F n z f).length=f
 | 0=>rfl
 | f+1=>by simp[zlK,zmU F n z f]
theorem zka(F:LUv)(n:Nat)(z:List Rat):∀ {f j:Nat},j<f->∀i,el (zlK F n z f) (j+i)=el (zlK F n z (f-j)) i
 | 0,_,h,_=>absurd h (ZM _)
 | f+1,0,_,i=>by rw[Z6];rfl
 | f+1,j+1,h,i=>by rw[show j+1+i=(j+i)+1 by omega,show f+1-(j+1)=f-j by omega];exact zka F n z ω i
def luW (n:Nat) (F:LUv) (c:List Rat):List Rat:=zlK F n (zbX F c n) n
theorem zAY(n:Nat)(F:LUv)(b:List Rat):(luW n F b).length=n:=zmU _ _ _ _
theorem zyu(n:Nat)(F:LUv)(b:List Rat)(h:i<n) :
  el (luW n F b) i=el (zbX F b n) i-zai (n-(i+1)) (λc=>en F.lo (i+1+c) i*el (luW n F b) (i+1+c)):=by
 have d:=zka F n (zbX F b n) (f:=n) (j:=i) h 0;unfold luW;rw[Yj]at d;rw[d,show n-i=(n-(i+1))+1 by omega];show(el (zbX F b n) (n-(n-(i+1)+1))-_)=_
 rw[show n-(n-(i+1)+1)=i by omega]
 congr 1
 refine zaj λc hc=>?_;rw[show n-(n-(i+1))=i+1 by omega]
 congr 1
 exact(zka F n (zbX F b n) (f:=n) (j:=i+1) ω c).symm
def back (p:List Nat) (w:List Rat):Nat->List Rat->List Rat
  | 0,y=>y
  | k+1,y=>(back p w k y).set (p.getD k 0) (el w k)
theorem zjk(p:List Nat)(w:List Rat)(y:List Rat):∀k,(back p w k y).length=y.length
 | 0=>rfl
 | k+1=>by simp[back,zjk p w y k]
theorem zpA{n:Nat}{p:List Nat}(w y:List Rat)(f:y.length=n)(h1:∀i,i<n->p.getD i 0<n)(d:∀i j,i<n->j<n->p.getD i 0=p.getD j 0->i=j):∀k,k<=n->∀i,i<k->el (back p w k y) (p.getD i 0)=el w i
 | 0,_,i,hi=>absurd hi (ZM _)
 | k+1,hk,i,hi=>by
  show el (List.set _ _ _) _=_
  rw[ziZ (by rw[zjk,f];grind)];by_cases e:p.getD k 0=p.getD i 0;rw[if_pos e,d k i ω ω e];rw[if_neg e];exact zpA w y f h1 d k ω i (by have:i≠k:=λg=>e (by rw[g]);omega)
def zcq (n:Nat) (F:LUv) (c:List Rat):List Rat:=back F.perm (luW n F c) n (List.replicate n 0)
theorem zoP(n:Nat)(F:LUv)(c:List Rat):(zcq n F c).length=n:=by unfold zcq;rw[zjk];simp
theorem zla{F:LUv}(h:LUinv n M n F)(c:List Rat)(hj:j<n):zai n (λi=>el (zcq n F c) i*M i j)=el c j:=by
 rw[<-zsx (p:=λi=>F.perm.getD i 0) _ h.pr h.pi (zh0 h)];have g:zai n (λk=>el (zcq n F c) (F.perm.getD k 0)*M (F.perm.getD k 0) j)=zai n (λk=>zai n (λt=>el (luW n F c) k*(en F.lo k t*en F.up t j))):=zaj λk hk=>by unfold zcq;rw[zpA _ _ σ h.pr h.pi n (Za _) k hk,h.sum k hk j hj,if_neg ω,za7];grind
 rw[g,zbq];have l:∀t,t<n->zai n (λk=>el (luW n F c) k*(en F.lo k t*en F.up t j))=el (zbX F c n) t*en F.up t j:=by
  intro t d;have q:zai n (λk=>el (luW n F c) k*(en F.lo k t*en F.up t j))=zai n (λk=>en F.lo k t*el (luW n F c) k)*en F.up t j:=by rw[<-zb6];exact zaj λk _=>ψ
  have e:=zgc (λk=>en F.lo k t*el (luW n F c) k) (t+1) (n-(t+1));rw[show t+1+(n-(t+1))=n by omega,zai,h.one t d,zcn (n:=t) (λk hk=>by rw[h.tri k t ω d ω];grind)]at e;rw[q,e,zyu n F c d];generalize zai (n-(t+1)) (λx=>en F.lo (t+1+x) t*el (luW n F c) (t+1+x))=s;grind
 rw[zaj l];have r:=zh6 (f:=λt=>el (zbX F c n) t*en F.up t j) (m:=j+1) (n:=n) ω λt h1 A=>by rw[h.zero j t hj A ω];grind
 rw[r,zai,zk1 F c hj];have y:zai j (λt=>el (zbX F c n) t*en F.up t j)=zai j (λt=>en F.up t j*el (zbX F c j) t):=zaj λt d=>by rw[znE F c d ω];grind
 have B:=h.piv j hj;rw[y];grind
theorem LUinv.reg{F:LUv}(h:LUinv n M n F):Reg n M:=by
 intro x f j hj
 -- by what makes the unit row j
 have g:∀c:List Rat,zai n (λj=>el c j*x j)=0:=by
  intro c;have d:zai n (λj=>el c j*x j)=zai n (λj=>zai n (λi=>el (zcq n F c) i*(M i j*x j))):=zaj λj hj=>by rw[<-zla h c hj,<-zb6];exact zaj λi _=>ψ
  rw[d,zbq];simp_all[zcn,za7]
 have:=g ((List.replicate n 0).set j 1);rw[zbI (k:=j) hj λi hi e=>by rw[ziZ ψ,if_neg (Z4 e),zrm];grind,ziZ ψ,if_pos rfl]at this;grind
end Am
namespace Am
variable {L:List (List Rat)}{i k n s:Nat}{M:Nat->Nat->Rat}
def cB (n S:Nat):Nat:=(S*(n+2)+n)*n+1
structure SzLaw (m:Rat->Nat):Prop where
  add:∀a b,m (a+b)<=m a+m b+1
  mul:∀a b,m (a*b)<=m a+m b
  neg:∀a,m (-a)=m a
  inv:∀a,m a⁻¹<=m a
  zero:m 0<=1
  one:m 1<=1
  cram:∀ {n S:Nat} {M:Nat->Nat->Rat} {b x:Nat->Rat},(∀y:Nat->Rat,(∀i,i<n->zai n (λj=>M i j*y j)=0)->∀j,j<n->y j=0)->(∀i,i<n->∀j,j<n->m (M i j)<=S)->(∀i,i<n->m (b i)<=S)->(∀i,i<n->zai n (λj=>M i j*x j)=b i)->∀j,j<n->m (x j)<=cB n S
namespace SzLaw
variable {m:Rat->Nat} (h:SzLaw m)
include h
theorem div(a b:Rat):m (a/b)<=m a+m b:=by rw[Z5];have:=h.mul a b⁻¹;have:=h.inv b;omega
theorem sub(a b:Rat):m (a-b)<=m a+m b+1:=by rw[Rat.sub_eq_add_neg];have:=h.add a (-b);rw[h.neg]at this;exact this
theorem subSum(a:Rat)(f:Nat->Rat)(s:Nat):∀k,(∀i,i<k->m (f i)<=s)->m (a-zai k f)<=m a+k*(s+1)
 | 0,_=>by rw[zai,show a-0=a by grind];omega
 | k+1,hs=>by
  have e:a-zai (k+1) f=(a-zai k f)-f k:=by rw[zai];grind
  rw[e,XD];have:=h.sub (a-zai k f) (f k);have:=subSum a f s k (λi hi=>hs i ω);have:=hs k ω;omega
end SzLaw
structure LUsz (m:Rat->Nat) (n u:Nat) (F:LUv):Prop where
  lo:∀i,i<n->∀j,j<n->m (en F.lo i j)<=u
  up:∀i,i<n->∀j,j<n->m (en F.up i j)<=u
def uB (n s:Nat):Nat:=s+n*(cB n s+s+1)+1
theorem ywl{a b t:Nat}(h:a<=b)(d:s<=t):cB a s<=cB b t:=by unfold cB;have:(s*(a+2)+a)*a<=(t*(b+2)+b)*b:=Xn (Nat.add_le_add (Xn d ω) h) h;omega
def ywb (k:Nat) (L:List (List Rat)):List (List Rat):=(List.range k).map λi=>(List.range k).map λj=>en L i j
theorem yv7(L:List (List Rat))(hi:i<k):(ywb k L).getD i []=(List.range k).map λj=>en L i j:=by unfold ywb;rw[zbU _ _ ψ 0,zcA hi]
theorem yv1(L:List (List Rat)){j:Nat}(hi:i<k)(hj:j<k):en (ywb k L) i j=en L i j:=by
 show el ((ywb k L).getD i []) j=_
 rw[yv7 L hi];show((List.range k).map λj=>en L i j).getD j 0=_
 rw[zbU _ _ ψ 0,zcA hj]
section
variable {n:Nat} {M:Nat->Nat->Rat} {c:Nat} {F:LUv} (h:LUinv n M c F) (hc:c<=n)
include h hc
theorem LUinv.top(hk:k<=c):LUinv k (λi j=>M (F.perm.getD i 0) j) k ⟨ywb k F.lo,ywb k F.up,List.range k,false⟩ where
 sq:=⟨by simp[ywb],λi hi=>by grind[yv7],by simp[ywb],λi hi=>by grind[yv7],σ⟩
 pr:=λi hi=>ψ
 pi:=λi j hi hj e=>by have e:(List.range k).getD i 0=(List.range k).getD j 0:=e;rw[zcA hi,zcA hj]at e;exact e
 sum:=λi hi j hj=>by
  show M (F.perm.getD ((List.range k).getD i 0) 0) j=zai k (λt=>en (ywb k F.lo) i t*en (ywb k F.up) t j)+_
  rw[zcA hi,if_neg ω,h.sum i ω j ω,if_neg ω,zaj (n:=k) λt d=>by rw[yv1 _ hi d,yv1 _ d hj],
   zh6 hk λt h1 g=>by rw[h.tri i t ω ω ω];grind]
 one:=λi hi=>by show en (ywb k F.lo) i i=1;rw[yv1 _ hi hi];exact h.one i ω
 tri:=λi t hi d l=>by
  show en (ywb k F.lo) i t=0
  rw[yv1 _ hi d];exact h.tri i t ω ω ω
 zero:=λt i d hi f=>by show en (ywb k F.up) i t=0;rw[yv1 _ hi d];exact h.zero t i ω ω f
 piv:=λt d=>by show en (ywb k F.up) t t≠0;rw[yv1 _ d d];exact h.piv t ω
theorem LUinv.comb(f:Nat->Rat):∀k,k<=c->∃g:Nat->Rat,(∀j,j<n->zai k (λs=>f s*en F.up s j)=zai k λs=>g s*M (F.perm.getD s 0) j)/\(∀l,k=l+1->g l=f l)
 | 0,_=>⟨λ_=>0,λ_ _=>rfl,λl q=>ω⟩
 | k+1,hk=>by
  obtain⟨g,hg,_⟩:=LUinv.comb (λs=>f s-f k*en F.lo k s) k ω;refine⟨λs=>if s=k then f k else g s,λj hj=>?_,λl q=>?_⟩;have e:=h.sum k ω j hj;rw[if_neg ω,zh6 (m:=k+1) hk λt h1 r=>by rw[h.tri k t ω ω ω];grind,zai,h.one k ω]at e;have p:zai k (λs=>(if s=k then f k else g s)*M (F.perm.getD s 0) j)=zai k λs=>(f s-f k*en F.lo k s)*en F.up s j:=by rw[hg j hj];exact zaj λs y=>by rw[if_neg ω]
  have d:zai k (λs=>(f s-f k*en F.lo k s)*en F.up s j)=zai k (λs=>f s*en F.up s j)+(-f k)*zai k λt=>en F.lo k t*en F.up t j:=by rw[<-za7,<-zcm];exact zaj λs _=>ψ
  rw[zai,zai,p,d];simp only[if_true];rw[e];grind;grind
end
theorem LUinv.regT{F:LUv}(h:LUinv n M n F)(y:Nat->Rat)(f:∀j,j<n->zai n (λi=>M i j*y i)=0):∀i,i<n->y i=0:=λi hi=>by
 have e:∀k,k<n->zai n (λj=>M k j*el (zaR n F ((List.replicate n 0).set i 1)) j)=if i=k then 1 else 0:=λk hk=>by rw[zsl h _ hk,ziZ ψ,zrm]
 have s:zai n (λk=>y k*zai n λj=>M k j*el (zaR n F ((List.replicate n 0).set i 1)) j)=y i:=by rw[zbI (k:=i) hi λk hk d=>by rw[e k hk,if_neg (Z4 d)];grind,e i hi,if_pos rfl];grind
 rw[<-s,zaj λk _=>(za7 _ _ _).symm,zbq];refine zcn λj hj=>?_;have:=f j hj;rw[zaj (g:=λk=>M k j*y k*el (zaR n F ((List.replicate n 0).set i 1)) j) λk _=>ψ,zb6,this];grind
theorem LUinv.size{m:Rat->Nat}(hm:SzLaw m){c:Nat}{F:LUv}(h:LUinv n M c F)(hc:c<=n)(A:∀i,i<n->∀j,j<n->m (M i j)<=s):LUsz m n (uB n s) F:=by
 have u1:1<=uB n s:=by unfold uB;omega
 -- what a row is taken together from
 have D:∀i k,i<n->k<=c->(∀j,j<k->zai k (λt=>en F.lo i t*en F.up t j)=M (F.perm.getD i 0) j)->∃g:Nat->Rat,(∀j,j<n->zai k (λt=>en F.lo i t*en F.up t j)=zai k λt=>g t*M (F.perm.getD t 0) j)/\(∀t,t<k->m (g t)<=cB n s)/\∀l,k=l+1->g l=en F.lo i l:=λi k hi hk J=>by obtain⟨g,h1,f⟩:=h.comb hc (λt=>en F.lo i t) k hk;refine⟨g,h1,λt p=>?_,f⟩;refine Zl (hm.cram (n:=k) (S:=s) (M:=λj t=>M (F.perm.getD t 0) j) (b:=λj=>M (F.perm.getD i 0) j) (x:=g) (λy L=>(h.top hc hk).regT y λj hj=>L j hj) (λj hj t p=>A _ (h.pr t ω) j ω) (λj hj=>A _ (h.pr i hi) j ω) (λj hj=>?_) t p) (ywl ω (Za _));rw[<-J j hj,h1 j ω];grind
 have cu:cB n s<=uB n s\/n=0:=by rcases XY n with h0 | h0;omega;left;unfold uB;have:=ZV (cB n s+s+1) h0;omega
 refine⟨λi hi t p=>?_,λi hi j hj=>?_⟩;by_cases h1:i<t\/c<=t;rw[h.tri i t hi p h1];exact Zl hm.zero u1;by_cases f:i=t;subst f;rw[h.one i ω];exact Zl hm.one u1
 obtain⟨g,_,C,G⟩:=D i (t+1) hi ω λj hj=>by
  have e:=h.sum i hi j ω;rw[zh6 (m:=t+1) ω λr H I=>by rw[h.zero j r ω ω ω];grind]at e;rw[e];split
  rw[h.zero j i ω hi ω];grind;grind
 rw[<-G t rfl];have:=C t ω;omega;obtain⟨k,hk,K,e⟩:∃k,k<=n/\k<=c/\∀j,j<n->M (F.perm.getD i 0) j=zai k (λt=>en F.lo i t*en F.up t j)+en F.up i j/\(j<k->en F.up i j=0):=by by_cases h1:c<=i;exact⟨c,hc,Za _,λj hj=>⟨by rw[h.sum i hi j hj,if_pos h1],λf=>h.zero j i f hi ω⟩⟩;refine⟨i,ω,ω,λj hj=>⟨?_,λf=>h.zero j i ω hi f⟩⟩;rw[h.sum i hi j hj,if_neg h1,zh6 (m:=i+1) ω λr H I=>by rw[h.tri i r hi ω ω];grind,zai,h.one i ω];grind
 obtain⟨g,E,C,_⟩:=D i k hi K λj hj=>ψ
 have q:=(e j hj).1;rw[E j hj]at q;have B:en F.up i j=M (F.perm.getD i 0) j-zai k λt=>g t*M (F.perm.getD t 0) j:=by rw[q];grind
 rw[B];have a:=hm.subSum (M (F.perm.getD i 0) j) (λt=>g t*M (F.perm.getD t 0) j) (cB n s+s) k λt p=>by have N:=hm.mul (g t) (M (F.perm.getD t 0) j);have O:=C t p;have R:=A _ (h.pr t ω) j hj;omega
 have b:=A _ (h.pr i hi) j hj;have d:=ZV (cB n s+s+1) hk;unfold uB;omega
theorem zl6(h:L.length=n)(hr:∀i,i<n->(L.getD i []).length=n):Sq n (zg4 n L):=(LUinv.start h hr).sq
theorem zk9{m:Rat->Nat}(h:SzLaw m){G:LUv}(g:L.length=n)(hr:∀i,i<n->(L.getD i []).length=n)(k:∀i,i<n->∀j,j<n->m (en L i j)<=s)(e:zoN n L=some G):LUsz m n (uB n s) G:=by
 rcases zoO g hr with ⟨l,d,f⟩ | ⟨d,_⟩
 rw[e]at d;injection d with d;subst d;exact f.size h (Za _) k;grind
def zB (n u x:Nat):Nat:=1+n*(u+x+1)
def xB (n u x t:Nat):Nat:=t+zB n u x+n*(u+zB n u x+1)
theorem SzLaw.sum{m:Rat->Nat}(h:SzLaw m)(f:Nat->Rat)(s k:Nat)(d:∀i,i<k->m (f i)<=s):m (zai k f)<=1+k*(s+1):=by have:=h.subSum 0 f s k d;rw[<-h.neg]at this;rw[show -(0-zai k f)=zai k f by grind]at this;have:=h.zero;omega
theorem SzLaw.less{m:Rat->Nat}(h:SzLaw m){a:Rat}{f g:Nat->Rat}{A B C:Nat}(j:m a<=A)(hk:k<=n)(hf:∀i,i<k->m (f i)<=B)(hg:∀i,i<k->m (g i)<=C):m (a-zai k λi=>f i*g i)<=A+n*(B+C+1):=by
 have d:=h.subSum a (λi=>f i*g i) (B+C) k λi hi=>by have:=h.mul (f i) (g i);have:=hf i hi;have:=hg i hi;omega
 have e:=ZV (B+C+1) hk;omega
structure SolLe (m:Rat->Nat) (n:Nat) (F:LUv) (b:List Rat) (X:Nat):Prop where
  fw:∀i,i<n->m (el (fwd F b n) i)<=X/\∀k,k<=i->m (el b (F.perm.getD i 0)-zai k (λc=>en F.lo i c*el (fwd F b n) c))<=2*X
  sv:∀i,i<n->m (el (zaR n F b) i)<=X/\∀k,k<=n-(i+1)->m (el (fwd F b n) i-zai k (λc=>en F.up i (i+1+c)*el (zaR n F b) (i+1+c)))<=2*X
structure SolTLe (m:Rat->Nat) (n:Nat) (F:LUv) (b:List Rat) (X:Nat):Prop where
  fw:∀i,i<n->m (el (zbX F b n) i)<=X/\∀k,k<=i->m (el b i-zai k (λc=>en F.up c i*el (zbX F b n) c))<=2*X
  sv:∀i,i<n->m (el (luW n F b) i)<=X/\∀k,k<=n-(i+1)->m (el (zbX F b n) i-zai k (λc=>en F.lo (i+1+c) i*el (luW n F b) (i+1+c)))<=2*X
section
variable {m:Rat->Nat} (h:SzLaw m) {n u x t:Nat} {M:Nat->Nat->Rat} {F:LUv} {b:List Rat} (hF:LUinv n M n F) (z:LUsz m n u F)
include h hF z
theorem ywt(g:∀i,i<n->m (el b i)<=t)(e:∀i,i<n->m (el (zaR n F b) i)<=x):SolLe m n F b (xB n u x t):=by
 have d:∀i,i<n->m (el (fwd F b n) i)<=zB n u x:=λi hi=>by rw[<-zsm hF b hi];exact h.sum _ (u+x) n λk hk=>by have:=h.mul (en F.up i k) (el (zaR n F b) k);have:=z.up i hi k hk;have:=e k hk;omega
 have f:zB n u x<=xB n u x t:=by unfold xB;omega
 refine⟨λi hi=>⟨Zl (d i hi) f,λk hk=>?_⟩,λi hi=>⟨?_,λk hk=>?_⟩⟩;have:=h.less (n:=n) (k:=k) (g _ (hF.pr i hi)) ω (λc hc=>z.lo i hi c ω) (λc hc=>d c ω);unfold xB;omega;have:=e i hi;have:=ZV (u+x+1) (show 1<=n by omega);unfold zB at f;omega;have:=h.less (n:=n) (k:=k) (d i hi) ω (λc hc=>z.up i hi (i+1+c) ω) (λc hc=>e (i+1+c) ω);unfold zB at this f;omega
theorem ywo(r:∀i,i<n->m (el b i)<=t)(s:∀i,i<n->m (el (zcq n F b) i)<=x):SolTLe m n F b (xB n u x t):=by
 have d:∀i,i<n->m (el (luW n F b) i)<=x:=λi hi=>by have:=s _ (hF.pr i hi);unfold zcq at this;rw[zpA _ _ σ hF.pr hF.pi n (Za _) i hi]at this;exact this
 have f:∀i,i<n->m (el (zbX F b n) i)<=zB n u x:=λi hi=>by
  have e:el (zbX F b n) i=el (luW n F b) i+zai (n-(i+1)) (λc=>en F.lo (i+1+c) i*el (luW n F b) (i+1+c)):=by rw[zyu n F b hi];grind
  rw[e];have y:=h.subSum 0 (λc=>en F.lo (i+1+c) i*el (luW n F b) (i+1+c)) (u+x) (n-(i+1)) λc hc=>by have:=h.mul (en F.lo (i+1+c) i) (el (luW n F b) (i+1+c));have:=z.lo (i+1+c) ω i hi;have:=d (i+1+c) ω;omega
  have j:=h.sub (el (luW n F b) i) (0-zai (n-(i+1)) (λc=>en F.lo (i+1+c) i*el (luW n F b) (i+1+c)));rw[show ∀p q:Rat,p-(0-q)=p+q by grind]at j;have A:=d i hi;have B:=h.zero;have l:(n-(i+1)+1)*(u+x+1)<=n*(u+x+1):=ZV _ ω;rw[XD]at l;unfold zB;omega
 have g:zB n u x<=xB n u x t:=by unfold xB;omega
 refine⟨λi hi=>⟨Zl (f i hi) g,λk hk=>?_⟩,λi hi=>⟨?_,λk hk=>?_⟩⟩;have:=h.less (n:=n) (k:=k) (r i hi) ω (λc hc=>z.up c ω i hi) (λc hc=>f c ω);unfold xB;omega;have:=d i hi;have:=ZV (u+x+1) (show 1<=n by omega);unfold zB at g;omega;have:=h.less (n:=n) (k:=k) (f i hi) ω (λc hc=>z.lo (i+1+c) ω i hi) (λc hc=>d (i+1+c) ω);unfold zB at this g;omega
end
end Am
namespace Go
variable {late:List Nat}{fuel i id:Nat}{v:Value}{w:World}
theorem Shut.o{p:Prop}(h:Shut p):p:=h
theorem pu1{α:Type _}(l:List α)(i:Nat)(a:α):l.toArray.setIfInBounds i a=(l.set i a).toArray:=ψ
theorem pu2{α:Type _}{l:List α}{a b:α}:(a::l).set 0 b=b::l:=rfl
theorem pu3{α:Type _}{l:List α}{a b:α}{n:Nat}:(a::l).set (n+1) b=a::l.set n b:=rfl
theorem pu4{α:Type _}{l:List α}(h:i<l.toArray.size):l.toArray[i]=l[i]' ω:=rfl
theorem pu5{α:Type _}{l:List α}{a:α}(h:0<(a::l).length):(a::l)[0]=a:=rfl
theorem pu6{α:Type _}{l:List α}{a:α}(h:i+1<(a::l).length):(a::l)[i+1]=l[i]'(Nat.lt_of_succ_lt_succ h):=rfl
theorem kp{p:Prop}(h:p:=by((try go_split_ands);(try simp only[Xp]);with_reducible repeat' first | assumption | apply And.intro | refine Proofs.YtbpjabgfcbjjmaaGreat.cell_set ω ?_ | refine Proofs.YtbpjabgfcbjjmaaGreat.cell_al ?_)):p:=h
section
variable {P:Program} {ops:Array Oper} {Q:Exit->Act->World->Prop} {md:Region.Mode} {S:World->Prop} {fin:Nat}
def zc4 (P:Program) (md:Region.Mode) (ops:Array Oper) (Q:Exit->Act->World->Prop) (S:World->Prop) (fin:Nat):Nat->Array Bool->Act->World->Prop
  | 0,listed,a,w=>Region.ready md ops listed=[]/\Q .normal a w
  | fuel + 1,listed,a,w =>
    (Region.ready md ops listed=[]->Q .normal a w) /\
    ∀i∈Region.ready md ops listed,wpOp P ops Q i (λa' w'=>(i≠fin->S w->S w')/\zc4 P md ops Q S fin fuel (listed.setIfInBounds i true) a' w') a w
theorem zmf:∀(fuel:Nat) (listed:Array Bool) (a:Act) (w:World),zc4 P md ops Q S fin fuel listed a w->wpAny P md ops Q fuel listed a w
 | 0,_,_,_,h=>h
 | fuel+1,_,_,_,h=>⟨h.1,λi hi=>wpOp_mono (λa' w' d=>zmf fuel _ a' w' d.2) (h.2 i hi)⟩
def ze2 (md:Region.Mode) (ops:Array Oper) (fin i:Nat):Bool:=((ops[fin]?).map λo=>o.after.any λe=>Region.binds md e&&e.on == i).getD false
theorem zpa{listed:Array Bool}(h:ze2 md ops fin i=true)(hi:i∈Region.ready md ops listed):fin ∉ Region.ready md ops listed:=by intro hf;obtain⟨_,o,j,d⟩:=mem_ready.1 hf;have h0:=(mem_ready.1 hi).1;unfold ze2 at h;rw[j]at h;simp only[Option.map_some,Option.getD_some,Array.any_eq_true',Yz,beq_iff_eq]at h;obtain⟨e,g,f,rfl⟩:=h;have h1:=d e g f;rcases ZI e.on listed.size with h' | h';simp[h']at h0 h1;rw[h0]at h1;cases h1;simp[Array.getElem?_eq_none h']at h1
theorem zpe{oi:Oper}(hi:ops[i]? = some oi)(B:∀(j:Nat) (o:Oper) cs b,ops[j]? = some o->o.op≠.select cs b)
  (E:∀c a w,Q (.panic c) (a.put oi.dst v) w->Q (.panic c) a w) (hw:ze2 md ops fin i=true) :
  ∀(fuel:Nat) (listed:Array Bool) (a:Act) (w:World),
   (∀j f,ops[j]? = some f->j≠i->listed.getD j true=false->(∀e∈f.after,Region.binds md e=true->e.on≠i)->oi.apart ops f=true) ->
   i∈Region.ready md ops listed->YieldsIf P ops S oi v a->S w ->
   zc4 P md ops Q S fin fuel (listed.setIfInBounds i true) (a.put oi.dst v) w->zc4 P md ops Q S fin (fuel+1) listed a w:=by
 intro fuel
 induction fuel with
 | zero =>
  intro listed a w _ hr p hS H;refine⟨λh=>(by rw[h]at hr;cases hr),λj hj=>?_⟩;by_cases d:j=i;subst d;exact p.wpOp hi hS ⟨λ_ _=>hS,H⟩;have:=ready_mono hj d;rw[H.1]at this;cases this
 | succ fuel ih =>
  intro listed a w r hr p hS H;refine⟨λh=>(by rw[h]at hr;cases hr),λj hj=>?_⟩;by_cases d:j=i;subst d;exact p.wpOp hi hS ⟨λ_ _=>hS,H⟩;have h1:=H.2 j (ready_mono hj d);have s:j≠fin:=λe=>zpa hw hr (by rw[<-e];exact hj)
  obtain⟨A,f,q,G⟩:=mem_ready.1 hj;have R:∀e∈f.after,Region.binds md e=true->e.on≠i:=λe J I K=>by have h1:=G e J I;have h0:=(mem_ready.1 hr).1;rw[K]at h1;grind
  have D:=wpOp_putIf q (r j f q d A R) (λcs b=>B i oi cs b hi) (λcs b=>B j f cs b q) E p h1
  have L:∀k g,ops[k]? = some g->k≠i->(listed.setIfInBounds j true).getD k true=false ->
    (∀e∈g.after,Region.binds md e=true->e.on≠i)->oi.apart ops g=true:=λk g hk N C O=>by
   refine r k g hk N ?_ O;by_cases y:j=k;subst y;exact A
   simp_all
  refine wpOp_mono (λa' w' l=>⟨λ_=>l.2.1 s,ih (listed.setIfInBounds j true) a' w' L (ready_mono hr (Z4 d)) l.1 (l.2.1 s hS) ?_⟩) D;rw[Vv _ _ d];exact l.2.2
theorem zqH{oi:Oper}{listed:Array Bool}{a:Act}(hi:ops[i]? = some oi)
  (hk:(Region.noSelect ops&&Region.free md ops listed i&&(Region.ready md ops listed).contains i&&ze2 md ops fin i)=true)
  (d:∀c a w,Q (.panic c) (a.put oi.dst v) w->Q (.panic c) a w) (f:YieldsIf P ops S oi v a) (hS:S w)
  (h:zc4 P md ops Q S fin fuel (listed.setIfInBounds i true) (a.put oi.dst v) w):zc4 P md ops Q S fin (fuel+1) listed a w:=by
 simp only[Yz]at hk;obtain⟨⟨⟨e,hf⟩,hr⟩,hw⟩:=hk;exact zpe hi (Va e) d hw fuel listed a w (Vb hi hf) (by simpa using hr) f hS h
theorem znW{oi:Oper}(hi:ops[i]? = some oi)(A:∀(j:Nat) (o:Oper) cs b,ops[j]? = some o->o.op≠.select cs b)
  (D:∀c a w,Q (.panic c) (a.put oi.dst v) w->Q (.panic c) a w) :
  ∀(fuel:Nat) (listed:Array Bool) (a:Act) (w:World),
   (∀j f,ops[j]? = some f->j≠i->listed.getD j true=false->(∀e∈f.after,Region.binds md e=true->e.on≠i)->oi.apart ops f=true) ->
   i∈Region.ready md ops listed->YieldsIf P ops (λ_=>True) oi v a ->
   zc4 P md ops Q S fin fuel (listed.setIfInBounds i true) (a.put oi.dst v) w->zc4 P md ops Q S fin (fuel+1) listed a w:=by
 intro fuel
 induction fuel with
 | zero =>
  intro listed a w _ hr l H;refine⟨λh=>(by rw[h]at hr;cases hr),λj hj=>?_⟩;by_cases d:j=i;subst d;exact l.wpOp hi trivial ⟨λ_ h=>h,H⟩;have:=ready_mono hj d;rw[H.1]at this;cases this
 | succ fuel ih =>
  intro listed a w r hr l H;refine⟨λh=>(by rw[h]at hr;cases hr),λj hj=>?_⟩;by_cases d:j=i;subst d;exact l.wpOp hi trivial ⟨λ_ h=>h,H⟩;have h1:=H.2 j (ready_mono hj d);obtain⟨y,f,q,E⟩:=mem_ready.1 hj;have O:∀e∈f.after,Region.binds md e=true->e.on≠i:=λe I G J=>by have h1:=E e I G;have h0:=(mem_ready.1 hr).1;rw[J]at h1;grind
  have C:=wpOp_putIf q (r j f q d y O) (λcs b=>A i oi cs b hi) (λcs b=>A j f cs b q) D l h1
  have K:∀k g,ops[k]? = some g->k≠i->(listed.setIfInBounds j true).getD k true=false ->
    (∀e∈g.after,Region.binds md e=true->e.on≠i)->oi.apart ops g=true:=λk g hk L B N=>by
   refine r k g hk L ?_ N;by_cases s:j=k;subst s;exact y
   simp_all
  refine wpOp_mono (λa' w' p=>⟨p.2.1,ih (listed.setIfInBounds j true) a' w' K (ready_mono hr (Z4 d)) p.1 ?_⟩) C;rw[Vv _ _ d];exact p.2.2
theorem zfQ{oi:Oper}{listed:Array Bool}{a:Act}(hi:ops[i]? = some oi)
  (hk:(Region.noSelect ops&&Region.free md ops listed i&&(Region.ready md ops listed).contains i)=true)
  (d:∀c a w,Q (.panic c) (a.put oi.dst v) w->Q (.panic c) a w) (f:YieldsIf P ops (λ_=>True) oi v a)
  (h:zc4 P md ops Q S fin fuel (listed.setIfInBounds i true) (a.put oi.dst v) w):zc4 P md ops Q S fin (fuel+1) listed a w:=by
 simp only[Yz]at hk;obtain⟨⟨e,hf⟩,hr⟩:=hk;exact znW hi (Va e) d fuel listed a w (Vb hi hf) (by simpa using hr) f h
theorem zaN(i:Nat){o:Oper}{listed:Array Bool}{a:Act}(g:ops[i]? = some o:=by rfl)(hr:Region.ready md ops listed=[i]:=by kernel_rfl)
  (h:∀d:Act->World->Prop,Shut (∀a w,S w->(S w->zc4 P md ops Q S fin fuel (listed.setIfInBounds i true) a w)->d a w)->if Region.wanted o (yielded ops a.tmps)=true then Oper.wp P o a w d Q else d (a.put o.dst undef) w) :
  zc4 P md ops Q S fin (fuel+1) listed a w :=
 ⟨λh0=>(by rw[hr]at h0;cases h0),λj hj=>by
  rw[hr]at hj;rcases XM.1 hj with rfl | hj;exact wpOp_step g λd e=>h d λa w hS f=>e a w ⟨λ_ _=>hS,f hS⟩
  cases hj⟩
theorem zba{o:Oper}{listed:Array Bool}{a:Act}(k:ops[fin]? = some o:=by rfl)(hr:Region.ready md ops listed=[fin]:=by kernel_rfl)
  (h:∀d:Act->World->Prop,Shut (∀a w,zc4 P md ops Q S fin fuel (listed.setIfInBounds fin true) a w->d a w)->if Region.wanted o (yielded ops a.tmps)=true then Oper.wp P o a w d Q else d (a.put o.dst undef) w) :
  zc4 P md ops Q S fin (fuel+1) listed a w :=
 ⟨λh0=>(by rw[hr]at h0;cases h0),λj hj=>by
  rw[hr]at hj;rcases XM.1 hj with rfl | hj;exact wpOp_step k λd e=>h d λa w f=>e a w ⟨λg=>absurd rfl g,f⟩
  cases hj⟩
theorem za1{listed:Array Bool}{a:Act}(hr:Region.ready md ops listed=[]:=by kernel_rfl)(h:Q .normal a w):zc4 P md ops Q S fin fuel listed a w:=by cases fuel;exact⟨hr,h⟩;exact⟨λ_=>h,by rw[hr];simp⟩
theorem za2(fin:Nat){a:Act}(hm:P.follows .mixedOrders=true:=by kernel_rfl)(hS:S w.drew:=by((try go_split_ands);(try simp only[Xp]);with_reducible repeat' first | assumption | apply And.intro | refine Proofs.YtbpjabgfcbjjmaaGreat.cell_set ω ?_ | refine Proofs.YtbpjabgfcbjjmaaGreat.cell_al ?_))
  (h:S w.drew->zc4 P .any ops Q S fin ops.size (Array.replicate ops.size false) a w.drew):(Code.region id ops true).wp P Q a w :=
 wp_region_any hm (zmf _ _ _ _ (h hS))
def zcp (P:Program) (md:Region.Mode) (ops:Array Oper) (Q:Exit->Act->World->Prop) (S:World->Prop) (late:Nat->Bool):Nat->Array Bool->Act->World->Prop
  | 0,listed,a,w=>Region.ready md ops listed=[]/\Q .normal a w
  | fuel + 1,listed,a,w =>
    (Region.ready md ops listed=[]->Q .normal a w) /\
    ∀i∈Region.ready md ops listed,wpOp P ops Q i (λa' w'=>(late i=false->S w->S w')/\zcp P md ops Q S late fuel (listed.setIfInBounds i true) a' w') a w
theorem zmg{late:Nat->Bool}:∀(fuel:Nat) (listed:Array Bool) (a:Act) (w:World),zcp P md ops Q S late fuel listed a w->wpAny P md ops Q fuel listed a w
 | 0,_,_,_,h=>h
 | fuel+1,_,_,_,h=>⟨h.1,λi hi=>wpOp_mono (λa' w' d=>zmg fuel _ a' w' d.2) (h.2 i hi)⟩
theorem zjd{late:Nat->Bool}{oi:Oper}{f:World->Prop}(hi:ops[i]? = some oi)(C:∀(j:Nat) (o:Oper) cs b,ops[j]? = some o->o.op≠.select cs b)
  (G:∀c a w,Q (.panic c) (a.put oi.dst v) w->Q (.panic c) a w) (hw:(∀j,late j=true->ze2 md ops j i=true)/\(∀w,S w->f w)\/∀w,f w) :
  ∀(fuel:Nat) (listed:Array Bool) (a:Act) (w:World),
   (∀j g,ops[j]? = some g->j≠i->listed.getD j true=false->(∀e∈g.after,Region.binds md e=true->e.on≠i)->oi.apart ops g=true) ->
   i∈Region.ready md ops listed->YieldsIf P ops f oi v a->(S w\/∀w,f w) ->
   zcp P md ops Q S late fuel (listed.setIfInBounds i true) (a.put oi.dst v) w->zcp P md ops Q S late (fuel+1) listed a w:=by
 have s:∀w,(S w\/∀w,f w)->f w:=λw h=>ψ
 intro fuel
 induction fuel with
 | zero =>
  intro listed a w _ hr q hS H;refine⟨λh=>(by rw[h]at hr;cases hr),λj hj=>?_⟩;by_cases d:j=i;subst d;exact q.wpOp hi (s w hS) ⟨λ_ h=>h,H⟩;have:=ready_mono hj d;rw[H.1]at this;cases this
 | succ fuel ih =>
  intro listed a w y hr q hS H;refine⟨λh=>(by rw[h]at hr;cases hr),λj hj=>?_⟩;by_cases d:j=i;subst d;exact q.wpOp hi (s w hS) ⟨λ_ h=>h,H⟩;have h1:=H.2 j (ready_mono hj d);obtain⟨B,g,r,J⟩:=mem_ready.1 hj;have U:∀e∈g.after,Region.binds md e=true->e.on≠i:=λe L K N=>by have h1:=J e L K;have h0:=(mem_ready.1 hr).1;rw[N]at h1;grind
  have E:=wpOp_putIf r (y j g r d B U) (λcs b=>C i oi cs b hi) (λcs b=>C j g cs b r) G q h1
  have O:∀k l,ops[k]? = some l->k≠i->(listed.setIfInBounds j true).getD k true=false ->
    (∀e∈l.after,Region.binds md e=true->e.on≠i)->oi.apart ops l=true:=λk l hk R D T=>by
   refine y k l hk R ?_ T;by_cases A:j=k;subst A;exact B
   simp_all
  have I:∀w',(late j=false->S w->S w')->(S w'\/∀w,f w):=λw' h=>by grind[zpa]
  refine wpOp_mono (λa' w' p=>⟨p.2.1,ih (listed.setIfInBounds j true) a' w' O (ready_mono hr (Z4 d)) p.1 (I w' p.2.1) ?_⟩) E;rw[Vv _ _ d];exact p.2.2
def zrC (md:Region.Mode) (ops:Array Oper) (late:List Nat) (i:Nat):Bool:=late.all λj=>ze2 md ops j i
theorem zqI{oi:Oper}{listed:Array Bool}{a:Act}(hi:ops[i]? = some oi)
  (hk:(Region.noSelect ops&&Region.free md ops listed i&&(Region.ready md ops listed).contains i&&zrC md ops late i)=true)
  (d:∀c a w,Q (.panic c) (a.put oi.dst v) w->Q (.panic c) a w) (f:YieldsIf P ops S oi v a) (hS:S w)
  (h:zcp P md ops Q S late.contains fuel (listed.setIfInBounds i true) (a.put oi.dst v) w):zcp P md ops Q S late.contains (fuel+1) listed a w:=by
 simp only[Yz]at hk;obtain⟨⟨⟨e,hf⟩,hr⟩,hw⟩:=hk;exact zjd hi (Va e) d (.inl ⟨λj hj=>Vw.1 hw j ψ,λ_ h=>h⟩) fuel listed a w (Vb hi hf) (by simpa using hr) f (.inl hS) h
theorem zpf{oi:Oper}{listed:Array Bool}{a:Act}(hi:ops[i]? = some oi)
  (hk:(Region.noSelect ops&&Region.free md ops listed i&&(Region.ready md ops listed).contains i)=true)
  (d:∀c a w,Q (.panic c) (a.put oi.dst v) w->Q (.panic c) a w) (f:YieldsIf P ops (λ_=>True) oi v a)
  (h:zcp P md ops Q S late.contains fuel (listed.setIfInBounds i true) (a.put oi.dst v) w):zcp P md ops Q S late.contains (fuel+1) listed a w:=by
 simp only[Yz]at hk;obtain⟨⟨e,hf⟩,hr⟩:=hk;exact zjd hi (Va e) d (.inr λ_=>trivial) fuel listed a w (Vb hi hf) (by simpa using hr) f (.inr λ_=>trivial) h
theorem zaB(i:Nat){o:Oper}{listed:Array Bool}{a:Act}(g:ops[i]? = some o:=by rfl)(hr:Region.ready md ops listed=[i]:=by kernel_rfl)
  (h:∀d:Act->World->Prop,Shut (∀a w,S w->(S w->zcp P md ops Q S late.contains fuel (listed.setIfInBounds i true) a w)->d a w)->if Region.wanted o (yielded ops a.tmps)=true then Oper.wp P o a w d Q else d (a.put o.dst undef) w) :
  zcp P md ops Q S late.contains (fuel+1) listed a w :=
 ⟨λh0=>(by rw[hr]at h0;cases h0),λj hj=>by
  rw[hr]at hj;rcases XM.1 hj with rfl | hj;exact wpOp_step g λd e=>h d λa w hS f=>e a w ⟨λ_ _=>hS,f hS⟩
  cases hj⟩
theorem zme{j:Nat}{oi e:Oper}{listed:Array Bool}{a:Act}(p:ops[i]? = some oi)(q:ops[j]? = some e)(hr:Region.ready md ops listed=[i,j])
  (h1:∀d:Act->World->Prop,Shut (∀a w,S w->(S w->zcp P md ops Q S late.contains fuel (listed.setIfInBounds i true) a w)->d a w)->if Region.wanted oi (yielded ops a.tmps)=true then Oper.wp P oi a w d Q else d (a.put oi.dst undef) w)
  (l:∀d:Act->World->Prop,Shut (∀a w,S w->(S w->zcp P md ops Q S late.contains fuel (listed.setIfInBounds j true) a w)->d a w)->if Region.wanted e (yielded ops a.tmps)=true then Oper.wp P e a w d Q else d (a.put e.dst undef) w) :
  zcp P md ops Q S late.contains (fuel+1) listed a w :=
 ⟨λh0=>(by rw[hr]at h0;cases h0),λk hk=>by
  rw[hr]at hk;rcases XM.1 hk with rfl | hk;exact wpOp_step p λd f=>h1 d λa w hS g=>f a w ⟨λ_ _=>hS,g hS⟩
  rcases XM.1 hk with rfl | hk;exact wpOp_step q λd f=>l d λa w hS g=>f a w ⟨λ_ _=>hS,g hS⟩
  cases hk⟩
theorem zay(i:Nat){o:Oper}{listed:Array Bool}{a:Act}(l:ops[i]? = some o:=by rfl)(hr:Region.ready md ops listed=[i]:=by kernel_rfl)(g:late.contains i=true:=by kernel_rfl)
  (h:∀d:Act->World->Prop,Shut (∀a w,zcp P md ops Q S late.contains fuel (listed.setIfInBounds i true) a w->d a w)->if Region.wanted o (yielded ops a.tmps)=true then Oper.wp P o a w d Q else d (a.put o.dst undef) w) :
  zcp P md ops Q S late.contains (fuel+1) listed a w :=
 ⟨λh0=>(by rw[hr]at h0;cases h0),λj hj=>by
  rw[hr]at hj;rcases XM.1 hj with rfl | hj;exact wpOp_step l λd e=>h d λa w f=>e a w ⟨λk=>absurd k (by rw[g];decide),f⟩
  cases hj⟩
theorem zaM{late:Nat->Bool}{listed:Array Bool}{a:Act}(hr:Region.ready md ops listed=[]:=by kernel_rfl)(h:Q .normal a w):zcp P md ops Q S late fuel listed a w:=by cases fuel;exact⟨hr,h⟩;exact⟨λ_=>h,by rw[hr];simp⟩
theorem zaS(late:List Nat){a:Act}(hm:P.follows .mixedOrders=true:=by kernel_rfl)(hS:S w.drew:=by((try go_split_ands);(try simp only[Xp]);with_reducible repeat' first | assumption | apply And.intro | refine Proofs.YtbpjabgfcbjjmaaGreat.cell_set ω ?_ | refine Proofs.YtbpjabgfcbjjmaaGreat.cell_al ?_))
  (h:S w.drew->zcp P .any ops Q S late.contains ops.size (Array.replicate ops.size false) a w.drew):(Code.region id ops true).wp P Q a w :=
 wp_region_any hm (zmg _ _ _ _ (h hS))
def tk (o:List Nat) (X:Prop):Prop:=∀n:List Nat,n=o->X
theorem zaw{X:Prop}(o:List Nat)(h:tk o X):X:=h o rfl
theorem zao{X:Prop}(h:X):tk [] X:=λ_ _=>h
section
variable {i:Nat} {o:List Nat} {oi:Oper} {v:Value} {fuel:Nat} {listed:Array Bool} {a a':Act} {w:World} {late:List Nat}
theorem tkL(hi:ops[i]? = some oi:=by rfl)
  (hk:(Region.noSelect ops&&Region.free md ops listed i&&(Region.ready md ops listed).contains i&&zrC md ops late i)=true:=by kernel_rfl)
  (d:∀c a w,Q (.panic c) (a.put oi.dst v) w->Q (.panic c) a w:=by exact λ_ _ _ h=>h) (hw:Region.wanted oi (yielded ops a.tmps)=true:=by rfl) (g:∀w,S w->(execOp a.eval oi).run P w=.ok (.value v) w:=by((intro w e;(try dsimp only at e);go_simp);(try with_reducible rfl))) (f:a.put oi.dst v=a':=by first | (simp only[Act.put,pu1,pu2,pu3,pu4,pu5,pu6];rfl) | rfl) (hS:S w)
  (h:tk o (zcp P md ops Q S late.contains fuel (listed.setIfInBounds i true) a' w)):tk (i::o) (zcp P md ops Q S late.contains (fuel+1) listed a w) :=
 λ_ _=>by subst f;exact zqI hi hk d (.inl ⟨hw,g⟩) hS (h _ rfl)
theorem skH(hi:ops[i]? = some oi:=by rfl)(g:Region.noSelect ops=true:=by kernel_rfl)(hf:Region.free md ops listed i=true:=by kernel_rfl)(hr:(Region.ready md ops listed).contains i=true:=by kernel_rfl)
  (d:∀c a w,Q (.panic c) (a.put oi.dst undef) w->Q (.panic c) a w:=by exact λ_ _ _ h=>h) (f:Region.wanted oi (yielded ops a.tmps)=false:=by kernel_rfl) (e:a.put oi.dst undef=a':=by first | (simp only[Act.put,pu1,pu2,pu3,pu4,pu5,pu6];rfl) | rfl) (hS:S w)
  (h:tk o (wpAnyH P md ops Q S fuel (listed.setIfInBounds i true) a' w)):tk (i::o) (wpAnyH P md ops Q S (fuel+1) listed a w) :=
 λ_ _=>by subst e;exact wpAnyH_take hi g hf hr d (.inr ⟨f,rfl⟩) hS (h _ rfl)
theorem tkX(hi:ops[i]? = some oi:=by rfl)
  (hk:(Region.noSelect ops&&Region.free md ops listed i&&(Region.ready md ops listed).contains i)=true:=by kernel_rfl)
  (d:∀c a w,Q (.panic c) (a.put oi.dst v) w->Q (.panic c) a w:=by exact λ_ _ _ h=>h) (hw:Region.wanted oi (yielded ops a.tmps)=true:=by rfl) (g:∀w,True->(execOp a.eval oi).run P w=.ok (.value v) w:=by((intro w e;(try dsimp only at e);go_simp);(try with_reducible rfl))) (f:a.put oi.dst v=a':=by first | (simp only[Act.put,pu1,pu2,pu3,pu4,pu5,pu6];rfl) | rfl)
  (h:tk o (zcp P md ops Q S late.contains fuel (listed.setIfInBounds i true) a' w)):tk (i::o) (zcp P md ops Q S late.contains (fuel+1) listed a w) :=
 λ_ _=>by subst f;exact zpf hi hk d (.inl ⟨hw,g⟩) (h _ rfl)
theorem tkE{fin:Nat}(hi:ops[i]? = some oi:=by rfl)
  (hk:(Region.noSelect ops&&Region.free md ops listed i&&(Region.ready md ops listed).contains i&&ze2 md ops fin i)=true:=by kernel_rfl)
  (d:∀c a w,Q (.panic c) (a.put oi.dst v) w->Q (.panic c) a w:=by exact λ_ _ _ h=>h) (hw:Region.wanted oi (yielded ops a.tmps)=true:=by rfl) (g:∀w,S w->(execOp a.eval oi).run P w=.ok (.value v) w:=by((intro w e;(try dsimp only at e);go_simp);(try with_reducible rfl))) (f:a.put oi.dst v=a':=by first | (simp only[Act.put,pu1,pu2,pu3,pu4,pu5,pu6];rfl) | rfl) (hS:S w)
  (h:tk o (zc4 P md ops Q S fin fuel (listed.setIfInBounds i true) a' w)):tk (i::o) (zc4 P md ops Q S fin (fuel+1) listed a w) :=
 λ_ _=>by subst f;exact zqH hi hk d (.inl ⟨hw,g⟩) hS (h _ rfl)
theorem tkH(hi:ops[i]? = some oi:=by rfl)
  (hk:(Region.noSelect ops&&Region.free md ops listed i&&(Region.ready md ops listed).contains i)=true:=by kernel_rfl)
  (d:∀c a w,Q (.panic c) (a.put oi.dst v) w->Q (.panic c) a w:=by exact λ_ _ _ h=>h) (hw:Region.wanted oi (yielded ops a.tmps)=true:=by rfl) (g:∀w,S w->(execOp a.eval oi).run P w=.ok (.value v) w:=by((intro w e;(try dsimp only at e);go_simp);(try with_reducible rfl))) (f:a.put oi.dst v=a':=by first | (simp only[Act.put,pu1,pu2,pu3,pu4,pu5,pu6];rfl) | rfl) (hS:S w)
  (h:tk o (wpAnyH P md ops Q S fuel (listed.setIfInBounds i true) a' w)):tk (i::o) (wpAnyH P md ops Q S (fuel+1) listed a w):=by
 simp only[Yz]at hk;subst f;exact λ_ _=>wpAnyH_take hi hk.1.1 hk.1.2 hk.2 d (.inl ⟨hw,g⟩) hS (h _ rfl)
end
end
theorem shutOn{S:World->Prop}{X d:Act->World->Prop}(e:Shut (∀a w,S w->(S w->X a w)->d a w)){a a':Act}(h:S w->X a' w)(hS:S w:=by((try go_split_ands);(try simp only[Xp]);with_reducible repeat' first | assumption | apply And.intro | refine Proofs.YtbpjabgfcbjjmaaGreat.cell_set ω ?_ | refine Proofs.YtbpjabgfcbjjmaaGreat.cell_al ?_))(f:a=a':=by first | (simp only[Act.put,pu1,pu2,pu3,pu4,pu5,pu6];rfl) | rfl):d a w:=by subst f;exact e.o _ _ hS h
theorem shutOff{X d:Act->World->Prop}(e:Shut (∀a w,X a w->d a w)){a a':Act}(h:X a' w)(f:a=a':=by first | (simp only[Act.put,pu1,pu2,pu3,pu4,pu5,pu6];rfl) | rfl):d a w:=by subst f;exact e.o _ _ h
