/- Contracts and lemmas: Lin0 Lu Lu2 Size Reg Det Pck Rnk Rf1 Rf2 Rf3 Rf4 Fra Dbd Dpt Bst. Conditions: as each says. -/
import Derived.Deep.RegionHeld
import Derived.Test.YtbpjabgfcbjjmaaGreatWord3Yn
set_option linter.all false
set_option maxHeartbeats 1000000
namespace Am
variable {xs:List Rat}{i j n:Nat}{M:Nat->Nat->Rat}{f y:Nat->Rat}{a:Rat}
def zai:Nat->(Nat->Rat)->Rat
  | 0,_=>0
  | n+1,f=>zai n f+f n
def el (xs:List Rat) (i:Nat):Rat:=xs.getD i 0
theorem znd(h:xs[i]? = some a):el xs i=a:=by unfold el;rw[Zh,h];rfl
theorem zaH(h:j<xs.length):xs[j]? = some (el xs j):=by rw[Ze h];unfold el;rw[Zh,Ze h];rfl
theorem zDb(h:xs.length<=j):el xs j=0:=by unfold el;rw[Zh,Xl h];rfl
def zrm(n j:Nat):el (List.replicate n (0:Rat)) j=0:=by unfold el;rw[Zh,Z9];split<;>rfl
def ziZ(hi:i<xs.length):el (xs.set i a) j=if i=j then a else el xs j:=by unfold el;rw[Zh,Zh,Xy];grind
theorem zyn{ys:List Rat}(d:xs.length=ys.length)(h:∀i,i<xs.length->el xs i=el ys i):xs=ys:=by apply Xf;grind[zaH,List.getElem?_eq_none]
theorem zaj{f g:Nat->Rat}:∀ {n:Nat},(∀i,i<n->f i=g i)->zai n f=zai n g
 | 0,_=>rfl
 | n+1,h=>by rw[zai,zai,zaj (λi hi=>h i ω),h n ω]
def zUD{f g:Nat->Rat}:∀ {n:Nat},(∀i,i<n->f i<=g i)->zai n f<=zai n g
 | 0,_=>XG
 | n+1,h=>by have h1:=zUD (n:=n) (λi hi=>h i ω);have d:=h n ω;rw[zai,zai];grind
def zgd:∀n:Nat,zai n (λ_=>0)=0
 | 0=>rfl
 | n+1=>by rw[zai,zgd n];grind
theorem zcn(h:∀i,i<n->f i=0):zai n f=0:=(zaj h).trans (zgd n)
def zcm(f g:Nat->Rat):∀n:Nat,zai n (λi=>f i+g i)=zai n f+zai n g
 | 0=>by simp only[zai];grind
 | n+1=>by rw[zai,zai,zai,zcm f g n];grind
theorem za7(f:Nat->Rat)(c:Rat):∀n:Nat,zai n (λi=>c*f i)=c*zai n f
 | 0=>by simp only[zai];grind
 | n+1=>by rw[zai,zai,za7 f c n];grind
def zb6(f:Nat->Rat)(c:Rat)(n:Nat):zai n (λi=>f i*c)=zai n f*c:=by rw[YK,<-za7];grind
def zbq(f:Nat->Nat->Rat)(m:Nat):∀n:Nat,zai n (λi=>zai m (λj=>f i j))=zai m (λj=>zai n (λi=>f i j))
 | 0=>by simp only[zai];rw[zgd]
 | n+1=>by rw[zai,zbq f m n,<-zcm];rfl
def zbI{f:Nat->Rat}{k:Nat}:∀ {n:Nat},k<n->(∀i,i<n->i≠k->f i=0)->zai n f=f k
 | 0,h,_=>absurd h (ZS _)
 | n+1,h,hz=>by rw[zai];by_cases e:k=n;grind[zcn];rw[zbI ω λi hi=>hz i ω,hz n ω ω];grind
def zh6{f:Nat->Rat}{m:Nat}:∀ {n:Nat},m<=n->(∀i,m<=i->i<n->f i=0)->zai n f=zai m f
 | 0,h,_=>by rw[Nat.le_zero.1 h]
 | n+1,h,hz=>by by_cases e:m=n+1;rw[e];rw[zai,zh6 (n:=n) ω λi h1 d=>hz i h1 ω,hz n ω ω];grind
def zdJ{k:Nat}(h:k<n):zai n f=f k+zai n (λi=>if i=k then 0 else f i):=by
 have e:zai n f=zai n (λi=>(if i=k then f k else 0)+(if i=k then 0 else f i)):=zaj λi _=>ψ
 rw[e,zcm,zbI (k:=k) h λi _ hi=>if_neg hi,if_pos rfl]
def en (L:List (List Rat)) (i j:Nat):Rat:=el (L.getD i []) j
def gset{α:Type}{L:List α}{a d:α}(hi:i<L.length):(L.set i a).getD j d=if i=j then a else L.getD j d:=by rw[Zh,Zh,Xy];grind
def zbU{α β:Type}(f:α->β)(l:List α)(h:i<l.length)(d:α)(e:β):(l.map f).getD i e=f (l.getD i d):=by rw[Zh,Zh,Z1,Ze h];rfl
def zcA(h:i<n)(d:Nat):(List.range n).getD i d=i:=by rw[Zh,XH h];rfl
theorem zaO{α:Type}{L:List α}{d:α}(hi:i<L.length):L[i]? = some (L.getD i d):=by rw[Ze hi,Zh,Ze hi];rfl
theorem getD_some{α:Type}{L:List α}{a d:α}(h:L[i]? = some a):L.getD i d=a:=by rw[Zh,h];rfl
def Reg (n:Nat) (M:Nat->Nat->Rat):Prop:=∀x:Nat->Rat,(∀i,i<n->zai n (λj=>M i j*x j)=0)->∀j,j<n->x j=0
theorem Reg.unique(h:Reg n M){x:Nat->Rat}(e:∀i,i<n->zai n (λj=>M i j*x j)=zai n (λj=>M i j*y j)):∀j,j<n->x j=y j:=by
 intro j hj;have:=h (λj=>x j+(-1)*y j) (λi hi=>by
  have d:zai n (λj=>M i j*(x j+(-1)*y j))=zai n (λj=>M i j*x j+(-1)*(M i j*y j)):=zaj λj _=>ψ
  rw[d,zcm,za7,e i hi];grind) j hj
 grind
def zqE(ex:∀v:Nat->Rat,∃x:Nat->Rat,∀i,i<n->zai n (λj=>M i j*x j)=v i){z:Nat->Rat}
  (e:∀j,j<n->zai n (λi=>y i*M i j)=zai n (λi=>z i*M i j)):∀i,i<n->y i=z i:=by
 intro k hk;obtain⟨x,l⟩:=ex λi=>if i=k then 1 else 0
 have d:∀y:Nat->Rat,zai n (λj=>zai n (λi=>y i*M i j)*x j)=y k:=by
  intro y;have f:zai n (λj=>zai n (λi=>y i*M i j)*x j)=zai n (λj=>zai n (λi=>y i*(M i j*x j))):=zaj λj _=>by rw[<-zb6];exact zaj λi _=>ψ
  rw[f,zbq];have g:zai n (λi=>zai n (λj=>y i*(M i j*x j)))=zai n (λi=>y i*(if i=k then 1 else 0)):=zaj λi hi=>by rw[za7,l i hi]
  rw[g,zbI hk λi _ hi=>by rw[if_neg hi];grind,if_pos rfl];grind
 rw[<-d y,<-d z];grind[zaj]
end Am
namespace Am
variable {L:List (List Rat)}{xs ys:List Rat}{c i j k n:Nat}{r:Rat}
structure LUv where
  lo:List (List Rat)
  up:List (List Rat)
  perm:List Nat
  odd:Bool
def zly (xs:List Rat) (r:Rat) (ys:List Rat):List Rat:=List.zipWith (λa b=>a+r*b) xs ys
theorem zdt(h:xs.length=ys.length):(zly xs r ys).length=xs.length:=by simp[zly];omega
def zmR{a b:Rat}(d:xs[k]? = some a)(e:ys[k]? = some b):(zly xs r ys)[k]? = some (a+r*b):=by simp[zly,VD,d,e]
def zuD(r:Rat)(h:xs.length=ys.length)(hk:k<xs.length):el (zly xs r ys) k=el xs k+r*el ys k :=
 znd (zmR (zaH hk) (zaH ω))
def sw {α:Type} (L:List α) (i j:Nat) (d:α):List α:=(L.set i (L.getD j d)).set j (L.getD i d)
def zja{α:Type}(L:List α)(i j:Nat)(d:α):(sw L i j d).length=L.length:=by simp[sw]
def tw (i j k:Nat):Nat:=if k=j then i else if k=i then j else k
def zlp(hi:i<n)(hj:j<n)(hk:k<n):tw i j k<n:=by unfold tw;grind
def zxO(i j k:Nat):tw i j (tw i j k)=k:=by unfold tw;grind
def zgp{α:Type}{L:List α}{d:α}(hi:i<L.length)(hj:j<L.length)(k:Nat):(sw L i j d).getD k d=L.getD (tw i j k) d:=by unfold sw tw;rw[gset (by simpa using hj),gset hi];grind
def zaT (c:Nat) (lo up:List (List Rat)):Nat->List (List Rat) × List (List Rat)
  | 0=>(lo,up)
  | t + 1 => ((zaT c lo up t).1.set (c + 1 + t) (((zaT c lo up t).1.getD (c + 1 + t) []).set c (en (zaT c lo up t).2 (c + 1 + t) c / en (zaT c lo up t).2 c c)),
      (zaT c lo up t).2.set (c+1+t) (zly ((zaT c lo up t).2.getD (c+1+t) []) (-(en (zaT c lo up t).2 (c+1+t) c/en (zaT c lo up t).2 c c)) ((zaT c lo up t).2.getD c [])))
structure Sq (n:Nat) (F:LUv):Prop where
  ll:F.lo.length=n
  lr:∀i,i<n->(F.lo.getD i []).length=n
  ul:F.up.length=n
  ur:∀i,i<n->(F.up.getD i []).length=n
  pl:F.perm.length=n
def LUv.turn (F:LUv) (c k:Nat):LUv:=⟨(sw F.lo c k []).set c (((sw F.lo c k []).getD c []).set c 1),sw F.up c k [],sw F.perm c k 0,if c=k then F.odd else !F.odd⟩
def LUv.step (F:LUv) (c k:Nat):LUv:=let G:=F.turn c k;{ G with lo:=(zaT c G.lo G.up (F.up.length-(c+1))).1,up:=(zaT c G.lo G.up (F.up.length-(c+1))).2 }
structure LUinv (n:Nat) (M:Nat->Nat->Rat) (c:Nat) (F:LUv):Prop where
  sq:Sq n F
  pr:∀i,i<n->F.perm.getD i 0<n
  pi:∀i j,i<n->j<n->F.perm.getD i 0=F.perm.getD j 0->i=j
  sum:∀i,i<n->∀j,j<n->M (F.perm.getD i 0) j=zai c (λt=>en F.lo i t*en F.up t j)+(if c<=i then en F.up i j else 0)
  one:∀i,i<c->en F.lo i i=1
  tri:∀i t,i<n->t<n->i<t\/c<=t->en F.lo i t=0
  zero:∀t i,t<c->i<n->t<i->en F.up i t=0
  piv:∀t,t<c->en F.up t t≠0
def zi2{r:List Rat}(hi:i<L.length)(k j:Nat):en (L.set i r) k j=if i=k then el r j else en L k j:=by unfold en;rw[gset hi];split<;>rfl
def zyp(n k i j:Nat):en (List.replicate n (List.replicate k (0:Rat))) i j=0:=by
 unfold en;rw[Zh,Z9];split
 simp[zrm];rfl
def zfU(c n:Nat)(lo up:List (List Rat))(h1:lo.length=n)(l:∀i,i<n->(lo.getD i []).length=n)(p:up.length=n)(q:∀i,i<n->(up.getD i []).length=n)(hc:c<n) :
  ∀t,c+1+t<=n ->
   ((zaT c lo up t).1.length=n/\(∀i,i<n->((zaT c lo up t).1.getD i []).length=n)/\(zaT c lo up t).2.length=n/\(∀i,i<n->((zaT c lo up t).2.getD i []).length=n)) /\
   (∀i,i<n->∀j,j<n->en (zaT c lo up t).2 i j=if c<i/\i<c+1+t then en up i j + -(en up i c/en up c c)*en up c j else en up i j) /\
   (∀i,i<n->∀j,j<n->en (zaT c lo up t).1 i j=if (c<i/\i<c+1+t)/\j=c then en up i c/en up c c else en lo i j)
 | 0,_=>by refine⟨⟨h1,l,p,q⟩,λi _ j _=>?_,λi _ j _=>?_⟩;rw[if_neg ω];rfl;rw[if_neg ω];rfl
 | t+1,ht=>by
  obtain⟨⟨a1,a2,a3,a4⟩,f,r⟩:=zfU c n lo up h1 l p q hc t ω;have k:en (zaT c lo up t).2 (c+1+t) c=en up (c+1+t) c:=by rw[f _ ω _ hc,if_neg ω]
  have g:∀j,j<n->en (zaT c lo up t).2 c j=en up c j:=λj hj=>by rw[f _ hc _ hj,if_neg ω]
  refine⟨⟨by simp[zaT,a1],λi hi=>?_,by simp[zaT,a3],λi hi=>?_⟩,λi hi j hj=>?_,λi hi j hj=>?_⟩;show(List.getD (List.set _ _ _) i []).length=n
  rw[gset ω];split
  rw[ZW];exact a2 _ ω;exact a2 _ hi;show(List.getD (List.set _ _ _) i []).length=n
  rw[gset ω];split
  rw[zdt (by rw[a4 _ ω,a4 _ hc])];exact a4 _ ω;exact a4 _ hi;show en (List.set _ _ _) i j=_
  rw[zi2 ω];by_cases e:c+1+t=i;subst e;rw[if_pos rfl,if_pos ω,zuD _ (by rw[a4 _ ω,a4 _ hc]) (by rw[a4 _ hi];exact hj)];show en (zaT c lo up t).2 (c+1+t) j + -(en (zaT c lo up t).2 (c+1+t) c/en (zaT c lo up t).2 c c)*en (zaT c lo up t).2 c j=_
  rw[k,g _ hc,g _ hj,f _ hi _ hj,if_neg ω];rw[if_neg e,f _ hi _ hj];by_cases d:c<i/\i<c+1+t;rw[if_pos d,if_pos ω];rw[if_neg d,if_neg ω];show en (List.set _ _ _) i j=_
  rw[zi2 ω];by_cases e:c+1+t=i;subst e;rw[if_pos rfl,ziZ (by rw[a2 _ hi];exact hc)];by_cases d:c=j;rw[if_pos d,if_pos ω,k,g _ hc];rw[if_neg d,if_neg ω];show en (zaT c lo up t).1 (c+1+t) j=_
  rw[r _ hi _ hj,if_neg ω];rw[if_neg e,r _ hi _ hj];by_cases d:(c<i/\i<c+1+t)/\j=c;rw[if_pos d,if_pos ω];rw[if_neg d,if_neg ω]
def LUinv.start(h:L.length=n)(hr:∀i,i<n->(L.getD i []).length=n):LUinv n (en L) 0 ⟨List.replicate n (List.replicate n 0),L,List.range n,false⟩:=by
 have hg:∀i,i<n->(List.range n).getD i 0=i:=λi hi=>by rw[Zh,XH hi];rfl
 refine⟨⟨σ,λi hi=>?_,h,hr,σ⟩,λi hi=>by rw[hg i hi];exact hi,λi j hi hj e=>by rw[hg i hi,hg j hj]at e;exact e,λi hi j _=>?_,λi hi=>absurd hi (ZS _),λi t _ _ _=>zyp _ _ _ _,λt i hi=>absurd hi (ZS _),λt hi=>absurd hi (ZS _)⟩;rw[Zh,Z9,if_pos hi];simp;rw[hg i hi,if_pos (Zb _)];simp only[zai];grind
def zvA{F:LUv}(s:Sq n F)(hc:c<n)(hk:k<n):∀i j,i<n->j<n->en (F.turn c k).lo i j=if i=c/\j=c then 1 else en F.lo (tw c k i) j:=by
 intro i j hi hj;show en (List.set _ _ _) i j=_
 rw[zi2 (by rw[zja,s.ll];exact hc)];by_cases e:c=i;subst e;rw[if_pos rfl,ziZ (by rw[zgp (by rw[s.ll];exact hc) (by rw[s.ll];exact hk),s.lr _ (zlp hc hk hc)];exact hc)];by_cases d:c=j;rw[if_pos d,if_pos ⟨rfl,d.symm⟩];rw[if_neg d,if_neg ω,zgp (by rw[s.ll];exact hc) (by rw[s.ll];exact hk)];rfl;rw[if_neg e,if_neg ω];unfold en;rw[zgp (by rw[s.ll];exact hc) (by rw[s.ll];exact hk)]
def zlo{F:LUv}(s:Sq n F)(hc:c<n)(hk:k<n):∀i j,en (F.turn c k).up i j=en F.up (tw c k i) j:=by
 intro i j;show en (sw _ _ _ _) i j=_
 unfold en;rw[zgp (by rw[s.ul];exact hc) (by rw[s.ul];exact hk)]
def znV{F:LUv}(s:Sq n F)(hc:c<n)(hk:k<n):Sq n (F.turn c k):=by
 refine⟨?_,λi hi=>?_,?_,λi hi=>?_,?_⟩;show(List.set _ _ _).length=n;rw[ZW,zja,s.ll]
 show(List.getD (List.set _ _ _) i []).length=n
 rw[gset (by rw[zja,s.ll];exact hc)];split
 rw[ZW,zgp (by rw[s.ll];exact hc) (by rw[s.ll];exact hk)];exact s.lr _ (zlp hc hk hc);rw[zgp (by rw[s.ll];exact hc) (by rw[s.ll];exact hk)];exact s.lr _ (zlp hc hk hi);show(sw _ _ _ _).length=n;rw[zja,s.ul]
 show(List.getD (sw _ _ _ _) i []).length=n
 rw[zgp (by rw[s.ul];exact hc) (by rw[s.ul];exact hk)];exact s.ur _ (zlp hc hk hi);show(sw _ _ _ _).length=n;rw[zja,s.pl]
def zvt{F:LUv}(s:Sq n F)(hc:c<n)(hk:k<n):∀i j,i<n->j<n->en (F.step c k).lo i j=if c<i/\j=c then en (F.turn c k).up i c/en (F.turn c k).up c c else en (F.turn c k).lo i j:=by
 have t:=znV s hc hk;obtain⟨_,_,d⟩:=zfU c n (F.turn c k).lo (F.turn c k).up t.ll t.lr t.ul t.ur hc (n-(c+1)) ω;intro i j hi hj;show en (zaT c _ _ (F.up.length-(c+1))).1 i j=_
 rw[s.ul,d i hi j hj];grind
def zvu{F:LUv}(s:Sq n F)(hc:c<n)(hk:k<n):∀i j,i<n->j<n->en (F.step c k).up i j=if c<i then en (F.turn c k).up i j + -(en (F.turn c k).up i c/en (F.turn c k).up c c)*en (F.turn c k).up c j else en (F.turn c k).up i j:=by
 have t:=znV s hc hk;obtain⟨_,d,_⟩:=zfU c n (F.turn c k).lo (F.turn c k).up t.ll t.lr t.ul t.ur hc (n-(c+1)) ω;intro i j hi hj;show en (zaT c _ _ (F.up.length-(c+1))).2 i j=_
 rw[s.ul,d i hi j hj];grind
def zqB{F:LUv}(s:Sq n F)(hc:c<n)(hk:k<n):Sq n (F.step c k):=by
 have t:=znV s hc hk;obtain⟨⟨a1,a2,a3,a4⟩,_,_⟩:=zfU c n (F.turn c k).lo (F.turn c k).up t.ll t.lr t.ul t.ur hc (n-(c+1)) ω;refine⟨?_,?_,?_,?_,t.pl⟩;show(zaT c _ _ (F.up.length-(c+1))).1.length=n;rw[s.ul];exact a1
 show ∀i,i<n->(List.getD (zaT c _ _ (F.up.length-(c+1))).1 i []).length=n;rw[s.ul];exact a2
 show(zaT c _ _ (F.up.length-(c+1))).2.length=n;rw[s.ul];exact a3
 show ∀i,i<n->(List.getD (zaT c _ _ (F.up.length-(c+1))).2 i []).length=n;rw[s.ul];exact a4
def LUinv.step{n:Nat}{M:Nat->Nat->Rat}{c k:Nat}{F:LUv}(h:LUinv n M c F)(hc:c<n)(K:c<=k)(hk:k<n)(H:en F.up k c≠0):LUinv n M (c+1) (F.step c k):=by
 have s:=h.sq;have q:=zvA s (k:=k) hc hk;have f:=zlo s (k:=k) hc hk;have y:∀i,(F.turn c k).perm.getD i 0=F.perm.getD (tw c k i) 0:=λi=>zgp (by rw[s.pl];exact hc) (by rw[s.pl];exact hk) i
 have l:∀i,i<c->tw c k i=i:=λi hi=>by unfold tw;rw[if_neg ω,if_neg ω]
 have B:∀i,c<=i->c<=tw c k i:=λi hi=>by unfold tw;grind
 have p:∀i,i<n->tw c k i<n:=λi hi=>zlp hc hk hi
 have tc:tw c k c=k:=by unfold tw;by_cases e:c=k<;>simp[e]
 have I:en (F.turn c k).up c c≠0:=by rw[f,tc];exact H
 have A:=zvt s (k:=k) hc hk;have r:=zvu s (k:=k) hc hk;refine⟨zqB s hc hk,λi hi=>?_,λi j hi hj e=>?_,λi hi j hj=>?_,λi hi=>?_,λi t hi g hit=>?_,λt i g hi D=>?_,λt g=>?_⟩;show(F.turn c k).perm.getD i 0<n;rw[y];exact h.pr _ (p i hi)
 have C:(F.turn c k).perm.getD i 0=(F.turn c k).perm.getD j 0:=e;rw[y,y]at C;have:=h.pi _ _ (p i hi) (p j hj) C;rw[<-zxO c k i,this,zxO];show M ((F.turn c k).perm.getD i 0) j=_
 rw[y,h.sum _ (p i hi) j hj];have G:zai (c+1) (λt=>en (F.step c k).lo i t*en (F.step c k).up t j)=zai c (λt=>en F.lo (tw c k i) t*en F.up t j)+en (F.step c k).lo i c*en (F.step c k).up c j:=by
  rw[zai]
  congr 1
  refine zaj λt g=>?_;rw[A i t hi ω,if_neg ω,q i t hi ω,if_neg ω,r t j ω hj,if_neg ω,f,l t g]
 rw[G,A i c hi hc,r c j hc hj,if_neg (X5 c),r i j hi hj];rcases XM i c with d | d | d;rw[l i d,if_neg ω,if_neg ω,if_neg ω,q i c hi hc,if_neg ω,l i d,h.tri i c hi hc ω];grind;subst d;rw[if_pos (B i (Za _)),if_neg ω,if_neg ω,q i i hi hi,if_pos ⟨rfl,rfl⟩,f];grind;grind;rw[A i i ω ω,if_neg ω,q i i ω ω];by_cases e:i=c;rw[if_pos ⟨e,e⟩];rw[if_neg ω,l i ω];exact h.one i ω;rw[A i t hi g,if_neg ω,q i t hi g,if_neg ω];refine h.tri _ _ (p i hi) g ?_;grind;rw[r i t hi ω];by_cases e:t=c;grind;have E:en (F.turn c k).up i t=0:=by rw[f];refine h.zero t _ ω (p i hi) ?_;by_cases d:i<c;rw[l i d];exact D;have:=B i ω;omega
 by_cases d:c<i;have J:en (F.turn c k).up c t=0:=by rw[f,tc];exact h.zero t k ω hk ω
 rw[if_pos d,E,J];grind;grind;rw[r t t ω ω,if_neg ω];by_cases e:t=c;grind;rw[f,l t ω];exact h.piv t ω
end Am
namespace Am
variable {xs:List Rat}{c i j n:Nat}{M:Nat->Nat->Rat}
def zeg (up:List (List Rat)) (c:Nat):Nat->Nat->Nat
  | 0,k=>k
  | f+1,k=>if en up k c=0 then zeg up c f (k+1)else k
def ziG(up:List (List Rat))(c:Nat):∀f k,k<=zeg up c f k/\zeg up c f k<=k+f/\(∀i,k<=i->i<zeg up c f k->en up i c=0)/\(zeg up c f k<k+f->en up (zeg up c f k) c≠0)
 | 0,k=>⟨Za _,Za _,λi h1 g=>absurd g (by simp only[zeg];omega),λh=>absurd h (by simp only[zeg];omega)⟩
 | f+1,k=>by
  unfold zeg;split
  rename_i h;obtain⟨a,b,c',d⟩:=ziG up c f (k+1);refine⟨ω,ω,λi h1 g=>?_,λh1=>d ω⟩;by_cases e:i=k;rw[e];exact h;exact c' i ω g;grind
def zsD (n:Nat):Nat->Nat->LUv->Option LUv
  | 0,_,F=>some F
  | f+1,c,F=>if zeg F.up c (n-c) c=n then none else zsD n f (c+1) (F.step c (zeg F.up c (n-c) c))
def zg4 (n:Nat) (L:List (List Rat)):LUv:=⟨List.replicate n (List.replicate n 0),L,List.range n,false⟩
def zoN (n:Nat) (L:List (List Rat)):Option LUv:=zsD n n 0 (zg4 n L)
def zji (U:Nat->Nat->Rat) (n:Nat) (v:Nat->Rat):Nat->Nat->Rat
  | 0,_=>0
  | f+1,j=>if j=n-(f+1)then (v (n-(f+1))-zai n (λt=>if n-(f+1)<t then U (n-(f+1)) t*zji U n v f t else 0))/U (n-(f+1)) (n-(f+1))else zji U n v f j
def ziL(U:Nat->Nat->Rat)(n:Nat)(v:Nat->Rat)(f j:Nat):zji U n v (f+1) j=if j=n-(f+1)then (v (n-(f+1))-zai n (λt=>if n-(f+1)<t then U (n-(f+1)) t*zji U n v f t else 0))/U (n-(f+1)) (n-(f+1))else zji U n v f j:=rfl
def zjb(U:Nat->Nat->Rat)(n:Nat)(v:Nat->Rat)(q:∀t,t<n->U t t≠0)(l:∀t i,t<n->i<n->t<i->U i t=0) :
  ∀f,f<=n->∀i,n-f<=i->i<n->zai n (λt=>U i t*zji U n v f t)=v i
 | 0,_=>λi h1 g=>absurd h1 ω
 | f+1,hf=>λi h1 g=>by
  have hk:n-(f+1)<n:=ω;by_cases e:i=n-(f+1);rw[zdJ (k:=i) g];have r:zai n (λt=>if t=i then 0 else U i t*zji U n v (f+1) t)=zai n (λt=>if i<t then U i t*zji U n v f t else 0):=zaj λt j=>by by_cases d:t=i;rw[if_pos d,if_neg ω];rw[if_neg d];by_cases p:i<t;rw[if_pos p,ziL,if_neg ω];grind
  rw[r];have d:zji U n v (f+1) i=(v i-zai n (λt=>if i<t then U i t*zji U n v f t else 0))/U i i:=by rw[ziL,if_pos e,<-e]
  rw[d];have:=q i g;grind;have s:=zjb U n v q l f ω i ω g;rw[<-s];refine zaj λt j=>?_;rw[ziL];grind
def zi9{F:LUv}(h:LUinv n M c F)(hi:i<n)(x:Nat->Rat) :
  zai n (λj=>M (F.perm.getD i 0) j*x j)=zai c (λt=>en F.lo i t*zai n (λj=>en F.up t j*x j))+(if c<=i then zai n (λj=>en F.up i j*x j)else 0):=by
 have d:zai n (λj=>M (F.perm.getD i 0) j*x j)=zai n (λj=>zai c (λt=>en F.lo i t*(en F.up t j*x j))+(if c<=i then en F.up i j*x j else 0)):=zaj λj hj=>by
  rw[h.sum i hi j hj];have:zai c (λt=>en F.lo i t*(en F.up t j*x j))=zai c (λt=>en F.lo i t*en F.up t j)*x j:=by rw[<-zb6];grind
  rw[this];split<;>grind
 rw[d,zcm,zbq]
 congr 1
 simp[zaj,za7];split
 rfl;simp[zgd]
def zh0{F:LUv}(h:LUinv n M c F):∀k,k<n->∃i,i<n/\F.perm.getD i 0=k:=by
 have y:∀(m:Nat) (p:Nat->Nat),(∀i,i<m->p i<m)->(∀i j,i<m->j<m->p i=p j->i=j)->∀k,k<m->∃i,i<m/\p i=k:=by
  intro m
  induction m with
  | zero=>omega
  | succ m ih =>
   intro p h1 f k hk;by_cases l:p m=k;grind
   -- the place m is given away: what is sent to m goes where m goes
   have q:∀i,i<m->(if p i=m then p m else p i)<m:=ψ;have r:∀i j,i<m->j<m->(if p i=m then p m else p i)=(if p j=m then p m else p j)->i=j:=ψ;by_cases s:k=m;subst s
   -- somebody is sent to m
   obtain⟨i,hi,e⟩:=ih (λi=>if p i=k then p k else p i) q r (p k) (by have:=h1 k ω;omega);grind;obtain⟨i,hi,e⟩:=ih (λi=>if p i=m then p m else p i) q r k ω;grind
 exact y n (λi=>F.perm.getD i 0) h.pr h.pi
def LUinv.stuck{F:LUv}(h:LUinv n M c F)(hc:c<n)(p:∀i,c<=i->i<n->en F.up i c=0):¬Reg n M:=by
 intro hr
 -- x c = 1,nothing behind,and back from the triangle ahead of it
 let x:Nat->Rat:=λj=>if j<c then zji (en F.up) c (λi => - en F.up i c) c j else if j=c then 1 else 0
 have f:∀i,i<n->zai n (λj=>en F.up i j*x j)=zai c (λj=>en F.up i j*zji (en F.up) c (λi => - en F.up i c) c j)+en F.up i c:=by
  intro i hi;rw[zh6 (m:=c+1) ω λj h1 s=>by show en F.up i j*(if j<c then _ else if j=c then 1 else 0)=0;rw[if_neg ω,if_neg ω];grind];rw[zai]
  congr 1
  exact zaj λj hj=>by show en F.up i j*(if j<c then _ else if j=c then 1 else 0)=_;rw[if_pos hj]
  show en F.up i c*(if c<c then _ else if c=c then 1 else 0)=_;rw[if_neg ω,if_pos rfl];grind
 have r:∀i,i<c->zai n (λj=>en F.up i j*x j)=0:=by intro i hi;rw[f i ω,zjb (en F.up) c _ (λt d=>h.piv t d) (λt i d y l=>h.zero t i d ω l) c (Za _) i ω hi];grind
 have q:∀i,c<=i->i<n->zai n (λj=>en F.up i j*x j)=0:=by intro i hi e;rw[f i e,p i hi e,zcn λj hj=>by rw[h.zero j i hj e ω];grind];grind
 have g:∀k,k<n->zai n (λj=>M k j*x j)=0:=by
  intro k hk;obtain⟨i,hi,rfl⟩:=zh0 h k hk;rw[zi9 h hi,zcn λt d=>by rw[r t d];grind];split
  rw[q i (by assumption) hi];grind;grind
 have:=hr x g c hc;grind
def zoM{n:Nat}{M:Nat->Nat->Rat}:∀f c F,c+f=n->LUinv n M c F->(∃G,zsD n f c F=some G/\LUinv n M n G)\/(zsD n f c F=none/\¬Reg n M)
 | 0,c,F,e,h=>.inl ⟨F,rfl,by obtain rfl:c=n:=ω;exact h⟩
 | f+1,c,F,e,h=>by
  obtain⟨a,b,j,g⟩:=ziG F.up c (n-c) c;unfold zsD;split
  rename_i h1;exact .inr ⟨rfl,h.stuck ω λi d k=>j i d ω⟩;rename_i h1;exact zoM f (c+1) _ ω (h.step ω a ω (g ω))
def zoO{L:List (List Rat)}(h:L.length=n)(hr:∀i,i<n->(L.getD i []).length=n):(∃G,zoN n L=some G/\LUinv n (en L) n G)\/(zoN n L=none/\¬Reg n (en L)) :=
 zoM n 0 _ ω (LUinv.start h hr)
def fwd (F:LUv) (b:List Rat):Nat->List Rat
  | 0=>[]
  | k+1=>fwd F b k++[el b (F.perm.getD k 0)-zai k (λc=>en F.lo k c*el (fwd F b k) c)]
theorem zcx(F:LUv)(b:List Rat):∀k,(fwd F b k).length=k
 | 0=>rfl
 | k+1=>by simp[fwd,zcx F b k]
def zkF{ys:List Rat}(h:i<xs.length):el (xs++ys) i=el xs i:=by unfold el;rw[Zh,Zh,Z4 h]
def zoz{a:Rat}:el (xs++[a]) xs.length=a:=by unfold el;rw[Zh,ZN (Za _)];simp
def zoG(F:LUv)(b:List Rat){i:Nat}:∀ {k:Nat},i<k->el (fwd F b k) i=el b (F.perm.getD i 0)-zai i (λc=>en F.lo i c*el (fwd F b i) c)
 | 0,h=>absurd h (ZS _)
 | k+1,h=>by
  by_cases e:i=k;subst e
  conv=>lhs;unfold fwd
  have:=zoz (xs:=fwd F b i) (a:=el b (F.perm.getD i 0)-zai i (λc=>en F.lo i c*el (fwd F b i) c));rw[zcx]at this;exact this
  conv=>lhs;unfold fwd
  rw[zkF (by rw[zcx];omega)];exact zoG F b ω
def zrx(F:LUv)(b:List Rat):∀ {k:Nat},i<j->j<=k->el (fwd F b k) i=el (fwd F b j) i:=by intro k h1 d;rw[zoG F b ω,zoG F b h1]
def bwd (F:LUv) (n:Nat) (z:List Rat):Nat->List Rat
  | 0=>[]
  | f+1=>(el z (n-(f+1))-zai f (λc=>en F.up (n-(f+1)) (n-f+c)*el (bwd F n z f) c))/en F.up (n-(f+1)) (n-(f+1))::bwd F n z f
theorem zpC(F:LUv)(n:Nat)(z:List Rat):∀f,(bwd F n z f).length=f
 | 0=>rfl
 | f+1=>by simp[bwd,zpC F n z f]
def zlL(F:LUv)(n:Nat)(z:List Rat):∀ {f j:Nat},j<f->∀i,el (bwd F n z f) (j+i)=el (bwd F n z (f-j)) i
 | 0,_,h,_=>absurd h (ZS _)
 | f+1,0,_,i=>by rw[Xc];rfl
 | f+1,j+1,h,i=>by rw[show j+1+i=(j+i)+1 by omega,show f+1-(j+1)=f-j by omega];exact zlL F n z ω i
def zaR (n:Nat) (F:LUv) (b:List Rat):List Rat:=bwd F n (fwd F b n) n
def zgc(g:Nat->Rat)(a:Nat):∀b,zai (a+b) g=zai a g+zai b (λc=>g (a+c))
 | 0=>by simp only[zai,Yl];grind
 | b+1=>by rw[show a+(b+1)=(a+b)+1 by omega,zai,zai,zgc g a b];grind
theorem zlb(n:Nat)(F:LUv)(b:List Rat):(zaR n F b).length=n:=zpC _ _ _ _
def zl5(n:Nat)(F:LUv)(b:List Rat)(h:i<n) :
  el (zaR n F b) i=(el (fwd F b n) i-zai (n-(i+1)) (λc=>en F.up i (i+1+c)*el (zaR n F b) (i+1+c)))/en F.up i i:=by
 have d:=zlL F n (fwd F b n) (f:=n) (j:=i) h 0;unfold zaR;rw[Yl]at d;rw[d,show n-i=(n-(i+1))+1 by omega];show(el (fwd F b n) (n-(n-(i+1)+1))-_)/_=_
 rw[show n-(n-(i+1)+1)=i by omega]
 congr 2
 refine zaj λc hc=>?_;rw[show n-(n-(i+1))=i+1 by omega]
 congr 1
 exact(zlL F n (fwd F b n) (f:=n) (j:=i+1) ω c).symm
def zsm{F:LUv}(h:LUinv n M n F)(b:List Rat)(hi:i<n):zai n (λt=>en F.up i t*el (zaR n F b) t)=el (fwd F b n) i:=by have e:=zl5 n F b hi;have g:=h.piv i hi;have d:=zgc (λt=>en F.up i t*el (zaR n F b) t) (i+1) (n-(i+1));rw[show i+1+(n-(i+1))=n by omega,zai,zcn (n:=i) (λt f=>by rw[h.zero t i ω hi f];grind)]at d;rw[d];grind
def zsl{F:LUv}(h:LUinv n M n F)(b:List Rat){k:Nat}(hk:k<n):zai n (λj=>M k j*el (zaR n F b) j)=el b k:=by
 obtain⟨i,hi,rfl⟩:=zh0 h k hk;rw[zi9 h hi,if_neg ω];have e:zai n (λt=>en F.lo i t*zai n (λj=>en F.up t j*el (zaR n F b) j))=zai n (λt=>en F.lo i t*el (fwd F b n) t):=zaj λt d=>by rw[zsm h b d]
 have g:=zh6 (f:=λt=>en F.lo i t*el (fwd F b n) t) (m:=i+1) (n:=n) ω λt h1 p=>by rw[h.tri i t hi p ω];grind
 rw[e,g,zai,h.one i hi,zoG F b hi];have l:zai i (λt=>en F.lo i t*el (fwd F b n) t)=zai i (λt=>en F.lo i t*el (fwd F b i) t):=zaj λt d=>by rw[zrx F b d ω]
 rw[l];grind
def zsx{p:Nat->Nat}(g:Nat->Rat)(h1:∀i,i<n->p i<n)(f:∀i j,i<n->j<n->p i=p j->i=j)(l:∀k,k<n->∃i,i<n/\p i=k):zai n (λk=>g (p k))=zai n g:=by
 have d:zai n (λk=>g (p k))=zai n (λk=>zai n (λi=>if i=p k then g i else 0)):=zaj λk hk=>by rw[zbI (k:=p k) (h1 k hk) λi _ hi=>if_neg hi,if_pos rfl]
 rw[d,zbq];refine zaj λi hi=>?_;obtain⟨k,hk,e⟩:=l i hi;rw[zbI (k:=k) hk λj hj q=>if_neg λr=>q (f j k hj hk ω),if_pos e.symm]
def zbX (F:LUv) (c:List Rat):Nat->List Rat
  | 0=>[]
  | k+1=>zbX F c k++[(el c k-zai k (λr=>en F.up r k*el (zbX F c k) r))/en F.up k k]
theorem zbT(F:LUv)(c:List Rat):∀k,(zbX F c k).length=k
 | 0=>rfl
 | k+1=>by simp[zbX,zbT F c k]
def zk1(F:LUv)(b:List Rat){i:Nat}:∀ {k:Nat},i<k->el (zbX F b k) i=(el b i-zai i (λc=>en F.up c i*el (zbX F b i) c))/en F.up i i
 | 0,h=>absurd h (ZS _)
 | k+1,h=>by
  by_cases e:i=k;subst e
  conv=>lhs;unfold zbX
  have:=zoz (xs:=zbX F b i) (a:=(el b i-zai i (λc=>en F.up c i*el (zbX F b i) c))/en F.up i i);rw[zbT]at this;exact this
  conv=>lhs;unfold zbX
  rw[zkF (by rw[zbT];omega)];exact zk1 F b ω
def znE(F:LUv)(b:List Rat):∀ {k:Nat},i<j->j<=k->el (zbX F b k) i=el (zbX F b j) i:=by intro k h1 d;rw[zk1 F b ω,zk1 F b h1]
def zlK (F:LUv) (n:Nat) (z:List Rat):Nat->List Rat
  | 0=>[]
  | f+1=>(el z (n-(f+1))-zai f (λc=>en F.lo (n-f+c) (n-(f+1))*el (zlK F n z f) c))::zlK F n z f
theorem zmU(F:LUv)(n:Nat)(z:List Rat):∀f,(zlK F n z f).length=f
 | 0=>rfl
 | f+1=>by simp[zlK,zmU F n z f]
def zka(F:LUv)(n:Nat)(z:List Rat):∀ {f j:Nat},j<f->∀i,el (zlK F n z f) (j+i)=el (zlK F n z (f-j)) i
 | 0,_,h,_=>absurd h (ZS _)
 | f+1,0,_,i=>by rw[Xc];rfl
 | f+1,j+1,h,i=>by rw[show j+1+i=(j+i)+1 by omega,show f+1-(j+1)=f-j by omega];exact zka F n z ω i
def luW (n:Nat) (F:LUv) (c:List Rat):List Rat:=zlK F n (zbX F c n) n
def zAY(n:Nat)(F:LUv)(b:List Rat):(luW n F b).length=n:=zmU _ _ _ _
def zyu(n:Nat)(F:LUv)(b:List Rat)(h:i<n) :
  el (luW n F b) i=el (zbX F b n) i-zai (n-(i+1)) (λc=>en F.lo (i+1+c) i*el (luW n F b) (i+1+c)):=by
 have d:=zka F n (zbX F b n) (f:=n) (j:=i) h 0;unfold luW;rw[Yl]at d;rw[d,show n-i=(n-(i+1))+1 by omega];show(el (zbX F b n) (n-(n-(i+1)+1))-_)=_
 rw[show n-(n-(i+1)+1)=i by omega]
 congr 1
 refine zaj λc hc=>?_;rw[show n-(n-(i+1))=i+1 by omega]
 congr 1
 exact(zka F n (zbX F b n) (f:=n) (j:=i+1) ω c).symm
def back (p:List Nat) (w:List Rat):Nat->List Rat->List Rat
  | 0,y=>y
  | k+1,y=>(back p w k y).set (p.getD k 0) (el w k)
def zjk(p:List Nat)(w:List Rat)(y:List Rat):∀k,(back p w k y).length=y.length
 | 0=>rfl
 | k+1=>by simp[back,zjk p w y k]
def zpA{n:Nat}{p:List Nat}(w y:List Rat)(f:y.length=n)(h1:∀i,i<n->p.getD i 0<n)(d:∀i j,i<n->j<n->p.getD i 0=p.getD j 0->i=j):∀k,k<=n->∀i,i<k->el (back p w k y) (p.getD i 0)=el w i
 | 0,_,i,hi=>absurd hi (ZS _)
 | k+1,hk,i,hi=>by
  show el (List.set _ _ _) _=_
  rw[ziZ (by rw[zjk,f];grind)];by_cases e:p.getD k 0=p.getD i 0;rw[if_pos e,d k i ω ω e];rw[if_neg e];exact zpA w y f h1 d k ω i (by have:i≠k:=λg=>e (by rw[g]);omega)
def zcq (n:Nat) (F:LUv) (c:List Rat):List Rat:=back F.perm (luW n F c) n (List.replicate n 0)
theorem zoP(n:Nat)(F:LUv)(c:List Rat):(zcq n F c).length=n:=by unfold zcq;rw[zjk];simp
def zla{F:LUv}(h:LUinv n M n F)(c:List Rat)(hj:j<n):zai n (λi=>el (zcq n F c) i*M i j)=el c j:=by
 rw[<-zsx (p:=λi=>F.perm.getD i 0) _ h.pr h.pi (zh0 h)];have g:zai n (λk=>el (zcq n F c) (F.perm.getD k 0)*M (F.perm.getD k 0) j)=zai n (λk=>zai n (λt=>el (luW n F c) k*(en F.lo k t*en F.up t j))):=zaj λk hk=>by unfold zcq;rw[zpA _ _ σ h.pr h.pi n (Za _) k hk,h.sum k hk j hj,if_neg ω,za7];grind
 rw[g,zbq];have l:∀t,t<n->zai n (λk=>el (luW n F c) k*(en F.lo k t*en F.up t j))=el (zbX F c n) t*en F.up t j:=by
  intro t d;have q:zai n (λk=>el (luW n F c) k*(en F.lo k t*en F.up t j))=zai n (λk=>en F.lo k t*el (luW n F c) k)*en F.up t j:=by rw[<-zb6];exact zaj λk _=>ψ
  have e:=zgc (λk=>en F.lo k t*el (luW n F c) k) (t+1) (n-(t+1));rw[show t+1+(n-(t+1))=n by omega,zai,h.one t d,zcn (n:=t) (λk hk=>by rw[h.tri k t ω d ω];grind)]at e;rw[q,e,zyu n F c d];generalize zai (n-(t+1)) (λx=>en F.lo (t+1+x) t*el (luW n F c) (t+1+x))=s;grind
 rw[zaj l];have r:=zh6 (f:=λt=>el (zbX F c n) t*en F.up t j) (m:=j+1) (n:=n) ω λt h1 A=>by rw[h.zero j t hj A ω];grind
 rw[r,zai,zk1 F c hj];have y:zai j (λt=>el (zbX F c n) t*en F.up t j)=zai j (λt=>en F.up t j*el (zbX F c j) t):=zaj λt d=>by rw[znE F c d ω];grind
 have B:=h.piv j hj;rw[y];grind
def LUinv.reg{F:LUv}(h:LUinv n M n F):Reg n M:=by
 intro x f j hj
 -- by what makes the unit row j
 have g:∀c:List Rat,zai n (λj=>el c j*x j)=0:=by
  intro c;have d:zai n (λj=>el c j*x j)=zai n (λj=>zai n (λi=>el (zcq n F c) i*(M i j*x j))):=zaj λj hj=>by rw[<-zla h c hj,<-zb6];exact zaj λi _=>ψ
  rw[d,zbq];simp_all[zcn,za7]
 have:=g ((List.replicate n 0).set j 1);rw[zbI (k:=j) hj λi hi e=>by rw[ziZ ψ,if_neg (Z6 e),zrm];grind,ziZ ψ,if_pos rfl]at this;grind
end Am
namespace Am
variable {L:List (List Rat)}{i k n s:Nat}{M:Nat->Nat->Rat}
def cB (n S:Nat):Nat:=(S*(n+2)+n)*n+1
structure SzLaw (m:Rat->Nat):Prop where
  add:∀a b,m (a+b)<=m a+m b+1
  mul:∀a b,m (a*b)<=m a+m b
  neg:∀a,m (-a)=m a
  inv:∀a,m a⁻¹<=m a
  zero:m 0<=1
  one:m 1<=1
  cram:∀ {n S:Nat} {M:Nat->Nat->Rat} {b x:Nat->Rat},(∀y:Nat->Rat,(∀i,i<n->zai n (λj=>M i j*y j)=0)->∀j,j<n->y j=0)->(∀i,i<n->∀j,j<n->m (M i j)<=S)->(∀i,i<n->m (b i)<=S)->(∀i,i<n->zai n (λj=>M i j*x j)=b i)->∀j,j<n->m (x j)<=cB n S
namespace SzLaw
variable {m:Rat->Nat} (h:SzLaw m)
include h
theorem div(a b:Rat):m (a/b)<=m a+m b:=by rw[Xa];have:=h.mul a b⁻¹;have:=h.inv b;omega
theorem sub(a b:Rat):m (a-b)<=m a+m b+1:=by rw[Rat.sub_eq_add_neg];have:=h.add a (-b);rw[h.neg]at this;exact this
theorem subSum(a:Rat)(f:Nat->Rat)(s:Nat):∀k,(∀i,i<k->m (f i)<=s)->m (a-zai k f)<=m a+k*(s+1)
 | 0,_=>by rw[zai,show a-0=a by grind];omega
 | k+1,hs=>by
  have e:a-zai (k+1) f=(a-zai k f)-f k:=by rw[zai];grind
  rw[e,XE];have:=h.sub (a-zai k f) (f k);have:=subSum a f s k (λi hi=>hs i ω);have:=hs k ω;omega
end SzLaw
structure LUsz (m:Rat->Nat) (n u:Nat) (F:LUv):Prop where
  lo:∀i,i<n->∀j,j<n->m (en F.lo i j)<=u
  up:∀i,i<n->∀j,j<n->m (en F.up i j)<=u
def uB (n s:Nat):Nat:=s+n*(cB n s+s+1)+1
def ywl{a b t:Nat}(h:a<=b)(d:s<=t):cB a s<=cB b t:=by unfold cB;have:(s*(a+2)+a)*a<=(t*(b+2)+b)*b:=Xr (Nat.add_le_add (Xr d ω) h) h;omega
def ywb (k:Nat) (L:List (List Rat)):List (List Rat):=(List.range k).map λi=>(List.range k).map λj=>en L i j
theorem yv7(L:List (List Rat))(hi:i<k):(ywb k L).getD i []=(List.range k).map λj=>en L i j:=by unfold ywb;rw[zbU _ _ ψ 0,zcA hi]
def yv1(L:List (List Rat)){j:Nat}(hi:i<k)(hj:j<k):en (ywb k L) i j=en L i j:=by
 show el ((ywb k L).getD i []) j=_
 rw[yv7 L hi];show((List.range k).map λj=>en L i j).getD j 0=_
 rw[zbU _ _ ψ 0,zcA hj]
section
variable {n:Nat} {M:Nat->Nat->Rat} {c:Nat} {F:LUv} (h:LUinv n M c F) (hc:c<=n)
include h hc
theorem LUinv.top(hk:k<=c):LUinv k (λi j=>M (F.perm.getD i 0) j) k ⟨ywb k F.lo,ywb k F.up,List.range k,false⟩ where
 sq:=⟨by simp[ywb],λi hi=>by grind[yv7],by simp[ywb],λi hi=>by grind[yv7],σ⟩
 pr:=λi hi=>ψ
 pi:=λi j hi hj e=>by have e:(List.range k).getD i 0=(List.range k).getD j 0:=e;rw[zcA hi,zcA hj]at e;exact e
 sum:=λi hi j hj=>by
  show M (F.perm.getD ((List.range k).getD i 0) 0) j=zai k (λt=>en (ywb k F.lo) i t*en (ywb k F.up) t j)+_
  rw[zcA hi,if_neg ω,h.sum i ω j ω,if_neg ω,zaj (n:=k) λt d=>by rw[yv1 _ hi d,yv1 _ d hj],
   zh6 hk λt h1 g=>by rw[h.tri i t ω ω ω];grind]
 one:=λi hi=>by show en (ywb k F.lo) i i=1;rw[yv1 _ hi hi];exact h.one i ω
 tri:=λi t hi d l=>by
  show en (ywb k F.lo) i t=0
  rw[yv1 _ hi d];exact h.tri i t ω ω ω
 zero:=λt i d hi f=>by show en (ywb k F.up) i t=0;rw[yv1 _ hi d];exact h.zero t i ω ω f
 piv:=λt d=>by show en (ywb k F.up) t t≠0;rw[yv1 _ d d];exact h.piv t ω
theorem LUinv.comb(f:Nat->Rat):∀k,k<=c->∃g:Nat->Rat,(∀j,j<n->zai k (λs=>f s*en F.up s j)=zai k λs=>g s*M (F.perm.getD s 0) j)/\(∀l,k=l+1->g l=f l)
 | 0,_=>⟨λ_=>0,λ_ _=>rfl,λl q=>ω⟩
 | k+1,hk=>by
  obtain⟨g,hg,_⟩:=LUinv.comb (λs=>f s-f k*en F.lo k s) k ω;refine⟨λs=>if s=k then f k else g s,λj hj=>?_,λl q=>?_⟩;have e:=h.sum k ω j hj;rw[if_neg ω,zh6 (m:=k+1) hk λt h1 r=>by rw[h.tri k t ω ω ω];grind,zai,h.one k ω]at e;have p:zai k (λs=>(if s=k then f k else g s)*M (F.perm.getD s 0) j)=zai k λs=>(f s-f k*en F.lo k s)*en F.up s j:=by rw[hg j hj];exact zaj λs y=>by rw[if_neg ω]
  have d:zai k (λs=>(f s-f k*en F.lo k s)*en F.up s j)=zai k (λs=>f s*en F.up s j)+(-f k)*zai k λt=>en F.lo k t*en F.up t j:=by rw[<-za7,<-zcm];exact zaj λs _=>ψ
  rw[zai,zai,p,d];simp only[if_true];rw[e];grind;grind
end
def LUinv.regT{F:LUv}(h:LUinv n M n F)(y:Nat->Rat)(f:∀j,j<n->zai n (λi=>M i j*y i)=0):∀i,i<n->y i=0:=λi hi=>by
 have e:∀k,k<n->zai n (λj=>M k j*el (zaR n F ((List.replicate n 0).set i 1)) j)=if i=k then 1 else 0:=λk hk=>by rw[zsl h _ hk,ziZ ψ,zrm]
 have s:zai n (λk=>y k*zai n λj=>M k j*el (zaR n F ((List.replicate n 0).set i 1)) j)=y i:=by rw[zbI (k:=i) hi λk hk d=>by rw[e k hk,if_neg (Z6 d)];grind,e i hi,if_pos rfl];grind
 rw[<-s,zaj λk _=>(za7 _ _ _).symm,zbq];refine zcn λj hj=>?_;have:=f j hj;rw[zaj (g:=λk=>M k j*y k*el (zaR n F ((List.replicate n 0).set i 1)) j) λk _=>ψ,zb6,this];grind
def LUinv.size{m:Rat->Nat}(hm:SzLaw m){c:Nat}{F:LUv}(h:LUinv n M c F)(hc:c<=n)(A:∀i,i<n->∀j,j<n->m (M i j)<=s):LUsz m n (uB n s) F:=by
 have u1:1<=uB n s:=by unfold uB;omega
 -- what a row is taken together from
 have D:∀i k,i<n->k<=c->(∀j,j<k->zai k (λt=>en F.lo i t*en F.up t j)=M (F.perm.getD i 0) j)->∃g:Nat->Rat,(∀j,j<n->zai k (λt=>en F.lo i t*en F.up t j)=zai k λt=>g t*M (F.perm.getD t 0) j)/\(∀t,t<k->m (g t)<=cB n s)/\∀l,k=l+1->g l=en F.lo i l:=λi k hi hk J=>by obtain⟨g,h1,f⟩:=h.comb hc (λt=>en F.lo i t) k hk;refine⟨g,h1,λt p=>?_,f⟩;refine Zf (hm.cram (n:=k) (S:=s) (M:=λj t=>M (F.perm.getD t 0) j) (b:=λj=>M (F.perm.getD i 0) j) (x:=g) (λy L=>(h.top hc hk).regT y λj hj=>L j hj) (λj hj t p=>A _ (h.pr t ω) j ω) (λj hj=>A _ (h.pr i hi) j ω) (λj hj=>?_) t p) (ywl ω (Za _));rw[<-J j hj,h1 j ω];grind
 have cu:cB n s<=uB n s\/n=0:=by rcases X2 n with h0 | h0;omega;left;unfold uB;have:=ZV (cB n s+s+1) h0;omega
 refine⟨λi hi t p=>?_,λi hi j hj=>?_⟩;by_cases h1:i<t\/c<=t;rw[h.tri i t hi p h1];exact Zf hm.zero u1;by_cases f:i=t;subst f;rw[h.one i ω];exact Zf hm.one u1
 obtain⟨g,_,C,G⟩:=D i (t+1) hi ω λj hj=>by
  have e:=h.sum i hi j ω;rw[zh6 (m:=t+1) ω λr H I=>by rw[h.zero j r ω ω ω];grind]at e;rw[e];split
  rw[h.zero j i ω hi ω];grind;grind
 rw[<-G t rfl];have:=C t ω;omega;obtain⟨k,hk,K,e⟩:∃k,k<=n/\k<=c/\∀j,j<n->M (F.perm.getD i 0) j=zai k (λt=>en F.lo i t*en F.up t j)+en F.up i j/\(j<k->en F.up i j=0):=by by_cases h1:c<=i;exact⟨c,hc,Za _,λj hj=>⟨by rw[h.sum i hi j hj,if_pos h1],λf=>h.zero j i f hi ω⟩⟩;refine⟨i,ω,ω,λj hj=>⟨?_,λf=>h.zero j i ω hi f⟩⟩;rw[h.sum i hi j hj,if_neg h1,zh6 (m:=i+1) ω λr H I=>by rw[h.tri i r hi ω ω];grind,zai,h.one i ω];grind
 obtain⟨g,E,C,_⟩:=D i k hi K λj hj=>ψ
 have q:=(e j hj).1;rw[E j hj]at q;have B:en F.up i j=M (F.perm.getD i 0) j-zai k λt=>g t*M (F.perm.getD t 0) j:=by rw[q];grind
 rw[B];have a:=hm.subSum (M (F.perm.getD i 0) j) (λt=>g t*M (F.perm.getD t 0) j) (cB n s+s) k λt p=>by have a1:=hm.mul (g t) (M (F.perm.getD t 0) j);have a2:=C t p;have a3:=A _ (h.pr t ω) j hj;omega
 have b:=A _ (h.pr i hi) j hj;have d:=ZV (cB n s+s+1) hk;unfold uB;omega
def zl6(h:L.length=n)(hr:∀i,i<n->(L.getD i []).length=n):Sq n (zg4 n L):=(LUinv.start h hr).sq
def zk9{m:Rat->Nat}(h:SzLaw m){G:LUv}(g:L.length=n)(hr:∀i,i<n->(L.getD i []).length=n)(k:∀i,i<n->∀j,j<n->m (en L i j)<=s)(e:zoN n L=some G):LUsz m n (uB n s) G:=by
 rcases zoO g hr with ⟨l,d,f⟩ | ⟨d,_⟩
 rw[e]at d;injection d with d;subst d;exact f.size h (Za _) k;grind
def zB (n u x:Nat):Nat:=1+n*(u+x+1)
def xB (n u x t:Nat):Nat:=t+zB n u x+n*(u+zB n u x+1)
def SzLaw.sum{m:Rat->Nat}(h:SzLaw m)(f:Nat->Rat)(s k:Nat)(d:∀i,i<k->m (f i)<=s):m (zai k f)<=1+k*(s+1):=by have:=h.subSum 0 f s k d;rw[<-h.neg]at this;rw[show -(0-zai k f)=zai k f by grind]at this;have:=h.zero;omega
def SzLaw.less{m:Rat->Nat}(h:SzLaw m){a:Rat}{f g:Nat->Rat}{A B C:Nat}(d:m a<=A)(hk:k<=n)(hf:∀i,i<k->m (f i)<=B)(hg:∀i,i<k->m (g i)<=C):m (a-zai k λi=>f i*g i)<=A+n*(B+C+1):=by
 have a1:=h.subSum a (λi=>f i*g i) (B+C) k λi hi=>by have:=h.mul (f i) (g i);have:=hf i hi;have:=hg i hi;omega
 have a2:=ZV (B+C+1) hk;omega
structure SolLe (m:Rat->Nat) (n:Nat) (F:LUv) (b:List Rat) (X:Nat):Prop where
  fw:∀i,i<n->m (el (fwd F b n) i)<=X/\∀k,k<=i->m (el b (F.perm.getD i 0)-zai k (λc=>en F.lo i c*el (fwd F b n) c))<=2*X
  sv:∀i,i<n->m (el (zaR n F b) i)<=X/\∀k,k<=n-(i+1)->m (el (fwd F b n) i-zai k (λc=>en F.up i (i+1+c)*el (zaR n F b) (i+1+c)))<=2*X
structure SolTLe (m:Rat->Nat) (n:Nat) (F:LUv) (b:List Rat) (X:Nat):Prop where
  fw:∀i,i<n->m (el (zbX F b n) i)<=X/\∀k,k<=i->m (el b i-zai k (λc=>en F.up c i*el (zbX F b n) c))<=2*X
  sv:∀i,i<n->m (el (luW n F b) i)<=X/\∀k,k<=n-(i+1)->m (el (zbX F b n) i-zai k (λc=>en F.lo (i+1+c) i*el (luW n F b) (i+1+c)))<=2*X
section
variable {m:Rat->Nat} (h:SzLaw m) {n u x t:Nat} {M:Nat->Nat->Rat} {F:LUv} {b:List Rat} (hF:LUinv n M n F) (z:LUsz m n u F)
include h hF z
theorem ywt(f:∀i,i<n->m (el b i)<=t)(e:∀i,i<n->m (el (zaR n F b) i)<=x):SolLe m n F b (xB n u x t):=by
 have d:∀i,i<n->m (el (fwd F b n) i)<=zB n u x:=λi hi=>by rw[<-zsm hF b hi];exact h.sum _ (u+x) n λk hk=>by have:=h.mul (en F.up i k) (el (zaR n F b) k);have:=z.up i hi k hk;have:=e k hk;omega
 have zx:zB n u x<=xB n u x t:=by unfold xB;omega
 refine⟨λi hi=>⟨Zf (d i hi) zx,λk hk=>?_⟩,λi hi=>⟨?_,λk hk=>?_⟩⟩;have:=h.less (n:=n) (k:=k) (f _ (hF.pr i hi)) ω (λc hc=>z.lo i hi c ω) (λc hc=>d c ω);unfold xB;omega;have:=e i hi;have:=ZV (u+x+1) (show 1<=n by omega);unfold zB at zx;omega;have:=h.less (n:=n) (k:=k) (d i hi) ω (λc hc=>z.up i hi (i+1+c) ω) (λc hc=>e (i+1+c) ω);unfold zB at this zx;omega
theorem ywo(g:∀i,i<n->m (el b i)<=t)(j:∀i,i<n->m (el (zcq n F b) i)<=x):SolTLe m n F b (xB n u x t):=by
 have d:∀i,i<n->m (el (luW n F b) i)<=x:=λi hi=>by have:=j _ (hF.pr i hi);unfold zcq at this;rw[zpA _ _ σ hF.pr hF.pi n (Za _) i hi]at this;exact this
 have f:∀i,i<n->m (el (zbX F b n) i)<=zB n u x:=λi hi=>by
  have e:el (zbX F b n) i=el (luW n F b) i+zai (n-(i+1)) (λc=>en F.lo (i+1+c) i*el (luW n F b) (i+1+c)):=by rw[zyu n F b hi];grind
  rw[e];have a1:=h.subSum 0 (λc=>en F.lo (i+1+c) i*el (luW n F b) (i+1+c)) (u+x) (n-(i+1)) λc hc=>by have:=h.mul (en F.lo (i+1+c) i) (el (luW n F b) (i+1+c));have:=z.lo (i+1+c) ω i hi;have:=d (i+1+c) ω;omega
  have a2:=h.sub (el (luW n F b) i) (0-zai (n-(i+1)) (λc=>en F.lo (i+1+c) i*el (luW n F b) (i+1+c)));rw[show ∀p q:Rat,p-(0-q)=p+q by grind]at a2;have a3:=d i hi;have a4:=h.zero;have a5:(n-(i+1)+1)*(u+x+1)<=n*(u+x+1):=ZV _ ω;rw[XE]at a5;unfold zB;omega
 have zx:zB n u x<=xB n u x t:=by unfold xB;omega
 refine⟨λi hi=>⟨Zf (f i hi) zx,λk hk=>?_⟩,λi hi=>⟨?_,λk hk=>?_⟩⟩;have:=h.less (n:=n) (k:=k) (g i hi) ω (λc hc=>z.up c ω i hi) (λc hc=>f c ω);unfold xB;omega;have:=d i hi;have:=ZV (u+x+1) (show 1<=n by omega);unfold zB at zx;omega;have:=h.less (n:=n) (k:=k) (f i hi) ω (λc hc=>z.lo (i+1+c) ω i hi) (λc hc=>d (i+1+c) ω);unfold zB at this zx;omega
end
end Am
namespace Go
variable {late:List Nat}{fuel i id:Nat}{v:Value}{w:World}
def Shut.o{p:Prop}(h:Shut p):p:=h
def pu1{α:Type _}(l:List α)(i:Nat)(a:α):l.toArray.setIfInBounds i a=(l.set i a).toArray:=ψ
def pu2{α:Type _}{l:List α}{a b:α}:(a::l).set 0 b=b::l:=rfl
def pu3{α:Type _}{l:List α}{a b:α}{n:Nat}:(a::l).set (n+1) b=a::l.set n b:=rfl
def pu4{α:Type _}{l:List α}(h:i<l.toArray.size):l.toArray[i]=l[i]' ω:=rfl
def pu5{α:Type _}{l:List α}{a:α}(h:0<(a::l).length):(a::l)[0]=a:=rfl
def pu6{α:Type _}{l:List α}{a:α}(h:i+1<(a::l).length):(a::l)[i+1]=l[i]'(Nat.lt_of_succ_lt_succ h):=rfl
def kp{p:Prop}(h:p:=by((try go_split_ands);(try simp only[Xi]);with_reducible repeat' first | assumption | apply And.intro | refine Proofs.YtbpjabgfcbjjmaaGreat.cell_set ω ?_ | refine Proofs.YtbpjabgfcbjjmaaGreat.cell_al ?_)):p:=h
section
variable {P:Program} {ops:Array Oper} {Q:Exit->Act->World->Prop} {md:Region.Mode} {S:World->Prop} {fin:Nat}
def zc4 (P:Program) (md:Region.Mode) (ops:Array Oper) (Q:Exit->Act->World->Prop) (S:World->Prop) (fin:Nat):Nat->Array Bool->Act->World->Prop
  | 0,listed,a,w=>Region.ready md ops listed=[]/\Q .normal a w
  | fuel + 1,listed,a,w =>
    (Region.ready md ops listed=[]->Q .normal a w) /\
    ∀i∈Region.ready md ops listed,wpOp P ops Q i (λa' w'=>(i≠fin->S w->S w')/\zc4 P md ops Q S fin fuel (listed.setIfInBounds i true) a' w') a w
def zmf:∀(fuel:Nat) (listed:Array Bool) (a:Act) (w:World),zc4 P md ops Q S fin fuel listed a w->wpAny P md ops Q fuel listed a w
 | 0,_,_,_,h=>h
 | fuel+1,_,_,_,h=>⟨h.1,λi hi=>wpOp_mono (λa' w' d=>zmf fuel _ a' w' d.2) (h.2 i hi)⟩
def ze2 (md:Region.Mode) (ops:Array Oper) (fin i:Nat):Bool:=((ops[fin]?).map λo=>o.after.any λe=>Region.binds md e&&e.on == i).getD false
theorem zpa{listed:Array Bool}(h:ze2 md ops fin i=true)(hi:i∈Region.ready md ops listed):fin ∉ Region.ready md ops listed:=by intro hf;obtain⟨_,o,j,d⟩:=mem_ready.1 hf;have h0:=(mem_ready.1 hi).1;unfold ze2 at h;rw[j]at h;simp only[Option.map_some,Option.getD_some,Array.any_eq_true',Z5,beq_iff_eq]at h;obtain⟨e,g,f,rfl⟩:=h;have h1:=d e g f;rcases ZM e.on listed.size with h' | h';simp[h']at h0 h1;rw[h0]at h1;cases h1;simp[Array.getElem?_eq_none h']at h1
def zpe{oi:Oper}(hi:ops[i]? = some oi)(B:∀(j:Nat) (o:Oper) cs b,ops[j]? = some o->o.op≠.select cs b)
  (E:∀c a w,Q (.panic c) (a.put oi.dst v) w->Q (.panic c) a w) (hw:ze2 md ops fin i=true) :
  ∀(fuel:Nat) (listed:Array Bool) (a:Act) (w:World),
   (∀j f,ops[j]? = some f->j≠i->listed.getD j true=false->(∀e∈f.after,Region.binds md e=true->e.on≠i)->oi.apart ops f=true) ->
   i∈Region.ready md ops listed->YieldsIf P ops S oi v a->S w ->
   zc4 P md ops Q S fin fuel (listed.setIfInBounds i true) (a.put oi.dst v) w->zc4 P md ops Q S fin (fuel+1) listed a w:=by
 intro fuel
 induction fuel with
 | zero =>
  intro listed a w _ hr p hS H;refine⟨λh=>(by rw[h]at hr;cases hr),λj hj=>?_⟩;by_cases d:j=i;subst d;exact p.wpOp hi hS ⟨λ_ _=>hS,H⟩;have:=ready_mono hj d;rw[H.1]at this;cases this
 | succ fuel ih =>
  intro listed a w r hr p hS H;refine⟨λh=>(by rw[h]at hr;cases hr),λj hj=>?_⟩;by_cases d:j=i;subst d;exact p.wpOp hi hS ⟨λ_ _=>hS,H⟩;have h1:=H.2 j (ready_mono hj d);have s:j≠fin:=λe=>zpa hw hr (by rw[<-e];exact hj)
  obtain⟨A,f,q,G⟩:=mem_ready.1 hj;have R:∀e∈f.after,Region.binds md e=true->e.on≠i:=λe J I K=>by have h1:=G e J I;have h0:=(mem_ready.1 hr).1;rw[K]at h1;grind
  have D:=wpOp_putIf q (r j f q d A R) (λcs b=>B i oi cs b hi) (λcs b=>B j f cs b q) E p h1
  have L:∀k g,ops[k]? = some g->k≠i->(listed.setIfInBounds j true).getD k true=false ->
    (∀e∈g.after,Region.binds md e=true->e.on≠i)->oi.apart ops g=true:=λk g hk N C O=>by
   refine r k g hk N ?_ O;by_cases y:j=k;subst y;exact A
   simp_all
  refine wpOp_mono (λa' w' l=>⟨λ_=>l.2.1 s,ih (listed.setIfInBounds j true) a' w' L (ready_mono hr (Z6 d)) l.1 (l.2.1 s hS) ?_⟩) D;rw[VE _ _ d];exact l.2.2
def zqH{oi:Oper}{listed:Array Bool}{a:Act}(hi:ops[i]? = some oi)
  (hk:(Region.noSelect ops&&Region.free md ops listed i&&(Region.ready md ops listed).contains i&&ze2 md ops fin i)=true)
  (d:∀c a w,Q (.panic c) (a.put oi.dst v) w->Q (.panic c) a w) (f:YieldsIf P ops S oi v a) (hS:S w)
  (h:zc4 P md ops Q S fin fuel (listed.setIfInBounds i true) (a.put oi.dst v) w):zc4 P md ops Q S fin (fuel+1) listed a w:=by
 simp only[Z5]at hk;obtain⟨⟨⟨e,hf⟩,hr⟩,hw⟩:=hk;exact zpe hi (Vb e) d hw fuel listed a w (Vd hi hf) (by simpa using hr) f hS h
def znW{oi:Oper}(hi:ops[i]? = some oi)(A:∀(j:Nat) (o:Oper) cs b,ops[j]? = some o->o.op≠.select cs b)
  (D:∀c a w,Q (.panic c) (a.put oi.dst v) w->Q (.panic c) a w) :
  ∀(fuel:Nat) (listed:Array Bool) (a:Act) (w:World),
   (∀j f,ops[j]? = some f->j≠i->listed.getD j true=false->(∀e∈f.after,Region.binds md e=true->e.on≠i)->oi.apart ops f=true) ->
   i∈Region.ready md ops listed->YieldsIf P ops (λ_=>True) oi v a ->
   zc4 P md ops Q S fin fuel (listed.setIfInBounds i true) (a.put oi.dst v) w->zc4 P md ops Q S fin (fuel+1) listed a w:=by
 intro fuel
 induction fuel with
 | zero =>
  intro listed a w _ hr l H;refine⟨λh=>(by rw[h]at hr;cases hr),λj hj=>?_⟩;by_cases d:j=i;subst d;exact l.wpOp hi trivial ⟨λ_ h=>h,H⟩;have:=ready_mono hj d;rw[H.1]at this;cases this
 | succ fuel ih =>
  intro listed a w r hr l H;refine⟨λh=>(by rw[h]at hr;cases hr),λj hj=>?_⟩;by_cases d:j=i;subst d;exact l.wpOp hi trivial ⟨λ_ h=>h,H⟩;have h1:=H.2 j (ready_mono hj d);obtain⟨y,f,q,E⟩:=mem_ready.1 hj;have O:∀e∈f.after,Region.binds md e=true->e.on≠i:=λe I G J=>by have h1:=E e I G;have h0:=(mem_ready.1 hr).1;rw[J]at h1;grind
  have C:=wpOp_putIf q (r j f q d y O) (λcs b=>A i oi cs b hi) (λcs b=>A j f cs b q) D l h1
  have K:∀k g,ops[k]? = some g->k≠i->(listed.setIfInBounds j true).getD k true=false ->
    (∀e∈g.after,Region.binds md e=true->e.on≠i)->oi.apart ops g=true:=λk g hk L B N=>by
   refine r k g hk L ?_ N;by_cases s:j=k;subst s;exact y
   simp_all
  refine wpOp_mono (λa' w' p=>⟨p.2.1,ih (listed.setIfInBounds j true) a' w' K (ready_mono hr (Z6 d)) p.1 ?_⟩) C;rw[VE _ _ d];exact p.2.2
def zfQ{oi:Oper}{listed:Array Bool}{a:Act}(hi:ops[i]? = some oi)
  (hk:(Region.noSelect ops&&Region.free md ops listed i&&(Region.ready md ops listed).contains i)=true)
  (d:∀c a w,Q (.panic c) (a.put oi.dst v) w->Q (.panic c) a w) (f:YieldsIf P ops (λ_=>True) oi v a)
  (h:zc4 P md ops Q S fin fuel (listed.setIfInBounds i true) (a.put oi.dst v) w):zc4 P md ops Q S fin (fuel+1) listed a w:=by
 simp only[Z5]at hk;obtain⟨⟨e,hf⟩,hr⟩:=hk;exact znW hi (Vb e) d fuel listed a w (Vd hi hf) (by simpa using hr) f h
def zaN(i:Nat){o:Oper}{listed:Array Bool}{a:Act}(g:ops[i]? = some o:=by rfl)(hr:Region.ready md ops listed=[i]:=by kernel_rfl)
  (h:∀d:Act->World->Prop,Shut (∀a w,S w->(S w->zc4 P md ops Q S fin fuel (listed.setIfInBounds i true) a w)->d a w)->if Region.wanted o (yielded ops a.tmps)=true then Oper.wp P o a w d Q else d (a.put o.dst undef) w) :
  zc4 P md ops Q S fin (fuel+1) listed a w :=
 ⟨λh0=>(by rw[hr]at h0;cases h0),λj hj=>by
  rw[hr]at hj;rcases XI.1 hj with rfl | hj;exact wpOp_step g λd e=>h d λa w hS f=>e a w ⟨λ_ _=>hS,f hS⟩
  cases hj⟩
def zba{o:Oper}{listed:Array Bool}{a:Act}(k:ops[fin]? = some o:=by rfl)(hr:Region.ready md ops listed=[fin]:=by kernel_rfl)
  (h:∀d:Act->World->Prop,Shut (∀a w,zc4 P md ops Q S fin fuel (listed.setIfInBounds fin true) a w->d a w)->if Region.wanted o (yielded ops a.tmps)=true then Oper.wp P o a w d Q else d (a.put o.dst undef) w) :
  zc4 P md ops Q S fin (fuel+1) listed a w :=
 ⟨λh0=>(by rw[hr]at h0;cases h0),λj hj=>by
  rw[hr]at hj;rcases XI.1 hj with rfl | hj;exact wpOp_step k λd e=>h d λa w f=>e a w ⟨λg=>absurd rfl g,f⟩
  cases hj⟩
def za1{listed:Array Bool}{a:Act}(hr:Region.ready md ops listed=[]:=by kernel_rfl)(h:Q .normal a w):zc4 P md ops Q S fin fuel listed a w:=by cases fuel;exact⟨hr,h⟩;exact⟨λ_=>h,by rw[hr];simp⟩
def za2(fin:Nat){a:Act}(hm:P.follows .mixedOrders=true:=by kernel_rfl)(hS:S w.drew:=by((try go_split_ands);(try simp only[Xi]);with_reducible repeat' first | assumption | apply And.intro | refine Proofs.YtbpjabgfcbjjmaaGreat.cell_set ω ?_ | refine Proofs.YtbpjabgfcbjjmaaGreat.cell_al ?_))
  (h:S w.drew->zc4 P .any ops Q S fin ops.size (Array.replicate ops.size false) a w.drew):(Code.region id ops true).wp P Q a w :=
 wp_region_any hm (zmf _ _ _ _ (h hS))
def zcp (P:Program) (md:Region.Mode) (ops:Array Oper) (Q:Exit->Act->World->Prop) (S:World->Prop) (late:Nat->Bool):Nat->Array Bool->Act->World->Prop
  | 0,listed,a,w=>Region.ready md ops listed=[]/\Q .normal a w
  | fuel + 1,listed,a,w =>
    (Region.ready md ops listed=[]->Q .normal a w) /\
    ∀i∈Region.ready md ops listed,wpOp P ops Q i (λa' w'=>(late i=false->S w->S w')/\zcp P md ops Q S late fuel (listed.setIfInBounds i true) a' w') a w
def zmg{late:Nat->Bool}:∀(fuel:Nat) (listed:Array Bool) (a:Act) (w:World),zcp P md ops Q S late fuel listed a w->wpAny P md ops Q fuel listed a w
 | 0,_,_,_,h=>h
 | fuel+1,_,_,_,h=>⟨h.1,λi hi=>wpOp_mono (λa' w' d=>zmg fuel _ a' w' d.2) (h.2 i hi)⟩
def zjd{late:Nat->Bool}{oi:Oper}{f:World->Prop}(hi:ops[i]? = some oi)(C:∀(j:Nat) (o:Oper) cs b,ops[j]? = some o->o.op≠.select cs b)
  (G:∀c a w,Q (.panic c) (a.put oi.dst v) w->Q (.panic c) a w) (hw:(∀j,late j=true->ze2 md ops j i=true)/\(∀w,S w->f w)\/∀w,f w) :
  ∀(fuel:Nat) (listed:Array Bool) (a:Act) (w:World),
   (∀j g,ops[j]? = some g->j≠i->listed.getD j true=false->(∀e∈g.after,Region.binds md e=true->e.on≠i)->oi.apart ops g=true) ->
   i∈Region.ready md ops listed->YieldsIf P ops f oi v a->(S w\/∀w,f w) ->
   zcp P md ops Q S late fuel (listed.setIfInBounds i true) (a.put oi.dst v) w->zcp P md ops Q S late (fuel+1) listed a w:=by
 have s:∀w,(S w\/∀w,f w)->f w:=λw h=>ψ
 intro fuel
 induction fuel with
 | zero =>
  intro listed a w _ hr q hS H;refine⟨λh=>(by rw[h]at hr;cases hr),λj hj=>?_⟩;by_cases d:j=i;subst d;exact q.wpOp hi (s w hS) ⟨λ_ h=>h,H⟩;have:=ready_mono hj d;rw[H.1]at this;cases this
 | succ fuel ih =>
  intro listed a w y hr q hS H;refine⟨λh=>(by rw[h]at hr;cases hr),λj hj=>?_⟩;by_cases d:j=i;subst d;exact q.wpOp hi (s w hS) ⟨λ_ h=>h,H⟩;have h1:=H.2 j (ready_mono hj d);obtain⟨B,g,r,J⟩:=mem_ready.1 hj;have U:∀e∈g.after,Region.binds md e=true->e.on≠i:=λe L K N=>by have h1:=J e L K;have h0:=(mem_ready.1 hr).1;rw[N]at h1;grind
  have E:=wpOp_putIf r (y j g r d B U) (λcs b=>C i oi cs b hi) (λcs b=>C j g cs b r) G q h1
  have O:∀k l,ops[k]? = some l->k≠i->(listed.setIfInBounds j true).getD k true=false ->
    (∀e∈l.after,Region.binds md e=true->e.on≠i)->oi.apart ops l=true:=λk l hk R D T=>by
   refine y k l hk R ?_ T;by_cases A:j=k;subst A;exact B
   simp_all
  have I:∀w',(late j=false->S w->S w')->(S w'\/∀w,f w):=λw' h=>by grind[zpa]
  refine wpOp_mono (λa' w' p=>⟨p.2.1,ih (listed.setIfInBounds j true) a' w' O (ready_mono hr (Z6 d)) p.1 (I w' p.2.1) ?_⟩) E;rw[VE _ _ d];exact p.2.2
def zrC (md:Region.Mode) (ops:Array Oper) (late:List Nat) (i:Nat):Bool:=late.all λj=>ze2 md ops j i
def zqI{oi:Oper}{listed:Array Bool}{a:Act}(hi:ops[i]? = some oi)
  (hk:(Region.noSelect ops&&Region.free md ops listed i&&(Region.ready md ops listed).contains i&&zrC md ops late i)=true)
  (d:∀c a w,Q (.panic c) (a.put oi.dst v) w->Q (.panic c) a w) (f:YieldsIf P ops S oi v a) (hS:S w)
  (h:zcp P md ops Q S late.contains fuel (listed.setIfInBounds i true) (a.put oi.dst v) w):zcp P md ops Q S late.contains (fuel+1) listed a w:=by
 simp only[Z5]at hk;obtain⟨⟨⟨e,hf⟩,hr⟩,hw⟩:=hk;exact zjd hi (Vb e) d (.inl ⟨λj hj=>XO.1 hw j ψ,λ_ h=>h⟩) fuel listed a w (Vd hi hf) (by simpa using hr) f (.inl hS) h
def zpf{oi:Oper}{listed:Array Bool}{a:Act}(hi:ops[i]? = some oi)
  (hk:(Region.noSelect ops&&Region.free md ops listed i&&(Region.ready md ops listed).contains i)=true)
  (d:∀c a w,Q (.panic c) (a.put oi.dst v) w->Q (.panic c) a w) (f:YieldsIf P ops (λ_=>True) oi v a)
  (h:zcp P md ops Q S late.contains fuel (listed.setIfInBounds i true) (a.put oi.dst v) w):zcp P md ops Q S late.contains (fuel+1) listed a w:=by
 simp only[Z5]at hk;obtain⟨⟨e,hf⟩,hr⟩:=hk;exact zjd hi (Vb e) d (.inr λ_=>trivial) fuel listed a w (Vd hi hf) (by simpa using hr) f (.inr λ_=>trivial) h
def zaB(i:Nat){o:Oper}{listed:Array Bool}{a:Act}(g:ops[i]? = some o:=by rfl)(hr:Region.ready md ops listed=[i]:=by kernel_rfl)
  (h:∀d:Act->World->Prop,Shut (∀a w,S w->(S w->zcp P md ops Q S late.contains fuel (listed.setIfInBounds i true) a w)->d a w)->if Region.wanted o (yielded ops a.tmps)=true then Oper.wp P o a w d Q else d (a.put o.dst undef) w) :
  zcp P md ops Q S late.contains (fuel+1) listed a w :=
 ⟨λh0=>(by rw[hr]at h0;cases h0),λj hj=>by
  rw[hr]at hj;rcases XI.1 hj with rfl | hj;exact wpOp_step g λd e=>h d λa w hS f=>e a w ⟨λ_ _=>hS,f hS⟩
  cases hj⟩
def zme{j:Nat}{oi e:Oper}{listed:Array Bool}{a:Act}(p:ops[i]? = some oi)(q:ops[j]? = some e)(hr:Region.ready md ops listed=[i,j])
  (h1:∀d:Act->World->Prop,Shut (∀a w,S w->(S w->zcp P md ops Q S late.contains fuel (listed.setIfInBounds i true) a w)->d a w)->if Region.wanted oi (yielded ops a.tmps)=true then Oper.wp P oi a w d Q else d (a.put oi.dst undef) w)
  (l:∀d:Act->World->Prop,Shut (∀a w,S w->(S w->zcp P md ops Q S late.contains fuel (listed.setIfInBounds j true) a w)->d a w)->if Region.wanted e (yielded ops a.tmps)=true then Oper.wp P e a w d Q else d (a.put e.dst undef) w) :
  zcp P md ops Q S late.contains (fuel+1) listed a w :=
 ⟨λh0=>(by rw[hr]at h0;cases h0),λk hk=>by
  rw[hr]at hk;rcases XI.1 hk with rfl | hk;exact wpOp_step p λd f=>h1 d λa w hS g=>f a w ⟨λ_ _=>hS,g hS⟩
  rcases XI.1 hk with rfl | hk;exact wpOp_step q λd f=>l d λa w hS g=>f a w ⟨λ_ _=>hS,g hS⟩
  cases hk⟩
def zay(i:Nat){o:Oper}{listed:Array Bool}{a:Act}(l:ops[i]? = some o:=by rfl)(hr:Region.ready md ops listed=[i]:=by kernel_rfl)(g:late.contains i=true:=by kernel_rfl)
  (h:∀d:Act->World->Prop,Shut (∀a w,zcp P md ops Q S late.contains fuel (listed.setIfInBounds i true) a w->d a w)->if Region.wanted o (yielded ops a.tmps)=true then Oper.wp P o a w d Q else d (a.put o.dst undef) w) :
  zcp P md ops Q S late.contains (fuel+1) listed a w :=
 ⟨λh0=>(by rw[hr]at h0;cases h0),λj hj=>by
  rw[hr]at hj;rcases XI.1 hj with rfl | hj;exact wpOp_step l λd e=>h d λa w f=>e a w ⟨λk=>absurd k (by rw[g];decide),f⟩
  cases hj⟩
def zaM{late:Nat->Bool}{listed:Array Bool}{a:Act}(hr:Region.ready md ops listed=[]:=by kernel_rfl)(h:Q .normal a w):zcp P md ops Q S late fuel listed a w:=by cases fuel;exact⟨hr,h⟩;exact⟨λ_=>h,by rw[hr];simp⟩
def zaS(late:List Nat){a:Act}(hm:P.follows .mixedOrders=true:=by kernel_rfl)(hS:S w.drew:=by((try go_split_ands);(try simp only[Xi]);with_reducible repeat' first | assumption | apply And.intro | refine Proofs.YtbpjabgfcbjjmaaGreat.cell_set ω ?_ | refine Proofs.YtbpjabgfcbjjmaaGreat.cell_al ?_))
  (h:S w.drew->zcp P .any ops Q S late.contains ops.size (Array.replicate ops.size false) a w.drew):(Code.region id ops true).wp P Q a w :=
 wp_region_any hm (zmg _ _ _ _ (h hS))
def tk (o:List Nat) (X:Prop):Prop:=∀n:List Nat,n=o->X
def zaw{X:Prop}(o:List Nat)(h:tk o X):X:=h o rfl
def zao{X:Prop}(h:X):tk [] X:=λ_ _=>h
section
variable {i:Nat} {o:List Nat} {oi:Oper} {v:Value} {fuel:Nat} {listed:Array Bool} {a a':Act} {w:World} {late:List Nat}
def tkL(hS:S w)(h:tk o (zcp P md ops Q S late.contains fuel (listed.setIfInBounds i true) a' w))(hi:ops[i]? = some oi:=by rfl)(hk:(Region.noSelect ops&&Region.free md ops listed i&&(Region.ready md ops listed).contains i&&zrC md ops late i)=true:=by kernel_rfl)(d:∀c a w,Q (.panic c) (a.put oi.dst v) w->Q (.panic c) a w:=by exact λ_ _ _ h=>h)(hw:Region.wanted oi (yielded ops a.tmps)=true:=by rfl)(g:∀w,S w->(execOp a.eval oi).run P w=.ok (.value v) w:=by((intro w e;(try dsimp only at e);go_simp);(try rfl)))(f:a.put oi.dst v=a':=by first | (simp only[Act.put,pu1,pu2,pu3,pu4,pu5,pu6];rfl) | rfl):tk (i::o) (zcp P md ops Q S late.contains (fuel+1) listed a w) :=
 λ_ _=>by subst f;exact zqI hi hk d (.inl ⟨hw,g⟩) hS (h _ rfl)
def skH(hS:S w)(h:tk o (wpAnyH P md ops Q S fuel (listed.setIfInBounds i true) a' w))(hi:ops[i]? = some oi:=by rfl)(g:Region.noSelect ops=true:=by kernel_rfl)(hf:Region.free md ops listed i=true:=by kernel_rfl)(hr:(Region.ready md ops listed).contains i=true:=by kernel_rfl)(d:∀c a w,Q (.panic c) (a.put oi.dst undef) w->Q (.panic c) a w:=by exact λ_ _ _ h=>h)(f:Region.wanted oi (yielded ops a.tmps)=false:=by kernel_rfl)(e:a.put oi.dst undef=a':=by first | (simp only[Act.put,pu1,pu2,pu3,pu4,pu5,pu6];rfl) | rfl):tk (i::o) (wpAnyH P md ops Q S (fuel+1) listed a w) :=
 λ_ _=>by subst e;exact wpAnyH_take hi g hf hr d (.inr ⟨f,rfl⟩) hS (h _ rfl)
def tkX(hi:ops[i]? = some oi:=by rfl)
  (hk:(Region.noSelect ops&&Region.free md ops listed i&&(Region.ready md ops listed).contains i)=true:=by kernel_rfl)
  (d:∀c a w,Q (.panic c) (a.put oi.dst v) w->Q (.panic c) a w:=by exact λ_ _ _ h=>h) (hw:Region.wanted oi (yielded ops a.tmps)=true:=by rfl) (g:∀w,True->(execOp a.eval oi).run P w=.ok (.value v) w:=by((intro w e;(try dsimp only at e);go_simp);(try rfl))) (f:a.put oi.dst v=a':=by first | (simp only[Act.put,pu1,pu2,pu3,pu4,pu5,pu6];rfl) | rfl)
  (h:tk o (zcp P md ops Q S late.contains fuel (listed.setIfInBounds i true) a' w)):tk (i::o) (zcp P md ops Q S late.contains (fuel+1) listed a w) :=
 λ_ _=>by subst f;exact zpf hi hk d (.inl ⟨hw,g⟩) (h _ rfl)
def tkE{fin:Nat}(hS:S w)(h:tk o (zc4 P md ops Q S fin fuel (listed.setIfInBounds i true) a' w))(hi:ops[i]? = some oi:=by rfl)(hk:(Region.noSelect ops&&Region.free md ops listed i&&(Region.ready md ops listed).contains i&&ze2 md ops fin i)=true:=by kernel_rfl)(d:∀c a w,Q (.panic c) (a.put oi.dst v) w->Q (.panic c) a w:=by exact λ_ _ _ h=>h)(hw:Region.wanted oi (yielded ops a.tmps)=true:=by rfl)(g:∀w,S w->(execOp a.eval oi).run P w=.ok (.value v) w:=by((intro w e;(try dsimp only at e);go_simp);(try rfl)))(f:a.put oi.dst v=a':=by first | (simp only[Act.put,pu1,pu2,pu3,pu4,pu5,pu6];rfl) | rfl):tk (i::o) (zc4 P md ops Q S fin (fuel+1) listed a w) :=
 λ_ _=>by subst f;exact zqH hi hk d (.inl ⟨hw,g⟩) hS (h _ rfl)
def tkH(hS:S w)(h:tk o (wpAnyH P md ops Q S fuel (listed.setIfInBounds i true) a' w))(hi:ops[i]? = some oi:=by rfl)(hk:(Region.noSelect ops&&Region.free md ops listed i&&(Region.ready md ops listed).contains i)=true:=by kernel_rfl)(d:∀c a w,Q (.panic c) (a.put oi.dst v) w->Q (.panic c) a w:=by exact λ_ _ _ h=>h)(hw:Region.wanted oi (yielded ops a.tmps)=true:=by rfl)(g:∀w,S w->(execOp a.eval oi).run P w=.ok (.value v) w:=by((intro w e;(try dsimp only at e);go_simp);(try rfl)))(f:a.put oi.dst v=a':=by first | (simp only[Act.put,pu1,pu2,pu3,pu4,pu5,pu6];rfl) | rfl):tk (i::o) (wpAnyH P md ops Q S (fuel+1) listed a w):=by
 simp only[Z5]at hk;subst f;exact λ_ _=>wpAnyH_take hi hk.1.1 hk.1.2 hk.2 d (.inl ⟨hw,g⟩) hS (h _ rfl)
end
end
def shutOn{S:World->Prop}{X d:Act->World->Prop}(e:Shut (∀a w,S w->(S w->X a w)->d a w)){a a':Act}(h:S w->X a' w)(hS:S w:=by((try go_split_ands);(try simp only[Xi]);with_reducible repeat' first | assumption | apply And.intro | refine Proofs.YtbpjabgfcbjjmaaGreat.cell_set ω ?_ | refine Proofs.YtbpjabgfcbjjmaaGreat.cell_al ?_))(f:a=a':=by first | (simp only[Act.put,pu1,pu2,pu3,pu4,pu5,pu6];rfl) | rfl):d a w:=by subst f;exact e.o _ _ hS h
def shutOff{X d:Act->World->Prop}(e:Shut (∀a w,X a w->d a w)){a a':Act}(h:X a' w)(f:a=a':=by first | (simp only[Act.put,pu1,pu2,pu3,pu4,pu5,pu6];rfl) | rfl):d a w:=by subst f;exact e.o _ _ h
end Go
namespace Dz
open Am
variable {c j k n:Nat}{a:Nat->Nat->Rat}{u:Nat->Rat}
def skp (c j:Nat):Nat:=if j<c then j else j+1
def y4y (c:Nat):Rat:=if c%2=0 then 1 else -1
def y1z:Nat->(Nat->Nat->Rat)->Rat
  | 0,_=>1
  | n+1,a=>zai (n+1) λc=>y4y c*a 0 c*y1z n λi j=>a (i+1) (skp c j)
def y4Y(c:Nat):y4y (c+1) = -y4y c:=by unfold y4y;grind
def y5Z(c:Nat):y4y c≠0:=by unfold y4y;split<;>decide
def y24(h:j<n):skp c j<n+1:=by unfold skp;split<;>omega
def y4p(c j:Nat):skp c j≠c:=by unfold skp;split<;>omega
theorem y5F{i:Nat}(h:skp c i=skp c j):i=j:=by unfold skp at h;split at h<;>split at h<;>omega
theorem y1o:∀ {n:Nat} {a b:Nat->Nat->Rat},(∀i,i<n->∀j,j<n->a i j=b i j)->y1z n a=y1z n b
 | 0,_,_,_=>rfl
 | n+1,a,b,h=>by unfold y1z;exact zaj λc hc=>by rw[h 0 ω c hc,y1o λi hi j hj=>h (i+1) ω _ (y24 hj)]
def colc (a:Nat->Nat->Rat) (k:Nat) (u:Nat->Rat) (i j:Nat):Rat:=if j=k then u i else a i j
theorem y1t(a:Nat->Nat->Rat)(k:Nat)(u:Nat->Rat)(i:Nat):colc a k u i k=u i:=if_pos rfl
theorem y1u(a:Nat->Nat->Rat)(u:Nat->Rat)(i:Nat)(h:j≠k):colc a k u i j=a i j:=if_neg h
def drp (c k:Nat):Nat:=if k<c then k else k-1
theorem y2U(h:k≠c):skp c (drp c k)=k:=by unfold skp drp;grind
def y5f(h:k≠c)(hk:k<n+1)(hc:c<n+1):drp c k<n:=by unfold drp;split<;>omega
def y5t(c j:Nat):drp c (skp c j)=j:=by unfold skp drp;grind
def y4v(f:Nat->Rat):∀ {n c:Nat},c<n+1->zai (n+1) f=f c+zai n λj=>f (skp c j)
 | 0,c,h=>by
  obtain rfl:c=0:=ω;show(0:Rat)+f 0=f 0+0
  grind
 | n+1,c,h=>by
  by_cases e:c=n+1;subst e;show _+f (n+1)=_
  rw[zaj (f:=f) (g:=λj=>f (skp (n+1) j)) (n:=n+1) λj hj=>by rw[show skp (n+1) j=j by unfold skp;rw[if_pos hj]]];grind;show zai (n+1) f+f (n+1)=_+(zai n (λj=>f (skp c j))+f (skp c n))
  rw[y4v f (c:=c) (n:=n) ω,show skp c n=n+1 by unfold skp;rw[if_neg ω]];grind
def y2Q(h:k≠c):(λi j=>colc a k u (i+1) (skp c j))=colc (λi j=>a (i+1) (skp c j)) (drp c k) λi=>u (i+1):=by
 funext i j
 grind[y2U,y1t,y1u,y5F]
def y2P:(λi j=>colc a k u (i+1) (skp k j))=λi j=>a (i+1) (skp k j):=by
 funext i j;simp[y1u,y4p]
def y15(s t:Rat):∀ {n k:Nat} (a:Nat->Nat->Rat) (u v:Nat->Rat),k<n->y1z n (colc a k λi=>s*u i+t*v i)=s*y1z n (colc a k u)+t*y1z n (colc a k v)
 | 0,_,_,_,_,h=>absurd h (ZS _)
 | n+1,k,a,u,v,h=>by unfold y1z;rw[<-za7,<-za7,<-zcm];refine zaj λc hc=>?_;by_cases e:k=c;subst e;rw[y2P,y2P,y2P,y1t,y1t,y1t];grind;rw[y2Q e,y2Q e,y2Q e,y1u _ _ _ (Z6 e),y1u _ _ _ (Z6 e),y1u _ _ _ (Z6 e),y15 s t _ _ _ (y5f e h hc)];grind
theorem y3w(a:Nat->Nat->Rat)(hk:k<n):y1z n (colc a k λ_=>0)=0:=by have:=y15 0 0 a (λ_=>0) (λ_=>0) hk;grind
def y2n:∀ {n k:Nat} {a:Nat->Nat->Rat},k+1<n->(∀i,i<n->a i k=a i (k+1))->y1z n a=0
 | 0,_,_,h,_=>absurd h (ZS _)
 | n+1,k,a,h,e=>by
  unfold y1z;have o:=zdJ (f:=λc=>y4y c*a 0 c*y1z n λi j=>a (i+1) (skp c j)) (k:=k) (n:=n+1) ω;rw[o,zbI (k:=k+1) ω λc hc r=>?_];rw[if_neg ω];have l:y1z n (λi j=>a (i+1) (skp (k+1) j))=y1z n λi j=>a (i+1) (skp k j):=y1o λi hi j hj=>by by_cases g:j=k;subst g;rw[show skp (j+1) j=j by unfold skp;rw[if_pos ω],show skp j j=j+1 by unfold skp;rw[if_neg ω]];grind;rw[show skp (k+1) j=skp k j by unfold skp;split<;>split<;>omega]
  rw[l,y4Y,e 0 ω];grind;by_cases b:c=k;rw[if_pos b];rw[if_neg b];have m:¬k=c:=λq=>b q.symm
  have d:drp c (k+1)=drp c k+1:=by unfold drp;split<;>split<;>omega
  have p:y1z n (λi j=>a (i+1) (skp c j))=0:=y2n (k:=drp c k) (by have:=y5f (c:=c) (k:=k+1) (n:=n) ω ω hc;omega) λi hi=>by rw[y2U m,<-d,y2U ω];grind
  rw[p];grind
def y4I(a:Nat->Nat->Rat)(h:k+1<n):y1z n (colc (colc a k λi=>a i (k+1)) (k+1) λi=>a i k) = -y1z n a:=by
 have sum:∀x y:Nat->Rat,y1z n (colc (colc a k x) (k+1) y)+y1z n (colc (colc a k y) (k+1) x)=0:=λx y=>by
  have f:y1z n (colc (colc a k λi=>1*x i+1*y i) (k+1) λi=>1*x i+1*y i)=0:=y2n (k:=k) h λi _=>by rw[y1u _ _ _ ω,y1t,y1t]
  have g:y1z n (colc (colc a k x) (k+1) x)=0:=y2n (k:=k) h λi _=>by rw[y1u _ _ _ ω,y1t,y1t]
  have l:y1z n (colc (colc a k y) (k+1) y)=0:=y2n (k:=k) h λi _=>by rw[y1u _ _ _ ω,y1t,y1t]
  have d:∀u v:Nat->Rat,colc (colc a k u) (k+1) v=colc (colc a (k+1) v) k u:=λu v=>by
   funext i j
   unfold colc;grind
  rw[y15 1 1 _ _ _ h,d,d,y15 1 1 _ _ _ ω,y15 1 1 _ _ _ ω]at f;rw[<-d,<-d,<-d,<-d]at f;grind
 have:=sum (λi=>a i (k+1)) λi=>a i k
 have e:y1z n (colc (colc a k λi=>a i k) (k+1) λi=>a i (k+1))=y1z n a:=y1o λi _ j _=>by unfold colc;grind
 rw[e]at this;grind
def y2K{n:Nat}:∀(d:Nat) {k:Nat} {a:Nat->Nat->Rat},k+d+1<n->(∀i,i<n->a i k=a i (k+d+1))->y1z n a=0
 | 0,k,a,h,e=>y2n h e
 | d+1,k,a,h,e=>by
  have b:=y4I a (k:=k+d+1) h;have c:=y2K (n:=n) d (k:=k) (a:=colc (colc a (k+d+1) λi=>a i (k+d+1+1)) (k+d+1+1) λi=>a i (k+d+1)) ω λi hi=>by rw[y1u (k:=k+d+1+1) _ _ i (show k≠k+d+1+1 by omega),y1u (k:=k+d+1) _ _ i (show k≠k+d+1 by omega),y1u (k:=k+d+1+1) _ _ i (show k+d+1≠k+d+1+1 by omega),y1t];exact e i hi
  rw[c]at b;grind
def y2Y(a:Nat->Nat->Rat)(hk:k<n)(hj:j<n)(h:j≠k):y1z n (colc a k λi=>a i j)=0:=by rcases Nat.lt_or_gt_of_ne h with hl | hl;refine y2K (k-j-1) (k:=j) ω λi _=>?_;rw[show j+(k-j-1)+1=k by omega,y1t,y1u _ _ _ h];refine y2K (j-k-1) (k:=k) ω λi _=>?_;rw[show k+(j-k-1)+1=j by omega,y1t,y1u _ _ _ h]
def y3v(a:Nat->Nat->Rat):y1z n (colc a k λi=>a i k)=y1z n a:=by grind[y1o,y1t,y1u]
def y3X{n k:Nat}(a:Nat->Nat->Rat)(f:Nat->Nat->Rat)(x:Nat->Rat)(hk:k<n):∀m:Nat,y1z n (colc a k λi=>zai m λj=>x j*f j i)=zai m λj=>x j*y1z n (colc a k (f j))
 | 0=>by show y1z n (colc a k λ_=>0)=0;grind[y3w]
 | m+1=>by
  have:=y15 (x m) 1 a (f m) (λi=>zai m λj=>x j*f j i) hk;rw[y3X a f x hk m]at this;rw[show(λi=>zai (m+1) λj=>x j*f j i)=λi=>x m*f m i+1*zai m λj=>x j*f j i by funext i;show _+_=_;grind,this];show _=_+_
  grind
def y2B(a:Nat->Nat->Rat)(x b:Nat->Rat)(hk:k<n)(h:∀i,i<n->zai n (λj=>a i j*x j)=b i):y1z n (colc a k b)=x k*y1z n a:=by
 have e:y1z n (colc a k b)=y1z n (colc a k λi=>zai n λj=>x j*a i j):=y1o λi hi j _=>by grind[y1t,zaj,y1u]
 rw[e,y3X a (λj i=>a i j) x hk n,zbI (k:=k) hk λj hj d=>by rw[y2Y a hk hj d];grind,y3v]
def y3W(h:y1z n a≠0):Reg n a:=λx b j hj=>by have:=y2B a x (λ_=>0) hj b;rw[y3w a hj]at this;grind
def y4T (c:Nat) (v:Rat) (x:Nat->Rat) (t:Nat):Rat:=if t=c then v else x (drp c t)
def y5X(c:Nat)(v:Rat)(x:Nat->Rat):y4T c v x c=v:=if_pos rfl
def y2S(c:Nat)(v:Rat)(x:Nat->Rat)(j:Nat):y4T c v x (skp c j)=x j:=by unfold y4T;rw[if_neg (y4p _ _),y5t]
def y3o(hc:c<n+1)(g:Nat->Rat)(v:Rat)(x:Nat->Rat):zai (n+1) (λj=>g j*y4T c v x j)=g c*v+zai n λj=>g (skp c j)*x j:=by rw[y4v _ hc,y5X,zaj λj _=>by rw[y2S]]
def y3h (M:Nat->Nat->Rat) (c i j:Nat):Rat:=M (i+1) (skp c j)-M 0 (skp c j)/M 0 c*M (i+1) c
def y3x(M:Nat->Nat->Rat)(hc:c<n+1)(x:Nat->Rat)(i:Nat) :
  zai (n+1) (λj=>M (i+1) j*y4T c (-(zai n λj=>M 0 (skp c j)*x j)/M 0 c) x j)=zai n λj=>y3h M c i j*x j:=by
 rw[y3o hc];have e:(zai n λj=>y3h M c i j*x j)=zai n (λj=>M (i+1) (skp c j)*x j) + -(M (i+1) c/M 0 c)*zai n λj=>M 0 (skp c j)*x j:=by rw[<-za7,<-zcm];exact zaj λj _=>by unfold y3h;rw[Xa,Xa];grind
 rw[e];generalize zai n (λj=>M 0 (skp c j)*x j)=s;rw[Xa,Xa];grind
def y2D(M:Nat->Nat->Rat)(hc:c<n+1)(a:M 0 c≠0)(x:Nat->Rat) :
  zai (n+1) (λj=>M 0 j*y4T c (-(zai n λj=>M 0 (skp c j)*x j)/M 0 c) x j)=0:=by
 rw[y3o hc];generalize zai n (λj=>M 0 (skp c j)*x j)=s;rw[Xa];have:=Rat.mul_inv_cancel _ a;grind
def y1V:∀(n:Nat) (M:Nat->Nat->Rat),∃x:Nat->Rat,(∃j,j<n+1/\x j≠0)/\∀i,i<n->zai (n+1) (λj=>M i j*x j)=0
  | 0,M=>⟨λ_=>1,⟨0,ω,δ⟩,λi h=>absurd h (ZS _)⟩
  | n + 1,M => by
    by_cases h0:∃c,c<n+2/\M 0 c≠0;obtain⟨c,hc,d⟩:=h0;obtain⟨x,⟨j,hj,a⟩,b⟩:=y1V n (y3h M c);refine⟨y4T c (-(zai (n+1) λj=>M 0 (skp c j)*x j)/M 0 c) x,⟨skp c j,y24 hj,by rw[y2S];exact a⟩,λi hi=>?_⟩;cases i with
    | zero=>exact y2D M hc d x
    | succ i=>rw[y3x M hc x i];exact b i ω
    obtain⟨x,⟨j,hj,a⟩,b⟩:=y1V n λi j=>M (i+1) (skp (n+1) j)
    refine⟨y4T (n+1) 0 x,⟨skp (n+1) j,y24 hj,by rw[y2S];exact a⟩,λi hi=>?_⟩;cases i with
    | zero=>exact zcn λj hj=>by
                have:M 0 j=0:=by by_cases e:M 0 j=0;exact e;exact absurd ⟨j,hj,e⟩ h0
                rw[this];grind
    | succ i=>rw[y3o ω,b i ω];grind
def y2V (a:Nat->Nat->Rat) (c t i j:Nat):Rat:=if j<t/\j≠c then a i j-a 0 j/a 0 c*a i c else a i j
def y3u{n c:Nat}(a:Nat->Nat->Rat)(hc:c<n):∀t,t<=n->y1z n (y2V a c t)=y1z n a
 | 0,_=>y1o λi _ j _=>if_neg λh=>absurd h.1 (ZS _)
 | t+1,h=>by
  rw[<-y3u a hc t ω];by_cases e:t=c;exact y1o λi _ j _=>by unfold y2V;grind
  have d:=y15 1 (-(a 0 t/a 0 c)) (y2V a c t) (λi=>y2V a c t i t) (λi=>y2V a c t i c) (show t<n by omega);rw[y3v,y2Y _ ω hc (Z6 e)]at d;have f:y1z n (y2V a c (t+1))=y1z n (colc (y2V a c t) t λi=>1*y2V a c t i t + -(a 0 t/a 0 c)*y2V a c t i c):=y1o λi _ j _=>by by_cases b:j=t;rw[b,y1t];unfold y2V;rw[if_pos ⟨ω,e⟩,if_neg ω,if_neg ω];grind;rw[y1u _ _ _ b];unfold y2V;grind
  rw[f,d];grind
def y4G(a:Nat->Nat->Rat)(hc:c<n+1)(f:a 0 c≠0):y1z (n+1) a=y4y c*a 0 c*y1z n (y3h a c):=by
 rw[<-y3u a hc (n+1) (Za _)];show(zai (n+1) λd=>y4y d*y2V a c (n+1) 0 d*y1z n λi j=>y2V a c (n+1) (i+1) (skp d j))=_
 rw[zbI hc λj hj e=>?_];rw[show y2V a c (n+1) 0 c=a 0 c from if_neg λh=>h.2 rfl];rw[y1o (b:=y3h a c) λi _ j hj=>?_];show y2V a c (n+1) (i+1) (skp c j)=_
 unfold y2V;rw[if_pos ⟨y24 hj,y4p _ _⟩];rfl;rw[show y2V a c (n+1) 0 j=0 by unfold y2V;rw[if_pos ⟨hj,e⟩,Xa];have:=Rat.mul_inv_cancel _ f;grind];grind
def y4l:∀ {n:Nat} {a:Nat->Nat->Rat},Reg n a->y1z n a≠0
  | 0,_,_=>by show(1:Rat)≠0;decide
  | n + 1,a,h => by
    by_cases h0:∃c,c<n+1/\a 0 c≠0;obtain⟨c,hc,b⟩:=h0;rw[y4G a hc b]
    have hr:Reg n (y3h a c):=λx d j hj=>by
      have:=h (y4T c (-(zai n λj=>a 0 (skp c j)*x j)/a 0 c) x) (λi hi=>by
        cases i with
        | zero=>exact y2D a hc b x
        | succ i=>rw[y3x a hc x i];exact d i ω) (skp c j) (y24 hj)
      rw[y2S]at this;exact this
    have h1:=y4l hr;have f:=y5Z c;intro e;rcases YN.1 e with e | e;rcases YN.1 e with e | e;exact f e;exact b e;exact h1 e;obtain⟨x,⟨j,hj,d⟩,g⟩:=y1V n λi j=>a (i+1) j
    exact absurd (h x (λi hi=>by
      cases i with
      | zero=>grind[zcn]
      | succ i=>grind) j hj) d
end Dz
namespace Dz
open Am
variable {N j k t:Nat}{a:Nat->Nat->Rat}
def plZ (P:Nat->Bool) (N:Nat):List Nat:=(List.range N).filter P
def y1F(P:Nat->Bool)(N:Nat):plZ P (N+1)=plZ P N++if P N=true then [N]else []:=by unfold plZ;rw[Yp,List.filter_append];congr 1;cases h:P N<;>simp[h]
theorem pl_mem{P:Nat->Bool}:j∈plZ P N↔j<N/\P j=true:=by simp[plZ]
def y4i(P:Nat->Bool)(f:Nat->Rat):∀N,zai (plZ P N).length (λt=>f ((plZ P N).getD t 0))=zai N λj=>if P j=true then f j else 0
 | 0=>rfl
 | N+1=>by
  rw[y1F];show _=zai N (λj=>if P j=true then f j else 0)+if P N=true then f N else 0
  rw[<-y4i P f N];cases h:P N;simp;grind;rw[if_pos rfl,if_pos rfl,Zz];show zai (plZ P N).length _+_=_
  rw[zaj (g:=λt=>f ((plZ P N).getD t 0)) λt a=>by rw[Zh,Z4 a,<-Zh]];show _+f ((plZ P N++[N]).getD (plZ P N).length 0)=_
  rw[Zh,ZN (Za _),Xz];rfl
def y4h{P:Nat->Bool}(h:t<(plZ P N).length):(plZ P N).getD t 0<N/\P ((plZ P N).getD t 0)=true:=by rw[<-pl_mem,Zh,Ze h];exact Xk h
def y4e{P:Nat->Bool}(hj:j<N)(h:P j=true):∃t,t<(plZ P N).length/\(plZ P N).getD t 0=j:=by obtain⟨t,a,e⟩:=List.mem_iff_getElem.1 (pl_mem.2 ⟨hj,h⟩);exact⟨t,a,by rw[Zh,Ze a];exact e⟩
def y2r(P:Nat->Bool):∀ {N t:Nat},t<(plZ P N).length->(plZ P ((plZ P N).getD t 0)).length=t
 | 0,t,h=>absurd h (ZS _)
 | N+1,t,h=>by rw[y1F]at h ⊢;rcases ZM t (plZ P N).length with h1 | h1;rw[Zh,Z4 h1,<-Zh];exact y2r P h1;cases q:P N;rw[q]at h;simp at h;omega;rw[q]at h;simp at h;obtain rfl:t=(plZ P N).length:=ω;rw[if_pos rfl,Zh,ZN (Za _),Xz];rfl
def y3i (P:Nat->Bool) (N:Nat) (x:Nat->Rat) (j:Nat):Rat:=if P j=true/\j<N then x (plZ P j).length else 0
def y34{P:Nat->Bool}(x:Nat->Rat)(h:t<(plZ P N).length):y3i P N x ((plZ P N).getD t 0)=x t:=by obtain⟨h1,a⟩:=y4h h;unfold y3i;rw[if_pos ⟨a,h1⟩,y2r P h]
theorem y35{P:Nat->Bool}(x:Nat->Rat)(h:P j=false):y3i P N x j=0:=if_neg λq=>by rw[h]at q;grind
def y2X (k N:Nat) (a:Nat->Nat->Rat) (P:Nat->Bool):Prop:=∀x:Nat->Rat,(∀j,j<N->P j=false->x j=0)->(∀i,i<k->zai N (λj=>a i j*x j)=0)->∀j,j<N->x j=0
def y3r (k N:Nat) (a:Nat->Nat->Rat):Prop:=∀y:Nat->Rat,(∀j,j<N->zai k (λi=>y i*a i j)=0)->∀i,i<k->y i=0
def y3l{n:Nat}(h:n<k)(M:Nat->Nat->Rat):∃x:Nat->Rat,(∃j,j<k/\x j≠0)/\∀i,i<n->zai k (λj=>M i j*x j)=0:=by obtain⟨x,⟨j,hj,a⟩,b⟩:=y1V n M;refine⟨λj=>if j<n+1 then x j else 0,⟨j,ω,by simp only[hj,if_true];exact a⟩,λi hi=>?_⟩;rw[zh6 (m:=n+1) ω λj h1 _=>by simp only[show ¬j<n+1 by omega,if_false];grind];rw[<-b i hi];simp_all[zaj,if_true]
def y3j{P:Nat->Bool}(g x:Nat->Rat):zai N (λj=>g j*y3i P N x j)=zai (plZ P N).length λt=>g ((plZ P N).getD t 0)*x t:=by
 have h:=y4i P (λj=>g j*y3i P N x j) N;rw[zaj (f:=λj=>g j*y3i P N x j) (g:=λj=>if P j=true then g j*y3i P N x j else 0) λj _=>?_,<-h];exact zaj λt a=>by rw[y34 x a]
 grind[y35]
def y2X.le{P:Nat->Bool}(h:y2X k N a P):(plZ P N).length<=k:=by
 rcases ZM k (plZ P N).length with hl | hl;obtain⟨x,⟨t,b,d⟩,e⟩:=y3l hl λi t=>a i ((plZ P N).getD t 0)
 have:=h (y3i P N x) (λj _ c=>y35 x c) (λi hi=>by rw[y3j];exact e i hi) _ (y4h b).1;rw[y34 x b]at this;grind;exact hl
def y2X.more{P:Nat->Bool}(h:y2X k N a P)(hr:y3r k N a)(m:(plZ P N).length<k):∃j,j<N/\P j=false/\y2X k N a λt=>P t||decide (t=j):=by
 obtain⟨y,⟨i,hi,r⟩,u⟩:=y3l m λt i=>a i ((plZ P N).getD t 0)
 have ex:∃j,j<N/\zai k (λi=>y i*a i j)≠0:=by by_cases e:∃j,j<N/\zai k (λi=>y i*a i j)≠0;exact e;exact absurd (hr y (λj hj=>by by_cases q:zai k (λi=>y i*a i j)=0;exact q;exact absurd ⟨j,hj,q⟩ e) i hi) r
 obtain⟨j,hj,f⟩:=ex;have zero:∀t,t<N->P t=true->zai k (λi=>y i*a i t)=0:=λt b d=>by obtain⟨s,c,e⟩:=y4e b d;have:=u s c;rw[e]at this;rw[<-this];exact zaj λi _=>ψ
 have d:P j=false:=by cases q:P j;rfl;exact absurd (zero j hj q) f
 refine⟨j,hj,d,λx l c=>?_⟩;have g:zai N (λt=>zai k (λi=>y i*a i t)*x t)=0:=by rw[show zai N (λt=>zai k (λi=>y i*a i t)*x t)=zai k λi=>y i*zai N λt=>a i t*x t by rw[zaj λt _=>(zb6 _ _ _).symm,zbq];exact zaj λi _=>by rw[<-za7];exact zaj λt _=>ψ];exact zcn λi hi=>by rw[c i hi];grind
 rw[zbI (k:=j) hj λt b n=>by cases q:P t;rw[l t b (by simp[q,n])];grind;rw[zero t b q];grind]at g;have p:x j=0:=by rcases YN.1 g with e | e;exact absurd e f;exact e
 refine h x (λt b o=>?_) c;grind
def y5B{P:Nat->Bool}(hj:j<N)(a:P j=false):(plZ (λt=>P t||decide (t=j)) N).length=(plZ P N).length+1:=by
 induction N with
 | zero=>exact absurd hj (ZS _)
 | succ N ih =>
  rw[y1F,y1F,Zz,Zz];by_cases e:j=N;subst e;rw[show plZ (λt=>P t||decide (t=j)) j=plZ P j from List.filter_congr λt b=>by have:=Xb.1 b;simp;omega];simp[a];grind
def y2X.full{k N:Nat}{a:Nat->Nat->Rat}(hr:y3r k N a):∀(d:Nat) {P:Nat->Bool},y2X k N a P->(plZ P N).length+d=k->∃Q,(∀j,P j=true->Q j=true)/\y2X k N a Q/\(plZ Q N).length=k
 | 0,P,h,e=>⟨P,λ_ q=>q,h,e⟩
 | d+1,P,h,e=>by obtain⟨j,hj,f,hi⟩:=h.more hr ω;obtain⟨Q,g,b,c⟩:=y2X.full hr d hi (by rw[y5B hj f];omega);grind
def y2X.det{P:Nat->Bool}(h:y2X k N a P)(b:(plZ P N).length=k):y1z k (λi t=>a i ((plZ P N).getD t 0))≠0 :=
 y4l λx d t e=>by have:=h (y3i P N x) (λj _ c=>y35 x c) (λi hi=>by rw[y3j,b];exact d i hi) _ (y4h (P:=P) (N:=N) (t:=t) ω).1;rw[y34 x ω]at this;exact this
end Dz
namespace Dz
open Am
variable {cols rs:List Nat}{N:Nat}
def y1l:Nat->Nat->List (List Nat)
  | _,0=>[[]]
  | 0,_+1=>[]
  | n+1,k+1=>if n+1<k+1 then []else y1l n (k+1)++(y1l n k).map λx=>x++[n]
def y4f(P:Nat->Bool)(N:Nat):(plZ P N).length<=N:=by have:=List.length_filter_le P (List.range N);rw[VF]at this;exact this
def y2R(P:Nat->Bool):∀N,plZ P N∈y1l N (plZ P N).length
 | 0=>XF.2 rfl
 | N+1=>by
  have a:=y2R P N;have hle:=y4f P N;rw[y1F];cases q:P N;simp only[if_false,XV,XT];generalize hk:(plZ P N).length=k at *
  cases k with
  | zero=>rw[Xo.1 hk];exact XF.2 rfl
  | succ k=>unfold y1l;rw[if_neg ω];exact ZT.2 (.inl a)
  simp only[if_true,Zz,List.length_singleton];unfold y1l;rw[if_neg ω];exact ZT.2 (.inr (ZH.2 ⟨_,a,rfl⟩))
def y3F{P Q:Nat->Bool}(h:∀j,j<N->P j=Q j):plZ P N=plZ Q N:=List.filter_congr λj hj=>h j (Xb.1 hj)
theorem picks_pl:∀ {n k:Nat} {l:List Nat},l∈y1l n k->∃P,l=plZ P n/\l.length=k
 | n,0,l,h=>by unfold y1l at h;obtain rfl:=XF.1 h;exact⟨λ_=>false,by simp[plZ],rfl⟩
 | 0,k+1,l,h=>by unfold y1l at h;cases h
 | n+1,k+1,l,h=>by
  unfold y1l at h;split at h
  cases h;rcases ZT.1 h with h | h;obtain⟨P,rfl,a⟩:=picks_pl h;refine⟨λt=>P t&&decide (t<n),?_,a⟩;rw[y1F,if_neg σ,XT];exact y3F λj hj=>by simp[hj]
  obtain⟨x,b,rfl⟩:=ZH.1 h;obtain⟨P,rfl,a⟩:=picks_pl b;refine⟨λt=>P t||decide (t=n),?_,by simp[a]⟩;rw[y1F,if_pos σ];congr 1;exact y3F λj hj=>by simp[show j≠n by omega]
def y2u:Nat->(Nat->Int)->Int
  | 0,_=>0
  | n+1,f=>y2u n f+f n
def y26(f:Nat->Int):∀n,((y2u n f:Int):Rat)=zai n λi=>(f i:Rat)
 | 0=>rfl
 | n+1=>by show((y2u n f+f n:Int):Rat)=_+_;rw[Rat.intCast_add,y26 f n]
def ez (A:List (List Int)) (i j:Nat):Int:=(A.getD i []).getD j 0
def y2h (c:Nat) (r:List Int):List Int:=r.take c++r.drop (c+1)
def y5o(c:Nat)(r:List Int)(j:Nat)(hc:c<r.length):(y2h c r).getD j 0=r.getD (skp c j) 0:=by unfold y2h skp;rw[Zh,Zh];by_cases h:j<c;rw[if_pos h,Z4 (by rw[ZI];omega),List.getElem?_take_of_lt h];rw[if_neg h,ZN (by rw[ZI];omega),ZI,YU,show c+1+(j-min c r.length)=j+1 by omega]
def cutL_len(c:Nat)(r:List Int)(hc:c<r.length):(y2h c r).length=r.length-1:=by unfold y2h;rw[Zz,ZI,Yh];omega
def y1C:Nat->List (List Int)->Int
  | 0,_=>1
  | n+1,M=>y2u (n+1) λc=>if ez M 0 c=0 then 0 else if c%2=0 then ez M 0 c*y1C n (M.tail.map (y2h c))else -(ez M 0 c*y1C n (M.tail.map (y2h c)))
def y2J:∀ {n:Nat} {M:List (List Int)},M.length=n->(∀r∈M,r.length=n)->((y1C n M:Int):Rat)=y1z n λi j=>(ez M i j:Rat)
 | 0,_,_,_=>rfl
 | n+1,M,hl,hr=>by
  unfold y1C y1z;rw[y26];refine zaj λc hc=>?_
  have hm:((y1C n (M.tail.map (y2h c)):Int):Rat)=y1z n λi j=>(ez M (i+1) (skp c j):Rat):=by
   rw[y2J (by rw[ZK,List.length_tail];omega) λr h=>by obtain⟨x,d,rfl⟩:=ZH.1 h;have:=hr x (List.mem_of_mem_tail d);rw[cutL_len c x ω];omega];refine y1o λi hi j hj=>?_;unfold ez;have b:i<M.tail.length:=by rw[List.length_tail];omega
   rw[Zh (l:=List.map _ _),Z1,Ze b];show((y2h c M.tail[i]).getD j 0:Rat)=_
   have d:=hr _ (List.mem_of_mem_tail (Xk b));rw[y5o c _ j ω,List.getElem_tail,Zh (l:=M),Ze ω];rfl
  rw[<-hm];unfold y4y;show _=_*((ez M 0 c:Int):Rat)*_
  by_cases h0:ez M 0 c=0;rw[if_pos h0,h0,show((0:Int):Rat)=0 from rfl];grind;rw[if_neg h0];by_cases a:c%2=0;rw[if_pos a,if_pos a,Rat.intCast_mul];grind;rw[if_neg a,if_neg a,Rat.intCast_neg,Rat.intCast_mul];grind
def y1p (A:List (List Int)) (rs cols:List Nat):List (List Int):=rs.map λr=>cols.map λc=>ez A r c
def y39{A:List (List Int)}{i j:Nat}(hi:i<rs.length)(hj:j<cols.length):ez (y1p A rs cols) i j=ez A (rs.getD i 0) (cols.getD j 0):=by
 conv=>lhs;unfold ez y1p
 rw[Zh (l:=List.map _ rs),Z1,Ze hi];show(cols.map λc=>ez A rs[i] c).getD j 0=_
 rw[Zh,Z1,Ze hj,Zh (l:=rs),Ze hi,Zh (l:=cols),Ze hj];rfl
def y1W{A:List (List Int)}(h:cols.length=rs.length):((y1C rs.length (y1p A rs cols):Int):Rat)=y1z rs.length λi t=>(ez A (rs.getD i 0) (cols.getD t 0):Rat):=by rw[y2J (by simp[y1p]) λr hr=>by obtain⟨x,_,rfl⟩:=ZH.1 hr;rw[ZK,h]];exact y1o λi hi j hj=>by rw[y39 hi ω]
def y1J (A:List (List Int)) (rs:List Nat) (n:Nat):Bool:=(y1l n rs.length).any λp=>decide (y1C rs.length (y1p A rs p)≠0)
def y4H{k:Nat}{a:Nat->Nat->Rat}{p:Nat->Nat}(n:∀t,t<k->p t<N)(h:y1z k (λi t=>a i (p t))≠0):y3r k N a:=λy o i hi=>by
 have hr:=y3W h;obtain⟨x,⟨j,hj,d⟩,q⟩:=y1V k λr t=>if t=k then (if r=i then 1 else 0)else a r (p t)
 have split:∀r,r<k->zai k (λt=>a r (p t)*x t)+(if r=i then 1 else 0)*x k=0:=λr b=>by
  have:=q r b;have e:zai (k+1) (λt=>(if t=k then (if r=i then 1 else 0)else a r (p t))*x t)=zai k (λt=>a r (p t)*x t)+(if r=i then 1 else 0)*x k:=by
   show zai k (λt=>(if t=k then (if r=i then (1:Rat)else 0)else a r (p t))*x t)+(if k=k then (if r=i then (1:Rat)else 0)else a r (p k))*x k=_
   rw[if_pos rfl,zaj (g:=λt=>a r (p t)*x t) λt c=>by rw[if_neg ω]]
  rw[<-e];exact this
 have dot:y i*x k=0:=by
  have h1:zai k (λr=>y r*(zai k (λt=>a r (p t)*x t)+(if r=i then 1 else 0)*x k))=0:=zcn λr b=>by rw[split r b];grind
  have f:zai k (λr=>y r*(zai k (λt=>a r (p t)*x t)+(if r=i then 1 else 0)*x k))=zai k (λt=>zai k (λr=>y r*a r (p t))*x t)+zai k λr=>y r*((if r=i then 1 else 0)*x k):=by rw[zaj (g:=λr=>zai k (λt=>y r*a r (p t)*x t)+y r*((if r=i then 1 else 0)*x k)) λr _=>by rw[Rat.mul_add,<-za7];congr 1;exact zaj λt _=>ψ];rw[zcm,zbq];simp[zaj,zb6]
  rw[f,zcn (λt c=>by rw[o _ (n t c)];grind),zbI (k:=i) hi λr _ m=>by rw[if_neg m];grind,if_pos rfl]at h1;grind
 rcases YN.1 dot with e | e;exact e;have l:=hr x λr b=>by have:=split r b;rw[e]at this;grind
 rcases ZM j k with hjk | hjk;exact absurd (l j hjk) d;obtain rfl:j=k:=ω;exact absurd e d
def y27{A:List (List Int)}{n:Nat}:y1J A rs n=true↔y3r rs.length n λi j=>(ez A (rs.getD i 0) j:Rat):=by
 unfold y1J;rw[List.any_eq_true];constructor;rintro⟨p,f,c⟩;obtain⟨P,rfl,a⟩:=picks_pl f;have d:=Xx c;refine y4H (p:=λt=>(plZ P n).getD t 0) (λt k=>(y4h ω).1) ?_;intro e;rw[<-y1W (A:=A) (cols:=plZ P n) a]at e;simp_all
 intro h;obtain⟨Q,_,b,a⟩:=y2X.full h rs.length (P:=λ_=>false) (λx g _ j hj=>g j hj rfl) (by simp[plZ]);refine⟨plZ Q n,by have:=y2R Q n;rwa [a]at this,ZG λe=>b.det a ?_⟩;rw[<-y1W (A:=A) (cols:=plZ Q n) a,e];rfl
end Dz
namespace Dz
open Am
variable {k n:Nat}{v w:Nat->Nat->Rat}
def y1Y(f:Nat->Rat)(n:Nat):zai (n+1) f=zai n f+f n:=rfl
def y3n{l:Nat}(h:y3r k n v)(c:Nat->Nat->Rat)(hc:∀i,i<k->∀j,j<n->v i j=zai l λt=>c i t*w t j):k<=l:=by
 rcases ZM l k with hl | hl;obtain⟨x,⟨i,hi,b⟩,d⟩:=y3l hl λt i=>c i t
 have:=h x (λj hj=>by rw[zaj λi hi=>by rw[hc i hi j hj,<-za7],zbq];exact zcn λt a=>by rw[show zai k (λi=>x i*(c i t*w t j))=zai k (λi=>c i t*x i)*w t j by rw[<-zb6];exact zaj λi _=>ψ];rw[d t a];grind) i hi;grind;exact hl
def y3G(h:y3r k n v)(d:¬y3r (k+1) n v):∃c:Nat->Rat,∀j,j<n->v k j=zai k λi=>c i*v i j:=by
 have:∃y:Nat->Rat,(∀j,j<n->zai (k+1) (λi=>y i*v i j)=0)/\∃i,i<k+1/\y i≠0:=by by_cases e:∃y:Nat->Rat,(∀j,j<n->zai (k+1) (λi=>y i*v i j)=0)/\∃i,i<k+1/\y i≠0;exact e;exact absurd (λy a i hi=>by simp_all) d
 obtain⟨y,a,i,hi,b⟩:=this;have hk:y k≠0:=λe=>by have:=h y (λj hj=>by have:=a j hj;rw[y1Y,e]at this;grind);rcases ZM i k with q | q;exact b (this i q);obtain rfl:i=k:=ω;exact b e
 refine⟨λi => -(y i)/y k,λj hj=>?_⟩;have h1:=a j hj;rw[y1Y]at h1;rw[show zai k (λi => -(y i)/y k*v i j) = -(1/y k)*zai k λi=>y i*v i j by rw[<-za7];exact zaj λi _=>by rw[Xa,Xa];grind];have:=Rat.mul_inv_cancel _ hk;rw[Xa];grind
def y1i (A:List (List Int)) (n:Nat):Nat->List Nat
  | 0=>[]
  | r+1=>if y1J A (y1i A n r++[r]) n=true then y1i A n r++[r]else y1i A n r
def y1x (A:List (List Int)) (rs:List Nat) (i j:Nat):Rat:=(ez A (rs.getD i 0) j:Rat)
theorem y1m{α:Type}{l m:List α}{i:Nat}{d:α}(h:i<l.length):(l++m).getD i d=l.getD i d:=by rw[Zh,Z4 h,<-Zh]
def y1r{α:Type}{l:List α}{x d:α}:(l++[x]).getD l.length d=x:=by rw[Zh,ZN (Za _),Xz];rfl
def y2G(e:∀i,i<k->∀j,j<n->v i j=w i j)(h:y3r k n v):y3r k n w:=λy b i hi=>h y (λj hj=>by rw[<-b j hj];grind[zaj]) i hi
def y1I(A:List (List Int))(n:Nat):∀r,y3r (y1i A n r).length n (y1x A (y1i A n r))
 | 0=>λ_ _ i h=>absurd h (ZS _)
 | r+1=>by unfold y1i;by_cases e:y1J A (y1i A n r++[r]) n=true;rw[if_pos e];exact y27.1 e;rw[if_neg e];exact y1I A n r
def y1M(A:List (List Int))(n:Nat):∀r q,q<r->∃c:Nat->Rat,∀j,j<n->(ez A q j:Rat)=zai (y1i A n r).length λt=>c t*y1x A (y1i A n r) t j
 | 0,q,h=>absurd h (ZS _)
 | r+1,q,h=>by
  have keep:q<r->∃c:Nat->Rat,∀j,j<n->(ez A q j:Rat)=zai (y1i A n (r+1)).length λt=>c t*y1x A (y1i A n (r+1)) t j:=λa=>by
   obtain⟨c,hc⟩:=y1M A n r q a;unfold y1i;by_cases e:y1J A (y1i A n r++[r]) n=true;rw[if_pos e];refine⟨λt=>if t<(y1i A n r).length then c t else 0,λj hj=>?_⟩
   dsimp only
   rw[Zz,hc j hj,show[r].length=1 from rfl,y1Y,if_neg (X5 _),zaj (n:=(y1i A n r).length) (f:=λt=>(if t<(y1i A n r).length then c t else 0)*y1x A (y1i A n r++[r]) t j) (g:=λt=>c t*y1x A (y1i A n r) t j) λt b=>by rw[if_pos b];unfold y1x;rw[y1m b]];grind;rw[if_neg e];exact⟨c,hc⟩
  rcases ZM q r with a | a;exact keep a;obtain rfl:q=r:=ω;unfold y1i;by_cases e:y1J A (y1i A n q++[q]) n=true;rw[if_pos e];refine⟨λt=>if t=(y1i A n q).length then 1 else 0,λj hj=>?_⟩
  dsimp only
  rw[Zz,show[q].length=1 from rfl];rw[zbI (k:=(y1i A n q).length) (Nat.lt_succ_self _) λt _ d=>by rw[if_neg d];grind,if_pos rfl];unfold y1x;rw[y1r];grind;rw[if_neg e];have hi:=y1I A n q;have l:y3r (y1i A n q).length n (y1x A (y1i A n q++[q])):=y2G (λi hi j _=>by unfold y1x;rw[y1m hi]) hi;obtain⟨c,hc⟩:=y3G l λh=>e (y27.2 (by rw[Zz];exact h))
  refine⟨c,λj hj=>?_⟩;have:=hc j hj;unfold y1x at this;rw[y1r]at this;rw[this];exact zaj λt b=>by unfold y1x;rw[y1m b]
def rankTo_lt(A:List (List Int))(n:Nat):∀r,∀x∈y1i A n r,x<r
 | 0,x,h=>by cases h
 | r+1,x,h=>by
  unfold y1i at h;split at h
  rcases ZT.1 h with h | h;have:=rankTo_lt A n r x h;omega;have:=XF.1 h;omega;have:=rankTo_lt A n r x h;omega
def y41{M:Nat->Nat->Rat}(h:y1z k M≠0)(b:Nat->Rat):∃u:Nat->Rat,∀i,i<k->zai k (λt=>M i t*u t)=b i:=by
 obtain⟨x,⟨j,hj,a⟩,c⟩:=y1V k λi t=>if t=k then b i else M i t
 have split:∀i,i<k->zai k (λt=>M i t*x t)+b i*x k=0:=λi hi=>by have:=c i hi;change zai k (λt=>(if t=k then b i else M i t)*x t)+(if k=k then b i else M i k)*x k=0 at this;rw[if_pos rfl,zaj (g:=λt=>M i t*x t) λt d=>by rw[if_neg ω]]at this;exact this
 have hk:x k≠0:=λe=>by
  have:=y3W h x λi hi=>by have:=split i hi;rw[e]at this;grind
  rcases ZM j k with q | q;exact a (this j q);obtain rfl:j=k:=ω;exact a e
 refine⟨λt => -(x t)/x k,λi hi=>?_⟩;rw[show zai k (λt=>M i t*(-(x t)/x k)) = -(1/x k)*zai k λt=>M i t*x t by rw[<-za7];exact zaj λt _=>by rw[Xa,Xa];grind];have:=split i hi;have:=Rat.mul_inv_cancel _ hk;rw[Xa];grind
end Dz
namespace Dz
open Am
variable {j k:Nat}
def y17 (a:List (List Int)) (j:Nat) (b:Nat->Int):List (List Int):=a.mapIdx λr row=>row.set j (b r)
def y5E{a:List (List Int)}{b:Nat->Int}(c:a.length=k)(hr:∀r∈a,r.length=k)(hj:j<k){i t:Nat}(hi:i<k):ez (y17 a j b) i t=if t=j then b i else ez a i t:=by
 have d:=hr _ (Xk (show i<a.length by omega))
 conv=>lhs;unfold ez y17
 rw[Zh (l:=List.mapIdx _ a),List.getElem?_mapIdx,Ze (show i<a.length by omega)];show((a[i]' ω).set j (b i)).getD t 0=_
 rw[Zh,Xy];by_cases e:j=t;rw[if_pos e,if_pos ω,if_pos e.symm];rfl;rw[if_neg e,if_neg (Z6 e)];unfold ez;rw[Zh (l:=a),Ze (show i<a.length by omega),Zh];rfl
def y4V{a:List (List Int)}{b:Nat->Int}(c:a.length=k)(hr:∀r∈a,r.length=k)(hj:j<k):((y1C k (y17 a j b):Int):Rat)=y1z k (colc (λi t=>(ez a i t:Rat)) j λi=>(b i:Rat)):=by rw[y2J (by unfold y17;rw[List.length_mapIdx,c]) λr h=>by unfold y17 at h;obtain⟨i,hi,e⟩:=List.mem_mapIdx.1 h;rw[<-e,ZW];exact hr _ (Xk hi)];exact y1o λi hi t d=>by rw[y5E c hr hj hi];unfold colc;split<;>rfl
def y6y (N:Nat) (cols:List Nat) (v:Nat->Rat):Nat->List Rat
  | 0=>List.replicate N 0
  | t+1=>(y6y N cols v t).set (cols.getD t 0) (v t)
def y6v(N:Nat)(cols:List Nat)(v:Nat->Rat):∀t,(y6y N cols v t).length=N
 | 0=>ZQ
 | t+1=>by unfold y6y;rw[ZW,y6v N cols v t]
def y6A{N:Nat}{P:Nat->Bool}(v:Nat->Rat):∀ {t:Nat},t<=(plZ P N).length->∀j,j<N->el (y6y N (plZ P N) v t) j=if P j=true/\(plZ P j).length<t then v (plZ P j).length else 0
 | 0,_,j,hj=>by rw[if_neg λh=>absurd h.2 (ZS _)];exact zrm N j
 | t+1,h,j,hj=>by
  unfold y6y;obtain⟨h1,b⟩:=y4h (P:=P) (N:=N) (t:=t) ω;have d:=y2r P (N:=N) (t:=t) ω;rw[ziZ (by rw[y6v];exact h1)];by_cases e:(plZ P N).getD t 0=j;rw[if_pos e];rw[e]at d b;rw[if_pos ⟨b,ω⟩,d];rw[if_neg e,y6A v ω j hj];by_cases q:P j=true;have k:(plZ P j).length≠t:=λi=>by obtain⟨s,g,es⟩:=y4e hj q;have c:=y2r P g;rw[es,i]at c;rw[<-c]at es;exact e es
  by_cases f:(plZ P j).length<t;rw[if_pos ⟨q,f⟩,if_pos ⟨q,ω⟩];rw[if_neg λa=>f a.2,if_neg λa=>by have:=a.2;omega];grind
def y4S{N:Nat}{P:Nat->Bool}(v:Nat->Rat)(hj:j<N):el (y6y N (plZ P N) v (plZ P N).length) j=y3i P N v j:=by
 rw[y6A v (Za _) j hj];unfold y3i;by_cases q:P j=true;have:(plZ P j).length<(plZ P N).length:=by obtain⟨s,b,es⟩:=y4e hj q;have a:=y2r P b;rw[es]at a;omega
 rw[if_pos ⟨q,this⟩,if_pos ⟨q,hj⟩];grind
def y6w (A:List (List Int)) (B:List Int) (N:Nat) (rs cols:List Nat):List Rat :=
  y6y N cols (λt=>Rat.divInt (y1C rs.length (y17 (y1p A rs cols) t λr=>B.getD (rs.getD r 0) 0)) (y1C rs.length (y1p A rs cols))) cols.length
section
variable {A:List (List Int)} {B:List Int} {N:Nat} {rs:List Nat} {P:Nat->Bool} (hl:(plZ P N).length=rs.length) (hd:y1C rs.length (y1p A rs (plZ P N))≠0)
include hl hd
theorem y2H{u:Nat->Rat}(k:∀i,i<rs.length->zai rs.length (λt=>(ez A (rs.getD i 0) ((plZ P N).getD t 0):Rat)*u t)=(B.getD (rs.getD i 0) 0:Int))(hj:j<N):el (y6w A B N rs (plZ P N)) j=y3i P N u j:=by
 unfold y6w;rw[y4S _ hj];unfold y3i;by_cases q:P j=true/\j<N;rw[if_pos q,if_pos q];obtain⟨s,g,es⟩:=y4e q.2 q.1;have a:=y2r P g;rw[es]at a;rw[a];have c:s<rs.length:=ω;have f:∀r∈y1p A rs (plZ P N),r.length=rs.length:=λr hr=>by obtain⟨x,_,rfl⟩:=ZH.1 hr;rw[ZK,hl]
 dsimp only
 rw[YD,y4V (by simp[y1p]) f c,y1W hl];have hc:=y2B (λi t=>(ez A (rs.getD i 0) ((plZ P N).getD t 0):Rat)) u (λi=>((B.getD (rs.getD i 0) 0:Int):Rat)) c k;rw[y1o (b:=colc (λi t=>(ez A (rs.getD i 0) ((plZ P N).getD t 0):Rat)) s λi=>((B.getD (rs.getD i 0) 0:Int):Rat)) λi hi t l=>by
  unfold colc;split
  rfl
  dsimp only;rw[y39 hi ω],hc]
 have d:y1z rs.length (λi t=>(ez A (rs.getD i 0) ((plZ P N).getD t 0):Rat))≠0:=λe=>by rw[<-y1W (A:=A) hl]at e;exact hd (by exact_mod_cast e)
 rw[Xa,Rat.mul_assoc,Rat.mul_inv_cancel _ d,Rat.mul_one];grind
theorem y4j:∃u:Nat->Rat,(∀i,i<rs.length->zai rs.length (λt=>(ez A (rs.getD i 0) ((plZ P N).getD t 0):Rat)*u t)=(B.getD (rs.getD i 0) 0:Int))/\∀j,j<N->el (y6w A B N rs (plZ P N)) j=y3i P N u j:=by
 have b:y1z rs.length (λi t=>(ez A (rs.getD i 0) ((plZ P N).getD t 0):Rat))≠0:=λe=>by rw[<-y1W (A:=A) hl]at e;simp_all
 obtain⟨u,a⟩:=y41 b λi=>((B.getD (rs.getD i 0) 0:Int):Rat)
 exact⟨u,a,λj hj=>y2H hl hd a hj⟩
end
end Dz
namespace Dz
open Am
variable {i:Nat}
def y1q (A:List (List Int)) (B:List Int):List (List Int):=A.mapIdx λr row=>row++[B.getD r 0]
def y2p (A:List (List Int)) (B:List Int) (N:Nat):Bool:=decide ((y1i (y1q A B) (N+1) A.length).length=(y1i A N A.length).length)
def y1G (z:List Rat):Bool:=z.any λq=>decide (q<0)
def y1k (A:List (List Int)) (B:List Int) (N:Nat):List (List Rat) :=
  if y2p A B N=true then (y1l N (y1i A N A.length).length).filterMap λp=>if y1C (y1i A N A.length).length (y1p A (y1i A N A.length) p)=0 then none else if y1G (y6w A B N (y1i A N A.length) p)=true then none else some (y6w A B N (y1i A N A.length) p)
  else []
structure FitZ (A:List (List Int)) (B:List Int) (N:Nat) (z:Nat->Rat):Prop where
  row:∀i,i<A.length->zai N (λj=>(ez A i j:Rat)*z j)=(B.getD i 0:Int)
  nn:∀j,j<N->0<=z j
section
variable {A:List (List Int)} {B:List Int} {N:Nat} (hA:∀r∈A,r.length=N)
theorem y4w(i:Nat)(hi:i<A.length):(y1q A B).getD i []=A.getD i []++[B.getD i 0]:=by unfold y1q;rw[Zh,List.getElem?_mapIdx,Ze hi,Zh (l:=A),Ze hi];rfl
include hA
theorem y4m(hi:i<A.length):(A.getD i []).length=N:=by rw[Zh,Ze hi];exact hA _ (Xk hi)
theorem y2t{j:Nat}(hi:i<A.length)(hj:j<N):ez (y1q A B) i j=ez A i j:=by unfold ez;rw[y4w i hi,y1m (by rw[y4m hA hi];exact hj)]
theorem y2b(hi:i<A.length):ez (y1q A B) i N=B.getD i 0:=by unfold ez;rw[y4w i hi,<-y4m hA hi,y1r]
theorem y2T{t:Nat}(a:t<(y1i A N A.length).length):(y1i A N A.length).getD t 0<A.length:=by rw[Zh,Ze a];exact rankTo_lt A N A.length _ (Xk a)
theorem y3J:y3r (y1i A N A.length).length (N+1) (y1x (y1q A B) (y1i A N A.length)):=λy b i hi =>
 y1I A N A.length y (λj hj=>by rw[<-b j ω];exact zaj λt a=>by unfold y1x;rw[y2t hA (y2T hA a) hj]) i hi
theorem y4L(hf:y2p A B N=true){r:Nat}(hr:r<A.length):∃c:Nat->Rat,(∀j,j<N->(ez A r j:Rat)=zai (y1i A N A.length).length λt=>c t*(ez A ((y1i A N A.length).getD t 0) j:Rat))/\((B.getD r 0:Int):Rat)=zai (y1i A N A.length).length λt=>c t*((B.getD ((y1i A N A.length).getD t 0) 0:Int):Rat):=by
 have hw:=y3J (B:=B) hA;have f:y3r (y1i A N A.length).length (N+1) (y1x (y1q A B) (y1i A N A.length++[r])):=y2G (λi hi j _=>by unfold y1x;rw[y1m hi]) hw;have d:¬y3r ((y1i A N A.length).length+1) (N+1) (y1x (y1q A B) (y1i A N A.length++[r])):=λh=>by
  have b:∀i,i<(y1i A N A.length).length+1->∃c:Nat->Rat,∀j,j<N+1->y1x (y1q A B) (y1i A N A.length++[r]) i j=zai (y1i (y1q A B) (N+1) A.length).length λt=>c t*y1x (y1q A B) (y1i (y1q A B) (N+1) A.length) t j:=λi hi=>by
   have e:(y1i A N A.length++[r]).getD i 0<A.length:=by rcases ZM i (y1i A N A.length).length with q | q;rw[y1m q];exact y2T hA q;grind
   exact y1M (y1q A B) (N+1) A.length _ e
  have hle:=y3n h (λi=>if hi:i<(y1i A N A.length).length+1 then (b i hi).choose else λ_=>0) λi hi j hj=>by rw[dif_pos hi];exact(b i hi).choose_spec j hj
  have:=Xx hf;omega
 obtain⟨c,hc⟩:=y3G f d;refine⟨c,λj hj=>?_,?_⟩;have:=hc j ω;unfold y1x at this;rw[y1r,y2t hA hr hj]at this;rw[this];grind[zaj,y1m,y2t,y2T];have:=hc N ω;unfold y1x at this;rw[y1r,y2b hA hr]at this;rw[this];grind[zaj,y1m,y2b,y2T]
theorem points_fit{z:List Rat}(h:z∈y1k A B N):z.length=N/\FitZ A B N (el z):=by
 unfold y1k at h;split at h
 rename_i hf;obtain⟨p,f,e⟩:=List.mem_filterMap.1 h;obtain⟨P,rfl,hl⟩:=picks_pl f;split at e
 cases e;rename_i hd;split at e
 cases e;rename_i hb;injection e with e;subst e;have b:(y6w A B N (y1i A N A.length) (plZ P N)).length=N:=by unfold y6w;simp[y6v]
 obtain⟨u,i,k⟩:=y4j (A:=A) (B:=B) hl hd;refine⟨b,λr hr=>?_,λj hj=>?_⟩;obtain⟨c,h1,a⟩:=y4L hA hf hr;rw[a,zaj λj hj=>by rw[h1 j hj,k j hj,<-zb6],zbq];refine zaj λt g=>?_;rw[<-i t g,<-hl,<-y3j (P:=P) (N:=N) (λj=>(ez A ((y1i A N A.length).getD t 0) j:Rat)) u,<-za7];grind;rw[show el (y6w A B N (y1i A N A.length) (plZ P N)) j=(y6w A B N (y1i A N A.length) (plZ P N))[j]'(ω)by unfold el;rw[Zh,Ze ω];rfl];refine XP.1 λd=>hb ?_
 unfold y1G;rw[List.any_eq_true];exact⟨_,Xk ω,ZG d⟩;cases h
theorem y30{x:Nat->Rat}(l:FitZ A B N x)(hi:y2X A.length N (λi j=>(ez A i j:Rat)) λj=>decide (x j≠0)):∃z∈y1k A B N,∀j,j<N->el z j=x j:=by
 have hr:=y1I A N A.length;have C:=y1M A N A.length;have hf:y2p A B N=true:=by
  refine ZG (YO ?_ ?_)
  have f:∀i,i<(y1i (y1q A B) (N+1) A.length).length->∃c:Nat->Rat,∀j,j<N+1->y1x (y1q A B) (y1i (y1q A B) (N+1) A.length) i j=zai (y1i A N A.length).length λt=>c t*y1x (y1q A B) (y1i A N A.length) t j:=λi a=>by
   have b:(y1i (y1q A B) (N+1) A.length).getD i 0<A.length:=by rw[Zh,Ze a];exact rankTo_lt _ _ A.length _ (Xk a)
   obtain⟨c,hc⟩:=C _ b;refine⟨c,λj hj=>?_⟩;unfold y1x;rcases ZM j N with q | q;rw[y2t hA b q,hc j q];exact zaj λt d=>by unfold y1x;rw[y2t hA (y2T hA d) q]
   obtain rfl:j=N:=ω;rw[y2b hA b,<-l.row _ b,zaj λj hj=>by rw[hc j hj,<-zb6],zbq];refine zaj λt d=>?_;rw[y2b hA (y2T hA d),<-l.row _ (y2T hA d),<-za7];exact zaj λj hj=>by unfold y1x;grind
  exact y3n (y1I (y1q A B) (N+1) A.length) (λi=>if hi:i<(y1i (y1q A B) (N+1) A.length).length then (f i hi).choose else λ_=>0) λi hi j hj=>by rw[dif_pos hi];exact(f i hi).choose_spec j hj
  have f:∀i,i<(y1i A N A.length).length->∃c:Nat->Rat,∀j,j<N+1->y1x (y1q A B) (y1i A N A.length) i j=zai (y1i (y1q A B) (N+1) A.length).length λt=>c t*y1x (y1q A B) (y1i (y1q A B) (N+1) A.length) t j:=λi a=>y1M (y1q A B) (N+1) A.length _ (y2T hA a)
  exact y3n (y3J (B:=B) hA) (λi=>if hi:i<(y1i A N A.length).length then (f i hi).choose else λ_=>0) λi hi j hj=>by rw[dif_pos hi];exact(f i hi).choose_spec j hj
 have o:y2X (y1i A N A.length).length N (y1x A (y1i A N A.length)) λj=>decide (x j≠0):=λy I n=>hi y I λi a=>by
  obtain⟨c,hc⟩:=C i a;show zai N (λj=>(ez A i j:Rat)*y j)=0
  rw[zaj λj hj=>by rw[hc j hj,<-zb6],zbq];exact zcn λt d=>by rw[zaj (g:=λj=>c t*(y1x A (y1i A N A.length) t j*y j)) λj _=>ψ,za7,n t d];grind
 obtain⟨Q,b,E,hl⟩:=y2X.full hr _ o (Nat.add_sub_cancel' o.le);have F:=E.det hl;have hd:y1C (y1i A N A.length).length (y1p A (y1i A N A.length) (plZ Q N))≠0:=λe=>F (by have:=y1W (A:=A) (rs:=y1i A N A.length) (cols:=plZ Q N) hl;rw[e]at this;exact this.symm)
 have zero:∀j,Q j=false->x j=0:=λj hj=>by by_cases e:x j=0;exact e;have:=b j (by simp[e]);rw[hj]at this;cases this
 have H:∀i,i<(y1i A N A.length).length->zai (y1i A N A.length).length (λt=>(ez A ((y1i A N A.length).getD i 0) ((plZ Q N).getD t 0):Rat)*x ((plZ Q N).getD t 0))=(B.getD ((y1i A N A.length).getD i 0) 0:Int):=λi a=>by rw[<-l.row _ (y2T hA a)];have:=y4i Q (λj=>(ez A ((y1i A N A.length).getD i 0) j:Rat)*x j) N;rw[hl]at this;rw[this];exact zaj λj _=>by cases e:Q j;rw[zero j e];simp;simp
 have v:∀j,j<N->el (y6w A B N (y1i A N A.length) (plZ Q N)) j=x j:=λj hj=>by
  rw[y2H (u:=λt=>x ((plZ Q N).getD t 0)) hl hd H hj];unfold y3i
  dsimp only
  by_cases e:Q j=true;obtain⟨s,n,es⟩:=y4e hj e;have k:=y2r Q n;rw[es]at k;rw[if_pos ⟨e,hj⟩,k,es];rw[if_neg λq=>e q.1,zero j (by simpa using e)]
 have J:(y6w A B N (y1i A N A.length) (plZ Q N)).length=N:=by unfold y6w;exact y6v _ _ _ _
 refine⟨_,?_,v⟩;unfold y1k;rw[if_pos hf];refine List.mem_filterMap.2 ⟨plZ Q N,by have:=y2R Q N;rwa [hl]at this,?_⟩;rw[if_neg hd,if_neg];intro m;unfold y1G at m;rw[List.any_eq_true]at m;obtain⟨q,G,p⟩:=m;obtain⟨j,hj,rfl⟩:=List.mem_iff_getElem.1 G;have h1:=v j ω;have D:=l.nn j ω;have k:el (y6w A B N (y1i A N A.length) (plZ Q N)) j=(y6w A B N (y1i A N A.length) (plZ Q N))[j]:=by unfold el;rw[Zh,Ze hj];rfl
 rw[<-k,h1]at p;exact absurd (Xx p) (XP.2 D)
end
end Dz
namespace Dz
open Am
variable {j:Nat}{d z:Nat->Rat}
def y3y(p:Nat->Prop)(f:Nat->Rat):∀N,(∃j,j<N/\p j)->∃j,j<N/\p j/\∀i,i<N->p i->f j<=f i
 | 0,⟨j,hj,_⟩=>absurd hj (ZS _)
 | N+1,h=>by
  by_cases e:∃j,j<N/\p j;obtain⟨j,hj,b,hm⟩:=y3y p f N e;by_cases q:p N/\f N<f j;refine⟨N,ω,q.1,λi hi a=>?_⟩;rcases ZM i N with h1 | h1;exact YE (XZ q.2) (hm i h1 a);obtain rfl:i=N:=ω;exact XG;refine⟨j,ω,b,λi hi a=>?_⟩;rcases ZM i N with h1 | h1;exact hm i h1 a;obtain rfl:i=N:=ω;exact XP.1 λc=>q ⟨a,c⟩
  obtain⟨j,hj,b⟩:=h;have:j=N:=by rcases ZM j N with h1 | h1;exact absurd ⟨j,h1,b⟩ e;omega
  subst this;refine⟨j,ω,b,λi hi a=>?_⟩;rcases ZM i j with h1 | h1;exact absurd ⟨i,h1,a⟩ e;obtain rfl:i=j:=ω;exact XG
def y5V{P Q:Nat->Bool}:∀ {N:Nat},(∀t,t<N->P t=true->Q t=true)->(plZ P N).length<=(plZ Q N).length
 | 0,_=>Za _
 | N+1,hs=>by
  have b:=y5V (P:=P) (Q:=Q) (N:=N) λt a=>hs t ω
  rw[y1F,y1F,Zz,Zz];cases e:P N;simp;omega;rw[hs N ω e];simp;omega
def y4g{P Q:Nat->Bool}{j:Nat}(b:Q j=true)(a:P j=false):∀ {N:Nat},j<N->(∀t,t<N->P t=true->Q t=true)->(plZ P N).length<(plZ Q N).length
 | 0,hj,_=>absurd hj (ZS _)
 | N+1,hj,hs=>by
  rw[y1F,y1F,Zz,Zz];by_cases e:j=N;subst e;have:=y5V (P:=P) (Q:=Q) (N:=j) λt c=>hs t ω
  rw[b,a];simp;omega;have:=y4g b a (N:=N) ω λt c=>hs t ω
  grind
def y1j (N:Nat) (c:Nat->Rat) (z:Nat->Rat):Rat:=zai N λj=>c j*z j
structure WayZ (A:List (List Int)) (N:Nat) (d:Nat->Rat):Prop where
  row:∀i,i<A.length->zai N (λj=>(ez A i j:Rat)*d j)=0
  nn:∀j,j<N->0<=d j
section
variable {A:List (List Int)} {B:List Int} {N:Nat}
def y2j(g z d:Nat->Rat)(t:Rat):zai N (λj=>g j*(z j+t*d j))=zai N (λj=>g j*z j)+t*zai N λj=>g j*d j:=by rw[<-za7,<-zcm];grind
def y3p(b:FitZ A B N z)(hd:∀i,i<A.length->zai N (λj=>(ez A i j:Rat)*d j)=0)(h0:∀j,j<N->z j=0->d j=0)(l:∃j,j<N/\d j<0) :
  ∃t:Rat,0<=t/\FitZ A B N (λj=>z j+t*d j)/\(plZ (λj=>decide (z j+t*d j≠0)) N).length<(plZ (λj=>decide (z j≠0)) N).length:=by
 obtain⟨k,hk,c,hm⟩:=y3y (λj=>d j<0) (λj=>z j / -d j) N l;have m : -d k≠0:=ψ;have hi:0<=(-d k)⁻¹:=by refine XP.1 λq=>?_;have:=Xt (show(0:Rat) <= -d k by grind) (show(0:Rat) <= -(-d k)⁻¹ by grind);grind
 have s:=Rat.mul_inv_cancel _ m;have a:0<=z k / -d k:=by rw[Xa];exact Xt (b.nn k hk) hi
 have p:z k+z k / -d k*d k=0:=by rw[Xa];grind
 refine⟨z k / -d k,a,⟨λi f=>?_,λj hj=>?_⟩,?_⟩;rw[y2j,hd i f,b.row i f];grind;by_cases q:d j<0;have h1:=hm j hj q;have n : -d j≠0:=ψ;have u:=Rat.mul_inv_cancel _ n;have g:z k / -d k * -d j<=z j / -d j * -d j:=Vi h1 ψ;rw[show z j / -d j * -d j=z j by rw[Xa];grind]at g;grind;have:=Xt a (XP.1 q);have:=b.nn j hj;grind;refine y4g (j:=k) ?_ ?_ hk λt a o=>?_;refine ZG λe=>?_;have:=h0 k hk e;rw[this]at c;exact absurd c δ;simp[p];refine ZG λe=>?_;have h1:=Xx o;rw[e,h0 t a e]at h1;exact h1 ψ
def vertex(c:Nat->Rat)(hw:∀d,WayZ A N d->0<=y1j N c d):∀(n:Nat) {z:Nat->Rat},(plZ (λj=>decide (z j≠0)) N).length<n->FitZ A B N z ->
  ∃y:Nat->Rat,FitZ A B N y/\y2X A.length N (λi j=>(ez A i j:Rat)) (λj=>decide (y j≠0))/\y1j N c y<=y1j N c z
 | 0,z,h,_=>absurd h (ZS _)
 | n+1,z,h,hz=>by
  by_cases hi:y2X A.length N (λi j=>(ez A i j:Rat)) λj=>decide (z j≠0)
  exact⟨z,hz,hi,XG⟩;have:∃x:Nat->Rat,(∀j,j<N->z j=0->x j=0)/\(∀i,i<A.length->zai N (λj=>(ez A i j:Rat)*x j)=0)/\∃j,j<N/\x j≠0:=by by_cases e:∃x:Nat->Rat,(∀j,j<N->z j=0->x j=0)/\(∀i,i<A.length->zai N (λj=>(ez A i j:Rat)*x j)=0)/\∃j,j<N/\x j≠0;exact e;exact absurd (λx F f j hj=>by by_cases q:x j=0;exact q;exact absurd ⟨x,λt b h0=>F t b (by simp[h0]),f,j,hj,q⟩ e) hi
  obtain⟨x,m,o,j,hj,G⟩:=this
  -- a way with a number below 0 that costs no more
  have:∃d:Nat->Rat,(∀j,j<N->z j=0->d j=0)/\(∀i,i<A.length->zai N (λj=>(ez A i j:Rat)*d j)=0)/\(∃j,j<N/\d j<0)/\y1j N c d<=0:=by
   have turn:∀x:Nat->Rat,(∀i,i<A.length->zai N (λj=>(ez A i j:Rat)*x j)=0)->∀i,i<A.length->zai N (λj=>(ez A i j:Rat) * -x j)=0:=λx f i hi=>by rw[zaj (g:=λj => -1*((ez A i j:Rat)*x j)) λj _=>ψ,za7,f i hi];grind
   have p:∀x:Nat->Rat,y1j N c (λj => -x j) = -y1j N c x:=λx=>by unfold y1j;rw[zaj (g:=λj => -1*(c j*x j)) λj _=>ψ,za7];grind
   have k:∀x:Nat->Rat,(∀j,j<N->z j=0->x j=0)->(∀i,i<A.length->zai N (λj=>(ez A i j:Rat)*x j)=0)->(∃j,j<N/\x j≠0)->y1j N c x<=0->∃d:Nat->Rat,(∀j,j<N->z j=0->d j=0)/\(∀i,i<A.length->zai N (λj=>(ez A i j:Rat)*d j)=0)/\(∃j,j<N/\d j<0)/\y1j N c d<=0:=λx h0 f ⟨j,hj,hne⟩ hc=>by
    by_cases q:∃j,j<N/\x j<0;exact⟨x,h0,f,q,hc⟩;have l:∀t,t<N->0<=x t:=λt b=>XP.1 λh=>q ⟨t,b,h⟩
    have:=hw x ⟨f,l⟩;exact⟨λj => -x j,λt b h=>ψ,turn x f,⟨j,hj,by have:=l j hj;grind⟩,by rw[p];grind⟩
   by_cases q:y1j N c x<=0;exact k x m o ⟨j,hj,G⟩ q;exact k (λj => -x j) (λt b h=>ψ) (turn x o) ⟨j,hj,ψ⟩ (by rw[p];grind)
  obtain⟨d,v,D,C,H⟩:=this;obtain⟨t,b,E,I⟩:=y3p hz D v C;obtain⟨y,h1,s,u⟩:=vertex c hw n (z:=λj=>z j+t*d j) ω E;refine⟨y,h1,s,YE u ?_⟩;unfold y1j;rw[y2j];have:=Xt b (show(0:Rat) <= -y1j N c d by grind);unfold y1j at this;grind
def y2i(hA:∀r∈A,r.length=N)(c:Nat->Rat)(hw:∀d,WayZ A N d->0<=y1j N c d)(g:FitZ A B N z):∃y∈y1k A B N,y1j N c (el y)<=y1j N c z:=by obtain⟨y,h1,a,b⟩:=vertex c hw _ (Nat.lt_succ_self _) g;obtain⟨p,f,e⟩:=y30 hA h1 a;exact⟨p,f,YE (by unfold y1j;rw[zaj λj hj=>by rw[e j hj]];exact XG) b⟩
def y16(hA:∀r∈A,r.length=N):(∃z,FitZ A B N z)↔y1k A B N≠[]:=by constructor;rintro⟨z,a⟩ e;obtain⟨y,b,_⟩:=y2i hA (λ_=>0) (λd _=>by unfold y1j;rw[zcn λj _=>ψ];exact XG) a;rw[e]at b;cases b;intro h;obtain⟨z,a⟩:=List.exists_mem_of_ne_nil _ h;exact⟨el z,(points_fit hA a).2⟩
def y1A (A:List (List Int)) (N:Nat):List (List Int):=A++[List.replicate N 1]
def y1B (m:Nat):List Int:=List.replicate m 0++[1]
def y1E (A:List (List Int)) (c:Nat->Rat) (N:Nat):Bool:=(y1k (y1A A N) (y1B A.length) N).any λz=>decide (y1j N c (el z)<0)
def y3q{i:Nat}(hi:i<A.length):ez (y1A A N) i j=ez A i j:=by unfold ez y1A;rw[y1m hi]
def y3I(hj:j<N):ez (y1A A N) A.length j=1:=by unfold ez y1A;rw[y1r,Zh,List.getElem?_replicate_of_lt hj];rfl
def y3H:FitZ (y1A A N) (y1B A.length) N d↔WayZ A N d/\zai N d=1:=by
 have hl:(y1A A N).length=A.length+1:=by simp[y1A]
 have h0:∀i,i<A.length->(y1B A.length).getD i 0=0:=λi hi=>by unfold y1B;rw[y1m ψ,Zh,List.getElem?_replicate_of_lt hi];rfl
 have h1:(y1B A.length).getD A.length 0=1:=by unfold y1B;have:=y1r (l:=List.replicate A.length (0:Int)) (x:=1) (d:=0);rw[ZQ]at this;exact this
 have a:zai N (λj=>(ez (y1A A N) A.length j:Rat)*d j)=zai N d:=zaj λj hj=>by rw[y3I hj];grind
 constructor;intro h;refine⟨⟨λi hi=>?_,h.nn⟩,?_⟩;have:=h.row i ω;rw[h0 i hi,zaj λj _=>by rw[y3q hi]]at this;exact this;have:=h.row A.length ω;rw[a,h1]at this;exact this;rintro⟨h,b⟩;refine⟨λi hi=>?_,h.nn⟩;rcases ZM i A.length with q | q;rw[h0 i q,zaj λj _=>by rw[y3q q]];exact h.row i q;obtain rfl:i=A.length:=ω;rw[a,h1,b];rfl
def y4u{d:Nat->Rat}:∀ {N:Nat},(∀j,j<N->0<=d j)->0<=zai N d/\(zai N d=0->∀j,j<N->d j=0)
 | 0,_=>⟨XG,λ_ j h=>absurd h (ZS _)⟩
 | N+1,h=>by
  obtain⟨h1,a⟩:=y4u (d:=d) (N:=N) λj hj=>h j ω
  have b:=h N ω;rw[y1Y];refine⟨ψ,λe j hj=>?_⟩;rcases ZM j N with q | q;exact a ψ j q;obtain rfl:j=N:=ω;grind
def y2Z(hA:∀r∈A,r.length=N)(c:Nat->Rat):y1E A c N=true↔∃d,WayZ A N d/\y1j N c d<0:=by
 have hw:∀r∈y1A A N,r.length=N:=λr hr=>by unfold y1A at hr;rcases ZT.1 hr with h | h;exact hA r h;rw[XF.1 h,ZQ]
 unfold y1E;rw[List.any_eq_true];constructor;rintro⟨z,p,hc⟩;exact⟨el z,(y3H.1 (points_fit hw p).2).1,Xx hc⟩;rintro⟨d,hd,hc⟩;obtain⟨h1,k⟩:=y4u hd.nn;have f:zai N d≠0:=λe=>by have:=k e;unfold y1j at hc;rw[zcn λj hj=>by rw[this j hj];grind]at hc;grind
 have n:0<zai N d:=Rat.not_le.1 λh=>f (Rat.le_antisymm h h1)
 have b:=YL.2 n;have q:=Rat.mul_inv_cancel _ f
 have m:FitZ (y1A A N) (y1B A.length) N λj=>(zai N d)⁻¹*d j:=y3H.2 ⟨⟨λi hi=>by rw[zaj (g:=λj=>(zai N d)⁻¹*((ez A i j:Rat)*d j)) λj _=>ψ,za7,hd.row i hi];grind,
  λj hj=>Xt (XZ b) (hd.nn j hj)⟩,by rw[za7];grind⟩
 obtain⟨y,o,hle⟩:=y2i hw c (λe a=>by
  have l:WayZ A N e/\zai N e=0:=by refine⟨⟨λi hi=>?_,a.nn⟩,?_⟩;have:=a.row i (by simp[y1A];omega);rw[zaj λj _=>by rw[y3q hi]]at this;exact this;have:=a.row A.length (by simp[y1A]);rw[zaj (g:=e) λj hj=>by rw[y3I hj];grind]at this;exact this
  have:=(y4u a.nn).2 l.2;unfold y1j;rw[zcn λj hj=>by rw[this j hj];grind];exact XG) m
 refine⟨y,o,ZG ?_⟩;have e:y1j N c (λj=>(zai N d)⁻¹*d j)=(zai N d)⁻¹*y1j N c d:=by unfold y1j;rw[<-za7];grind
 rw[e]at hle;have:=Rat.mul_pos b (show(0:Rat) < -y1j N c d by grind);grind
end
end Dz
namespace Dz
open Am
variable {d p:Int}
def newG (p d:Int):Int:=if d<0 then -(Int.gcd p d:Int)else (Int.gcd p d:Int)
def newG_ne(hd:d≠0):newG p d≠0:=by
 have:Int.gcd p d≠0:=λh=>hd (Int.gcd_eq_zero_iff.1 h).2
 unfold newG;split<;>omega
def new_num(hd:d≠0):p.tdiv (newG p d)=(Rat.divInt p d).num:=by
 rw[Rat.num_divInt,Y3];have hg:Int.gcd p d≠0:=λh=>hd (Int.gcd_eq_zero_iff.1 h).2
 obtain⟨a,e⟩:=Int.gcd_dvd_left (a:=p) (b:=d);unfold newG;generalize hgd:(Int.gcd p d:Int)=g at *
 have c:g≠0:=ω;split
 rename_i h;rw[YZ h,e,Int.tdiv_neg,Int.mul_tdiv_cancel_left _ c,show -1*(g*a)=g * -a by grind,Int.mul_ediv_cancel_left _ c];rename_i h;rw[Y0 ω,Int.one_mul,e,Int.mul_tdiv_cancel_left _ c,Int.mul_ediv_cancel_left _ c]
def new_den(hd:d≠0):d.tdiv (newG p d)=((Rat.divInt p d).den:Int):=by
 rw[Rat.den_divInt,if_neg hd,Y3];have hg:Int.gcd p d≠0:=λh=>hd (Int.gcd_eq_zero_iff.1 h).2
 obtain⟨a,c⟩:=Int.gcd_dvd_right (a:=p) (b:=d);have f:((d.natAbs/Int.gcd p d:Nat):Int)=(d.natAbs:Int)/(Int.gcd p d:Int):=XS _ _;rw[f];unfold newG;generalize hgd:(Int.gcd p d:Int)=g at *
 have e:g≠0:=ω;split
 rename_i h;rw[show((d.natAbs:Nat):Int)=g * -a by rw[Int.ofNat_natAbs_of_nonpos ω];rw[c];grind,Int.mul_ediv_cancel_left _ e]
 conv=>lhs;rw[c]
 rw[Int.tdiv_neg,Int.mul_tdiv_cancel_left _ e];grind
def add_new(a b:Rat):Rat.divInt (a.num*b.den+b.num*a.den) (a.den*b.den)=a+b:=by rw[Rat.add_def',<-Y8,XQ]
def mul_new(a b:Rat):Rat.divInt (a.num*b.num) (a.den*b.den)=a*b:=by rw[Rat.mul_def',<-Y8,XQ]
def cmp_new(a b:Rat):(a.num*b.den-b.num*a.den<0↔a<b)/\(0<a.num*b.den-b.num*a.den↔b<a):=by rw[Rat.lt_iff,Rat.lt_iff];constructor<;>constructor<;>intro h<;>omega
end Dz
namespace Dz
open Am
variable {K n:Nat}
def fct:Nat->Nat
  | 0=>1
  | n+1=>(n+1)*fct n
def y1U (K:Nat) (M:List (List Int)):Prop:=∀r∈M,∀x∈r,x.natAbs<=K
def getD_abs{r:List Int}(h:∀x∈r,x.natAbs<=K)(j:Nat):(r.getD j 0).natAbs<=K:=by
 rw[Zh];cases e:r[j]? with
 | none=>exact Zb _
 | some x=>exact h x (Zj e)
def y1U.ez{K:Nat}{M:List (List Int)}(h:y1U K M)(i j:Nat):(ez M i j).natAbs<=K:=by
 unfold Dz.ez;rw[Zh (l:=M)];cases e:M[i]? with
 | none=>exact Zb _
 | some r=>exact getD_abs (h r (Zj e)) j
def y1U.cut{M:List (List Int)}(h:y1U K M)(c:Nat):y1U K (M.tail.map (y2h c)):=λr hr x a=>by obtain⟨y,b,rfl⟩:=ZH.1 hr;unfold y2h at a;rcases ZT.1 a with q | q;exact h y (List.mem_of_mem_tail b) x (Yj q);exact h y (List.mem_of_mem_tail b) x (Vp q)
def y1U.part{M:List (List Int)}(h:y1U K M)(rs cols:List Nat):y1U K (y1p M rs cols):=λr hr x a=>by obtain⟨y,_,rfl⟩:=ZH.1 hr;obtain⟨c,_,rfl⟩:=ZH.1 a;exact h.ez _ _
theorem y1U.set{M:List (List Int)}(h:y1U K M)(j:Nat){b:Nat->Int}(a:∀i,(b i).natAbs<=K):y1U K (y17 M j b):=λr hr x c=>by unfold y17 at hr;obtain⟨i,hi,rfl⟩:=List.mem_mapIdx.1 hr;rcases Vq c with q | q;exact h _ (Xk hi) x q;rw[q];exact a i
def sumZ_abs{f:Nat->Int}{K:Nat}:∀ {n:Nat},(∀i,i<n->(f i).natAbs<=K)->(y2u n f).natAbs<=n*K
 | 0,_=>Zb _
 | n+1,h=>by
  have:=sumZ_abs (f:=f) (n:=n) λi hi=>h i ω
  have:=h n ω;have:=Int.natAbs_add_le (y2u n f) (f n);rw[XE];show(y2u n f+f n).natAbs<=_;omega
def y1O (n:Nat) (M:List (List Int)) (c:Nat):Int:=if ez M 0 c=0 then 0 else if c%2=0 then ez M 0 c*y1C n (M.tail.map (y2h c))else -(ez M 0 c*y1C n (M.tail.map (y2h c)))
def y3V(n:Nat)(M:List (List Int)):y1C (n+1) M=y2u (n+1) (y1O n M):=rfl
def y6z{M:List (List Int)}(h:y1U K M)(a:∀c,(y1C n (M.tail.map (y2h c))).natAbs<=fct n*K^n)(c:Nat):(y1O n M c).natAbs<=K*(fct n*K^n):=by
 have hm:(ez M 0 c*y1C n (M.tail.map (y2h c))).natAbs<=K*(fct n*K^n):=by rw[X4];exact Xr (h.ez 0 c) (a c)
 unfold y1O;split
 exact Zb _;split
 exact hm;rw[Y7];exact hm
def detZ_abs{K:Nat}:∀ {n:Nat} {M:List (List Int)},y1U K M->(y1C n M).natAbs<=fct n*K^n
 | 0,_,_=>Za _
 | n+1,M,h=>by
  rw[y3V];refine Zf (sumZ_abs λc _=>y6z h (λc=>detZ_abs (h.cut c)) c) ?_;show(n+1)*(K*(fct n*K^n))<=(n+1)*fct n*K^(n+1)
  rw[Xg];exact Nat.le_of_eq ψ
def detAt_abs{M:List (List Int)}(h:y1U K M)(c:Nat):(y1O n M c).natAbs<=K*(fct n*K^n):=y6z h (λc=>detZ_abs (h.cut c)) c
def frac_abs{p d:Int}(hd:d≠0):(Rat.divInt p d).num.natAbs<=p.natAbs/\(Rat.divInt p d).den<=d.natAbs:=by
 have hg:0<Int.gcd d p:=Ye λh=>hd (Int.gcd_eq_zero_iff.1 h).1
 constructor;rw[Rat.num_divInt];refine Zf (Int.natAbs_ediv_le_natAbs _ _) ?_;rw[X4,Int.natAbs_sign_of_ne_zero hd];omega;rw[Rat.den_divInt,if_neg hd];exact Yf _ _
def y2N{d:Int}(hd:d≠0)(c x:Nat->Int):∀n,zai n (λj=>(c j:Rat)*Rat.divInt (x j) d)=Rat.divInt (y2u n λj=>c j*x j) d
 | 0=>by show(0:Rat)=Rat.divInt 0 d;rw[Rat.zero_divInt]
 | n+1=>by
  show zai n (λj=>(c j:Rat)*Rat.divInt (x j) d)+(c n:Rat)*Rat.divInt (x n) d=Rat.divInt (y2u n (λj=>c j*x j)+c n*x n) d
  rw[y2N hd c x n,YD,YD,YD,Rat.intCast_add,Rat.intCast_mul,Xa,Xa,Xa];grind
end Dz
namespace Dz
open Am
variable {B:List Int}{z:List Rat}{N n:Nat}
def Fz (q:Rat):Prop:=q.num.natAbs<=100000000/\q.den<=100000000
def y14 (z:List Rat):Prop:=∃(d:Int) (x:Nat->Int),d≠0/\d.natAbs<=157464/\∀j,el z j=Rat.divInt (x j) d/\(x j).natAbs<=157464
def y23(N:Nat)(cols:List Nat){X:Nat->Int}{d:Int}(a:∀t,(X t).natAbs<=157464):∀k,∃x:Nat->Int,∀j,el (y6y N cols (λt=>Rat.divInt (X t) d) k) j=Rat.divInt (x j) d/\(x j).natAbs<=157464
 | 0=>⟨λ_=>0,λj=>⟨by rw[Rat.zero_divInt];exact zrm N j,Zb _⟩⟩
 | k+1=>by obtain⟨x,b⟩:=y23 N cols (d:=d) a k;unfold y6y;rcases ZM (cols.getD k 0) N with h | h;refine⟨λj=>if cols.getD k 0=j then X k else x j,λj=>?_⟩;rw[ziZ (by rw[y6v];exact h)];grind;rw[List.set_eq_of_length_le (by rw[y6v];exact h)];exact⟨x,b⟩
def det_small{M:List (List Int)}(h:y1U 9 M)(a:n<=4):(y1C n M).natAbs<=157464:=by refine Zf (detZ_abs h) ?_;rcases(show n=0\/n=1\/n=2\/n=3\/n=4 by omega)with rfl | rfl | rfl | rfl | rfl<;>decide
def rankTo_len(A:List (List Int))(n:Nat):∀r,(y1i A n r).length<=r
 | 0=>Za _
 | r+1=>by
  have:=rankTo_len A n r;unfold y1i;split
  rw[Zz];show _+1<=_;omega
  omega
def y3m{A:List (List Int)}{rs cols:List Nat}(hA:y1U 9 A)(a:∀x∈B,x.natAbs<=9)(hl:rs.length<=4)(hd:y1C rs.length (y1p A rs cols)≠0):y14 (y6w A B N rs cols):=by obtain⟨x,b⟩:=y23 N cols (X:=λt=>y1C rs.length (y17 (y1p A rs cols) t λr=>B.getD (rs.getD r 0) 0)) (d:=y1C rs.length (y1p A rs cols)) (λt=>det_small ((hA.part rs cols).set t λi=>getD_abs a _) hl) cols.length;exact⟨_,x,hd,det_small (hA.part rs cols) hl,b⟩
def y1w{A:List (List Int)}(hA:y1U 9 A)(b:∀x∈B,x.natAbs<=9)(hl:A.length<=4)(a:z∈y1k A B N):y14 z:=by
 unfold y1k at a;split at a
 obtain⟨p,_,h⟩:=List.mem_filterMap.1 a;split at h
 cases h;rename_i hd;split at h
 cases h;injection h with h;rw[<-h];exact y3m hA b (Zf (rankTo_len A N _) hl) hd;cases a
def y14.at_(h:y14 z)(j:Nat):Fz (el z j):=by obtain⟨d,x,hd,h1,a⟩:=h;obtain⟨e,b⟩:=a j;have:=frac_abs (p:=x j) hd;rw[e];exact⟨ω,ω⟩
def y14.sum(h:y14 z){c:Nat->Int}(hc:∀j,(c j).natAbs<=9)(b:n<=10):Fz (zai n λj=>(c j:Rat)*el z j):=by
 obtain⟨d,x,hd,h1,a⟩:=h;rw[zaj λj _=>by rw[(a j).1],y2N hd];have e:=sumZ_abs (f:=λj=>c j*x j) (K:=9*157464) (n:=n) λi _=>by rw[X4];exact Xr (hc i) (a i).2
 have g:n*(9*157464)<=10*(9*157464):=ZV _ b;have:=frac_abs (p:=y2u n λj=>c j*x j) hd;exact⟨ω,ω⟩
def y14.mul(h:y14 z){c:Int}(hc:c.natAbs<=9)(j:Nat):Fz ((c:Rat)*el z j):=by
 obtain⟨d,x,hd,h1,a⟩:=h;have e:(c:Rat)*Rat.divInt (x j) d=Rat.divInt (c*x j) d:=by have:=y2N hd (λ_=>c) (λ_=>x j) 1;simp only[zai,y2u]at this;rw[Int.zero_add]at this;rw[<-this];grind
 rw[(a j).1,e];have b:(c*x j).natAbs<=9*157464:=by rw[X4];exact Xr hc (a j).2
 have:=frac_abs (p:=c*x j) hd;exact⟨ω,ω⟩
theorem Fz.zero:Fz 0:=⟨δ,δ⟩
end Dz
namespace Dz
open Am
variable {x y z:List Rat}{n own:Nat}
def y28 (a b:Rat):Int:=if a<b then -1 else if b<a then 1 else 0
def y5G (k:List Rat->Rat) (z:List Rat):Nat->Rat
  | 0=>k z
  | j+1=>el z j
def kTo (k:List Rat->Rat) (x y:List Rat):Nat->Int
  | 0=>y28 (k x) (k y)
  | j+1=>if kTo k x y j=0 then y28 (el x j) (el y j)else kTo k x y j
def y2x (k:List Rat->Rat) (own:Nat) (x y:List Rat):Bool:=decide (kTo k x y own<0)
def y4z (k:List Rat->Rat) (n:Nat) (x y:List Rat):Prop:=∃i,i<n+1/\(∀l,l<i->y5G k x l=y5G k y l)/\y5G k x i<y5G k y i
def y2A(a b:Rat):(y28 a b = -1/\a<b)\/(y28 a b=1/\b<a)\/(y28 a b=0/\a=b):=by unfold y28;by_cases h:a<b;rw[if_pos h];exact .inl ⟨rfl,h⟩;rw[if_neg h];by_cases c:b<a;rw[if_pos c];exact .inr (.inl ⟨rfl,c⟩);rw[if_neg c];exact .inr (.inr ⟨rfl,Rat.le_antisymm (XP.1 c) (XP.1 h)⟩)
def y22(k:List Rat->Rat)(x y:List Rat):∀n,(kTo k x y n = -1/\y4z k n x y)\/(kTo k x y n=1/\y4z k n y x)\/(kTo k x y n=0/\∀l,l<n+1->y5G k x l=y5G k y l)
 | 0=>by
  rcases y2A (k x) (k y)with ⟨h,e⟩ | ⟨h,e⟩ | ⟨h,e⟩
  exact .inl ⟨h,0,ω,λl hl=>absurd hl (ZS _),e⟩;exact .inr (.inl ⟨h,0,ω,λl hl=>absurd hl (ZS _),e⟩);refine .inr (.inr ⟨h,λl hl=>?_⟩);obtain rfl:l=0:=ω;exact e
 | n+1=>by
  unfold kTo;rcases y22 k x y n with ⟨h,i,h1,a,b⟩ | ⟨h,i,h1,a,b⟩ | ⟨h,h0⟩
  rw[h,if_neg δ];exact .inl ⟨rfl,i,ω,a,b⟩;rw[h,if_neg δ];exact .inr (.inl ⟨rfl,i,ω,a,b⟩);rw[h,if_pos rfl];rcases y2A (el x n) (el y n)with ⟨h,e⟩ | ⟨h,e⟩ | ⟨h,e⟩
  exact .inl ⟨h,n+1,ω,h0,e⟩;exact .inr (.inl ⟨h,n+1,ω,λl hl=>(h0 l hl).symm,e⟩);refine .inr (.inr ⟨h,λl hl=>?_⟩);rcases ZM l (n+1)with q | q;exact h0 l q;obtain rfl:l=n+1:=ω;exact e
theorem y3k{k:List Rat->Rat}(h:y4z k n x y):¬y4z k n y x:=by obtain⟨i,h1,b,e⟩:=h;rintro⟨j,c,a,d⟩;rcases XM i j with q | q | q;have:=a i q;grind;subst q;grind;have:=b j q;grind
def y3B{k:List Rat->Rat}:y2x k own x y=true↔y4z k own x y:=by
 unfold y2x;rcases y22 k x y own with ⟨h,e⟩ | ⟨h,e⟩ | ⟨h,e⟩
 rw[h];simp[e];rw[h];grind[y3k];rw[h];simp;rintro⟨i,h1,_,a⟩;rw[e i h1]at a;grind
def y37{k:List Rat->Rat}(h:y4z k n x y)(g:¬y4z k n z y):¬y4z k n z x:=by obtain⟨i,h1,b,e⟩:=h;rintro⟨j,c,a,d⟩;rcases XM i j with q | q | q;exact g ⟨i,h1,λl hl=>by rw[a l ω,b l hl],by rw[a i q];exact e⟩;subst q;exact g ⟨i,h1,λl hl=>by rw[a l hl,b l hl],ψ⟩;exact g ⟨j,c,λl hl=>by rw[a l hl,b l ω],by rw[<-b j q];exact d⟩
def y1s (k:List Rat->Rat) (own:Nat) (ps:List (List Rat)):Nat->List Rat
  | 0=>ps.getD 0 []
  | i+1=>if y2x k own (ps.getD (i+1) []) (y1s k own ps i)=true then ps.getD (i+1) []else y1s k own ps i
def y2f(k:List Rat->Rat)(own:Nat){ps:List (List Rat)}:∀ {i},i<ps.length->y1s k own ps i∈ps
 | 0,h=>by unfold y1s;rw[Zh,Ze h];exact Xk h
 | i+1,h=>by
  unfold y1s;split
  rw[Zh,Ze h];exact Xk h;exact y2f k own ω
def y2y(k:List Rat->Rat)(own:Nat)(ps:List (List Rat)):∀i t,t<=i->¬y4z k own (ps.getD t []) (y1s k own ps i)
 | 0,t,h=>by obtain rfl:t=0:=ω;intro q;exact y3k q q
 | i+1,t,h=>by
  have a:=y2y k own ps i;unfold y1s;split
  rename_i e;rcases ZM t (i+1)with q | q;exact y37 (y3B.1 e) (a t ω);obtain rfl:t=i+1:=ω;intro q;exact y3k q q;rename_i e;rcases ZM t (i+1)with q | q;exact a t ω;obtain rfl:t=i+1:=ω;exact λq=>e (y3B.2 q)
def y3R{k:List Rat->Rat}{ps:List (List Rat)}(h:ps≠[])(b:z∈ps):k (y1s k own ps (ps.length-1))<=k z:=by obtain⟨t,a,rfl⟩:=List.mem_iff_getElem.1 b;have:=y2y k own ps (ps.length-1) t ω;rw[Zh,Ze a]at this;exact XP.1 λq=>this ⟨0,ω,λl hl=>absurd hl (ZS _),q⟩
