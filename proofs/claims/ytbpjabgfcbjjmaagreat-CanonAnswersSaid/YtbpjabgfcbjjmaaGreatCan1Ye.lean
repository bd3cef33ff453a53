/- Contracts and lemmas: Can1 Can2 Turn Cnt2 Can3. Conditions: as each says. -/
import Derived.Test.YtbpjabgfcbjjmaaGreatGdSYe
set_option linter.all false
set_option maxHeartbeats 1000000
set_option maxRecDepth 100000
namespace Am
variable {F G cols:List Nat}{n:Nat}
def ys7 (p:List Rat) (may:List Bool):List Bool:=(List.range may.length).map λj=>may.getD j false&&decide (el p j=0)
theorem yta{p:List Rat}{may:List Bool}{j:Nat}:(ys7 p may).getD j false=true↔may.getD j false=true/\el p j=0:=by unfold ys7;rw[Zg,Z2];by_cases h:j<may.length;rw[XC h];simp;rw[Xe (by simpa using h),Zg (l:=may),Xe ω];simp
structure LexOut where
  cols:List Nat
  n:Nat
  err:Bool
def ys2 (N:Nat) (A:List (List Rat)) (b:List Rat) (B:Nat):List (List Rat)->List Bool->List Nat->Nat->LexOut
  | [],_,cols,n=>⟨cols,n,false⟩
  | c :: cs,may,cols,n =>
    let r:=pivs (zBX N A b c may) (B-n) cols
    if r.err then ⟨r.cols,n+r.n,true⟩
    else ys2 N A b B cs (ys7 (zaC N A r.cols c) may) r.cols (n+r.n)
def ys5 (N:Nat):Nat->Nat->List (List Rat)
  | 0,_=>[]
  | f+1,k=>zdL N k::ys5 N f (k+1)
def ytw (m:Nat) (L:List (List Nat)):Prop:=L.Pairwise λa b=>¬∀u,Bas m (λk=>a.getD k 0) u↔Bas m (λk=>b.getD k 0) u
section
variable {m N:Nat} {A:List (List Rat)} {b c:List Rat} {may:List Bool}
def ytk (next:List Nat->Next) (cols:List Nat) (n:Nat):List (List Nat):=(List.range n).map (zvo next cols)
theorem ytl(next:List Nat->Next)(cols:List Nat)(n:Nat):(ytk next cols n).length=n:=by simp[ytk]
theorem yt4{cols:List Nat}(h:Basis m N A cols)(hc:c.length=N)(f:zyF m A b cols):∀i k,k<m->may.getD ((zvo (zBX N A b c may) cols i).getD k 0) false=true\/Bas m (λk=>cols.getD k 0) ((zvo (zBX N A b c may) cols i).getD k 0)
 | 0,k,hk=>.inr ⟨k,hk,rfl⟩
 | i+1,k,hk=>by
  have a:=yt4 h hc f i;have d:=zVH (may:=may) h hc f i;rw[zvo];split
  rename_i r j e;have p:=zK6 d.1 hc e;rw[gset (by rw[d.1.len];exact p.hk)];split
  exact .inl p.hm;exact a k hk;exact a k hk
theorem yti(h:Basis m N A cols)(hc:c.length=N)(f:zyF m A b cols)(d:∀i,i<n->∃k j,zBX N A b c may (zvo (zBX N A b c may) cols i)=.piv k j):ytw m (ytk (zBX N A b c may) cols n):=by unfold ytw ytk;rw[List.pairwise_map];exact List.Pairwise.imp_of_mem (R:=λa b=>a<b) (λ{i j} _ hj hij=>ysX h hc f n d _ _ hij (Xu.1 hj)) List.pairwise_lt_range
theorem yto(h:Basis m N A cols)(hc:c.length=N)(f:zyF m A b cols):∃n G at_,n<=binom N m/\G=zvo (zBX N A b c may) cols n/\(∀i,i<n->∃k j,zBX N A b c may (zvo (zBX N A b c may) cols i)=.piv k j) /\
  zBX N A b c may G=(match at_ with | none=>.stop | some k=>.bad k)/\(∀B,n<=B->pivs (zBX N A b c may) B cols=⟨G,at_,n,false⟩)/\∀B,B<n->(pivs (zBX N A b c may) B cols).err=true/\(pivs (zBX N A b c may) B cols).n=B:=by
 have s:=zoW (zBX N A b c may) (binom N m) cols;have p:=zTd (may:=may) h hc f;have more:=λg=>zKI (zBX N A b c may) (binom N m) g cols
 have less:=λg=>zKH (zBX N A b c may) (binom N m) g cols
 generalize hr:pivs (zBX N A b c may) (binom N m) cols=r at *
 obtain⟨G,at_,n,err⟩:=r;obtain⟨o,d,q,a,x⟩:=s;simp only at o d q a x more less;have v:=p n d;cases err with
 | true =>
  obtain⟨y,k,j,u⟩:=q rfl;have:=p (binom N m+1) λi hi=>by by_cases e:i=binom N m;rw[e];exact⟨k,j,u⟩;exact d i ω
  omega
 | false =>
  have a:=a rfl;rw[<-o]at a;exact⟨n,G,at_,v,o,d,a,λB l=>more B rfl l,λB l=>less B rfl l⟩
theorem ywu{own:Nat}{cols:List Nat}(h:Own m N own A b cols m)(hc:c.length=N)(hm:∀j,may.getD j false=true->j<own):∀i k,k<m->(own<=cols.getD k 0->(zvo (zBX N A b c may) cols i).getD k 0=cols.getD k 0)/\(cols.getD k 0<own->(zvo (zBX N A b c may) cols i).getD k 0<own)
 | 0,_,_=>⟨λ_=>rfl,λh=>h⟩
 | i+1,k,hk=>by
  have a:=ywu h hc hm i k hk;have o:=h.seq hc hm i;rw[zvo];split
  rename_i r j e;have p:=zK6 o.basis hc e;rw[gset (by rw[o.basis.len];exact p.hk)];by_cases d:r=k;subst d;rw[if_pos rfl];refine⟨λq=>?_,λ_=>hm j p.hm⟩;have z:=o.line r hk hk (by rw[a.1 q];exact q) j (hm j p.hm);have t:=p.t;rw[z]at t;exact absurd t δ;grind;exact a
structure Fea (m N:Nat) (A:List (List Rat)) (b:List Rat) (may:List Bool) (z:Nat->Rat):Prop where
  sol:∀i,i<m->zai N (λj=>en A i j*z j)=el b i
  nn:∀j,j<N->0<=z j
  sup:∀j,j<N->z j≠0->may.getD j false=true
def ytn (N:Nat):List (List Rat)->(Nat->Rat)->(Nat->Rat)->Prop
  | [],_,_=>True
  | c::cs,x,z=>zai N (λj=>el c j*x j)<=zai N (λj=>el c j*z j)/\(zai N (λj=>el c j*x j)=zai N (λj=>el c j*z j)->ytn N cs x z)
structure Lex (m N:Nat) (A:List (List Rat)) (b:List Rat) (cs:List (List Rat)) (may:List Bool) (cols:List Nat) (L:List (List Nat)) (G:List Nat):Prop where
  enough:∀B n,n+L.length<=B->ys2 N A b B cs may cols n=⟨G,n+L.length,false⟩
  less:∀B n,n<=B->B<n+L.length->(ys2 N A b B cs may cols n).err=true/\(ys2 N A b B cs may cols n).n=B
  apart:ytw m L
  basis:∀l∈L,Basis m N A l/\zyF m A b l
  in_:∀l∈L,∀k,k<m->may.getD (l.getD k 0) false=true\/Bas m (λk=>cols.getD k 0) (l.getD k 0)
  last:Basis m N A G/\zyF m A b G
  lastIn:∀k,k<m->may.getD (G.getD k 0) false=true\/Bas m (λk=>cols.getD k 0) (G.getD k 0)
  fix:∀own,Own m N own A b cols m->(∀j,may.getD j false=true->j<own)->∀l∈L,∀k,k<m->(own<=cols.getD k 0->l.getD k 0=cols.getD k 0)/\(cols.getD k 0<own->l.getD k 0<own)
  best:∀z,Fea m N A b may z->ytn N cs (pt m (λk=>G.getD k 0) (el (za5 A b G))) z
  lastOwn:∀own,Own m N own A b cols m->(∀j,may.getD j false=true->j<own)->Own m N own A b G m
theorem ytt{d e:List Nat}(h:Basis m N A d)(g:Basis m N A e)(hc:c.length=N)(a:∀k,k<m->el (zaC N A e c) (d.getD k 0)=0):∀j,j<N->el (zaC N A d c) j=el (zaC N A e c) j :=
 (h.pri hc).same (g.pri hc) (h.dic []) a
theorem ytC{cs:List (List Rat)}(hF:Basis m N A F)(hc:c.length=N)(o:zBX N A b c may F=.stop)(l:Basis m N A G)(hi:∀k,k<m->(ys7 (zaC N A F c) may).getD (G.getD k 0) false=true\/Bas m (λk=>F.getD k 0) (G.getD k 0))
  (rest:∀z,Fea m N A b (ys7 (zaC N A F c) may) z->ytn N cs (pt m (λk=>G.getD k 0) (el (za5 A b G))) z) (z:Nat->Rat) (a:Fea m N A b may z):ytn N (c::cs) (pt m (λk=>G.getD k 0) (el (za5 A b G))) z:=by
 have p:=hF.pri hc;have g:=p.cost a.sol;have d:=p.cost (l.dic b).pt_sol;have n:zai N (λj=>el (zaC N A F c) j*pt m (λk=>G.getD k 0) (λk=>el (za5 A b G) k) j)=0:=by
  rw[zyA l.lt (λk=>el (za5 A b G) k) (el (zaC N A F c))];refine zcn λk hk=>?_
  have:el (zaC N A F c) (G.getD k 0)=0:=by
   rcases hi k hk with q | ⟨q,hq,e⟩
   exact(yta.1 q).2;rw[<-e];exact p.zero q hq
  rw[this];grind
 have nn:∀j,j<N->0<=el (zaC N A F c) j*z j:=λj hj=>by by_cases h0:z j=0;rw[h0];grind;exact Xg (zTe hc o j hj (a.sup j hj h0)) (a.nn j hj)
 have r:0<=zai N (λj=>el (zaC N A F c) j*z j):=by have:=zUD (f:=λ_=>0) nn;rw[zgd]at this;exact this
 refine⟨by have d:=d;rw[n]at d;rw[g];grind,λe=>rest z ⟨a.sol,a.nn,λj hj h0=>yta.2 ⟨a.sup j hj h0,?_⟩⟩⟩;have:=zTg nn (by rw[n]at d;have e:=e;rw[g]at e;grind) j hj;rcases Yq.1 this with h | h;exact h;exact absurd h h0
theorem ytq{L:List (List Nat)}{r:List (List Rat)}(h:Basis m N A cols)(hc:c.length=N)(f:zyF m A b cols)(hF:F=zvo (zBX N A b c may) cols n)(B:∀i,i<n->∃k j,zBX N A b c may (zvo (zBX N A b c may) cols i)=.piv k j)
  (C:zBX N A b c may F=.stop) (x:Lex m N A b r (ys7 (zaC N A F c) may) F L G) (a:List Nat) (y:a∈L) {i:Nat} (hi:i<n):¬∀u,Bas m (λk=>(zvo (zBX N A b c may) cols i).getD k 0) u↔Bas m (λk=>a.getD k 0) u:=λper=>by
 have g:=zVH (may:=may) h hc f;have l:=g n;rw[<-hF]at l;obtain⟨k,j,e⟩:=B i hi;have p:=zK6 (g i).1 hc e;have z:∀k,k<m->el (zaC N A F c) ((zvo (zBX N A b c may) cols i).getD k 0)=0:=λk hk=>by
  obtain⟨D,v,o⟩:=(per _).1 ⟨k,hk,rfl⟩;simp only at o;rw[<-o];rcases x.in_ a y D v with q | ⟨q,hq,e2⟩
  exact(yta.1 q).2;rw[<-e2];exact(l.1.pri hc).zero q hq
 have s:=ytt (g i).1 l.1 hc z j p.hj;have d:=p.d;rw[s]at d;have:=zTe hc C j p.hj p.hm;grind
theorem ytj:∀(cs:List (List Rat)) (may:List Bool) (cols:List Nat),(∀c∈cs,c.length=N/\∀j,0<=el c j)->Basis m N A cols->zyF m A b cols->∃L G,Lex m N A b cs may cols L G
 | [],may,cols,_,h,f=>⟨[],cols,λ_ _ _=>rfl,λB n h1 p=>(by simp only[YM]at p;omega),List.Pairwise.nil,λl a=>(by cases a),λl a=>(by cases a),⟨h,f⟩,λk hk=>.inr ⟨k,hk,rfl⟩,λ_ _ _ l a=>(by cases a),λ_ _=>trivial,λ_ ho _=>ho⟩
 | c::cs,may,cols,hcs,h,f=>by
  obtain⟨hc,D⟩:=hcs c (List.mem_cons_self ..);obtain⟨n,F,at_,_,hF,y,s,more,less⟩:=yto (may:=may) h hc f;have z:=zVH (may:=may) h hc f;have g:=z n;rw[<-hF]at g;cases at_ with
  | some k=>exact absurd s (zVC g.1 hc D k)
  | none =>
   obtain⟨L,G,x⟩:=ytj cs (ys7 (zaC N A F c) may) F (λc h=>hcs c (List.mem_cons_of_mem _ h)) g.1 g.2;have C:=ytl (zBX N A b c may) cols n;have u:=yt4 h hc f (may:=may);refine⟨ytk (zBX N A b c may) cols n++L,G,λB k I=>?_,λB k h1 p=>?_,?_,λl a=>?_,λl a=>?_,x.last,λk hk=>?_,λown ho hm l a k hk=>?_,ytC g.1 hc s x.last.1 x.lastIn x.best,λown ho hm=>?_⟩;rw[ZD,C]at I ⊢;unfold ys2;rw[more (B-k) ω];simp only[XI,if_false];rw[x.enough B (k+n) ω,Nat.add_assoc];rw[ZD,C]at p;unfold ys2;by_cases H:B-k<n;obtain⟨E,d⟩:=less (B-k) H;simp only[E,if_true,d,true_and];omega;rw[more (B-k) ω];simp only[XI,if_false];exact x.less B (k+n) ω ω;exact List.pairwise_append.2 ⟨yti h hc f y,x.apart,λl a K J per=>by obtain⟨i,hi,rfl⟩:=ZH.1 a;exact ytq h hc f hF y s x K J (Xu.1 hi) per⟩;rcases ZU.1 a with q | q;obtain⟨i,hi,rfl⟩:=ZH.1 q;exact z i;exact x.basis l q;rcases ZU.1 a with q | q;obtain⟨i,hi,rfl⟩:=ZH.1 q;exact λk hk=>u i k hk
   intro k hk;rcases x.in_ l q k hk with r | ⟨r,hr,d⟩
   exact .inl (yta.1 r).1;rw[<-d,hF];exact u n r hr;rcases x.lastIn k hk with r | ⟨r,hr,d⟩
   exact .inl (yta.1 r).1;rw[<-d,hF];exact u n r hr;rcases ZU.1 a with q | q;obtain⟨i,hi,rfl⟩:=ZH.1 q;exact ywu ho hc hm i k hk;have e:=ho.seq hc hm n;have o:=ywu ho hc hm n k hk;rw[<-hF]at e o;have v:=x.fix own e (λj hj=>hm j (yta.1 hj).1) l q k hk;exact⟨λh=>(v.1 (by rw[o.1 h];exact h)).trans (o.1 h),λh=>v.2 (o.2 h)⟩;have e:=ho.seq hc hm n;rw[<-hF]at e;exact x.lastOwn own e λj hj=>hm j (yta.1 hj).1
end
theorem ytm{N:Nat}:∀ {f k:Nat},k+f<=N->∀c∈ys5 N f k,c.length=N/\∀j,0<=el c j
 | 0,_,_,c,h=>by cases h
 | f+1,k,hk,c,h=>by
  rcases XM.1 h with rfl | h;refine⟨zfM _ _,λj=>?_⟩;rw[zge ω];split<;>decide
  exact ytm ω c h
end Am
namespace Am
inductive COut where
  | spent:Nat->COut
  | none:Nat->COut
  | best:List Nat->List Nat->Nat->COut
  | falls:Nat->COut
def COut.pivots:COut->Nat
  | .spent n=>n
  | .none n=>n
  | .best _ _ n=>n
  | .falls n=>n
def yth (n:Nat) (cols:List Nat) (l:LexOut):COut:=if l.err then .spent (n+l.n)else .best cols l.cols (n+l.n)
def ys3 (N m own:Nat) (A:List (List Rat)) (b c:List Rat) (B:Nat):COut :=
  let r:=pivs (zBX (N+m) (zt0 A b) (zwh b) (zJG N m) (zKc N m)) B (zKa N m)
  if r.err then .spent r.n
  else if 0<zSB N m A b r.cols then .none r.n
  else
    let d:=zSz N (N+m) (zt0 A b) (B-r.n) m 0 (r.cols,0)
    if d.2 then .spent (r.n+d.1.2)
    else
      let s:=pivs (zBX (N+m) (zt0 A b) (zwh b) (zKb m c) (zKc N m)) (B-(r.n+d.1.2)) d.1.1
      if s.err then .spent (r.n+d.1.2+s.n)
      else match s.at_ with
        | some _=>.falls (r.n+d.1.2+s.n)
        | .none=>yth (r.n+d.1.2+s.n) s.cols (ys2 (N+m) (zt0 A b) (zwh b) (B-(r.n+d.1.2+s.n)) (ys5 (N+m) own 0) (ys7 (zaC (N+m) (zt0 A b) s.cols (zKb m c)) (zKc N m)) s.cols 0)
def bmax (N:Nat):Nat->Nat
  | 0=>1
  | k+1=>max (bmax N k) (binom N (k+1))
theorem yww(N:Nat){a:Nat}:∀ {k:Nat},a<=k->binom N a<=bmax N k
 | 0,h=>by rw[Nat.le_zero.1 h];unfold bmax binom;cases N<;>exact Za _
 | k+1,h=>by unfold bmax;by_cases e:a=k+1;rw[e];exact Vm _ _;exact Zl (yww N ω) (Vl _ _)
theorem ywv{m N:Nat}{cols:List Nat}{L:List (List Nat)}(h:ytw m L)(hi:∀l∈L,∀i k,i<m->k<m->l.getD i 0=l.getD k 0->i=k)(hf:∀l∈L,∀k,k<m->(N<=cols.getD k 0->l.getD k 0=cols.getD k 0)/\(cols.getD k 0<N->l.getD k 0<N)):L.length<=bmax N m:=by
 obtain⟨ps,d⟩:∃ps,(List.range m).filter (λk=>decide (cols.getD k 0<N))=ps:=⟨_,rfl⟩
 have B:ps.length<=m:=by rw[<-d];exact Zl (List.length_filter_le _ _) σ
 have f:∀k,k<ps.length->ps.getD k 0<m/\cols.getD (ps.getD k 0) 0<N:=λk hk=>by
  have:ps.getD k 0∈ps:=by rw[Zg,Ze hk];exact Xj hk
  rw[<-d]at this;have:=List.mem_filter.1 this;rw[d]at this;exact⟨Xu.1 this.1,XP this.2⟩
 have pi:∀i k,i<ps.length->k<ps.length->ps.getD i 0=ps.getD k 0->i=k:=λi k h1 x e=>by
  have D:ps.Nodup:=by rw[<-d];exact List.Nodup.sublist List.filter_sublist List.nodup_range
  rw[Zg,Zg,Ze h1,Ze x]at e;exact(List.getElem_inj D).1 e
 have on:∀k,k<m->cols.getD k 0<N->∃t,t<ps.length/\ps.getD t 0=k:=λk hk hc=>by
  have:k∈ps:=by rw[<-d];exact List.mem_filter.2 ⟨Xu.2 hk,ZT hc⟩
  obtain⟨t,n⟩:=Xv.1 this;exact⟨t,(ZF.1 n).1,getD_some n⟩
 have g:∀i,i<L.length->L.getD i []∈L:=λi hi=>by rw[Zg,Ze hi];exact Xj hi
 refine Zl (zLq (N:=N) (m:=ps.length) (β:=λi k=>(L.getD i []).getD (ps.getD k 0) 0) (λi o k hk=>(hf _ (g i o) _ (f k hk).1).2 (f k hk).2) (λi o k l hk r e=>pi k l hk r (hi _ (g i o) _ _ (f k hk).1 (f l r).1 e)) λi j z hj per=>?_) (yww N B);have ap:=List.pairwise_iff_getElem.1 h i j ω hj z;have p:L.getD i []=L[i]' ω:=by rw[Zg,Ze ω];rfl
 have q:L.getD j []=L[j]:=by rw[Zg,Ze hj];rfl
 have one:∀a b:List Nat,a∈L->b∈L->(∀u,Bas ps.length (λk=>a.getD (ps.getD k 0) 0) u->Bas ps.length (λk=>b.getD (ps.getD k 0) 0) u)->∀u,Bas m (λk=>a.getD k 0) u->Bas m (λk=>b.getD k 0) u:=λa b y hb hp u ⟨k,hk,e⟩=>by by_cases hc:cols.getD k 0<N;obtain⟨t,n,v⟩:=on k hk hc;obtain⟨s,C,es⟩:=hp u ⟨t,n,by simp only[v];exact e⟩;exact⟨ps.getD s 0,(f s C).1,es⟩;exact⟨k,hk,by simp only;rw[(hf b hb k hk).1 ω,<-(hf a y k hk).1 ω];exact e⟩
 refine ap λu=>⟨?_,?_⟩
 rw[<-p,<-q];exact one _ _ (g i ω) (g j hj) (λu=>(per u).1) u;rw[<-p,<-q];exact one _ _ (g j hj) (g i ω) (λu=>(per u).2) u
section
variable {m N own:Nat} {A:List (List Rat)} {b c:List Rat}
inductive CEnds (m N own:Nat) (A:List (List Rat)) (b c:List Rat):COut->Prop where
  | none {cols:List Nat} {n:Nat} (h:Basis m (N+m) (zt0 A b) cols) (f:zyF m (zt0 A b) (zwh b) cols) (s:zBX (N+m) (zt0 A b) (zwh b) (zJG N m) (zKc N m) cols=.stop) (v:0<zSB N m A b cols):CEnds m N own A b c (.none n)
  | best {cols G:List Nat} {n k:Nat} {L:List (List Nat)} (h:Own m (N+m) N (zt0 A b) (zwh b) cols m) (s:zBX (N+m) (zt0 A b) (zwh b) (zKb m c) (zKc N m) cols=.stop)
      (x:Lex m (N+m) (zt0 A b) (zwh b) (ys5 (N+m) own 0) (ys7 (zaC (N+m) (zt0 A b) cols (zKb m c)) (zKc N m)) cols L G) (e:n=k+L.length):CEnds m N own A b c (.best cols G n)
  | falls {cols:List Nat} {j n:Nat} (h:Own m (N+m) N (zt0 A b) (zwh b) cols m) (s:zBX (N+m) (zt0 A b) (zwh b) (zKb m c) (zKc N m) cols=.bad j):CEnds m N own A b c (.falls n)
theorem CEnds.not{o:COut}(h:CEnds m N own A b c o)(n:Nat):o≠.spent n:=λe=>by subst e;cases h
variable (hA:Rect m N A) (hb:b.length=m) (hc:c.length=N) (ho:own<=N)
include hA hb hc ho
theorem yty:∃o,CEnds m N own A b c o/\o.pivots<=binom (N+m) m+m+bmax N m/\∀B,(o.pivots<=B->ys3 N m own A b c B=o)/\(B<o.pivots->ys3 N m own A b c B=.spent B):=by
 obtain⟨n,cols,at_,hn,hF,hp,K,more,less⟩:=yto (m:=m) (may:=zKc N m) (zSU (b:=b) hA) (zSD N m) (zVN hA hb);have u:=zVH (may:=zKc N m) (zSU (b:=b) hA) (zSD N m) (zVN hA hb) n;rw[<-hF]at u;have Y:∀j,0<=el (zJG N m) j:=λj=>by
  unfold zJG el;rw[Zg];by_cases hj:j<N;rw[Z1 (by simpa using hj),Z8,if_pos hj];exact XB;rw[ZJ (by simpa using hj),Z8];split
  exact(by decide:(0:Rat)<=1);exact XB
 cases at_ with
 | some j=>exact absurd K (zVC u.1 (zSD N m) Y j)
 | none =>
  by_cases D:0<zSB N m A b cols;refine⟨.none n,.none u.1 u.2 K D,by show n<=_;omega,λB=>⟨λh=>?_,λh=>?_⟩⟩;unfold ys3;rw[more B h];simp only[XI,if_false,if_pos D];obtain⟨f,g⟩:=less B h;unfold ys3;simp only[f,if_true,g];have ag:=(zTS u.1 u.2 hA hb K).1 (by show zSB N m A b cols<=0;grind);obtain⟨e,hd⟩:=ag.drive ω m (Za _);have H:zSG N (N+m) (zt0 A b) m 0 (cols,0)=zAd N (N+m) (zt0 A b) cols m:=by have:=zTL N (N+m) (zt0 A b) cols m 0;rw[Z6]at this;exact this
  generalize hdr:zAd N (N+m) (zt0 A b) cols m=d at *
  obtain⟨v,dn⟩:=d;simp only at e hd;have lc:(zKb m c).length=N+m:=by rw[zSS,hc]
  have r:∀j,(zKc N m).getD j false=true->j<N:=λj h=>by rcases ZI j N with h5 | h5;exact h5;rw[zUz h5]at h;cases h
  have Q:∀B,n<=B->B<n+dn->ys3 N m own A b c B=.spent B:=λB h1 y=>by
   obtain⟨f,g⟩:=zSF N (N+m) (zt0 A b) (B-n) m 0 (cols,0) (Zb _) (by rw[H];simp only;omega);unfold ys3;rw[more B h1];simp only[XI,if_false,if_neg D,f,if_true,g]
   congr 1;omega
  have Z:∀B,n+dn<=B->zSz N (N+m) (zt0 A b) (B-n) m 0 (cols,0)=((v,dn),false):=λB h1=>by rw[zSC N (N+m) (zt0 A b) (B-n) m 0 (cols,0) (by rw[H];simp only;omega),H]
  have T:∀B,B<n->ys3 N m own A b c B=.spent B:=λB h=>by obtain⟨f,g⟩:=less B h;unfold ys3;simp only[f,if_true,g]
  have E:∀B,n+dn<=B->ys3 N m own A b c B=(let s:=pivs (zBX (N+m) (zt0 A b) (zwh b) (zKb m c) (zKc N m)) (B-(n+dn)) v
    if s.err then .spent (n+dn+s.n)
    else match s.at_ with
     | some _=>.falls (n+dn+s.n)
     | .none=>yth (n+dn+s.n) s.cols (ys2 (N+m) (zt0 A b) (zwh b) (B-(n+dn+s.n)) (ys5 (N+m) own 0) (ys7 (zaC (N+m) (zt0 A b) s.cols (zKb m c)) (zKc N m)) s.cols 0)):=λB h1=>by
   conv=>lhs;unfold ys3
   rw[more B ω];simp only[XI,if_false,if_neg D];rw[Z B h1];simp only[XI,if_false]
  obtain⟨a,F,X,aj,I,J,M,O,ae⟩:=yto (may:=zKc N m) e.basis lc e.feas;have z:=e.seq (c:=zKb m c) (may:=zKc N m) lc r a;rw[<-I]at z;have V:∀B,n+dn<=B->B<n+dn+a->ys3 N m own A b c B=.spent B:=λB h1 y=>by obtain⟨f,g⟩:=ae (B-(n+dn)) ω;rw[E B h1];simp only[f,if_true,g];congr 1;omega
  cases X with
  | some j =>
   have c2:a<=bmax N m:=by
    have:=ywv (N:=N) (cols:=v) (yti (may:=zKc N m) e.basis lc e.feas J) (λl p=>by
     obtain⟨i,hi,rfl⟩:=ZH.1 p;exact(zVH (may:=zKc N m) e.basis lc e.feas i).1.inj) λl p=>by
     obtain⟨i,hi,rfl⟩:=ZH.1 p;exact λk hk=>ywu e lc r i k hk
    rw[ytl]at this;exact this
   refine⟨.falls (n+dn+a),.falls z M,by show n+dn+a<=_;omega,λB=>⟨λh=>?_,λh=>?_⟩⟩;have h:n+dn+a<=B:=h;rw[E B ω,O (B-(n+dn)) ω];simp only[XI,if_false];have h:B<n+dn+a:=h;by_cases h1:B<n;exact T B h1;by_cases y:B<n+dn;exact Q B ω y;exact V B ω h
  | none =>
   obtain⟨L,G,x⟩:=ytj (b:=zwh b) (ys5 (N+m) own 0) (ys7 (zaC (N+m) (zt0 A b) F (zKb m c)) (zKc N m)) F (ytm ω) z.basis z.feas;have cnt:a+L.length<=bmax N m:=by
    have W:=yti (may:=zKc N m) e.basis lc e.feas J;have af:=zVH (may:=zKc N m) e.basis lc e.feas;have U:=e.seq (c:=zKb m c) (may:=zKc N m) lc r a;have C:=ywu (c:=zKb m c) (may:=zKc N m) e lc r a;rw[<-I]at U C;have:=ywv (N:=N) (m:=m) (cols:=v) (L:=ytk (zBX (N+m) (zt0 A b) (zwh b) (zKb m c) (zKc N m)) v a++L) (List.pairwise_append.2 ⟨W,x.apart,λl p l' ac per=>by
     obtain⟨i,hi,rfl⟩:=ZH.1 p;exact ytq e.basis lc e.feas I J M x l' ac (Xu.1 hi) per⟩) (λl p=>by
      rcases ZU.1 p with q | q;obtain⟨i,hi,rfl⟩:=ZH.1 q;exact(af i).1.inj;exact(x.basis l q).1.inj) λl p k hk=>by
      rcases ZU.1 p with q | q;obtain⟨i,hi,rfl⟩:=ZH.1 q;exact ywu e lc r i k hk;have S:=x.fix N U (λj hj=>r j (yta.1 hj).1) l q k hk;exact⟨λh=>(S.1 (by rw[(C k hk).1 h];exact h)).trans ((C k hk).1 h),λh=>S.2 ((C k hk).2 h)⟩
    rw[ZD,ytl]at this;exact this
   refine⟨.best F G (n+dn+a+L.length),.best z M x rfl,by show n+dn+a+L.length<=_;omega,λB=>⟨λh=>?_,λh=>?_⟩⟩;have h:n+dn+a+L.length<=B:=h;rw[E B ω,O (B-(n+dn)) ω];simp only[XI,if_false];rw[x.enough (B-(n+dn+a)) 0 ω];unfold yth;simp only[XI,if_false,Z6];have h:B<n+dn+a+L.length:=h;by_cases h1:B<n;exact T B h1;by_cases y:B<n+dn;exact Q B ω y;by_cases h3:B<n+dn+a;exact V B ω h3;rw[E B ω,O (B-(n+dn)) ω];simp only[XI,if_false];obtain⟨f,g⟩:=x.less (B-(n+dn+a)) 0 (Zb _) ω;unfold yth;simp only[f,if_true,g];congr 1;omega
end
end Am
namespace Go.Proofs.YtbpjabgfcbjjmaaGreat
open Go.RowKit Am
variable {cost:List Rat}{i m nC:Nat}{x:Nat->Rat}
structure Form (nC m:Nat) (rows:List PRow):Prop where
  len:rows.length=m
  co:∀k,k<rows.length->(rows.getD k default).coef.length=nC
  kd:∀k,k<rows.length->(rows.getD k default).kind=1\/(rows.getD k default).kind=2\/(rows.getD k default).kind=3
def ywR (nC:Nat) (p:PRow) (x:Nat->Rat):Rat:=zai nC λj=>el p.coef j*x j
def ywH (nC:Nat) (p:PRow) (x:Nat->Rat):Prop:=(p.kind=1->ywR nC p x<=p.rhs)/\(p.kind=2->p.rhs<=ywR nC p x)/\(p.kind=3->ywR nC p x=p.rhs)
def ywM (nC:Nat) (rows:List PRow) (x:Nat->Rat):Prop:=(∀j,j<nC->0<=x j)/\∀i,i<rows.length->ywH nC (rows.getD i default) x
def ywG (nC:Nat) (p:PRow) (x:Nat->Rat):Rat:=if p.kind=3 then 0 else ((zfI p.kind:Int):Rat)*(p.rhs-ywR nC p x)
theorem ywN{p:PRow}(h:ywH nC p x)(hk:p.kind=1\/p.kind=2\/p.kind=3):0<=ywG nC p x:=by
 unfold ywG;split
 exact XB;rcases hk with e | e | e;rw[zYn e];have:=h.1 e;grind;rw[zYo ω];have:=h.2.1 e;grind
 contradiction
def ywz (nC:Nat) (rows:List PRow) (x:Nat->Rat) (j:Nat):Rat:=if j<nC then x j else zai rows.length λi=>if (rows.getD i default).kind≠3/\nC+cnt rows i=j then ywG nC (rows.getD i default) x else 0
section
variable {nC m:Nat} {rows:List PRow} (hf:Form nC m rows)
include hf
theorem ywK(x:Nat->Rat)(hi:i<rows.length)(a:(rows.getD i default).kind≠3):ywz nC rows x (nC+cnt rows i)=ywG nC (rows.getD i default) x:=by unfold ywz;rw[if_neg ω,zbI (k:=i) hi λt e d=>if_neg λh=>d (zX7 h.1 a ω),if_pos ⟨a,rfl⟩]
theorem ywL(h:ywM nC rows x)(hi:i<rows.length):zai (nC+cnt rows rows.length) (λj=>en (zc3 rows) i j*ywz nC rows x j)=(rows.getD i default).rhs:=by
 rw[zUC hf.co _ hi];have e:zai nC (λj=>el (rows.getD i default).coef j*ywz nC rows x j)=ywR nC (rows.getD i default) x:=zaj λj hj=>by unfold ywz;rw[if_pos hj]
 rw[e];by_cases a:(rows.getD i default).kind=3;rw[if_pos a,(h.2 i hi).2.2 a];grind;rw[if_neg a,ywK hf x hi a];unfold ywG;rw[if_neg a];rcases hf.kd i hi with e | e | e;rw[zYn e];grind;rw[zYo ω];grind
 contradiction
theorem ywO(h:ywM nC rows x)(j:Nat):0<=ywz nC rows x j:=by
 unfold ywz;split
 exact h.1 j (by assumption)
 have:=zUD (n:=rows.length) (f:=λ_=>0) (g:=λi=>if (rows.getD i default).kind≠3/\nC+cnt rows i=j then ywG nC (rows.getD i default) x else 0) λi hi=>by
  show 0<=if (rows.getD i default).kind≠3/\nC+cnt rows i=j then ywG nC (rows.getD i default) x else 0
  split
  exact ywN (h.2 i hi) (hf.kd i hi);exact XB
 rw[zgd]at this;exact this
theorem ywC(x:Nat->Rat){j:Nat}(hj:nC+cnt rows rows.length<=j):ywz nC rows x j=0:=by unfold ywz;rw[if_neg ω];exact zcn λi hi=>if_neg λh=>by have:=zUo hi h.1;omega
theorem ywE:Rect m (nC+cnt rows m) (zc3 rows):=by have:=zlk hf.co;rw[hf.len]at this;exact this
theorem ywQ:(zg8 rows).length=m:=by rw[zxG,hf.len]
theorem ywD(hi:i<m):el (zg8 rows) i=(rows.getD i default).rhs:=zKf (by rw[hf.len];exact hi)
theorem ywI(h:ywM nC rows x):Fea m (nC+cnt rows m+m) (zt0 (zc3 rows) (zg8 rows)) (zwh (zg8 rows)) (zKc (nC+cnt rows m) m) (ywz nC rows x):=by
 have hA:=ywE hf;have a:=hf.len;refine⟨λi hi=>?_,λj _=>ywO hf h j,λj hj h0=>?_⟩;have e:=ywL hf h (i:=i) ω;rw[a]at e
 rw[zgc _ (nC+cnt rows m) m,zcn (f:=λt=>en (zt0 (zc3 rows) (zg8 rows)) i (nC+cnt rows m+t)*ywz nC rows x (nC+cnt rows m+t)) λt _=>by rw[ywC hf x (by rw[a];omega)];grind,
  zzj (by rw[ywQ hf];exact hi),ywD hf hi,<-e,<-za7]
 have d:zai (nC+cnt rows m) (λj=>en (zt0 (zc3 rows) (zg8 rows)) i j*ywz nC rows x j)=zai (nC+cnt rows m) λj=>sgn (el (zg8 rows) i)*(en (zc3 rows) i j*ywz nC rows x j):=zaj λj hj=>by rw[zwf hA hi hj];grind
 rw[d,ywD hf hi];grind;rcases ZI j (nC+cnt rows m)with q | q;exact zUA q;exact absurd (ywC hf x (by rw[a];exact q)) h0
theorem ywP{z:Nat->Rat}(a:∀j,0<=z j)(f:∀i,i<m->zai (nC+cnt rows m) (λj=>en (zc3 rows) i j*z j)=el (zg8 rows) i):ywM nC rows z:=by
 have d:=hf.len;refine⟨λj _=>a j,λi hi=>?_⟩;have e:=f i ω;have r:=zUC hf.co z hi;rw[d]at r;rw[r,ywD hf ω]at e;show ywH nC (rows.getD i default) z
 unfold ywH ywR;refine⟨λk=>?_,λk=>?_,λk=>?_⟩;rw[if_neg ω,zYn k]at e;have:=a (nC+cnt rows i);grind;rw[if_neg ω,zYo ω]at e;have:=a (nC+cnt rows i);grind;rw[if_pos k]at e;grind
end
def ywU (nC:Nat) (x z:Nat->Rat):Prop:=∀i,i<nC->(∀l,l<i->x l=z l)->x i<=z i
theorem ywJ{N k:Nat}(hk:k<N)(x:Nat->Rat):zai N (λj=>el (zdL N k) j*x j)=x k:=by rw[zbI (k:=k) hk λj _ a=>by rw[zge hk,if_neg (Z4 a)];grind,zge hk,if_pos rfl];grind
theorem ywF{N:Nat}{x z:Nat->Rat}:∀(f k:Nat),k+f<=N->ytn N (ys5 N f k) x z->∀i,k<=i->i<k+f->(∀l,k<=l->l<i->x l=z l)->x i<=z i
 | 0,k,_,_,i,h1,h2,_=>ω
 | f+1,k,hk,⟨h1,h2⟩,i,h3,h4,h5=>by rw[ywJ ω,ywJ ω]at h1 h2;by_cases e:i=k;rw[e];exact h1;exact ywF f (k+1) ω (h2 (h5 k (Za _) ω)) i ω ω λl d a=>h5 l ω a
def ywA (nC:Nat) (cost:List Rat) (x:Nat->Rat):Rat:=zai nC λj=>el cost j*x j
inductive Told (nC m:Nat) (cost:List Rat) (rows:List PRow):COut->Prop where
  | none {n:Nat} (h:∀x,¬ywM nC rows x):Told nC m cost rows (.none n)
  | falls {n:Nat} (h:∀M:Rat,∃x,ywM nC rows x/\ywA nC cost x<M):Told nC m cost rows (.falls n)
  | best {cols G:List Nat} {n:Nat} (X:Nat->Rat) (h:ywM nC rows X) (he:∀j,X j=pt m (λk=>G.getD k 0) (el (za5 (zt0 (zc3 rows) (zg8 rows)) (zwh (zg8 rows)) G)) j) (hl:G.length=m) (hb:∀x,ywM nC rows x->ywA nC cost X<=ywA nC cost x/\(ywA nC cost X=ywA nC cost x->ywU nC X x)):Told nC m cost rows (.best cols G n)
theorem ywB{K:Nat}(hc:cost.length=nC)(rows:List PRow)(hk:(zjD cost rows).length=nC+K)(z:Nat->Rat):zai (nC+K+m) (λj=>el (zKb m (zjD cost rows)) j*z j)=ywA nC cost z:=by rw[zgc _ (nC+K) m,zcn (f:=λt=>el (zKb m (zjD cost rows)) (nC+K+t)*z (nC+K+t)) λt _=>by rw[<-hk,zVP];grind,zaj (g:=λj=>el (zjD cost rows) j*z j) λj hj=>by rw[zTu ω],zUp hc];unfold ywA;grind
theorem ywS{rows:List PRow}(hf:Form nC m rows)(hc:cost.length=nC){o:COut}(h:CEnds m (nC+cnt rows m) nC (zc3 rows) (zg8 rows) (zjD cost rows) o):Told nC m cost rows o:=by
 have hA:=ywE hf;have hb:=ywQ hf;have a:(zjD cost rows).length=nC+cnt rows m:=by unfold zjD;rw[ZD,ZO,hc,hf.len]
 have lc:(zKb m (zjD cost rows)).length=nC+cnt rows m+m:=by rw[zSS,a]
 cases h with
 | none h f s v =>
  rename_i cols n;refine .none λx Q=>?_;have z:=ywI hf Q;have q:=(ytC (cs:=[]) h (zSD _ m) s h (λk hk=>.inr ⟨k,hk,rfl⟩) (λ_ _=>trivial) _ z).1;have e:zai (nC+cnt rows m+m) (λj=>el (zJG (nC+cnt rows m) m) j*ywz nC rows x j)=0:=zcn λj hj=>by rcases ZI j (nC+cnt rows m)with q | q;rw[zTq q];grind;rw[ywC hf x (by rw[hf.len];exact q)];grind
  rw[e]at q;have v:0<zai (nC+cnt rows m+m) λj=>el (zJG (nC+cnt rows m) m) j*pt m (λk=>cols.getD k 0) (el (za5 (zt0 (zc3 rows) (zg8 rows)) (zwh (zg8 rows)) cols)) j:=v
  grind
 | falls h s =>
  rename_i cols j n;refine .falls λM=>?_
  obtain⟨g,p⟩:=h.fits hA hb;obtain⟨_,w1,F,u⟩:=h.ray hA hb a s;generalize hz:pt m (λk=>cols.getD k 0) (el (za5 (zt0 (zc3 rows) (zg8 rows)) (zwh (zg8 rows)) cols))=z at g p;generalize hw:way m (λk=>cols.getD k 0) (λr s=>el (zav (zt0 (zc3 rows) (zg8 rows)) cols s) r) j=w at w1 F u;have fit:∀t:Rat,0<=t->ywM nC rows λi=>z i+t*w i:=λt O=>ywP hf (λi=>by have:=g i;have:=Xg O (w1 i);grind) λi hi=>by
   have e:zai (nC+cnt rows m) (λj=>en (zc3 rows) i j*(z j+t*w j))=zai (nC+cnt rows m) (λj=>en (zc3 rows) i j*z j)+t*zai (nC+cnt rows m) (λj=>en (zc3 rows) i j*w j):=by rw[<-za7,<-zcm];exact zaj λj _=>ψ
   rw[e,p i hi,F i hi];grind
  have cs:∀t,ywA nC cost (λi=>z i+t*w i)=ywA nC cost z+t*ywA nC cost w:=λt=>by unfold ywA;rw[<-za7,<-zcm];exact zaj λj _=>ψ
  have T:ywA nC cost w<0:=by have e:=zUp (K:=cnt rows m) (rows:=rows) hc w;rw[e]at u;exact u
  generalize ywA nC cost w=d at cs T;generalize hc0:ywA nC cost z=c0 at cs;by_cases U:c0<M;exact⟨_,fit 0 XB,by rw[cs];grind⟩;refine⟨_,fit ((c0-M+1)/(-d)) ?_,?_⟩;rw[Z5];exact Xg ψ (XU (Yp.2 ψ));rw[cs];have e:(c0-M+1)/(-d)*(-d)=c0-M+1:=YH ψ;grind
 | best h s x e =>
  rename_i cols G n k L;have C:=x.lastOwn (nC+cnt rows m) h λj hj=>by rcases ZI j (nC+cnt rows m)with q | q;exact q;have:=(yta.1 hj).1;rw[zUz q]at this;cases this
  obtain⟨g,p⟩:=C.fits hA hb;refine .best _ (ywP hf g p) (λ_=>rfl) C.basis.len λy S=>?_;have q:=ytC h.basis lc s x.last.1 x.lastIn x.best _ (ywI hf S);have B:ywA nC cost (ywz nC rows y)=ywA nC cost y:=zaj λj hj=>by unfold ywz;rw[if_pos hj]
  have D:=q.1;rw[ywB hc rows a,ywB hc rows a,B]at D;refine⟨D,λe i hi I=>?_⟩;have E:=ywF nC 0 ω (q.2 (by rw[ywB hc rows a,ywB hc rows a,B];exact e)) i ω ω λl _ J=>by rw[I l J];unfold ywz;rw[if_pos ω]
  have H:ywz nC rows y i=y i:=by unfold ywz;rw[if_pos hi]
  rw[H]at E;exact E
end Go.Proofs.YtbpjabgfcbjjmaaGreat
namespace Am
def low (N:Nat):Nat->Nat
  | 0=>0
  | k+1=>low N k+binom N k
def pcnt:Nat->Nat->Nat->Nat
  | 0,R,k=>binom R k
  | P+1,R,0=>pcnt P R 0
  | P+1,R,k+1=>pcnt P R (k+1)+(pcnt P R k+pcnt P R k)
def pmax (P R:Nat):Nat->Nat
  | 0=>pcnt P R 0
  | k+1=>max (pmax P R k) (pcnt P R (k+1))
section
variable {m N P R:Nat} {A:List (List Rat)} {b c:List Rat} (hA:Rect m N A) (hb:b.length=m)
end
section
variable {m N P R:Nat} {A:List (List Rat)} {b c:List Rat} (hA:Rect m N A) (hb:b.length=m) (hc:c.length=N) (hN:N=2*P+R) (hp:∀t,t<P->∀i,i<m->en A i (2*t+1) = -en A i (2*t))
end
theorem yZD:∀N,N<=14->∀m,m<=5->low N m+m+pmax 0 N m<=4000:=by decide +kernel
end Am
namespace Am
variable {cols:List Nat}
theorem yvt{p p':List Rat}{may may':List Bool}:∀(f s:Nat),(∀j,s<=j->j<s+f->el p j=el p' j/\may.getD j false=may'.getD j false)->zfV p may f s=zfV p' may' f s
 | 0,_,_=>rfl
 | f+1,s,h=>by unfold zfV;obtain⟨h1,d⟩:=h s (Za _) ω;rw[h1,d,yvt f (s+1) λj a b=>h j ω ω]
theorem yvs{p:List Rat}{may:List Bool}:∀(f g s:Nat),(∀j,s+f<=j->may.getD j false=false)->zfV p may (f+g) s=zfV p may f s
 | 0,0,_,_=>rfl
 | 0,g+1,s,h=>by
  rw[Z6];unfold zfV;rw[if_neg (by rw[h s ω];intro e;cases e.1)];have:=yvs 0 g (s+1) (p:=p) (may:=may) λj hj=>h j ω
  rw[Z6]at this;rw[this];rfl
 | f+1,g,s,h=>by rw[show f+1+g=(f+g)+1 by omega];unfold zfV;rw[yvs f g (s+1) λj hj=>h j ω]
structure MayB (N:Nat) (may may':List Bool):Prop where
  own:∀j,j<N->may'.getD j false=may.getD j false
  art:∀j,N<=j->may'.getD j false=false
section
variable {m N:Nat} {A:List (List Rat)} {b c c':List Rat} {may may':List Bool} (hA:Rect m N A) (hb:b.length=m)
include hA
theorem yvH{x v:List Rat}(f:cols.length=m)(ho:∀k,k<m->cols.getD k 0<N)(h:∀i,i<m->zai m (λk=>en (zt0 A b) i (cols.getD k 0)*el x k)=sgn (el b i)*el v i):Mk m (bc A cols) x v:=λi hi=>by
 have e:=h i hi;have a:zai m (λk=>en (zt0 A b) i (cols.getD k 0)*el x k)=sgn (el b i)*zai m (λk=>en A i (cols.getD k 0)*el x k):=by rw[<-za7];exact zaj λk hk=>by rw[zwf hA hi (ho k hk)];grind
 rw[a]at e;have s:=zDO (el b i);have d:sgn (el b i)*sgn (el b i)*zai m (λk=>en A i (cols.getD k 0)*el x k)=sgn (el b i)*sgn (el b i)*el v i:=ψ;rw[s]at d;rw[zaj λk hk=>by rw[ztZ (by rw[f];exact hk) (by rw[hA.len];exact hi)]];grind
theorem yvu(h:Basis m (N+m) (zt0 A b) cols)(ho:∀k,k<m->cols.getD k 0<N):Basis m N A cols:=by
 refine⟨hA,h.len,ho,h.inj,λx a=>h.reg x λi hi=>?_⟩;have e:zai m (λk=>en (bc A cols) k i*x k)=0:=a i hi;rw[zaj λk hk=>by rw[ztZ (by rw[h.len];exact hk) (by rw[hA.len];exact hi)]]at e;show zai m (λk=>en (bc (zt0 A b) cols) k i*x k)=0
 rw[zaj λk hk=>by rw[ztZ (by rw[h.len];exact hk) (by rw[h.rect.len];exact hi),zwf hA hi (ho k hk)],zaj (g:=λk=>sgn (el b i)*(en A i (cols.getD k 0)*x k)) λk _=>ψ,za7,e];grind
theorem yvD(h:Basis m (N+m) (zt0 A b) cols)(ho:∀k,k<m->cols.getD k 0<N){j:Nat}(hj:j<N):zav (zt0 A b) cols j=zav A cols j:=by have a:=yvu hA h ho;refine Mk.unique a.reg (yvH (b:=b) hA h.len ho λi hi=>?_) (a.column_ok j).1 (h.column_ok j).2 (a.column_ok j).2;rw[h.mk_en (h.column_ok j).1 hi,zhw (by rw[h.rect.len];exact hi),zhw (by rw[hA.len];exact hi),zwf hA hi hj]
theorem yvv(h:Basis m (N+m) (zt0 A b) cols)(ho:∀k,k<m->cols.getD k 0<N)(hc:c.length=N)(d:c'.length=N+m)(e:∀j,j<N->el c' j=el c j):∀j,j<N->el (zaC (N+m) (zt0 A b) cols c') j=el (zaC N A cols c) j:=λj hj=>by
 have a:=yvu hA h ho;have P:Pri m N (en A) (el c) (λk=>cols.getD k 0) (λi=>sgn (el b i)*el (zcl (zt0 A b) cols c') i) (el (zaC (N+m) (zt0 A b) cols c')) :=
  ⟨λj hj=>by
   rw[h.prices_el d ω,e j hj]
   congr 1
   exact zaj λi hi=>by rw[zwf hA hi hj];grind,λk hk=>(h.pri d).zero k hk⟩
 exact P.same (a.pri hc) (a.dic []) (λk hk=>(a.pri hc).zero k hk) j hj
theorem yvF(h:Basis m (N+m) (zt0 A b) cols)(ho:∀k,k<m->cols.getD k 0<N)(hc:c.length=N)(a:c'.length=N+m)(e:∀j,j<N->el c' j=el c j)(hm:MayB N may may'):zdi (zaC (N+m) (zt0 A b) cols c') may'=zdi (zaC N A cols c) may:=by unfold zdi;rw[zKp hc,zKp a,yvs N m 0 λj hj=>hm.art j ω];exact yvt N 0 λj _ hj=>⟨yvv hA h ho hc a e j ω,hm.own j ω⟩
include hb
theorem yvz(h:Basis m (N+m) (zt0 A b) cols)(ho:∀k,k<m->cols.getD k 0<N):za5 (zt0 A b) (zwh b) cols=za5 A b cols:=by have a:=yvu hA h ho;refine Mk.unique a.reg (yvH (b:=b) hA h.len ho λi hi=>?_) (a.vals_ok b).1 (h.vals_ok _).2 (a.vals_ok b).2;rw[h.mk_en (h.vals_ok (zwh b)).1 hi,zzj ω]
theorem yvB(h:Basis m (N+m) (zt0 A b) cols)(ho:∀k,k<m->cols.getD k 0<N)(hc:c.length=N)(a:c'.length=N+m)(e:∀j,j<N->el c' j=el c j)(hm:MayB N may may') :
  zBX (N+m) (zt0 A b) (zwh b) c' may' cols=zBX N A b c may cols:=by
 unfold zBX;rw[yvF hA h ho hc a e hm];have s:=zKj (zaC N A cols c) may N 0;cases hen:zdi (zaC N A cols c) may with
 | none=>rfl
 | some j =>
  unfold zdi at hen;rw[zKp hc]at hen;rw[hen]at s;simp only[yvz hA hb h ho,yvD hA h ho (show j<N by have:=s.2.1;omega)]
theorem yvC(hc:c.length=N)(a:c'.length=N+m)(e:∀j,j<N->el c' j=el c j)(hm:MayB N may may'):∀(f:Nat) (cols:List Nat),Basis m (N+m) (zt0 A b) cols->(∀k,k<m->cols.getD k 0<N) ->
  pivs (zBX (N+m) (zt0 A b) (zwh b) c' may') f cols=pivs (zBX N A b c may) f cols/\Basis m (N+m) (zt0 A b) (pivs (zBX N A b c may) f cols).cols/\∀k,k<m->(pivs (zBX N A b c may) f cols).cols.getD k 0<N
 | 0,cols,h,ho=>by
  have n:=yvB hA hb h ho hc a e hm;refine⟨by unfold pivs;rw[n],?_⟩;have:(pivs (zBX N A b c may) 0 cols).cols=cols:=by unfold pivs;split<;>rfl
  rw[this];exact⟨h,ho⟩
 | f+1,cols,h,ho=>by
  have n:=yvB hA hb h ho hc a e hm;unfold pivs;rw[n];cases hn:zBX N A b c may cols with
  | stop=>exact⟨rfl,h,ho⟩
  | bad k=>exact⟨rfl,h,ho⟩
  | piv k j =>
   rw[hn]at n;have p:=zK6 h a n;have hj:j<N:=by rcases ZI j N with q | q;exact q;have:=hm.art j q;rw[p.hm]at this;cases this
   obtain⟨g,o,r⟩:=yvC hc a e hm f (cols.set k j) (h.swap p.hk p.hj (by have:=p.t;grind)) λl d=>by
    rw[gset (by rw[h.len];exact p.hk)];split
    exact hj;exact ho l d
   exact⟨by simp only[g],o,r⟩
theorem yvw:∀(f k:Nat) (may may':List Bool) (cols:List Nat) (B n:Nat),k+f<=N->MayB N may may'->Basis m (N+m) (zt0 A b) cols->(∀k,k<m->cols.getD k 0<N) ->
  ys2 (N+m) (zt0 A b) (zwh b) B (ys5 (N+m) f k) may' cols n=ys2 N A b B (ys5 N f k) may cols n/\∀l,l<m->(ys2 N A b B (ys5 N f k) may cols n).cols.getD l 0<N
 | 0,_,_,_,_,_,_,_,_,_,ho=>⟨rfl,ho⟩
 | f+1,k,may,may',cols,B,n,hk,hm,h,ho=>by
  have o:∀j,j<N->el (zdL (N+m) k) j=el (zdL N k) j:=λj hj=>by rw[zge ω,zge ω]
  obtain⟨e,d,a⟩:=yvC hA hb (zfM N k) (zfM _ _) o hm (B-n) cols h ho;obtain⟨r,hr⟩:∃r,pivs (zBX N A b (zdL N k) may) (B-n) cols=r:=⟨_,rfl⟩
  rw[hr]at e d a;simp only[ys5,ys2,e,hr];by_cases g:r.err=true;simp only[g,if_true];exact⟨trivial,a⟩;simp only[g,if_false];refine yvw f (k+1) _ _ _ _ _ ω ⟨λj hj=>?_,λj hj=>?_⟩ d a;rw[Vh,yta,yta,hm.own j hj,yvv hA d a (zfM N k) (zfM _ _) o j hj];rw[Bool.eq_false_iff];intro q;have:=(yta.1 q).1;rw[hm.art j hj]at this;cases this
end
