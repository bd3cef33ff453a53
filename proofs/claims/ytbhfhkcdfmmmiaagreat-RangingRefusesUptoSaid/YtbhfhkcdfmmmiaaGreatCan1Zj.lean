/- Contracts and lemmas: Can1 Can2 Cnt2 Turn. Conditions: as each says. -/
import Derived.Test.YtbhfhkcdfmmmiaaGreatGdSZj
set_option linter.all false
set_option maxHeartbeats 1000000
set_option maxRecDepth 100000
namespace Am
def ys7 (p:List Rat) (may:List Bool):List Bool:=(List.range may.length).map fun j=>may.getD j false&&decide (el p j=0)
structure LexOut where
  cols:List Nat
  n:Nat
  err:Bool
def ys2 (N:Nat) (A:List (List Rat)) (b:List Rat) (B:Nat):List (List Rat)→List Bool→List Nat→Nat→LexOut
  | [],_,cols,n=>⟨cols,n,false⟩
  | c :: cs,may,cols,n =>
    let r:=pivs (zBX N A b c may) (B-n) cols
    if r.err then ⟨r.cols,n+r.n,true⟩
    else ys2 N A b B cs (ys7 (zaC N A r.cols c) may) r.cols (n+r.n)
def ys5 (N:Nat):Nat→Nat→List (List Rat)
  | 0,_=>[]
  | f+1,k=>zdL N k::ys5 N f (k+1)
def ytw (m:Nat) (L:List (List Nat)):Prop:=L.Pairwise fun a b=>¬∀u,Bas m (fun k=>a.getD k 0) u↔Bas m (fun k=>b.getD k 0) u
section
variable {m N:Nat} {A:List (List Rat)} {b c:List Rat} {may:List Bool}
def ytk (next:List Nat→Next) (cols:List Nat) (n:Nat):List (List Nat):=(List.range n).map (zvo next cols)
theorem ytl(next:List Nat→Next)(cols:List Nat)(n:Nat):(ytk next cols n).length=n:=by simp[ytk]
theorem yti{cols:List Nat}(h:Basis m N A cols)(hc:c.length=N)(f:zyF m A b cols){n:Nat}(d:∀i,i<n→∃k j,zBX N A b c may (zvo (zBX N A b c may) cols i)=.piv k j):ytw m (ytk (zBX N A b c may) cols n):=by
 unfold ytw ytk;rw[List.pairwise_map];exact List.Pairwise.imp_of_mem (R:=fun a b=>a<b) (fun {i j} _ hj hij=>ysX h hc f n d _ _ hij (Xa.1 hj)) List.pairwise_lt_range
theorem ywu{own:Nat}{cols:List Nat}(h:Own m N own A b cols m)(hc:c.length=N)(hm:∀j,may.getD j false=true→j<own):∀i k,k<m→(own≤cols.getD k 0→(zvo (zBX N A b c may) cols i).getD k 0=cols.getD k 0)∧(cols.getD k 0<own→(zvo (zBX N A b c may) cols i).getD k 0<own)
 | 0,_,_=>⟨fun _=>rfl,fun h=>h⟩
 | i+1,k,hk=>by
  have a:=ywu h hc hm i k hk;have o:=h.seq hc hm i;rw[zvo];split
  ·rename_i r j e
   have p:=zK6 o.basis hc e;rw[gset (by rw[o.basis.len];exact p.hk)];by_cases d:r=k
   ·subst d;rw[if_pos rfl];refine⟨fun q=>?_,fun _=>hm j p.hm⟩;have z:=o.line r hk hk (by rw[a.1 q];exact q) j (hm j p.hm);have t:=p.t;rw[z]at t;exact absurd t (by decide)
   grind
  ·exact a
structure Fea (m N:Nat) (A:List (List Rat)) (b:List Rat) (may:List Bool) (z:Nat→Rat):Prop where
  sol:∀i,i<m→zai N (fun j=>en A i j*z j)=el b i
  nn:∀j,j<N→0≤z j
  sup:∀j,j<N→z j≠0→may.getD j false=true
def ytn (N:Nat):List (List Rat)→(Nat→Rat)→(Nat→Rat)→Prop
  | [],_,_=>True
  | c::cs,x,z=>zai N (fun j=>el c j*x j)≤zai N (fun j=>el c j*z j)∧(zai N (fun j=>el c j*x j)=zai N (fun j=>el c j*z j)→ytn N cs x z)
structure Lex (m N:Nat) (A:List (List Rat)) (b:List Rat) (cs:List (List Rat)) (may:List Bool) (cols:List Nat) (L:List (List Nat)) (G:List Nat):Prop where
  enough:∀B n,n+L.length≤B→ys2 N A b B cs may cols n=⟨G,n+L.length,false⟩
  less:∀B n,n≤B→B<n+L.length→(ys2 N A b B cs may cols n).err=true∧(ys2 N A b B cs may cols n).n=B
  apart:ytw m L
  basis:∀l∈L,Basis m N A l∧zyF m A b l
  in_:∀l∈L,∀k,k<m→may.getD (l.getD k 0) false=true∨Bas m (fun k=>cols.getD k 0) (l.getD k 0)
  last:Basis m N A G∧zyF m A b G
  lastIn:∀k,k<m→may.getD (G.getD k 0) false=true∨Bas m (fun k=>cols.getD k 0) (G.getD k 0)
  fix:∀own,Own m N own A b cols m→(∀j,may.getD j false=true→j<own)→∀l∈L,∀k,k<m→(own≤cols.getD k 0→l.getD k 0=cols.getD k 0)∧(cols.getD k 0<own→l.getD k 0<own)
  best:∀z,Fea m N A b may z→ytn N cs (pt m (fun k=>G.getD k 0) (el (za5 A b G))) z
  lastOwn:∀own,Own m N own A b cols m→(∀j,may.getD j false=true→j<own)→Own m N own A b G m
end
end Am
namespace Am
inductive COut where
  | spent:Nat→COut
  | none:Nat→COut
  | best:List Nat→List Nat→Nat→COut
  | falls:Nat→COut
def COut.pivots:COut→Nat
  | .spent n=>n
  | .none n=>n
  | .best _ _ n=>n
  | .falls n=>n
section
variable {m N own:Nat} {A:List (List Rat)} {b c:List Rat}
inductive CEnds (m N own:Nat) (A:List (List Rat)) (b c:List Rat):COut→Prop where
  | none {cols:List Nat} {n:Nat} (h:Basis m (N+m) (zt0 A b) cols) (f:zyF m (zt0 A b) (zwh b) cols) (s:zBX (N+m) (zt0 A b) (zwh b) (zJG N m) (zKc N m) cols=.stop) (v:0<zSB N m A b cols):CEnds m N own A b c (.none n)
  | best {cols G:List Nat} {n k:Nat} {L:List (List Nat)} (h:Own m (N+m) N (zt0 A b) (zwh b) cols m) (s:zBX (N+m) (zt0 A b) (zwh b) (zKb m c) (zKc N m) cols=.stop)
      (x:Lex m (N+m) (zt0 A b) (zwh b) (ys5 (N+m) own 0) (ys7 (zaC (N+m) (zt0 A b) cols (zKb m c)) (zKc N m)) cols L G) (e:n=k+L.length):CEnds m N own A b c (.best cols G n)
  | falls {cols:List Nat} {j n:Nat} (h:Own m (N+m) N (zt0 A b) (zwh b) cols m) (s:zBX (N+m) (zt0 A b) (zwh b) (zKb m c) (zKc N m) cols=.bad j):CEnds m N own A b c (.falls n)
theorem CEnds.not{o:COut}(h:CEnds m N own A b c o)(n:Nat):o≠.spent n:=fun e=>by subst e;cases h
variable (hA:Rect m N A) (hb:b.length=m) (hc:c.length=N) (ho:own≤N)
include hA hb hc ho
end
end Am
namespace Am
variable {cols:List Nat}{B N P R j m n:Nat}
def low (N:Nat):Nat→Nat
  | 0=>0
  | k+1=>low N k+binom N k
def yYP (N:Nat):Nat→List (List Bool)
  | 0=>[]
  | k+1=>yYP N k++marks N k
theorem yYT(N:Nat):∀k,(yYP N k).length=low N k
 | 0=>rfl
 | k+1=>by unfold yYP low;rw[Zj,yYT N k,zKl]
theorem yZg{N:Nat}{l:List Bool}(a:l.length=N):∀k,l.countP id<k→l∈yYP N k
 | 0,h=>absurd h (ZK _)
 | k+1,h=>by
  unfold yYP;rcases ZV (l.countP id) k with h1 | h1
  ·exact ZD.2 (.inl (yZg a k h1))
  ·exact ZD.2 (.inr (zKo l N k a (by omega)))
def pcnt:Nat→Nat→Nat→Nat
  | 0,R,k=>binom R k
  | P+1,R,0=>pcnt P R 0
  | P+1,R,k+1=>pcnt P R (k+1)+(pcnt P R k+pcnt P R k)
def pmarks:Nat→Nat→Nat→List (List Bool)
  | 0,R,k=>marks R k
  | P+1,R,0=>(pmarks P R 0).map fun l=>false::false::l
  | P+1,R,k+1=>((pmarks P R (k+1)).map fun l=>false::false::l)++(((pmarks P R k).map fun l=>true::false::l)++(pmarks P R k).map fun l=>false::true::l)
theorem yYR:∀P R k,(pmarks P R k).length=pcnt P R k
 | 0,R,k=>zKl R k
 | P+1,R,0=>by unfold pmarks pcnt;rw[Zl,yYR P R 0]
 | P+1,R,k+1=>by unfold pmarks pcnt;simp only[Zj,Zl,yYR]
theorem yYN:∀(P R k:Nat) (l:List Bool),l.length=2*P+R→l.countP id=k→(∀i,i<P→¬(l.getD (2*i) false=true∧l.getD (2*i+1) false=true))→l∈pmarks P R k
 | 0,R,k,l,h1,h2,_=>zKo l R k (by omega) h2
 | P+1,R,k,l,h1,h2,h3=>by
  match l,h1 with
  | [],h1=>simp at h1;omega
  | [x],h1=>simp at h1;omega
  | x::y::l,h1 =>
   have d:l.length=2*P+R:=by simp at h1;omega
   have a:∀i,i<P→¬(l.getD (2*i) false=true∧l.getD (2*i+1) false=true):=fun i hi h=>h3 (i+1) (by omega) (by
    rw[show 2*(i+1)=2*i+1+1 by omega];simpa using h)
   have h0:=h3 0 (by omega);cases x with
   | false =>
    cases y with
    | false =>
     have:=yYN P R k l d (by simpa using h2) a;cases k with
     | zero=>exact Zq.2 ⟨l,this,rfl⟩
     | succ k=>exact ZD.2 (.inl (Zq.2 ⟨l,this,rfl⟩))
    | true =>
     cases k with
     | zero=>simp at h2
     | succ k =>
      have:=yYN P R k l d (by simpa using h2) a;exact ZD.2 (.inr (ZD.2 (.inr (Zq.2 ⟨l,this,rfl⟩))))
   | true =>
    cases y with
    | false =>
     cases k with
     | zero=>simp at h2
     | succ k =>
      have:=yYN P R k l d (by simpa using h2) a;exact ZD.2 (.inr (ZD.2 (.inl (Zq.2 ⟨l,this,rfl⟩))))
    | true=>exact absurd ⟨rfl,rfl⟩ h0
def pmax (P R:Nat):Nat→Nat
  | 0=>pcnt P R 0
  | k+1=>max (pmax P R k) (pcnt P R (k+1))
theorem yZj(P R:Nat){a:Nat}:∀ {k:Nat},a≤k→pcnt P R a≤pmax P R k
 | 0,h=>by rw[Nat.le_zero.1 h];exact Za _
 | k+1,h=>by
  unfold pmax;by_cases e:a=k+1
  ·rw[e];exact YI _ _
  ·exact Zc (yZj P R (by omega)) (YH _ _)
theorem yZf{β:Nat→Nat}(hj:j<N):(markOf N m β).getD j false=true↔Bas m β j:=by
 classical
 unfold markOf;rw[zbU _ _ (by simpa using hj) 0,zcA hj];grind
theorem yYQ(β:Nat→Nat):∃l:List Bool,l.length=m∧markOf (N+m) m β=markOf N m β++l∧∀t,t<m→(l.getD t false=true↔Bas m β (N+t)):=by
 classical
 refine⟨(List.range m).map fun t=>decide (Bas m β (N+t)),by simp,?_,fun t a=>?_⟩
 ·unfold markOf;rw[List.range_add,ZG,List.map_map];rfl
 grind
theorem yZs:∀(l d:List Bool),l.length=d.length→(∀t,t<l.length→d.getD t false=true→l.getD t false=true)→l.countP id=d.countP id→l=d
 | [],[],_,_,_=>rfl
 | a::l,b::d,h1,h2,h3=>by
  have f:∀t,t<l.length→d.getD t false=true→l.getD t false=true:=fun t j h=>by
   have:=h2 (t+1) (by simp;omega) (by simpa using h);simpa using this
  have hle:∀(l d:List Bool),l.length=d.length→(∀t,t<l.length→d.getD t false=true→l.getD t false=true)→d.countP id≤l.countP id:=by
   intro l
   induction l with
   | nil=>intro d e _;cases d with | nil=>exact Za _ | cons=>cases e
   | cons x l ih =>
    intro d e h;cases d with
    | nil=>cases e
    | cons y d =>
     have:=ih d (by simpa using e) fun t j g=>by have:=h (t+1) (by simp;omega) (by simpa using g);simpa using this
     have h0:=h 0 (by simp);cases x<;>cases y<;>simp at h0 ⊢ <;> omega
  have:=hle l d (by simpa using h1) f;have h0:=h2 0 (by simp);cases a<;>cases b<;>simp at h0 h3 ⊢
  ·exact yZs l d (by simpa using h1) f h3
  ·omega
  ·exact yZs l d (by simpa using h1) f h3
section
variable {m N P R:Nat} {A:List (List Rat)} {b c:List Rat} (hA:Rect m N A) (hb:b.length=m)
theorem yZi(h:Basis m (N+m) (zt0 A b) cols){k:Nat}(e:zBX (N+m) (zt0 A b) (zwh b) (zJG N m) (zKc N m) cols=.piv k j):∃k,k<m∧N≤cols.getD k 0:=by
 refine YA fun a=>?_
 have a:∀k,k<m→cols.getD k 0<N:=fun k hk=>Y6 fun h=>a ⟨k,hk,h⟩
 have lc:=zSD N m;have p:=zK6 h lc e;have hj:j<N:=Y6 fun g=>by have:=p.hm;rw[zUz g]at this;cases this
 have f:Pri m (N+m) (en (zt0 A b)) (el (zJG N m)) (fun k=>cols.getD k 0) (fun _=>0) (el (zJG N m)):=⟨fun i _=>by
  rw[zcn fun _ _=>by grind];grind,fun k hk=>zTq (a k hk)⟩
 have:=(h.pri lc).same f (h.dic (zwh b)) f.zero j (by omega);have d:=p.d;rw[this,zTq hj]at d;grind
theorem yYV{cols:List Nat}(hm:∀i,∃k j,(zvo (zBX (N+m) (zt0 A b) (zwh b) c (zKc N m)) cols (i+1)=(zvo (zBX (N+m) (zt0 A b) (zwh b) c (zKc N m)) cols i).set k j∧j<N)∨zvo (zBX (N+m) (zt0 A b) (zwh b) c (zKc N m)) cols (i+1)=zvo (zBX (N+m) (zt0 A b) (zwh b) c (zKc N m)) cols i)(i:Nat) :
  ∀j,∀u,N≤u→Bas m (fun k=>(zvo (zBX (N+m) (zt0 A b) (zwh b) c (zKc N m)) cols (i+j)).getD k 0) u→Bas m (fun k=>(zvo (zBX (N+m) (zt0 A b) (zwh b) c (zKc N m)) cols i).getD k 0) u
 | 0,u,_,h=>h
 | j+1,u,hu,h=>by
  refine yYV hm i j u hu ?_;obtain⟨k,l,⟨e,hj⟩ | e⟩:=hm (i+j)
  ·rw[show i+(j+1)=i+j+1 by omega,e]at h;obtain⟨g,d,a⟩:=h;simp only at a;by_cases f:k=g
   ·subst f;rcases ZV k (zvo (zBX (N+m) (zt0 A b) (zwh b) c (zKc N m)) cols (i+j)).length with h1 | h1
    ·rw[gset h1,if_pos rfl]at a;omega
    ·rw[List.set_eq_of_length_le h1]at a;exact⟨k,d,a⟩
   ·rw[Zi,X5 f,←Zi]at a;exact⟨g,d,a⟩
  grind
theorem yZl(h:∀i,Basis m (N+m) (zt0 A b) (zvo (zBX (N+m) (zt0 A b) (zwh b) c (zKc N m)) cols i))(lc:c.length=N+m)(i:Nat):∃k j,(zvo (zBX (N+m) (zt0 A b) (zwh b) c (zKc N m)) cols (i+1)=(zvo (zBX (N+m) (zt0 A b) (zwh b) c (zKc N m)) cols i).set k j∧j<N)∨zvo (zBX (N+m) (zt0 A b) (zwh b) c (zKc N m)) cols (i+1)=zvo (zBX (N+m) (zt0 A b) (zwh b) c (zKc N m)) cols i:=by
 cases e:zBX (N+m) (zt0 A b) (zwh b) c (zKc N m) (zvo (zBX (N+m) (zt0 A b) (zwh b) c (zKc N m)) cols i)with
 | piv k j =>
  have p:=zK6 (h i) lc e;exact⟨k,j,.inl ⟨by rw[zvo,e],Y6 fun a=>by have:=p.hm;rw[zUz a]at this;cases this⟩⟩
 | stop=>exact⟨0,0,.inr (by rw[zvo,e])⟩
 | bad k=>exact⟨0,0,.inr (by rw[zvo,e])⟩
include hA hb in
theorem yY6(x:∀i,i<n→∃k j,zBX (N+m) (zt0 A b) (zwh b) (zJG N m) (zKc N m) (zvo (zBX (N+m) (zt0 A b) (zwh b) (zJG N m) (zKc N m)) (zKa N m) i)=.piv k j):n≤low N m:=by
 have h:=zSU (b:=b) hA;have f:=zVN hA hb;have lc:=zSD N m;have a:=zVH (may:=zKc N m) h lc f;have ap:∀i j,i<j→j<n→¬∀u,Bas m (fun k=>(zvo (zBX (N+m) (zt0 A b) (zwh b) (zJG N m) (zKc N m)) (zKa N m) i).getD k 0) u↔Bas m (fun k=>(zvo (zBX (N+m) (zt0 A b) (zwh b) (zJG N m) (zKc N m)) (zKa N m) j).getD k 0) u:=fun i j q hj=>by
  have hp:=Ve.1 (yti (may:=zKc N m) h lc f x) i j (by rw[ytl];omega) (by rw[ytl];exact hj) q;simp only[ytk,List.getElem_map,List.getElem_range]at hp;exact hp
 have st:=yZl (fun i=>(a i).1) lc;have B:=fun i j=>yYV st i j
 generalize zvo (zBX (N+m) (zt0 A b) (zwh b) (zJG N m) (zKc N m)) (zKa N m)=L at *
 rw[←yYT];have p:∀i,(markOf (N+m) m (fun k=>(L i).getD k 0)).countP id=m:=fun i=>zKF (fun k hk=>(a i).1.lt k hk) (fun k l hk r e=>(a i).1.inj k l hk r e)
 refine pigeon _ n (fun i=>markOf N m fun k=>(L i).getD k 0) (fun i hi=>yZg (zK4 _ _ _) m ?_) fun i j q hj e=>?_
 ·obtain⟨k,j,e⟩:=x i hi;obtain⟨g,v,hN⟩:=yZi (a i).1 e;obtain⟨l,r,o,s⟩:=yYQ (N:=N) (m:=m) fun k=>(L i).getD k 0
  have c:=p i;rw[o,Yv]at c;have h1:=(a i).1.lt g v;have d:=(s ((L i).getD g 0-N) (by omega)).2 ⟨g,v,by simp only;omega⟩;have F:0<l.countP id:=List.countP_pos_iff.2 ⟨true,by
   rw[Zi,Ze (show(L i).getD g 0-N<l.length by omega)]at d;have D:l[(L i).getD g 0-N]'(by omega)=true:=d;rw[←D];exact XS _,rfl⟩
  omega
 ·have e:markOf N m (fun k=>(L i).getD k 0)=markOf N m fun k=>(L j).getD k 0:=e
  obtain⟨l,r,o,s⟩:=yYQ (N:=N) (m:=m) fun k=>(L i).getD k 0
  obtain⟨z,G,y,E⟩:=yYQ (N:=N) (m:=m) fun k=>(L j).getD k 0
  have c:=p i;have c':=p j;rw[o,Yv]at c;rw[y,Yv,←e]at c';have el:l=z:=yZs l z (by omega) (fun t H h=>(s t (by omega)).2 (by
   have h1:=(E t (by omega)).1 h;have d:=B i (j-i) (N+t) (by omega);rw[show i+(j-i)=j by omega]at d;exact d h1)) (by omega)
  have C:markOf (N+m) m (fun k=>(L i).getD k 0)=markOf (N+m) m fun k=>(L j).getD k 0:=by rw[o,y,e,el]
  have per:=zLf (fun k hk=>(a i).1.lt k hk) (fun k hk=>(a j).1.lt k hk) C;exact ap i j q hj per
end
theorem yY7{β:Nat→Nat}(hN:N=2*P+R)(h:∀t,t<P→¬(Bas m β (2*t)∧Bas m β (2*t+1))):∀t,t<P→¬((markOf N m β).getD (2*t) false=true∧(markOf N m β).getD (2*t+1) false=true):=by grind[yZf]
theorem yZe{β:Nat→Nat→Nat}(hN:N=2*P+R)(h1:∀i,i<n→∀k,k<m→β i k<N)(a:∀i,i<n→∀k l,k<m→l<m→β i k=β i l→k=l)(d:∀i j,i<j→j<n→¬∀u,Bas m (β i) u↔Bas m (β j) u)
  (hp:∀i,i<n→∀t,t<P→¬(Bas m (β i) (2*t)∧Bas m (β i) (2*t+1))):n≤pcnt P R m:=by
 rw[←yYR];exact pigeon _ n (fun i=>markOf N m (β i)) (fun i hi=>yYN P R m _ (by rw[zK4,hN]) (zKF (h1 i hi) (a i hi)) (yY7 hN (hp i hi))) (fun i j f hj e=>d i j f hj (zLf (h1 i (by omega)) (h1 j hj) e))
theorem yZb(hN:N=2*P+R){L:List (List Nat)}(h:ytw m L)(hi:∀l∈L,∀i k,i<m→k<m→l.getD i 0=l.getD k 0→i=k)(hf:∀l∈L,∀k,k<m→(N≤cols.getD k 0→l.getD k 0=cols.getD k 0)∧(cols.getD k 0<N→l.getD k 0<N))
  (hp:∀l∈L,∀t,t<P→¬(Bas m (fun k=>l.getD k 0) (2*t)∧Bas m (fun k=>l.getD k 0) (2*t+1))):L.length≤pmax P R m:=by
 obtain⟨ps,o⟩:∃ps,(List.range m).filter (fun k=>decide (cols.getD k 0<N))=ps:=⟨_,rfl⟩
 have C:ps.length≤m:=by rw[←o];grind
 have n:∀k,k<ps.length→ps.getD k 0<m∧cols.getD (ps.getD k 0) 0<N:=fun k hk=>by
  have:ps.getD k 0∈ps:=by rw[Zi,Ze hk];exact XS hk
  rw[←o]at this;have:=List.mem_filter.1 this;rw[o]at this;grind
 have pi:∀i k,i<ps.length→k<ps.length→ps.getD i 0=ps.getD k 0→i=k:=fun i k h1 y e=>by
  have E:ps.Nodup:=by rw[←o];exact List.Nodup.sublist List.filter_sublist List.nodup_range
  rw[Zi,Zi,Ze h1,Ze y]at e;grind[List.getElem_inj]
 have on:∀k,k<m→cols.getD k 0<N→∃t,t<ps.length∧ps.getD t 0=k:=fun k hk hc=>by
  have:k∈ps:=by rw[←o];exact List.mem_filter.2 ⟨Xa.2 hk,Zs hc⟩
  grind[List.mem_iff_getElem?,List.getElem?_eq_some_iff,getD_some]
 have g:∀i,i<L.length→L.getD i []∈L:=fun i hi=>by rw[Zi,Ze hi];grind
 have up:∀l∈L,∀u,Bas ps.length (fun k=>l.getD (ps.getD k 0) 0) u→Bas m (fun k=>l.getD k 0) u:=fun l _ u ⟨k,hk,e⟩=>⟨ps.getD k 0,(n k hk).1,e⟩
 refine Zc (yZe (N:=N) (m:=ps.length) hN (β:=fun i k=>(L.getD i []).getD (ps.getD k 0) 0) (fun i d k hk=>(hf _ (g i d) _ (n k hk).1).2 (n k hk).2) (fun i d k l hk v e=>pi k l hk v (hi _ (g i d) _ _ (n k hk).1 (n l v).1 e)) (fun i j B hj per=>?_)
  fun i d t f r=>hp _ (g i d) t f ⟨up _ (g i d) _ r.1,up _ (g i d) _ r.2⟩) (yZj P R C)
 have ap:=Ve.1 h i j (by omega) hj B;have p:L.getD i []=L[i]'(by omega):=by rw[Zi,Ze (by omega)];rfl
 have q:L.getD j []=L[j]:=by rw[Zi,Ze hj];rfl
 have one:∀a b:List Nat,a∈L→b∈L→(∀u,Bas ps.length (fun k=>a.getD (ps.getD k 0) 0) u→Bas ps.length (fun k=>b.getD (ps.getD k 0) 0) u)→∀u,Bas m (fun k=>a.getD k 0) u→Bas m (fun k=>b.getD k 0) u:=fun a b z hb hp u ⟨k,hk,e⟩=>by
  by_cases hc:cols.getD k 0<N
  ·obtain⟨t,f,x⟩:=on k hk hc;obtain⟨s,D,es⟩:=hp u ⟨t,f,by grind⟩;exact⟨ps.getD s 0,(n s D).1,es⟩
  ·exact⟨k,hk,by grind⟩
 refine ap fun u=>⟨?_,?_⟩
 ·rw[←p,←q];exact one _ _ (g i (by omega)) (g j hj) (fun u=>(per u).1) u
 ·rw[←p,←q];exact one _ _ (g j hj) (g i (by omega)) (fun u=>(per u).2) u
theorem yZv{A:List (List Rat)}(h:Basis m N A cols){p q:Nat}(u:q<N)(hp:p<N)(s:p≠q)(e:∀i,i<m→en A i q = -en A i p):¬(Bas m (fun k=>cols.getD k 0) p∧Bas m (fun k=>cols.getD k 0) q):=by
 rintro⟨⟨k,hk,d⟩,⟨l,r,f⟩⟩;simp only at d f;have a:=h.dic [];obtain⟨Y,j,_⟩:=a.row k hk;have u1:=a.uni k k hk hk;have u2:=a.uni k l hk r;simp only[d,f]at u1 u2;rw[j p hp]at u1;rw[j q u]at u2;have n:k≠l:=fun o=>s (by rw[←d,←f,o])
 rw[if_pos trivial]at u1;rw[if_neg (by first | exact n | exact n.symm)]at u2;rw[zaj (g:=fun t => -1*(Y t*en A t p)) fun t v=>by rw[e t v];grind,za7,u1]at u2;grind
section
variable {m N P R:Nat} {A:List (List Rat)} {b c:List Rat} (hA:Rect m N A) (hb:b.length=m) (hc:c.length=N) (hN:N=2*P+R) (hp:∀t,t<P→∀i,i<m→en A i (2*t+1) = -en A i (2*t))
include hA hb hc hN hp in
theorem yZa(E:2*binom (N+m) m+m≤B):(zSA N m A b c B).pivots≤low N m+m+pmax P R m:=by
 obtain⟨cols,n,hr,F,h1,x,st⟩:=zUF (B:=B) hA hb (by omega);have p:=zoW (zBX (N+m) (zt0 A b) (zwh b) (zJG N m) (zKc N m)) B (zKa N m);have more:=fun g=>zKI (zBX (N+m) (zt0 A b) (zwh b) (zJG N m) (zKc N m)) B g (zKa N m) (by rw[hr])
 rw[hr]at more p;simp only at more p;have G:=yY6 hA hb p.2.1;by_cases q:0<zSB N m A b cols
 ·have val:zSA N m A b c B=.none cols n:=by
   unfold zSA;rw[more B (by omega)];simp only[XA,if_false,if_pos q]
  rw[val];show n≤_;omega
 ·have D:=(zTS h1 x hA hb st).1 (by show zSB N m A b cols≤0;grind);obtain⟨a,y⟩:=D.drive (by omega) m (Za _);have hF:zSG N (N+m) (zt0 A b) m 0 (cols,0)=zAd N (N+m) (zt0 A b) cols m:=by
   have:=zTL N (N+m) (zt0 A b) cols m 0;rw[Z2]at this;exact this
  generalize hdr:zAd N (N+m) (zt0 A b) cols m=d at *
  obtain⟨f,dn⟩:=d;simp only at a y;have lc:(zKb m c).length=N+m:=by rw[zSS,hc]
  have z:∀j,(zKc N m).getD j false=true→j<N:=fun j h=>by
   rcases ZV j N with h5 | h5
   ·exact h5
   ·rw[zUz h5]at h;cases h
  have s:=zoW (zBX (N+m) (zt0 A b) (zwh b) (zKb m c) (zKc N m)) (B-(n+dn)) f;have u:=zVH (may:=zKc N m) a.basis lc a.feas;have fix:=fun i=>ywu (c:=zKb m c) (may:=zKc N m) a lc z i
  have val:(zSA N m A b c B).pivots=n+dn+(pivs (zBX (N+m) (zt0 A b) (zwh b) (zKb m c) (zKc N m)) (B-(n+dn)) f).n:=by
   unfold zSA;rw[more B (by omega)];simp only[XA,if_false,if_neg q];rw[zSC N (N+m) (zt0 A b) (B-n) m 0 (cols,0) (by rw[hF];simp only;omega),hF];simp only[XA,if_false];split
   ·rfl
   ·split<;>rfl
  have v:=yZb hN (cols:=f) (yti (may:=zKc N m) a.basis lc a.feas s.2.1) (fun l e=>by
   obtain⟨i,hi,rfl⟩:=Zq.1 e;exact(u i).1.inj) (fun l e=>by
   obtain⟨i,hi,rfl⟩:=Zq.1 e;exact fun k hk=>fix i k hk) fun l e t C=>by
   obtain⟨i,hi,rfl⟩:=Zq.1 e;exact yZv (u i).1 (by omega) (by omega) (by omega) fun r o=>by rw[zwf hA o (by omega),zwf hA o (by omega),hp t C r o];grind
  rw[ytl]at v;rw[val];omega
include hA hb hc hN hp in
theorem yYO(g:low N m+m+pmax P R m≤B):Ends m N A b c (zSA N m A b c B)∧(zSA N m A b c B).pivots≤low N m+m+pmax P R m ∧
  ∀a,((zSA N m A b c B).pivots≤a→zSA N m A b c a=zSA N m A b c B)∧(a<(zSA N m A b c B).pivots→∃n,zSA N m A b c a=.spent n):=by
 have d:2*binom (N+m) m+m≤2*binom (N+m) m+m:=Za _;obtain⟨E,_,f⟩:=zUc hA hb hc d;have le:=yZa hA hb hc hN hp d;have e:=(f B).1 (Zc le g);rw[e];exact⟨E,le,f⟩
end
theorem yZE:∀N,N≤12→∀m,m≤6→low N m+m+pmax 0 N m≤4000:=by decide +kernel
theorem yZD:∀N,N≤14→∀m,m≤5→low N m+m+pmax 0 N m≤4000:=by decide +kernel
theorem yZz:∀m,m≤6→low 13 m+m+pmax 4 5 m≤4000:=by decide +kernel
theorem yZA:∀m,m≤5→low 15 m+m+pmax 5 5 m≤4000:=by decide +kernel
end Am
namespace Go.Proofs.YtbhfhkcdfmmmiaaGreat
open Go.RowKit Am
structure Form (nC m:Nat) (rows:List PRow):Prop where
  len:rows.length=m
  co:∀k,k<rows.length→(rows.getD k default).coef.length=nC
  kd:∀k,k<rows.length→(rows.getD k default).kind=1∨(rows.getD k default).kind=2∨(rows.getD k default).kind=3
def ywR (nC:Nat) (p:PRow) (x:Nat→Rat):Rat:=zai nC fun j=>el p.coef j*x j
def ywH (nC:Nat) (p:PRow) (x:Nat→Rat):Prop:=(p.kind=1→ywR nC p x≤p.rhs)∧(p.kind=2→p.rhs≤ywR nC p x)∧(p.kind=3→ywR nC p x=p.rhs)
def ywM (nC:Nat) (rows:List PRow) (x:Nat→Rat):Prop:=(∀j,j<nC→0≤x j)∧∀i,i<rows.length→ywH nC (rows.getD i default) x
section
variable {nC m:Nat} {rows:List PRow} (hf:Form nC m rows)
include hf
end
def ywA (nC:Nat) (cost:List Rat) (x:Nat→Rat):Rat:=zai nC fun j=>el cost j*x j
theorem ywB{nC K m:Nat}{cost:List Rat}(hc:cost.length=nC)(rows:List PRow)(hk:(zjD cost rows).length=nC+K)(z:Nat→Rat):zai (nC+K+m) (fun j=>el (zKb m (zjD cost rows)) j*z j)=ywA nC cost z:=by
 rw[zgc _ (nC+K) m,zcn (f:=fun t=>el (zKb m (zjD cost rows)) (nC+K+t)*z (nC+K+t)) fun t _=>by rw[←hk,zVP];grind,zaj (g:=fun j=>el (zjD cost rows) j*z j) fun j hj=>by rw[zTu (by omega)],zUp hc];unfold ywA;grind
