/- Contracts and lemmas: Can1 Can2 Can3. Conditions: as each says. -/
import Derived.Test.YtdnippohkfdncaaGreatProb1Zk
set_option linter.all false
namespace Am
def ys7 (p:List Rat) (may:List Bool):List Bool:=(List.range may.length).map fun j=>may.getD j false&&decide (el p j=0)
theorem yta{p:List Rat}{may:List Bool}{j:Nat}:(ys7 p may).getD j false=true↔may.getD j false=true∧el p j=0:=by
 unfold ys7;rw[List.getD_eq_getElem?_getD,List.getElem?_map];by_cases h:j<may.length
 ·rw[List.getElem?_range h];simp
 ·rw[List.getElem?_eq_none (by simpa using h),List.getD_eq_getElem?_getD (l:=may),List.getElem?_eq_none (by omega)];simp
structure LexOut where
  cols:List Nat
  n:Nat
  err:Bool
def ys2 (N:Nat) (A:List (List Rat)) (b:List Rat) (B:Nat):List (List Rat)→List Bool→List Nat→Nat→LexOut
  | [],_,cols,n=>⟨cols,n,false⟩
  | c :: cs,may,cols,n =>
    let r:=pivs (zBX N A b c may) (B-n) cols
    if r.err then ⟨r.cols,n+r.n,true⟩
    else ys2 N A b B cs (ys7 (zaC N A r.cols c) may) r.cols (n+r.n)
def ys5 (N:Nat):Nat→Nat→List (List Rat)
  | 0,_=>[]
  | f+1,k=>zdL N k::ys5 N f (k+1)
def ytw (m:Nat) (L:List (List Nat)):Prop:=L.Pairwise fun a b=>¬∀u,Bas m (fun k=>a.getD k 0) u↔Bas m (fun k=>b.getD k 0) u
theorem ytN{N m:Nat}{L:List (List Nat)}(h:ytw m L)(hb:∀l∈L,(∀k,k<m→l.getD k 0<N)∧∀i k,i<m→k<m→l.getD i 0=l.getD k 0→i=k):L.length≤binom N m:=by
 have g:∀i,i<L.length→L.getD i []∈L:=fun i a=>by rw[List.getD_eq_getElem?_getD,List.getElem?_eq_getElem a];exact List.getElem_mem a
 refine zLq (N:=N) (m:=m) (β:=fun i k=>(L.getD i []).getD k 0) (fun i a=>(hb _ (g i a)).1) (fun i a=>(hb _ (g i a)).2) fun i j d hj=>?_
 have:=List.pairwise_iff_getElem.1 h i j (by omega) hj d;simp only[List.getD_eq_getElem?_getD (l:=L),List.getElem?_eq_getElem hj,List.getElem?_eq_getElem (show i<L.length by omega),Option.getD_some];exact this
section
variable {m N:Nat} {A:List (List Rat)} {b c:List Rat} {may:List Bool}
def ytk (next:List Nat→Next) (cols:List Nat) (n:Nat):List (List Nat):=(List.range n).map (zvo next cols)
theorem ytl(next:List Nat→Next)(cols:List Nat)(n:Nat):(ytk next cols n).length=n:=by simp[ytk]
theorem yt4{cols:List Nat}(h:Basis m N A cols)(hc:c.length=N)(f:zyF m A b cols):∀i k,k<m→may.getD ((zvo (zBX N A b c may) cols i).getD k 0) false=true∨Bas m (fun k=>cols.getD k 0) ((zvo (zBX N A b c may) cols i).getD k 0)
 | 0,k,hk=>.inr ⟨k,hk,rfl⟩
 | i+1,k,hk=>by
  have a:=yt4 h hc f i;have d:=zVH (may:=may) h hc f i;rw[zvo];split
  ·rename_i r j e
   have p:=zK6 d.1 hc e;rw[gset (by rw[d.1.len];exact p.hk)];split
   ·exact .inl p.hm
   ·exact a k hk
  ·exact a k hk
theorem yti{cols:List Nat}(h:Basis m N A cols)(hc:c.length=N)(f:zyF m A b cols){n:Nat}(d:∀i,i<n→∃k j,zBX N A b c may (zvo (zBX N A b c may) cols i)=.piv k j):ytw m (ytk (zBX N A b c may) cols n):=by
 unfold ytw ytk;rw[List.pairwise_map];exact List.Pairwise.imp_of_mem (R:=fun a b=>a<b) (fun {i j} _ hj hij=>ysX h hc f n d _ _ hij (List.mem_range.1 hj)) List.pairwise_lt_range
theorem yto{cols:List Nat}(h:Basis m N A cols)(hc:c.length=N)(f:zyF m A b cols):∃n G at_,n≤binom N m∧G=zvo (zBX N A b c may) cols n∧(∀i,i<n→∃k j,zBX N A b c may (zvo (zBX N A b c may) cols i)=.piv k j) ∧
  zBX N A b c may G=(match at_ with | none=>.stop | some k=>.bad k)∧(∀B,n≤B→pivs (zBX N A b c may) B cols=⟨G,at_,n,false⟩)∧∀B,B<n→(pivs (zBX N A b c may) B cols).err=true∧(pivs (zBX N A b c may) B cols).n=B:=by
 have s:=zoW (zBX N A b c may) (binom N m) cols;have l:=zTd (may:=may) h hc f;have more:=fun g=>zKI (zBX N A b c may) (binom N m) g cols
 have less:=fun g=>zKH (zBX N A b c may) (binom N m) g cols
 generalize hr:pivs (zBX N A b c may) (binom N m) cols=r at *
 obtain⟨G,at_,n,err⟩:=r;obtain⟨s1,s2,o,a,t⟩:=s;simp only at s1 s2 o a t more less;have q:=l n s2;cases err with
 | true =>
  obtain⟨u,k,j,p⟩:=o rfl;have:=l (binom N m+1) fun i v=>by
   by_cases e:i=binom N m
   ·rw[e];exact⟨k,j,p⟩
   ·exact s2 i (by omega)
  omega
 | false =>
  have a:=a rfl;rw[←s1]at a;exact⟨n,G,at_,q,s1,s2,a,fun B d=>more B rfl d,fun B d=>less B rfl d⟩
structure Fea (m N:Nat) (A:List (List Rat)) (b:List Rat) (may:List Bool) (z:Nat→Rat):Prop where
  sol:∀i,i<m→zai N (fun j=>en A i j*z j)=el b i
  nn:∀j,j<N→0≤z j
  sup:∀j,j<N→z j≠0→may.getD j false=true
def ytn (N:Nat):List (List Rat)→(Nat→Rat)→(Nat→Rat)→Prop
  | [],_,_=>True
  | c::cs,x,z=>zai N (fun j=>el c j*x j)≤zai N (fun j=>el c j*z j)∧(zai N (fun j=>el c j*x j)=zai N (fun j=>el c j*z j)→ytn N cs x z)
structure Lex (m N:Nat) (A:List (List Rat)) (b:List Rat) (cs:List (List Rat)) (may:List Bool) (cols:List Nat) (L:List (List Nat)) (G:List Nat):Prop where
  enough:∀B n,n+L.length≤B→ys2 N A b B cs may cols n=⟨G,n+L.length,false⟩
  less:∀B n,n≤B→B<n+L.length→(ys2 N A b B cs may cols n).err=true∧(ys2 N A b B cs may cols n).n=B
  apart:ytw m L
  basis:∀l∈L,Basis m N A l∧zyF m A b l
  in_:∀l∈L,∀k,k<m→may.getD (l.getD k 0) false=true∨Bas m (fun k=>cols.getD k 0) (l.getD k 0)
  last:Basis m N A G∧zyF m A b G
  lastIn:∀k,k<m→may.getD (G.getD k 0) false=true∨Bas m (fun k=>cols.getD k 0) (G.getD k 0)
  best:∀z,Fea m N A b may z→ytn N cs (pt m (fun k=>G.getD k 0) (el (za5 A b G))) z
theorem ytt{d e:List Nat}(h:Basis m N A d)(g:Basis m N A e)(hc:c.length=N)(a:∀k,k<m→el (zaC N A e c) (d.getD k 0)=0):∀j,j<N→el (zaC N A d c) j=el (zaC N A e c) j :=
 (h.pri hc).same (g.pri hc) (h.dic []) a
theorem ytC{F G:List Nat}{cs:List (List Rat)}(hF:Basis m N A F)(hc:c.length=N)(o:zBX N A b c may F=.stop)(i:Basis m N A G)(n:∀k,k<m→(ys7 (zaC N A F c) may).getD (G.getD k 0) false=true∨Bas m (fun k=>F.getD k 0) (G.getD k 0))
  (rest:∀z,Fea m N A b (ys7 (zaC N A F c) may) z→ytn N cs (pt m (fun k=>G.getD k 0) (el (za5 A b G))) z) (z:Nat→Rat) (a:Fea m N A b may z):ytn N (c::cs) (pt m (fun k=>G.getD k 0) (el (za5 A b G))) z:=by
 have p:=hF.pri hc;have g:=p.cost a.sol;have d:=p.cost (i.dic b).pt_sol;have l:zai N (fun j=>el (zaC N A F c) j*pt m (fun k=>G.getD k 0) (fun k=>el (za5 A b G) k) j)=0:=by
  rw[zyA i.lt (fun k=>el (za5 A b G) k) (el (zaC N A F c))];refine zcn fun k hk=>?_
  have:el (zaC N A F c) (G.getD k 0)=0:=by
   rcases n k hk with q | ⟨q,hq,e⟩
   ·exact(yta.1 q).2
   ·rw[←e];exact p.zero q hq
  rw[this];grind
 have nn:∀j,j<N→0≤el (zaC N A F c) j*z j:=fun j hj=>by
  by_cases h0:z j=0
  ·rw[h0];grind
  ·exact Rat.mul_nonneg (zTe hc o j hj (a.sup j hj h0)) (a.nn j hj)
 have r:0≤zai N (fun j=>el (zaC N A F c) j*z j):=by
  have:=zUD (f:=fun _=>0) nn;rw[zgd]at this;exact this
 refine⟨by have d:=d;rw[l]at d;rw[g];grind,fun e=>rest z ⟨a.sol,a.nn,fun j hj h0=>yta.2 ⟨a.sup j hj h0,?_⟩⟩⟩;have:=zTg nn (by rw[l]at d;have e:=e;rw[g]at e;grind) j hj;rcases Rat.mul_eq_zero.1 this with h | h
 ·exact h
 ·exact absurd h h0
theorem ytq{cols F G:List Nat}{n:Nat}{L:List (List Nat)}{r:List (List Rat)}(h:Basis m N A cols)(hc:c.length=N)(f:zyF m A b cols)(hF:F=zvo (zBX N A b c may) cols n)(B:∀i,i<n→∃k j,zBX N A b c may (zvo (zBX N A b c may) cols i)=.piv k j)
  (C:zBX N A b c may F=.stop) (x:Lex m N A b r (ys7 (zaC N A F c) may) F L G) (a:List Nat) (y:a∈L) {i:Nat} (t:i<n):¬∀u,Bas m (fun k=>(zvo (zBX N A b c may) cols i).getD k 0) u↔Bas m (fun k=>a.getD k 0) u:=fun per=>by
 have g:=zVH (may:=may) h hc f;have l:=g n;rw[←hF]at l;obtain⟨k,j,e⟩:=B i t;have p:=zK6 (g i).1 hc e;have z:∀k,k<m→el (zaC N A F c) ((zvo (zBX N A b c may) cols i).getD k 0)=0:=fun k hk=>by
  obtain⟨D,v,o⟩:=(per _).1 ⟨k,hk,rfl⟩;simp only at o;rw[←o];rcases x.in_ a y D v with q | ⟨q,hq,e2⟩
  ·exact(yta.1 q).2
  ·rw[←e2];exact(l.1.pri hc).zero q hq
 have s:=ytt (g i).1 l.1 hc z j p.hj;have d:=p.d;rw[s]at d;have:=zTe hc C j p.hj p.hm;grind
theorem ytj:∀(cs:List (List Rat)) (may:List Bool) (cols:List Nat),(∀c∈cs,c.length=N∧∀j,0≤el c j)→Basis m N A cols→zyF m A b cols→∃L G,Lex m N A b cs may cols L G
 | [],may,cols,_,h,f=>⟨[],cols,fun _ _ _=>rfl,fun B n h1 g=>(by simp only[List.length_nil]at g;omega),List.Pairwise.nil,fun l a=>(by cases a),fun l a=>(by cases a),⟨h,f⟩,fun k hk=>.inr ⟨k,hk,rfl⟩,fun _ _=>trivial⟩
 | c::cs,may,cols,hcs,h,f=>by
  obtain⟨hc,y⟩:=hcs c (List.mem_cons_self ..);obtain⟨n,F,at_,_,hF,t,p,more,less⟩:=yto (may:=may) h hc f;have u:=zVH (may:=may) h hc f;have e:=u n;rw[←hF]at e;cases at_ with
  | some k=>exact absurd p (zVC e.1 hc y k)
  | none =>
   obtain⟨L,G,x⟩:=ytj cs (ys7 (zaC N A F c) may) F (fun c h=>hcs c (List.mem_cons_of_mem _ h)) e.1 e.2;have v:=ytl (zBX N A b c may) cols n;have s:=yt4 h hc f (may:=may);refine⟨ytk (zBX N A b c may) cols n++L,G,fun B k D=>?_,fun B k h1 g=>?_,?_,fun l a=>?_,fun l a=>?_,x.last,fun k hk=>?_,ytC e.1 hc p x.last.1 x.lastIn x.best⟩
   ·rw[List.length_append,v]at D ⊢;unfold ys2;rw[more (B-k) (by omega)];simp only[Bool.false_eq_true,if_false];rw[x.enough B (k+n) (by omega),Nat.add_assoc]
   ·rw[List.length_append,v]at g;unfold ys2;by_cases C:B-k<n
    ·obtain⟨z,d⟩:=less (B-k) C;simp only[z,if_true,d,true_and];omega
    ·rw[more (B-k) (by omega)];simp only[Bool.false_eq_true,if_false];exact x.less B (k+n) (by omega) (by omega)
   ·exact List.pairwise_append.2 ⟨yti h hc f t,x.apart,fun l a H E per=>by
     obtain⟨i,o,rfl⟩:=List.mem_map.1 a;exact ytq h hc f hF t p x H E (List.mem_range.1 o) per⟩
   ·rcases List.mem_append.1 a with q | q
    ·obtain⟨i,o,rfl⟩:=List.mem_map.1 q;exact u i
    ·exact x.basis l q
   ·rcases List.mem_append.1 a with q | q
    ·obtain⟨i,o,rfl⟩:=List.mem_map.1 q;exact fun k hk=>s i k hk
    ·intro k hk;rcases x.in_ l q k hk with r | ⟨r,hr,d⟩
     ·exact .inl (yta.1 r).1
     ·rw[←d,hF];exact s n r hr
   ·rcases x.lastIn k hk with r | ⟨r,hr,d⟩
    ·exact .inl (yta.1 r).1
    ·rw[←d,hF];exact s n r hr
end
theorem ytm{N:Nat}:∀ {f k:Nat},k+f≤N→∀c∈ys5 N f k,c.length=N∧∀j,0≤el c j
 | 0,_,_,c,h=>by cases h
 | f+1,k,hk,c,h=>by
  rcases List.mem_cons.1 h with rfl | h
  ·refine⟨zfM _ _,fun j=>?_⟩;rw[zge (by omega)];split<;>decide
  ·exact ytm (by omega) c h
end Am
namespace Am
inductive COut where
  | spent:Nat→COut
  | none:Nat→COut
  | best:List Nat→List Nat→Nat→COut
  | falls:Nat→COut
def COut.pivots:COut→Nat
  | .spent n=>n
  | .none n=>n
  | .best _ _ n=>n
  | .falls n=>n
def yth (n:Nat) (cols:List Nat) (l:LexOut):COut:=if l.err then .spent (n+l.n)else .best cols l.cols (n+l.n)
def ys3 (N m own:Nat) (A:List (List Rat)) (b c:List Rat) (B:Nat):COut :=
  let r:=pivs (zBX (N+m) (zt0 A b) (zwh b) (zJG N m) (zKc N m)) B (zKa N m)
  if r.err then .spent r.n
  else if 0<zSB N m A b r.cols then .none r.n
  else
    let d:=zSz N (N+m) (zt0 A b) (B-r.n) m 0 (r.cols,0)
    if d.2 then .spent (r.n+d.1.2)
    else
      let s:=pivs (zBX (N+m) (zt0 A b) (zwh b) (zKb m c) (zKc N m)) (B-(r.n+d.1.2)) d.1.1
      if s.err then .spent (r.n+d.1.2+s.n)
      else match s.at_ with
        | some _=>.falls (r.n+d.1.2+s.n)
        | .none=>yth (r.n+d.1.2+s.n) s.cols (ys2 (N+m) (zt0 A b) (zwh b) (B-(r.n+d.1.2+s.n)) (ys5 (N+m) own 0) (ys7 (zaC (N+m) (zt0 A b) s.cols (zKb m c)) (zKc N m)) s.cols 0)
section
variable {m N own:Nat} {A:List (List Rat)} {b c:List Rat}
inductive CEnds (m N own:Nat) (A:List (List Rat)) (b c:List Rat):COut→Prop where
  | none {cols:List Nat} {n:Nat} (h:Basis m (N+m) (zt0 A b) cols) (f:zyF m (zt0 A b) (zwh b) cols) (s:zBX (N+m) (zt0 A b) (zwh b) (zJG N m) (zKc N m) cols=.stop) (v:0<zSB N m A b cols):CEnds m N own A b c (.none n)
  | best {cols G:List Nat} {n k:Nat} {L:List (List Nat)} (h:Own m (N+m) N (zt0 A b) (zwh b) cols m) (s:zBX (N+m) (zt0 A b) (zwh b) (zKb m c) (zKc N m) cols=.stop)
      (x:Lex m (N+m) (zt0 A b) (zwh b) (ys5 (N+m) own 0) (ys7 (zaC (N+m) (zt0 A b) cols (zKb m c)) (zKc N m)) cols L G) (e:n=k+L.length):CEnds m N own A b c (.best cols G n)
  | falls {cols:List Nat} {j n:Nat} (h:Own m (N+m) N (zt0 A b) (zwh b) cols m) (s:zBX (N+m) (zt0 A b) (zwh b) (zKb m c) (zKc N m) cols=.bad j):CEnds m N own A b c (.falls n)
theorem CEnds.not{o:COut}(h:CEnds m N own A b c o)(n:Nat):o≠.spent n:=fun e=>by subst e;cases h
variable (hA:Rect m N A) (hb:b.length=m) (hc:c.length=N) (ho:own≤N)
include hA hb hc ho
theorem yty:∃o,CEnds m N own A b c o∧o.pivots≤2*binom (N+m) m+m∧∀B,(o.pivots≤B→ys3 N m own A b c B=o)∧(B<o.pivots→ys3 N m own A b c B=.spent B):=by
 obtain⟨n,cols,at_,hn,hF,hp,C,more,less⟩:=yto (m:=m) (may:=zKc N m) (zSU (b:=b) hA) (zSD N m) (zVN hA hb);have k:=zVH (may:=zKc N m) (zSU (b:=b) hA) (zSD N m) (zVN hA hb) n;rw[←hF]at k;have S:∀j,0≤el (zJG N m) j:=fun j=>by
  unfold zJG el;rw[List.getD_eq_getElem?_getD];by_cases hj:j<N
  ·rw[List.getElem?_append_left (by simpa using hj),List.getElem?_replicate,if_pos hj];exact Rat.le_refl
  ·rw[List.getElem?_append_right (by simpa using hj),List.getElem?_replicate];split
   ·exact(by decide:(0:Rat)≤1)
   ·exact Rat.le_refl
 cases at_ with
 | some j=>exact absurd C (zVC k.1 (zSD N m) S j)
 | none =>
  by_cases t:0<zSB N m A b cols
  ·refine⟨.none n,.none k.1 k.2 C t,by show n≤_;omega,fun B=>⟨fun h=>?_,fun h=>?_⟩⟩
   ·unfold ys3;rw[more B h];simp only[Bool.false_eq_true,if_false,if_pos t]
   ·obtain⟨f,g⟩:=less B h;unfold ys3;simp only[f,if_true,g]
  ·have aa:=(zTS k.1 k.2 hA hb C).1 (by show zSB N m A b cols≤0;grind);obtain⟨e,V⟩:=aa.drive (by omega) m (Nat.le_refl _);have y:zSG N (N+m) (zt0 A b) m 0 (cols,0)=zAd N (N+m) (zt0 A b) cols m:=by
    have:=zTL N (N+m) (zt0 A b) cols m 0;rw[Nat.zero_add]at this;exact this
   generalize hdr:zAd N (N+m) (zt0 A b) cols m=d at *
   obtain⟨v,dn⟩:=d;simp only at e V;have lc:(zKb m c).length=N+m:=by rw[zSS,hc]
   have X:∀j,(zKc N m).getD j false=true→j<N:=fun j h=>by
    rcases Nat.lt_or_ge j N with h5 | h5
    ·exact h5
    ·rw[zUz h5]at h;cases h
   have H:∀B,n≤B→B<n+dn→ys3 N m own A b c B=.spent B:=fun B h1 p=>by
    obtain⟨f,g⟩:=zSF N (N+m) (zt0 A b) (B-n) m 0 (cols,0) (Nat.zero_le _) (by rw[y];simp only;omega);unfold ys3;rw[more B h1];simp only[Bool.false_eq_true,if_false,if_neg t,f,if_true,g]
    congr 1;omega
   have T:∀B,n+dn≤B→zSz N (N+m) (zt0 A b) (B-n) m 0 (cols,0)=((v,dn),false):=fun B h1=>by
    rw[zSC N (N+m) (zt0 A b) (B-n) m 0 (cols,0) (by rw[y];simp only;omega),y]
   have I:∀B,B<n→ys3 N m own A b c B=.spent B:=fun B h=>by
    obtain⟨f,g⟩:=less B h;unfold ys3;simp only[f,if_true,g]
   have u:∀B,n+dn≤B→ys3 N m own A b c B=(let s:=pivs (zBX (N+m) (zt0 A b) (zwh b) (zKb m c) (zKc N m)) (B-(n+dn)) v
     if s.err then .spent (n+dn+s.n)
     else match s.at_ with
      | some _=>.falls (n+dn+s.n)
      | .none=>yth (n+dn+s.n) s.cols (ys2 (N+m) (zt0 A b) (zwh b) (B-(n+dn+s.n)) (ys5 (N+m) own 0) (ys7 (zaC (N+m) (zt0 A b) s.cols (zKb m c)) (zKc N m)) s.cols 0)):=fun B h1=>by
    conv=>lhs;unfold ys3
    rw[more B (by omega)];simp only[Bool.false_eq_true,if_false,if_neg t];rw[T B h1];simp only[Bool.false_eq_true,if_false]
   obtain⟨a,F,R,ac,J,M,D,E,Z⟩:=yto (may:=zKc N m) e.basis lc e.feas;have r:=e.seq (c:=zKb m c) (may:=zKc N m) lc X a;rw[←J]at r;have P:∀B,n+dn≤B→B<n+dn+a→ys3 N m own A b c B=.spent B:=fun B h1 p=>by
    obtain⟨f,g⟩:=Z (B-(n+dn)) (by omega);rw[u B h1];simp only[f,if_true,g];congr 1;omega
   cases R with
   | some j =>
    refine⟨.falls (n+dn+a),.falls r D,by show n+dn+a≤_;omega,fun B=>⟨fun h=>?_,fun h=>?_⟩⟩
    ·have h:n+dn+a≤B:=h;rw[u B (by omega),E (B-(n+dn)) (by omega)];simp only[Bool.false_eq_true,if_false]
    ·have h:B<n+dn+a:=h;by_cases h1:B<n
     ·exact I B h1
     ·by_cases p:B<n+dn
      ·exact H B (by omega) p
      ·exact P B (by omega) h
   | none =>
    obtain⟨L,G,x⟩:=ytj (b:=zwh b) (ys5 (N+m) own 0) (ys7 (zaC (N+m) (zt0 A b) F (zKb m c)) (zKc N m)) F (ytm (by omega)) r.basis r.feas;have cnt:a+L.length≤binom (N+m) m:=by
     have Q:=yti (may:=zKc N m) e.basis lc e.feas M;have O:=zVH (may:=zKc N m) e.basis lc e.feas;have:=ytN (N:=N+m) (m:=m) (L:=ytk (zBX (N+m) (zt0 A b) (zwh b) (zKb m c) (zKc N m)) v a++L) (List.pairwise_append.2 ⟨Q,x.apart,fun l z Y W per=>by
      obtain⟨i,K,rfl⟩:=List.mem_map.1 z;exact ytq e.basis lc e.feas J M D x Y W (List.mem_range.1 K) per⟩) fun l z=>by
       rcases List.mem_append.1 z with q | q
       ·obtain⟨i,K,rfl⟩:=List.mem_map.1 q;exact⟨(O i).1.lt,(O i).1.inj⟩
       ·exact⟨(x.basis l q).1.lt,(x.basis l q).1.inj⟩
     rw[List.length_append,ytl]at this;exact this
    refine⟨.best F G (n+dn+a+L.length),.best r D x rfl,by show n+dn+a+L.length≤_;omega,fun B=>⟨fun h=>?_,fun h=>?_⟩⟩
    ·have h:n+dn+a+L.length≤B:=h;rw[u B (by omega),E (B-(n+dn)) (by omega)];simp only[Bool.false_eq_true,if_false];rw[x.enough (B-(n+dn+a)) 0 (by omega)];unfold yth;simp only[Bool.false_eq_true,if_false,Nat.zero_add]
    ·have h:B<n+dn+a+L.length:=h;by_cases h1:B<n
     ·exact I B h1
     ·by_cases p:B<n+dn
      ·exact H B (by omega) p
      ·by_cases U:B<n+dn+a
       ·exact P B (by omega) U
       ·rw[u B (by omega),E (B-(n+dn)) (by omega)];simp only[Bool.false_eq_true,if_false];obtain⟨f,g⟩:=x.less (B-(n+dn+a)) 0 (Nat.zero_le _) (by omega);unfold yth;simp only[f,if_true,g];congr 1;omega
end
end Am
namespace Am
theorem yvt{p p':List Rat}{may may':List Bool}:∀(f s:Nat),(∀j,s≤j→j<s+f→el p j=el p' j∧may.getD j false=may'.getD j false)→zfV p may f s=zfV p' may' f s
 | 0,_,_=>rfl
 | f+1,s,h=>by
  unfold zfV;obtain⟨h1,d⟩:=h s (Nat.le_refl _) (by omega);rw[h1,d,yvt f (s+1) fun j a b=>h j (by omega) (by omega)]
theorem yvs{p:List Rat}{may:List Bool}:∀(f g s:Nat),(∀j,s+f≤j→may.getD j false=false)→zfV p may (f+g) s=zfV p may f s
 | 0,0,_,_=>rfl
 | 0,g+1,s,h=>by
  rw[Nat.zero_add];unfold zfV;rw[if_neg (by rw[h s (by omega)];intro e;cases e.1)];have:=yvs 0 g (s+1) (p:=p) (may:=may) fun j hj=>h j (by omega)
  rw[Nat.zero_add]at this;rw[this];rfl
 | f+1,g,s,h=>by
  rw[show f+1+g=(f+g)+1 by omega];unfold zfV;rw[yvs f g (s+1) fun j hj=>h j (by omega)]
structure MayB (N:Nat) (may may':List Bool):Prop where
  own:∀j,j<N→may'.getD j false=may.getD j false
  art:∀j,N≤j→may'.getD j false=false
section
variable {m N:Nat} {A:List (List Rat)} {b c c':List Rat} {may may':List Bool} (hA:Rect m N A) (hb:b.length=m)
include hA
theorem yvH{x v:List Rat}{cols:List Nat}(g:cols.length=m)(ho:∀k,k<m→cols.getD k 0<N)(h:∀i,i<m→zai m (fun k=>en (zt0 A b) i (cols.getD k 0)*el x k)=sgn (el b i)*el v i):Mk m (bc A cols) x v:=fun i a=>by
 have e:=h i a;have d:zai m (fun k=>en (zt0 A b) i (cols.getD k 0)*el x k)=sgn (el b i)*zai m (fun k=>en A i (cols.getD k 0)*el x k):=by
  rw[←za7];exact zaj fun k hk=>by rw[zwf hA a (ho k hk)];grind
 rw[d]at e;have s:=zDO (el b i);have f:sgn (el b i)*sgn (el b i)*zai m (fun k=>en A i (cols.getD k 0)*el x k)=sgn (el b i)*sgn (el b i)*el v i:=by grind
 rw[s]at f;rw[zaj fun k hk=>by rw[ztZ (by rw[g];exact hk) (by rw[hA.len];exact a)]];grind
theorem yvu{cols:List Nat}(h:Basis m (N+m) (zt0 A b) cols)(ho:∀k,k<m→cols.getD k 0<N):Basis m N A cols:=by
 refine⟨hA,h.len,ho,h.inj,fun x d=>h.reg x fun i a=>?_⟩;have e:zai m (fun k=>en (bc A cols) k i*x k)=0:=d i a;rw[zaj fun k hk=>by rw[ztZ (by rw[h.len];exact hk) (by rw[hA.len];exact a)]]at e;show zai m (fun k=>en (bc (zt0 A b) cols) k i*x k)=0
 rw[zaj fun k hk=>by rw[ztZ (by rw[h.len];exact hk) (by rw[h.rect.len];exact a),zwf hA a (ho k hk)],zaj (g:=fun k=>sgn (el b i)*(en A i (cols.getD k 0)*x k)) fun k _=>by grind,za7,e];grind
theorem yvD{cols:List Nat}(h:Basis m (N+m) (zt0 A b) cols)(ho:∀k,k<m→cols.getD k 0<N){j:Nat}(hj:j<N):zav (zt0 A b) cols j=zav A cols j:=by
 have d:=yvu hA h ho;refine Mk.unique d.reg (yvH (b:=b) hA h.len ho fun i a=>?_) (d.column_ok j).1 (h.column_ok j).2 (d.column_ok j).2;rw[h.mk_en (h.column_ok j).1 a,zhw (by rw[h.rect.len];exact a),zhw (by rw[hA.len];exact a),zwf hA a hj]
theorem yvv{cols:List Nat}(h:Basis m (N+m) (zt0 A b) cols)(ho:∀k,k<m→cols.getD k 0<N)(hc:c.length=N)(d:c'.length=N+m)(e:∀j,j<N→el c' j=el c j):∀j,j<N→el (zaC (N+m) (zt0 A b) cols c') j=el (zaC N A cols c) j:=fun j hj=>by
 have a:=yvu hA h ho;have P:Pri m N (en A) (el c) (fun k=>cols.getD k 0) (fun i=>sgn (el b i)*el (zcl (zt0 A b) cols c') i) (el (zaC (N+m) (zt0 A b) cols c')) :=
  ⟨fun j hj=>by
   rw[h.prices_el d (by omega),e j hj]
   congr 1
   exact zaj fun i f=>by rw[zwf hA f hj];grind,fun k hk=>(h.pri d).zero k hk⟩
 exact P.same (a.pri hc) (a.dic []) (fun k hk=>(a.pri hc).zero k hk) j hj
theorem yvF{cols:List Nat}(h:Basis m (N+m) (zt0 A b) cols)(ho:∀k,k<m→cols.getD k 0<N)(hc:c.length=N)(a:c'.length=N+m)(e:∀j,j<N→el c' j=el c j)(hm:MayB N may may'):zdi (zaC (N+m) (zt0 A b) cols c') may'=zdi (zaC N A cols c) may:=by
 unfold zdi;rw[zKp hc,zKp a,yvs N m 0 fun j hj=>hm.art j (by omega)];exact yvt N 0 fun j _ hj=>⟨yvv hA h ho hc a e j (by omega),hm.own j (by omega)⟩
include hb
theorem yvz{cols:List Nat}(h:Basis m (N+m) (zt0 A b) cols)(ho:∀k,k<m→cols.getD k 0<N):za5 (zt0 A b) (zwh b) cols=za5 A b cols:=by
 have a:=yvu hA h ho;refine Mk.unique a.reg (yvH (b:=b) hA h.len ho fun i d=>?_) (a.vals_ok b).1 (h.vals_ok _).2 (a.vals_ok b).2;rw[h.mk_en (h.vals_ok (zwh b)).1 d,zzj (by omega)]
theorem yvB{cols:List Nat}(h:Basis m (N+m) (zt0 A b) cols)(ho:∀k,k<m→cols.getD k 0<N)(hc:c.length=N)(a:c'.length=N+m)(e:∀j,j<N→el c' j=el c j)(hm:MayB N may may') :
  zBX (N+m) (zt0 A b) (zwh b) c' may' cols=zBX N A b c may cols:=by
 unfold zBX;rw[yvF hA h ho hc a e hm];have s:=zKj (zaC N A cols c) may N 0;cases hen:zdi (zaC N A cols c) may with
 | none=>rfl
 | some j =>
  unfold zdi at hen;rw[zKp hc]at hen;rw[hen]at s;simp only[yvz hA hb h ho,yvD hA h ho (show j<N by have:=s.2.1;omega)]
theorem yvC(hc:c.length=N)(a:c'.length=N+m)(e:∀j,j<N→el c' j=el c j)(hm:MayB N may may'):∀(f:Nat) (cols:List Nat),Basis m (N+m) (zt0 A b) cols→(∀k,k<m→cols.getD k 0<N) →
  pivs (zBX (N+m) (zt0 A b) (zwh b) c' may') f cols=pivs (zBX N A b c may) f cols∧Basis m (N+m) (zt0 A b) (pivs (zBX N A b c may) f cols).cols∧∀k,k<m→(pivs (zBX N A b c may) f cols).cols.getD k 0<N
 | 0,cols,h,ho=>by
  have n:=yvB hA hb h ho hc a e hm;refine⟨by unfold pivs;rw[n],?_⟩;have:(pivs (zBX N A b c may) 0 cols).cols=cols:=by unfold pivs;split<;>rfl
  rw[this];exact⟨h,ho⟩
 | f+1,cols,h,ho=>by
  have n:=yvB hA hb h ho hc a e hm;unfold pivs;rw[n];cases hn:zBX N A b c may cols with
  | stop=>exact⟨rfl,h,ho⟩
  | bad k=>exact⟨rfl,h,ho⟩
  | piv k j =>
   rw[hn]at n;have p:=zK6 h a n;have hj:j<N:=by
    rcases Nat.lt_or_ge j N with q | q
    ·exact q
    ·have:=hm.art j q;rw[p.hm]at this;cases this
   obtain⟨g,i,o⟩:=yvC hc a e hm f (cols.set k j) (h.swap p.hk p.hj (by have:=p.t;grind)) fun l d=>by
    rw[gset (by rw[h.len];exact p.hk)];split
    ·exact hj
    ·exact ho l d
   exact⟨by simp only[g],i,o⟩
theorem yvw:∀(f k:Nat) (may may':List Bool) (cols:List Nat) (B n:Nat),k+f≤N→MayB N may may'→Basis m (N+m) (zt0 A b) cols→(∀k,k<m→cols.getD k 0<N) →
  ys2 (N+m) (zt0 A b) (zwh b) B (ys5 (N+m) f k) may' cols n=ys2 N A b B (ys5 N f k) may cols n∧∀l,l<m→(ys2 N A b B (ys5 N f k) may cols n).cols.getD l 0<N
 | 0,_,_,_,_,_,_,_,_,_,ho=>⟨rfl,ho⟩
 | f+1,k,may,may',cols,B,n,hk,hm,h,ho=>by
  have i:∀j,j<N→el (zdL (N+m) k) j=el (zdL N k) j:=fun j hj=>by rw[zge (by omega),zge (by omega)]
  obtain⟨e,d,a⟩:=yvC hA hb (zfM N k) (zfM _ _) i hm (B-n) cols h ho;obtain⟨r,hr⟩:∃r,pivs (zBX N A b (zdL N k) may) (B-n) cols=r:=⟨_,rfl⟩
  rw[hr]at e d a;simp only[ys5,ys2,e,hr];by_cases g:r.err=true
  ·simp only[g,if_true];exact⟨trivial,a⟩
  ·simp only[g,if_false];refine yvw f (k+1) _ _ _ _ _ (by omega) ⟨fun j hj=>?_,fun j hj=>?_⟩ d a
   ·rw[Bool.eq_iff_iff,yta,yta,hm.own j hj,yvv hA d a (zfM N k) (zfM _ _) i j hj]
   ·rw[Bool.eq_false_iff];intro q;have:=(yta.1 q).1;rw[hm.art j hj]at this;cases this
end
