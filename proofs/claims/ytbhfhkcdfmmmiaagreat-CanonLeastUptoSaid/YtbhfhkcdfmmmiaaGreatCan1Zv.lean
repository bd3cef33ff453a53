/- Contracts and lemmas: Can1 Can2 Turn Can3 Fine. Conditions: as each says. -/
import Derived.Test.YtbhfhkcdfmmmiaaGreatGdSZv
set_option linter.all false
set_option maxHeartbeats 1000000
set_option maxRecDepth 100000
namespace Am
variable {F G cols:List Nat}{n:Nat}
def ys7 (p:List Rat) (may:List Bool):List Bool:=(List.range may.length).map fun j=>may.getD j false&&decide (el p j=0)
theorem yta{p:List Rat}{may:List Bool}{j:Nat}:(ys7 p may).getD j false=true↔may.getD j false=true∧el p j=0:=by
 unfold ys7;rw[List.getD_eq_getElem?_getD,List.getElem?_map];by_cases h:j<may.length
 ·rw[List.getElem?_range h];simp
 ·rw[List.getElem?_eq_none (by simpa using h),List.getD_eq_getElem?_getD (l:=may),List.getElem?_eq_none (by omega)];simp
structure LexOut where
  cols:List Nat
  n:Nat
  err:Bool
def ys2 (N:Nat) (A:List (List Rat)) (b:List Rat) (B:Nat):List (List Rat)→List Bool→List Nat→Nat→LexOut
  | [],_,cols,n=>⟨cols,n,false⟩
  | c :: cs,may,cols,n =>
    let r:=pivs (zBX N A b c may) (B-n) cols
    if r.err then ⟨r.cols,n+r.n,true⟩
    else ys2 N A b B cs (ys7 (zaC N A r.cols c) may) r.cols (n+r.n)
def ys5 (N:Nat):Nat→Nat→List (List Rat)
  | 0,_=>[]
  | f+1,k=>zdL N k::ys5 N f (k+1)
def ytw (m:Nat) (L:List (List Nat)):Prop:=L.Pairwise fun a b=>¬∀u,Bas m (fun k=>a.getD k 0) u↔Bas m (fun k=>b.getD k 0) u
section
variable {m N:Nat} {A:List (List Rat)} {b c:List Rat} {may:List Bool}
def ytk (next:List Nat→Next) (cols:List Nat) (n:Nat):List (List Nat):=(List.range n).map (zvo next cols)
theorem ytl(next:List Nat→Next)(cols:List Nat)(n:Nat):(ytk next cols n).length=n:=by simp[ytk]
theorem yt4{cols:List Nat}(h:Basis m N A cols)(hc:c.length=N)(f:zyF m A b cols):∀i k,k<m→may.getD ((zvo (zBX N A b c may) cols i).getD k 0) false=true∨Bas m (fun k=>cols.getD k 0) ((zvo (zBX N A b c may) cols i).getD k 0)
 | 0,k,hk=>.inr ⟨k,hk,rfl⟩
 | i+1,k,hk=>by
  have a:=yt4 h hc f i;have d:=zVH (may:=may) h hc f i;rw[zvo];split
  ·rename_i r j e
   have p:=zK6 d.1 hc e;rw[gset (by rw[d.1.len];exact p.hk)];split
   ·exact .inl p.hm
   ·exact a k hk
  ·exact a k hk
theorem yti(h:Basis m N A cols)(hc:c.length=N)(f:zyF m A b cols)(d:∀i,i<n→∃k j,zBX N A b c may (zvo (zBX N A b c may) cols i)=.piv k j):ytw m (ytk (zBX N A b c may) cols n):=by
 unfold ytw ytk;rw[List.pairwise_map];exact List.Pairwise.imp_of_mem (R:=fun a b=>a<b) (fun {i j} _ hj hij=>ysX h hc f n d _ _ hij (List.mem_range.1 hj)) List.pairwise_lt_range
theorem yto(h:Basis m N A cols)(hc:c.length=N)(f:zyF m A b cols):∃n G at_,n≤binom N m∧G=zvo (zBX N A b c may) cols n∧(∀i,i<n→∃k j,zBX N A b c may (zvo (zBX N A b c may) cols i)=.piv k j) ∧
  zBX N A b c may G=(match at_ with | none=>.stop | some k=>.bad k)∧(∀B,n≤B→pivs (zBX N A b c may) B cols=⟨G,at_,n,false⟩)∧∀B,B<n→(pivs (zBX N A b c may) B cols).err=true∧(pivs (zBX N A b c may) B cols).n=B:=by
 have s:=zoW (zBX N A b c may) (binom N m) cols;have l:=zTd (may:=may) h hc f;have more:=fun g=>zKI (zBX N A b c may) (binom N m) g cols
 have less:=fun g=>zKH (zBX N A b c may) (binom N m) g cols
 generalize hr:pivs (zBX N A b c may) (binom N m) cols=r at *
 obtain⟨G,at_,n,err⟩:=r;obtain⟨s1,s2,o,a,t⟩:=s;simp only at s1 s2 o a t more less;have q:=l n s2;cases err with
 | true =>
  obtain⟨u,k,j,p⟩:=o rfl;have:=l (binom N m+1) fun i v=>by
   by_cases e:i=binom N m
   ·rw[e];exact⟨k,j,p⟩
   ·exact s2 i (by omega)
  omega
 | false =>
  have a:=a rfl;rw[←s1]at a;exact⟨n,G,at_,q,s1,s2,a,fun B d=>more B rfl d,fun B d=>less B rfl d⟩
theorem ywu{own:Nat}{cols:List Nat}(h:Own m N own A b cols m)(hc:c.length=N)(hm:∀j,may.getD j false=true→j<own):∀i k,k<m→(own≤cols.getD k 0→(zvo (zBX N A b c may) cols i).getD k 0=cols.getD k 0)∧(cols.getD k 0<own→(zvo (zBX N A b c may) cols i).getD k 0<own)
 | 0,_,_=>⟨fun _=>rfl,fun h=>h⟩
 | i+1,k,hk=>by
  have a:=ywu h hc hm i k hk;have o:=h.seq hc hm i;rw[zvo];split
  ·rename_i r j e
   have p:=zK6 o.basis hc e;rw[gset (by rw[o.basis.len];exact p.hk)];by_cases d:r=k
   ·subst d;rw[if_pos rfl];refine⟨fun q=>?_,fun _=>hm j p.hm⟩;have z:=o.line r hk hk (by rw[a.1 q];exact q) j (hm j p.hm);have t:=p.t;rw[z]at t;exact absurd t (by decide)
   ·rw[if_neg d];exact a
  ·exact a
structure Fea (m N:Nat) (A:List (List Rat)) (b:List Rat) (may:List Bool) (z:Nat→Rat):Prop where
  sol:∀i,i<m→zai N (fun j=>en A i j*z j)=el b i
  nn:∀j,j<N→0≤z j
  sup:∀j,j<N→z j≠0→may.getD j false=true
def ytn (N:Nat):List (List Rat)→(Nat→Rat)→(Nat→Rat)→Prop
  | [],_,_=>True
  | c::cs,x,z=>zai N (fun j=>el c j*x j)≤zai N (fun j=>el c j*z j)∧(zai N (fun j=>el c j*x j)=zai N (fun j=>el c j*z j)→ytn N cs x z)
structure Lex (m N:Nat) (A:List (List Rat)) (b:List Rat) (cs:List (List Rat)) (may:List Bool) (cols:List Nat) (L:List (List Nat)) (G:List Nat):Prop where
  enough:∀B n,n+L.length≤B→ys2 N A b B cs may cols n=⟨G,n+L.length,false⟩
  less:∀B n,n≤B→B<n+L.length→(ys2 N A b B cs may cols n).err=true∧(ys2 N A b B cs may cols n).n=B
  apart:ytw m L
  basis:∀l∈L,Basis m N A l∧zyF m A b l
  in_:∀l∈L,∀k,k<m→may.getD (l.getD k 0) false=true∨Bas m (fun k=>cols.getD k 0) (l.getD k 0)
  last:Basis m N A G∧zyF m A b G
  lastIn:∀k,k<m→may.getD (G.getD k 0) false=true∨Bas m (fun k=>cols.getD k 0) (G.getD k 0)
  fix:∀own,Own m N own A b cols m→(∀j,may.getD j false=true→j<own)→∀l∈L,∀k,k<m→(own≤cols.getD k 0→l.getD k 0=cols.getD k 0)∧(cols.getD k 0<own→l.getD k 0<own)
  best:∀z,Fea m N A b may z→ytn N cs (pt m (fun k=>G.getD k 0) (el (za5 A b G))) z
  lastOwn:∀own,Own m N own A b cols m→(∀j,may.getD j false=true→j<own)→Own m N own A b G m
theorem ytt{d e:List Nat}(h:Basis m N A d)(g:Basis m N A e)(hc:c.length=N)(a:∀k,k<m→el (zaC N A e c) (d.getD k 0)=0):∀j,j<N→el (zaC N A d c) j=el (zaC N A e c) j :=
 (h.pri hc).same (g.pri hc) (h.dic []) a
theorem ytC{cs:List (List Rat)}(hF:Basis m N A F)(hc:c.length=N)(o:zBX N A b c may F=.stop)(i:Basis m N A G)(n:∀k,k<m→(ys7 (zaC N A F c) may).getD (G.getD k 0) false=true∨Bas m (fun k=>F.getD k 0) (G.getD k 0))
  (rest:∀z,Fea m N A b (ys7 (zaC N A F c) may) z→ytn N cs (pt m (fun k=>G.getD k 0) (el (za5 A b G))) z) (z:Nat→Rat) (a:Fea m N A b may z):ytn N (c::cs) (pt m (fun k=>G.getD k 0) (el (za5 A b G))) z:=by
 have p:=hF.pri hc;have g:=p.cost a.sol;have d:=p.cost (i.dic b).pt_sol;have l:zai N (fun j=>el (zaC N A F c) j*pt m (fun k=>G.getD k 0) (fun k=>el (za5 A b G) k) j)=0:=by
  rw[zyA i.lt (fun k=>el (za5 A b G) k) (el (zaC N A F c))];refine zcn fun k hk=>?_
  have:el (zaC N A F c) (G.getD k 0)=0:=by
   rcases n k hk with q | ⟨q,hq,e⟩
   ·exact(yta.1 q).2
   ·rw[←e];exact p.zero q hq
  rw[this];grind
 have nn:∀j,j<N→0≤el (zaC N A F c) j*z j:=fun j hj=>by
  by_cases h0:z j=0
  ·rw[h0];grind
  ·exact Rat.mul_nonneg (zTe hc o j hj (a.sup j hj h0)) (a.nn j hj)
 have r:0≤zai N (fun j=>el (zaC N A F c) j*z j):=by
  have:=zUD (f:=fun _=>0) nn;rw[zgd]at this;exact this
 refine⟨by have d:=d;rw[l]at d;rw[g];grind,fun e=>rest z ⟨a.sol,a.nn,fun j hj h0=>yta.2 ⟨a.sup j hj h0,?_⟩⟩⟩;have:=zTg nn (by rw[l]at d;have e:=e;rw[g]at e;grind) j hj;rcases Rat.mul_eq_zero.1 this with h | h
 ·exact h
 ·exact absurd h h0
theorem ytq{L:List (List Nat)}{r:List (List Rat)}(h:Basis m N A cols)(hc:c.length=N)(f:zyF m A b cols)(hF:F=zvo (zBX N A b c may) cols n)(B:∀i,i<n→∃k j,zBX N A b c may (zvo (zBX N A b c may) cols i)=.piv k j)
  (C:zBX N A b c may F=.stop) (x:Lex m N A b r (ys7 (zaC N A F c) may) F L G) (a:List Nat) (y:a∈L) {i:Nat} (t:i<n):¬∀u,Bas m (fun k=>(zvo (zBX N A b c may) cols i).getD k 0) u↔Bas m (fun k=>a.getD k 0) u:=fun per=>by
 have g:=zVH (may:=may) h hc f;have l:=g n;rw[←hF]at l;obtain⟨k,j,e⟩:=B i t;have p:=zK6 (g i).1 hc e;have z:∀k,k<m→el (zaC N A F c) ((zvo (zBX N A b c may) cols i).getD k 0)=0:=fun k hk=>by
  obtain⟨D,v,o⟩:=(per _).1 ⟨k,hk,rfl⟩;simp only at o;rw[←o];rcases x.in_ a y D v with q | ⟨q,hq,e2⟩
  ·exact(yta.1 q).2
  ·rw[←e2];exact(l.1.pri hc).zero q hq
 have s:=ytt (g i).1 l.1 hc z j p.hj;have d:=p.d;rw[s]at d;have:=zTe hc C j p.hj p.hm;grind
theorem ytj:∀(cs:List (List Rat)) (may:List Bool) (cols:List Nat),(∀c∈cs,c.length=N∧∀j,0≤el c j)→Basis m N A cols→zyF m A b cols→∃L G,Lex m N A b cs may cols L G
 | [],may,cols,_,h,f=>⟨[],cols,fun _ _ _=>rfl,fun B n h1 s=>(by simp only[List.length_nil]at s;omega),List.Pairwise.nil,fun l a=>(by cases a),fun l a=>(by cases a),⟨h,f⟩,fun k hk=>.inr ⟨k,hk,rfl⟩,fun _ _ _ l a=>(by cases a),fun _ _=>trivial,fun _ ho _=>ho⟩
 | c::cs,may,cols,hcs,h,f=>by
  obtain⟨hc,D⟩:=hcs c (List.mem_cons_self ..);obtain⟨n,F,at_,_,hF,y,t,more,less⟩:=yto (may:=may) h hc f;have z:=zVH (may:=may) h hc f;have g:=z n;rw[←hF]at g;cases at_ with
  | some k=>exact absurd t (zVC g.1 hc D k)
  | none =>
   obtain⟨L,G,x⟩:=ytj cs (ys7 (zaC N A F c) may) F (fun c h=>hcs c (List.mem_cons_of_mem _ h)) g.1 g.2;have C:=ytl (zBX N A b c may) cols n;have u:=yt4 h hc f (may:=may);refine⟨ytk (zBX N A b c may) cols n++L,G,fun B k I=>?_,fun B k h1 s=>?_,?_,fun l a=>?_,fun l a=>?_,x.last,fun k hk=>?_,fun own ho hm l a k hk=>?_,ytC g.1 hc t x.last.1 x.lastIn x.best,fun own ho hm=>?_⟩
   ·rw[List.length_append,C]at I ⊢;unfold ys2;rw[more (B-k) (by omega)];simp only[Bool.false_eq_true,if_false];rw[x.enough B (k+n) (by omega),Nat.add_assoc]
   ·rw[List.length_append,C]at s;unfold ys2;by_cases H:B-k<n
    ·obtain⟨E,d⟩:=less (B-k) H;simp only[E,if_true,d,true_and];omega
    ·rw[more (B-k) (by omega)];simp only[Bool.false_eq_true,if_false];exact x.less B (k+n) (by omega) (by omega)
   ·exact List.pairwise_append.2 ⟨yti h hc f y,x.apart,fun l a K J per=>by
     obtain⟨i,p,rfl⟩:=List.mem_map.1 a;exact ytq h hc f hF y t x K J (List.mem_range.1 p) per⟩
   ·rcases List.mem_append.1 a with q | q
    ·obtain⟨i,p,rfl⟩:=List.mem_map.1 q;exact z i
    ·exact x.basis l q
   ·rcases List.mem_append.1 a with q | q
    ·obtain⟨i,p,rfl⟩:=List.mem_map.1 q;exact fun k hk=>u i k hk
    ·intro k hk;rcases x.in_ l q k hk with r | ⟨r,hr,d⟩
     ·exact .inl (yta.1 r).1
     ·rw[←d,hF];exact u n r hr
   ·rcases x.lastIn k hk with r | ⟨r,hr,d⟩
    ·exact .inl (yta.1 r).1
    ·rw[←d,hF];exact u n r hr
   ·rcases List.mem_append.1 a with q | q
    ·obtain⟨i,p,rfl⟩:=List.mem_map.1 q;exact ywu ho hc hm i k hk
    ·have e:=ho.seq hc hm n;have o:=ywu ho hc hm n k hk;rw[←hF]at e o;have v:=x.fix own e (fun j hj=>hm j (yta.1 hj).1) l q k hk;exact⟨fun h=>(v.1 (by rw[o.1 h];exact h)).trans (o.1 h),fun h=>v.2 (o.2 h)⟩
   ·have e:=ho.seq hc hm n;rw[←hF]at e;exact x.lastOwn own e fun j hj=>hm j (yta.1 hj).1
end
theorem ytm{N:Nat}:∀ {f k:Nat},k+f≤N→∀c∈ys5 N f k,c.length=N∧∀j,0≤el c j
 | 0,_,_,c,h=>by cases h
 | f+1,k,hk,c,h=>by
  rcases List.mem_cons.1 h with rfl | h
  ·refine⟨zfM _ _,fun j=>?_⟩;rw[zge (by omega)];split<;>decide
  ·exact ytm (by omega) c h
end Am
namespace Am
inductive COut where
  | spent:Nat→COut
  | none:Nat→COut
  | best:List Nat→List Nat→Nat→COut
  | falls:Nat→COut
def COut.pivots:COut→Nat
  | .spent n=>n
  | .none n=>n
  | .best _ _ n=>n
  | .falls n=>n
def yth (n:Nat) (cols:List Nat) (l:LexOut):COut:=if l.err then .spent (n+l.n)else .best cols l.cols (n+l.n)
def ys3 (N m own:Nat) (A:List (List Rat)) (b c:List Rat) (B:Nat):COut :=
  let r:=pivs (zBX (N+m) (zt0 A b) (zwh b) (zJG N m) (zKc N m)) B (zKa N m)
  if r.err then .spent r.n
  else if 0<zSB N m A b r.cols then .none r.n
  else
    let d:=zSz N (N+m) (zt0 A b) (B-r.n) m 0 (r.cols,0)
    if d.2 then .spent (r.n+d.1.2)
    else
      let s:=pivs (zBX (N+m) (zt0 A b) (zwh b) (zKb m c) (zKc N m)) (B-(r.n+d.1.2)) d.1.1
      if s.err then .spent (r.n+d.1.2+s.n)
      else match s.at_ with
        | some _=>.falls (r.n+d.1.2+s.n)
        | .none=>yth (r.n+d.1.2+s.n) s.cols (ys2 (N+m) (zt0 A b) (zwh b) (B-(r.n+d.1.2+s.n)) (ys5 (N+m) own 0) (ys7 (zaC (N+m) (zt0 A b) s.cols (zKb m c)) (zKc N m)) s.cols 0)
def bmax (N:Nat):Nat→Nat
  | 0=>1
  | k+1=>max (bmax N k) (binom N (k+1))
theorem yww(N:Nat){a:Nat}:∀ {k:Nat},a≤k→binom N a≤bmax N k
 | 0,h=>by rw[Nat.le_zero.1 h];unfold bmax binom;cases N<;>exact Nat.le_refl _
 | k+1,h=>by
  unfold bmax;by_cases e:a=k+1
  ·rw[e];exact Nat.le_max_right _ _
  ·exact Nat.le_trans (yww N (by omega)) (Nat.le_max_left _ _)
theorem ywv{m N:Nat}{cols:List Nat}{L:List (List Nat)}(h:ytw m L)(n:∀l∈L,∀i k,i<m→k<m→l.getD i 0=l.getD k 0→i=k)(hf:∀l∈L,∀k,k<m→(N≤cols.getD k 0→l.getD k 0=cols.getD k 0)∧(cols.getD k 0<N→l.getD k 0<N)):L.length≤bmax N m:=by
 obtain⟨ps,d⟩:∃ps,(List.range m).filter (fun k=>decide (cols.getD k 0<N))=ps:=⟨_,rfl⟩
 have D:ps.length≤m:=by rw[←d];exact Nat.le_trans (List.length_filter_le _ _) (by simp)
 have f:∀k,k<ps.length→ps.getD k 0<m∧cols.getD (ps.getD k 0) 0<N:=fun k hk=>by
  have:ps.getD k 0∈ps:=by rw[List.getD_eq_getElem?_getD,List.getElem?_eq_getElem hk];exact List.getElem_mem hk
  rw[←d]at this;have:=List.mem_filter.1 this;rw[d]at this;exact⟨List.mem_range.1 this.1,of_decide_eq_true this.2⟩
 have pi:∀i k,i<ps.length→k<ps.length→ps.getD i 0=ps.getD k 0→i=k:=fun i k h1 y e=>by
  have F:ps.Nodup:=by rw[←d];exact List.Nodup.sublist List.filter_sublist List.nodup_range
  rw[List.getD_eq_getElem?_getD,List.getD_eq_getElem?_getD,List.getElem?_eq_getElem h1,List.getElem?_eq_getElem y]at e;exact(List.getElem_inj F).1 e
 have on:∀k,k<m→cols.getD k 0<N→∃t,t<ps.length∧ps.getD t 0=k:=fun k hk hc=>by
  have:k∈ps:=by rw[←d];exact List.mem_filter.2 ⟨List.mem_range.2 hk,decide_eq_true hc⟩
  obtain⟨t,o⟩:=List.mem_iff_getElem?.1 this;exact⟨t,(List.getElem?_eq_some_iff.1 o).1,getD_some o⟩
 have g:∀i,i<L.length→L.getD i []∈L:=fun i n=>by rw[List.getD_eq_getElem?_getD,List.getElem?_eq_getElem n];exact List.getElem_mem n
 refine Nat.le_trans (zLq (N:=N) (m:=ps.length) (β:=fun i k=>(L.getD i []).getD (ps.getD k 0) 0) (fun i p k hk=>(hf _ (g i p) _ (f k hk).1).2 (f k hk).2) (fun i p k l hk v e=>pi k l hk v (n _ (g i p) _ _ (f k hk).1 (f l v).1 e)) fun i j B hj per=>?_) (yww N D);have ap:=List.pairwise_iff_getElem.1 h i j (by omega) hj B;have q:L.getD i []=L[i]'(by omega):=by rw[List.getD_eq_getElem?_getD,List.getElem?_eq_getElem (by omega)];rfl
 have r:L.getD j []=L[j]:=by rw[List.getD_eq_getElem?_getD,List.getElem?_eq_getElem hj];rfl
 have one:∀a b:List Nat,a∈L→b∈L→(∀u,Bas ps.length (fun k=>a.getD (ps.getD k 0) 0) u→Bas ps.length (fun k=>b.getD (ps.getD k 0) 0) u)→∀u,Bas m (fun k=>a.getD k 0) u→Bas m (fun k=>b.getD k 0) u:=fun a b z hb C u ⟨k,hk,e⟩=>by
  by_cases hc:cols.getD k 0<N
  ·obtain⟨t,o,x⟩:=on k hk hc;obtain⟨s,E,es⟩:=C u ⟨t,o,by simp only[x];exact e⟩;exact⟨ps.getD s 0,(f s E).1,es⟩
  ·exact⟨k,hk,by simp only;rw[(hf b hb k hk).1 (by omega),←(hf a z k hk).1 (by omega)];exact e⟩
 refine ap fun u=>⟨?_,?_⟩
 ·rw[←q,←r];exact one _ _ (g i (by omega)) (g j hj) (fun u=>(per u).1) u
 ·rw[←q,←r];exact one _ _ (g j hj) (g i (by omega)) (fun u=>(per u).2) u
section
variable {m N own:Nat} {A:List (List Rat)} {b c:List Rat}
inductive CEnds (m N own:Nat) (A:List (List Rat)) (b c:List Rat):COut→Prop where
  | none {cols:List Nat} {n:Nat} (h:Basis m (N+m) (zt0 A b) cols) (f:zyF m (zt0 A b) (zwh b) cols) (s:zBX (N+m) (zt0 A b) (zwh b) (zJG N m) (zKc N m) cols=.stop) (v:0<zSB N m A b cols):CEnds m N own A b c (.none n)
  | best {cols G:List Nat} {n k:Nat} {L:List (List Nat)} (h:Own m (N+m) N (zt0 A b) (zwh b) cols m) (s:zBX (N+m) (zt0 A b) (zwh b) (zKb m c) (zKc N m) cols=.stop)
      (x:Lex m (N+m) (zt0 A b) (zwh b) (ys5 (N+m) own 0) (ys7 (zaC (N+m) (zt0 A b) cols (zKb m c)) (zKc N m)) cols L G) (e:n=k+L.length):CEnds m N own A b c (.best cols G n)
  | falls {cols:List Nat} {j n:Nat} (h:Own m (N+m) N (zt0 A b) (zwh b) cols m) (s:zBX (N+m) (zt0 A b) (zwh b) (zKb m c) (zKc N m) cols=.bad j):CEnds m N own A b c (.falls n)
theorem CEnds.not{o:COut}(h:CEnds m N own A b c o)(n:Nat):o≠.spent n:=fun e=>by subst e;cases h
variable (hA:Rect m N A) (hb:b.length=m) (hc:c.length=N) (ho:own≤N)
include hA hb hc ho
theorem yty:∃o,CEnds m N own A b c o∧o.pivots≤binom (N+m) m+m+bmax N m∧∀B,(o.pivots≤B→ys3 N m own A b c B=o)∧(B<o.pivots→ys3 N m own A b c B=.spent B):=by
 obtain⟨n,cols,at_,hn,hF,_,K,more,less⟩:=yto (m:=m) (may:=zKc N m) (zSU (b:=b) hA) (zSD N m) (zVN hA hb);have t:=zVH (may:=zKc N m) (zSU (b:=b) hA) (zSD N m) (zVN hA hb) n;rw[←hF]at t;have W:∀j,0≤el (zJG N m) j:=fun j=>by
  unfold zJG el;rw[List.getD_eq_getElem?_getD];by_cases hj:j<N
  ·rw[List.getElem?_append_left (by simpa using hj),List.getElem?_replicate,if_pos hj];exact Rat.le_refl
  ·rw[List.getElem?_append_right (by simpa using hj),List.getElem?_replicate];split
   ·exact(by decide:(0:Rat)≤1)
   ·exact Rat.le_refl
 cases at_ with
 | some j=>exact absurd K (zVC t.1 (zSD N m) W j)
 | none =>
  by_cases D:0<zSB N m A b cols
  ·refine⟨.none n,.none t.1 t.2 K D,by show n≤_;omega,fun B=>⟨fun h=>?_,fun h=>?_⟩⟩
   ·unfold ys3;rw[more B h];simp only[Bool.false_eq_true,if_false,if_pos D]
   ·obtain⟨f,g⟩:=less B h;unfold ys3;simp only[f,if_true,g]
  ·have ae:=(zTS t.1 t.2 hA hb K).1 (by show zSB N m A b cols≤0;grind);obtain⟨e,Z⟩:=ae.drive (by omega) m (Nat.le_refl _);have H:zSG N (N+m) (zt0 A b) m 0 (cols,0)=zAd N (N+m) (zt0 A b) cols m:=by
    have:=zTL N (N+m) (zt0 A b) cols m 0;rw[Nat.zero_add]at this;exact this
   generalize hdr:zAd N (N+m) (zt0 A b) cols m=d at *
   obtain⟨u,dn⟩:=d;simp only at e Z;have lc:(zKb m c).length=N+m:=by rw[zSS,hc]
   have r:∀j,(zKc N m).getD j false=true→j<N:=fun j h=>by
    rcases Nat.lt_or_ge j N with h5 | h5
    ·exact h5
    ·rw[zUz h5]at h;cases h
   have P:∀B,n≤B→B<n+dn→ys3 N m own A b c B=.spent B:=fun B h1 v=>by
    obtain⟨f,g⟩:=zSF N (N+m) (zt0 A b) (B-n) m 0 (cols,0) (Nat.zero_le _) (by rw[H];simp only;omega);unfold ys3;rw[more B h1];simp only[Bool.false_eq_true,if_false,if_neg D,f,if_true,g]
    congr 1;omega
   have X:∀B,n+dn≤B→zSz N (N+m) (zt0 A b) (B-n) m 0 (cols,0)=((u,dn),false):=fun B h1=>by
    rw[zSC N (N+m) (zt0 A b) (B-n) m 0 (cols,0) (by rw[H];simp only;omega),H]
   have R:∀B,B<n→ys3 N m own A b c B=.spent B:=fun B h=>by
    obtain⟨f,g⟩:=less B h;unfold ys3;simp only[f,if_true,g]
   have E:∀B,n+dn≤B→ys3 N m own A b c B=(let s:=pivs (zBX (N+m) (zt0 A b) (zwh b) (zKb m c) (zKc N m)) (B-(n+dn)) u
     if s.err then .spent (n+dn+s.n)
     else match s.at_ with
      | some _=>.falls (n+dn+s.n)
      | .none=>yth (n+dn+s.n) s.cols (ys2 (N+m) (zt0 A b) (zwh b) (B-(n+dn+s.n)) (ys5 (N+m) own 0) (ys7 (zaC (N+m) (zt0 A b) s.cols (zKb m c)) (zKc N m)) s.cols 0)):=fun B h1=>by
    conv=>lhs;unfold ys3
    rw[more B (by omega)];simp only[Bool.false_eq_true,if_false,if_neg D];rw[X B h1];simp only[Bool.false_eq_true,if_false]
   obtain⟨a,F,V,_,I,J,M,O,ac⟩:=yto (may:=zKc N m) e.basis lc e.feas;have z:=e.seq (c:=zKb m c) (may:=zKc N m) lc r a;rw[←I]at z;have T:∀B,n+dn≤B→B<n+dn+a→ys3 N m own A b c B=.spent B:=fun B h1 v=>by
    obtain⟨f,g⟩:=ac (B-(n+dn)) (by omega);rw[E B h1];simp only[f,if_true,g];congr 1;omega
   cases V with
   | some j =>
    have c2:a≤bmax N m:=by
     have:=ywv (N:=N) (cols:=u) (yti (may:=zKc N m) e.basis lc e.feas J) (fun l p=>by
      obtain⟨i,y,rfl⟩:=List.mem_map.1 p;exact(zVH (may:=zKc N m) e.basis lc e.feas i).1.inj) fun l p=>by
      obtain⟨i,y,rfl⟩:=List.mem_map.1 p;exact fun k hk=>ywu e lc r i k hk
     rw[ytl]at this;exact this
    refine⟨.falls (n+dn+a),.falls z M,by show n+dn+a≤_;omega,fun B=>⟨fun h=>?_,fun h=>?_⟩⟩
    ·have h:n+dn+a≤B:=h;rw[E B (by omega),O (B-(n+dn)) (by omega)];simp only[Bool.false_eq_true,if_false]
    ·have h:B<n+dn+a:=h;by_cases h1:B<n
     ·exact R B h1
     ·by_cases v:B<n+dn
      ·exact P B (by omega) v
      ·exact T B (by omega) h
   | none =>
    obtain⟨L,G,x⟩:=ytj (b:=zwh b) (ys5 (N+m) own 0) (ys7 (zaC (N+m) (zt0 A b) F (zKb m c)) (zKc N m)) F (ytm (by omega)) z.basis z.feas;have cnt:a+L.length≤bmax N m:=by
     have U:=yti (may:=zKc N m) e.basis lc e.feas J;have ad:=zVH (may:=zKc N m) e.basis lc e.feas;have S:=e.seq (c:=zKb m c) (may:=zKc N m) lc r a;have C:=ywu (c:=zKb m c) (may:=zKc N m) e lc r a;rw[←I]at S C;have:=ywv (N:=N) (m:=m) (cols:=u) (L:=ytk (zBX (N+m) (zt0 A b) (zwh b) (zKb m c) (zKc N m)) u a++L) (List.pairwise_append.2 ⟨U,x.apart,fun l p l' aa per=>by
      obtain⟨i,y,rfl⟩:=List.mem_map.1 p;exact ytq e.basis lc e.feas I J M x l' aa (List.mem_range.1 y) per⟩) (fun l p=>by
       rcases List.mem_append.1 p with q | q
       ·obtain⟨i,y,rfl⟩:=List.mem_map.1 q;exact(ad i).1.inj
       ·exact(x.basis l q).1.inj) fun l p k hk=>by
       rcases List.mem_append.1 p with q | q
       ·obtain⟨i,y,rfl⟩:=List.mem_map.1 q;exact ywu e lc r i k hk
       ·have Q:=x.fix N S (fun j hj=>r j (yta.1 hj).1) l q k hk;exact⟨fun h=>(Q.1 (by rw[(C k hk).1 h];exact h)).trans ((C k hk).1 h),fun h=>Q.2 ((C k hk).2 h)⟩
     rw[List.length_append,ytl]at this;exact this
    refine⟨.best F G (n+dn+a+L.length),.best z M x rfl,by show n+dn+a+L.length≤_;omega,fun B=>⟨fun h=>?_,fun h=>?_⟩⟩
    ·have h:n+dn+a+L.length≤B:=h;rw[E B (by omega),O (B-(n+dn)) (by omega)];simp only[Bool.false_eq_true,if_false];rw[x.enough (B-(n+dn+a)) 0 (by omega)];unfold yth;simp only[Bool.false_eq_true,if_false,Nat.zero_add]
    ·have h:B<n+dn+a+L.length:=h;by_cases h1:B<n
     ·exact R B h1
     ·by_cases v:B<n+dn
      ·exact P B (by omega) v
      ·by_cases Y:B<n+dn+a
       ·exact T B (by omega) Y
       ·rw[E B (by omega),O (B-(n+dn)) (by omega)];simp only[Bool.false_eq_true,if_false];obtain⟨f,g⟩:=x.less (B-(n+dn+a)) 0 (Nat.zero_le _) (by omega);unfold yth;simp only[f,if_true,g];congr 1;omega
end
end Am
namespace Go.Proofs.YtbhfhkcdfmmmiaaGreat
open Go.RowKit Am
variable {cost:List Rat}{i m nC:Nat}{x:Nat→Rat}
structure Form (nC m:Nat) (rows:List PRow):Prop where
  len:rows.length=m
  co:∀k,k<rows.length→(rows.getD k default).coef.length=nC
  kd:∀k,k<rows.length→(rows.getD k default).kind=1∨(rows.getD k default).kind=2∨(rows.getD k default).kind=3
def ywR (nC:Nat) (p:PRow) (x:Nat→Rat):Rat:=zai nC fun j=>el p.coef j*x j
def ywH (nC:Nat) (p:PRow) (x:Nat→Rat):Prop:=(p.kind=1→ywR nC p x≤p.rhs)∧(p.kind=2→p.rhs≤ywR nC p x)∧(p.kind=3→ywR nC p x=p.rhs)
def ywM (nC:Nat) (rows:List PRow) (x:Nat→Rat):Prop:=(∀j,j<nC→0≤x j)∧∀i,i<rows.length→ywH nC (rows.getD i default) x
def ywG (nC:Nat) (p:PRow) (x:Nat→Rat):Rat:=if p.kind=3 then 0 else ((zfI p.kind:Int):Rat)*(p.rhs-ywR nC p x)
theorem ywN{p:PRow}(h:ywH nC p x)(hk:p.kind=1∨p.kind=2∨p.kind=3):0≤ywG nC p x:=by
 unfold ywG;split
 ·exact Rat.le_refl
 ·rcases hk with e | e | e
  ·rw[zYn e];have:=h.1 e;grind
  ·rw[zYo (by omega)];have:=h.2.1 e;grind
  ·contradiction
def ywz (nC:Nat) (rows:List PRow) (x:Nat→Rat) (j:Nat):Rat:=if j<nC then x j else zai rows.length fun i=>if (rows.getD i default).kind≠3∧nC+cnt rows i=j then ywG nC (rows.getD i default) x else 0
section
variable {nC m:Nat} {rows:List PRow} (hf:Form nC m rows)
include hf
theorem ywK(x:Nat→Rat)(d:i<rows.length)(a:(rows.getD i default).kind≠3):ywz nC rows x (nC+cnt rows i)=ywG nC (rows.getD i default) x:=by
 unfold ywz;rw[if_neg (by omega),zbI (k:=i) d fun t f e=>if_neg fun h=>e (zX7 h.1 a (by omega)),if_pos ⟨a,rfl⟩]
theorem ywL(h:ywM nC rows x)(d:i<rows.length):zai (nC+cnt rows rows.length) (fun j=>en (zc3 rows) i j*ywz nC rows x j)=(rows.getD i default).rhs:=by
 rw[zUC hf.co _ d];have e:zai nC (fun j=>el (rows.getD i default).coef j*ywz nC rows x j)=ywR nC (rows.getD i default) x:=zaj fun j hj=>by unfold ywz;rw[if_pos hj]
 rw[e];by_cases a:(rows.getD i default).kind=3
 ·rw[if_pos a,(h.2 i d).2.2 a];grind
 ·rw[if_neg a,ywK hf x d a];unfold ywG;rw[if_neg a];rcases hf.kd i d with e | e | e
  ·rw[zYn e];grind
  ·rw[zYo (by omega)];grind
  ·contradiction
theorem ywO(h:ywM nC rows x)(j:Nat):0≤ywz nC rows x j:=by
 unfold ywz;split
 ·exact h.1 j (by assumption)
 ·have:=zUD (n:=rows.length) (f:=fun _=>0) (g:=fun i=>if (rows.getD i default).kind≠3∧nC+cnt rows i=j then ywG nC (rows.getD i default) x else 0) fun i a=>by
   show 0≤if (rows.getD i default).kind≠3∧nC+cnt rows i=j then ywG nC (rows.getD i default) x else 0
   split
   ·exact ywN (h.2 i a) (hf.kd i a)
   ·exact Rat.le_refl
  rw[zgd]at this;exact this
theorem ywC(x:Nat→Rat){j:Nat}(hj:nC+cnt rows rows.length≤j):ywz nC rows x j=0:=by
 unfold ywz;rw[if_neg (by omega)];exact zcn fun i a=>if_neg fun h=>by have:=zUo a h.1;omega
theorem ywE:Rect m (nC+cnt rows m) (zc3 rows):=by have:=zlk hf.co;rw[hf.len]at this;exact this
theorem ywQ:(zg8 rows).length=m:=by rw[zxG,hf.len]
theorem ywD(a:i<m):el (zg8 rows) i=(rows.getD i default).rhs:=zKf (by rw[hf.len];exact a)
theorem ywI(h:ywM nC rows x):Fea m (nC+cnt rows m+m) (zt0 (zc3 rows) (zg8 rows)) (zwh (zg8 rows)) (zKc (nC+cnt rows m) m) (ywz nC rows x):=by
 have hA:=ywE hf;have d:=hf.len;refine⟨fun i a=>?_,fun j _=>ywO hf h j,fun j hj h0=>?_⟩
 ·have e:=ywL hf h (i:=i) (by omega);rw[d]at e
  rw[zgc _ (nC+cnt rows m) m,zcn (f:=fun t=>en (zt0 (zc3 rows) (zg8 rows)) i (nC+cnt rows m+t)*ywz nC rows x (nC+cnt rows m+t)) fun t _=>by rw[ywC hf x (by rw[d];omega)];grind,
   zzj (by rw[ywQ hf];exact a),ywD hf a,←e,←za7]
  have g:zai (nC+cnt rows m) (fun j=>en (zt0 (zc3 rows) (zg8 rows)) i j*ywz nC rows x j)=zai (nC+cnt rows m) fun j=>sgn (el (zg8 rows) i)*(en (zc3 rows) i j*ywz nC rows x j):=zaj fun j hj=>by rw[zwf hA a hj];grind
  rw[g,ywD hf a];grind
 ·rcases Nat.lt_or_ge j (nC+cnt rows m)with q | q
  ·exact zUA q
  ·exact absurd (ywC hf x (by rw[d];exact q)) h0
theorem ywP{z:Nat→Rat}(a:∀j,0≤z j)(g:∀i,i<m→zai (nC+cnt rows m) (fun j=>en (zc3 rows) i j*z j)=el (zg8 rows) i):ywM nC rows z:=by
 have f:=hf.len;refine⟨fun j _=>a j,fun i d=>?_⟩;have e:=g i (by omega);have r:=zUC hf.co z d;rw[f]at r;rw[r,ywD hf (by omega)]at e;show ywH nC (rows.getD i default) z
 unfold ywH ywR;refine⟨fun k=>?_,fun k=>?_,fun k=>?_⟩
 ·rw[if_neg (by omega),zYn k]at e;have:=a (nC+cnt rows i);grind
 ·rw[if_neg (by omega),zYo (by omega)]at e;have:=a (nC+cnt rows i);grind
 ·rw[if_pos k]at e;grind
end
def ywU (nC:Nat) (x z:Nat→Rat):Prop:=∀i,i<nC→(∀l,l<i→x l=z l)→x i≤z i
theorem ywJ{N k:Nat}(hk:k<N)(x:Nat→Rat):zai N (fun j=>el (zdL N k) j*x j)=x k:=by
 rw[zbI (k:=k) hk fun j _ a=>by rw[zge hk,if_neg (Ne.symm a)];grind,zge hk,if_pos rfl];grind
theorem ywF{N:Nat}{x z:Nat→Rat}:∀(f k:Nat),k+f≤N→ytn N (ys5 N f k) x z→∀i,k≤i→i<k+f→(∀l,k≤l→l<i→x l=z l)→x i≤z i
 | 0,k,_,_,i,h1,h2,_=>by omega
 | f+1,k,hk,⟨h1,h2⟩,i,h3,h4,h5=>by
  rw[ywJ (by omega),ywJ (by omega)]at h1 h2;by_cases e:i=k
  ·rw[e];exact h1
  ·exact ywF f (k+1) (by omega) (h2 (h5 k (Nat.le_refl _) (by omega))) i (by omega) (by omega) fun l d a=>h5 l (by omega) a
def ywA (nC:Nat) (cost:List Rat) (x:Nat→Rat):Rat:=zai nC fun j=>el cost j*x j
inductive Told (nC m:Nat) (cost:List Rat) (rows:List PRow):COut→Prop where
  | none {n:Nat} (h:∀x,¬ywM nC rows x):Told nC m cost rows (.none n)
  | falls {n:Nat} (h:∀M:Rat,∃x,ywM nC rows x∧ywA nC cost x<M):Told nC m cost rows (.falls n)
  | best {cols G:List Nat} {n:Nat} (X:Nat→Rat) (h:ywM nC rows X) (he:∀j,X j=pt m (fun k=>G.getD k 0) (el (za5 (zt0 (zc3 rows) (zg8 rows)) (zwh (zg8 rows)) G)) j) (hl:G.length=m) (hb:∀x,ywM nC rows x→ywA nC cost X≤ywA nC cost x∧(ywA nC cost X=ywA nC cost x→ywU nC X x)):Told nC m cost rows (.best cols G n)
theorem ywB{K:Nat}(hc:cost.length=nC)(rows:List PRow)(hk:(zjD cost rows).length=nC+K)(z:Nat→Rat):zai (nC+K+m) (fun j=>el (zKb m (zjD cost rows)) j*z j)=ywA nC cost z:=by
 rw[zgc _ (nC+K) m,zcn (f:=fun t=>el (zKb m (zjD cost rows)) (nC+K+t)*z (nC+K+t)) fun t _=>by rw[←hk,zVP];grind,zaj (g:=fun j=>el (zjD cost rows) j*z j) fun j hj=>by rw[zTu (by omega)],zUp hc];unfold ywA;grind
theorem ywS{rows:List PRow}(hf:Form nC m rows)(hc:cost.length=nC){o:COut}(h:CEnds m (nC+cnt rows m) nC (zc3 rows) (zg8 rows) (zjD cost rows) o):Told nC m cost rows o:=by
 have hA:=ywE hf;have hb:=ywQ hf;have a:(zjD cost rows).length=nC+cnt rows m:=by unfold zjD;rw[List.length_append,List.length_replicate,hc,hf.len]
 have lc:(zKb m (zjD cost rows)).length=nC+cnt rows m+m:=by rw[zSS,a]
 cases h with
 | none h f s v =>
  rename_i cols n
  refine .none fun x Q=>?_
  have z:=ywI hf Q;have q:=(ytC (cs:=[]) h (zSD _ m) s h (fun k hk=>.inr ⟨k,hk,rfl⟩) (fun _ _=>trivial) _ z).1;have e:zai (nC+cnt rows m+m) (fun j=>el (zJG (nC+cnt rows m) m) j*ywz nC rows x j)=0:=zcn fun j hj=>by
   rcases Nat.lt_or_ge j (nC+cnt rows m)with q | q
   ·rw[zTq q];grind
   ·rw[ywC hf x (by rw[hf.len];exact q)];grind
  rw[e]at q;have v:0<zai (nC+cnt rows m+m) fun j=>el (zJG (nC+cnt rows m) m) j*pt m (fun k=>cols.getD k 0) (el (za5 (zt0 (zc3 rows) (zg8 rows)) (zwh (zg8 rows)) cols)) j:=v
  grind
 | falls h s =>
  rename_i cols j n
  refine .falls fun M=>?_
  obtain⟨p,u⟩:=h.fits hA hb;obtain⟨_,w1,H,B⟩:=h.ray hA hb a s;generalize hz:pt m (fun k=>cols.getD k 0) (el (za5 (zt0 (zc3 rows) (zg8 rows)) (zwh (zg8 rows)) cols))=z at p u;generalize hw:way m (fun k=>cols.getD k 0) (fun r s=>el (zav (zt0 (zc3 rows) (zg8 rows)) cols s) r) j=w at w1 H B;have fit:∀t:Rat,0≤t→ywM nC rows fun i=>z i+t*w i:=fun t P=>ywP hf (fun i=>by have:=p i;have:=Rat.mul_nonneg P (w1 i);grind) fun i g=>by
   have e:zai (nC+cnt rows m) (fun j=>en (zc3 rows) i j*(z j+t*w j))=zai (nC+cnt rows m) (fun j=>en (zc3 rows) i j*z j)+t*zai (nC+cnt rows m) (fun j=>en (zc3 rows) i j*w j):=by
    rw[←za7,←zcm];exact zaj fun j _=>by grind
   rw[e,u i g,H i g];grind
  have cs:∀t,ywA nC cost (fun i=>z i+t*w i)=ywA nC cost z+t*ywA nC cost w:=fun t=>by
   unfold ywA;rw[←za7,←zcm];exact zaj fun j _=>by grind
  have S:ywA nC cost w<0:=by
   have e:=zUp (K:=cnt rows m) (rows:=rows) hc w;rw[e]at B;exact B
  generalize ywA nC cost w=d at cs S;generalize hc0:ywA nC cost z=c0 at cs;by_cases T:c0<M
  ·exact⟨_,fit 0 Rat.le_refl,by rw[cs];grind⟩
  ·refine⟨_,fit ((c0-M+1)/(-d)) ?_,?_⟩
   ·rw[Rat.div_def];exact Rat.mul_nonneg (by grind) (Rat.le_of_lt (Rat.inv_pos.2 (by grind)))
   ·rw[cs];have e:(c0-M+1)/(-d)*(-d)=c0-M+1:=Rat.div_mul_cancel (by grind);grind
 | best h s x e =>
  rename_i cols G n k L
  have D:=x.lastOwn (nC+cnt rows m) h fun j hj=>by
   rcases Nat.lt_or_ge j (nC+cnt rows m)with q | q
   ·exact q
   ·have:=(yta.1 hj).1;rw[zUz q]at this;cases this
  obtain⟨p,u⟩:=D.fits hA hb;refine .best _ (ywP hf p u) (fun _=>rfl) D.basis.len fun y R=>?_
  have q:=ytC h.basis lc s x.last.1 x.lastIn x.best _ (ywI hf R);have C:ywA nC cost (ywz nC rows y)=ywA nC cost y:=zaj fun j hj=>by unfold ywz;rw[if_pos hj]
  have E:=q.1;rw[ywB hc rows a,ywB hc rows a,C]at E;refine⟨E,fun e i g J=>?_⟩;have F:=ywF nC 0 (by omega) (q.2 (by rw[ywB hc rows a,ywB hc rows a,C];exact e)) i (by omega) (by omega) fun l _ O=>by
   rw[J l O];unfold ywz;rw[if_pos (by omega)]
  have I:ywz nC rows y i=y i:=by unfold ywz;rw[if_pos g]
  rw[I]at F;exact F
end Go.Proofs.YtbhfhkcdfmmmiaaGreat
namespace Am
structure MayB (N:Nat) (may may':List Bool):Prop where
  own:∀j,j<N→may'.getD j false=may.getD j false
  art:∀j,N≤j→may'.getD j false=false
section
variable {m N:Nat} {A:List (List Rat)} {b c c':List Rat} {may may':List Bool} (hA:Rect m N A) (hb:b.length=m)
include hA
include hb
end
end Am
namespace Am
variable {B:Nat}
section
variable {N m:Nat} {A:List (List Rat)} {b c:List Rat}
theorem yxt(own:Nat):ys5 own 0 0=[]:=rfl
theorem yxg{n:Nat}(h:zSA N m A b c B=.spent n):ys3 N m 0 A b c B=.spent n:=by
 unfold zSA at h;unfold ys3;simp only[yxt,ys2]at h ⊢;split at h
 ·rename_i e;rw[if_pos e];injection h with h;rw[h]
 ·rename_i e;rw[if_neg e]
  split at h
  ·cases h
  ·rename_i e2;rw[if_neg e2]
   split at h
   ·rename_i e3;rw[if_pos e3];injection h with h;rw[h]
   ·rename_i e3;rw[if_neg e3]
    split at h
    ·rename_i e4;rw[if_pos e4];injection h with h;rw[h]
    ·split at h<;>cases h
end
section
variable {N m:Nat} {A:List (List Rat)} {b c:List Rat} (hA:Rect m N A) (hb:b.length=m) (hc:c.length=N)
include hA hb hc
theorem yxk(f:binom (N+m) m+m+bmax N m≤B):Ends m N A b c (zSA N m A b c B)∧(zSA N m A b c B).pivots≤binom (N+m) m+m+bmax N m ∧
  ∀a,((zSA N m A b c B).pivots≤a→zSA N m A b c a=zSA N m A b c B)∧(a<(zSA N m A b c B).pivots→∃n,zSA N m A b c a=.spent n):=by
 obtain⟨E,_,d⟩:=zUc (B:=2*binom (N+m) m+m+B) hA hb hc (by omega);obtain⟨o,g,i,hm⟩:=yty (own:=0) hA hb hc (Nat.zero_le _);have le:(zSA N m A b c (2*binom (N+m) m+m+B)).pivots≤binom (N+m) m+m+bmax N m:=Nat.le_of_not_lt fun h=>by
  obtain⟨n,e⟩:=(d _).2 h;exact g.not n (((hm _).1 i).symm.trans (yxg e))
 have e:=(d B).1 (Nat.le_trans le f);rw[e];exact⟨E,le,d⟩
end
