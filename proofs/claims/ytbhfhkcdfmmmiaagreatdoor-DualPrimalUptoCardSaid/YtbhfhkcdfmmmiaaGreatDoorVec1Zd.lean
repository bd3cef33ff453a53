/- Contracts and lemmas: Vec1 Prob1 Vec2 Vec3 Rat4 Bland Bland2 Count Sieg. Conditions: as each says. -/
import Derived.Test.YtbhfhkcdfmmmiaaGreatDoorRat2Zd
set_option linter.all false
set_option maxHeartbeats 8000000
set_option maxRecDepth 100000
namespace Go.Proofs.YtbhfhkcdfmmmiaaGreatDoor
open Go.RowKit Am
open Lib (hid)
variable {g:Bool}{p:Int}{qs:List Rat}{H a b c k m n:Nat}{A D:OA}{q:Rat}{d s v v0 v1:Value}{B u w w':World}
theorem ze0:(Tryz.prog.info? 49).map (fun i=>(i.zero,i.size,i.bytes))=some (some (.agg #[false,(),()]),3,56):=by kernel_rfl
abbrev RV:=Bool × Value × Value
def rcells (l:List RV):List Value:=l.flatMap fun r=>[.bool r.1,r.2.1,r.2.2]
theorem zcy(r:RV)(l:List RV):rcells (r::l)=.bool r.1::r.2.1::r.2.2::rcells l:=by simp[rcells]
theorem zcC(l:List RV):(rcells l).length=l.length*3:=by
 induction l with
 | nil=>rfl
 | cons r l ih=>rw[zcy];simp[ih];omega
theorem zh4(a b:List RV):rcells (a++b)=rcells a++rcells b:=by simp[rcells]
theorem ziI(l:List RV):∀(k:Nat) (r:RV),l[k]? = some r→(rcells l)[k*3]? = some (.bool r.1)∧(rcells l)[k*3+1]? = some r.2.1∧(rcells l)[k*3+2]? = some r.2.2:=by
 induction l with
 | nil=>intro k r h;simp at h
 | cons a l ih =>
  intro k r h;rw[zcy];cases k with
  | zero=>simp at h;subst h;simp
  | succ k =>
   have:=ih k r (by simpa using h);rw[show(k+1)*3=k*3+1+1+1 by omega];simpa using this
theorem zss(l:List RV):∀(k:Nat) (r:RV),(((rcells l).set (k*3) (.bool r.1)).set (k*3+1) r.2.1).set (k*3+2) r.2.2=rcells (l.set k r):=by
 induction l with
 | nil=>intro k r;simp[rcells]
 | cons a l ih =>
  intro k r;cases k with
  | zero=>simp[zcy]
  | succ k =>
   rw[show(k+1)*3=k*3+1+1+1 by omega,List.set_cons_succ,zcy,zcy,←ih k r];simp
theorem ziJ(l:List RV)(h:∀r∈l,r.2.1.oneCell'=true∧r.2.2.oneCell'=true):∀u∈rcells l,u.oneCell'=true:=by
 intro u a;simp only[rcells,List.mem_flatMap]at a;obtain⟨p,e,a⟩:=a;simp at a;rcases a with rfl | rfl | rfl
 ·rfl
 ·exact(h p e).1
 ·exact(h p e).2
theorem RatS.shape(h:RatS w g s d q):∃(A:OA) (m c:Nat) (D:OA) (e a:Nat),s=(A,m,c)∧d=.slice D e a:=by
 obtain⟨A,m,c,rfl⟩:=h.num.abs.slice;obtain⟨D,e,a,rfl⟩:=h.den.slice;exact⟨_,_,_,_,_,_,rfl,rfl⟩
theorem RatS.zero(w:World):RatS w false () () 0:=⟨⟨zas.zero w,rfl⟩,zas.zero w⟩
def zff (w w':World):Prop:=∀k,k<w.heap.size→(∀cs,w.heap[k]? ≠ some (.cells cs 49 (0,0)))→w'.heap[k]? = w.heap[k]?
theorem zas.keepT(h:zas w s n)(hk:zff w w'):zas w' s n:=by
 obtain⟨xs,a,g⟩:=h;refine⟨xs,a.keep fun k f=>hk k (a.block f) fun cs e=>?_,g⟩;exact za6 a.1 e (by decide) f
theorem RatS.keepT{w w':World}{g:Bool}{s d:Value}{q:Rat}(h:RatS w g s d q)(hk:zff w w'):RatS w' g s d q:=⟨⟨h.num.abs.keepT hk,h.num.neg⟩,h.den.keepT hk⟩
structure VecS (w:World) (H:Nat) (v:Value) (qs:List Rat):Prop where
  row:∃l:List RV,l.length=qs.length∧(∀(k:Nat) (r:RV) (q:Rat),l[k]? = some r→qs[k]? = some q→RatS w r.1 r.2.1 r.2.2 q)∧w.ownsRow H 49 3 v qs.length (rcells l)
theorem zc9{e:TypeId}{size:Nat}{ys:List Value}(h:w.ownsRow H e size s n ys)(hk:∀k,s.ownBlock=some k→w'.heap[k]? = w.heap[k]?):w'.ownsRow H e size s n ys:=by
 refine⟨h.1,?_⟩;rcases h.2 with h2 | ⟨g,cap,cur,hv,hg,hh,r⟩
 ·exact .inl h2
 ·exact .inr ⟨g,cap,cur,hv,hg,by rw[hk g (by rw[hv];rfl)];exact hh,r⟩
namespace VecS
variable {w w':World} {H:Nat} {v:Value} {qs:List Rat}
theorem lt(h:VecS w H v qs){k:Nat}(hk:v.ownBlock=some k):H≤k∧k<w.heap.size:=by
 obtain⟨l,_,_,h⟩:=h.row;exact h.lt k hk
theorem keepAll(h:VecS w H v qs)(hk:∀k,v.ownBlock=some k→w'.heap[k]? = w.heap[k]?)(hr:∀g s d q,RatS w g s d q→RatS w' g s d q):VecS w' H v qs:=by
 obtain⟨l,h1,e,f⟩:=h.row;exact⟨l,h1,fun k r q a b=>hr _ _ _ _ (e k r q a b),zc9 f hk⟩
theorem below(h:VecS w H v qs)(a:Below w.heap.size w w'):VecS w' H v qs:=h.keepAll (fun k hk=>a.block k (h.lt hk).2) fun _ _ _ _ r=>r.below a
theorem alloc(h:VecS w H v qs)(o:Obj):VecS (w.alloc o) H v qs:=h.below (zae w o)
theorem drew(h:VecS w H v qs):VecS w.drew H v qs:=h.below (zap w 1)
theorem base(h:VecS w H v qs)(g:a≤H):VecS w a v qs:=by
 obtain⟨l,h1,e,f⟩:=h.row;exact⟨l,h1,e,zbu f g⟩
theorem setCell(h:VecS w H v qs){p:Addr}{t:TypeId}{cs:Array Value}(f:v.ownBlock≠some p.block)(hg:w.heap[p.block]? = some (.cells cs t (0,0)))(a:184≠t)(u:Value):VecS (w.setCell p u) H v qs :=
 h.keepAll (fun k hk=>Below.heap_setCell w p u k (fun e=>f (by rw[hk,e]))) fun _ _ _ _ r=>⟨⟨r.num.abs.setCell hg a u,r.num.neg⟩,r.den.setCell hg a u⟩
theorem nil(w:World)(H:Nat):VecS w H () []:=⟨[],rfl,fun k r q h=>by simp at h,World.ownsRow_nil _ _ _ _⟩
theorem form(h:VecS w H (A,n,c) qs):n=qs.length∧n≤c∧c≤maxLen∧((A=none∧c=0∧qs=[])∨∃g,A=some ⟨g,0,none⟩∧H≤g∧g<w.heap.size):=by
 obtain⟨l,_,_,f⟩:=h.row;rcases f.2 with ⟨e,a⟩ | ⟨g,cap,cur,e,hg,i,a,hm,_⟩
 ·injection e with e1 e2 e3;subst e1 e2 e3;exact⟨a.symm,Nat.le_refl _,Nat.zero_le _,.inl ⟨rfl,rfl,List.length_eq_zero_iff.1 a⟩⟩
 ·injection e with e1 e2 e3;subst e1 e2 e3;exact⟨rfl,a,hm,.inr ⟨g,rfl,hg,(Array.getElem?_eq_some_iff.1 i).1⟩⟩
theorem len(h:VecS w H (A,n,c) qs):n=qs.length:=h.form.1
theorem has(h:VecS w H (A,n,c) qs)(i:0<n):∃g,A=some ⟨g,0,none⟩∧H≤g∧g<w.heap.size:=by
 obtain⟨h1,e,f,a | a⟩:=h.form
 ·omega
 ·exact a
theorem slice(h:VecS w H v qs):∃A n c,v=.slice A n c:=by
 obtain⟨l,_,_,e⟩:=h.row;rcases e.2 with ⟨a,f⟩ | ⟨g,cap,cur,a,_⟩
 ·exact⟨_,_,_,a⟩
 ·exact⟨_,_,_,a⟩
theorem at_(h:VecS w H (b,n,c) qs)(hk:qs[k]? = some q) :
  ∃(g:Bool) (A:OA) (m c:Nat) (D:OA) (e a:Nat),w.cell? ⟨b,k*3,none⟩=some (.bool g)∧w.cell? ⟨b,k*3+1,none⟩=some (A,m,c)∧w.cell? ⟨b,k*3+2,none⟩=some (D,e,a)∧RatS w g (A,m,c) (D,e,a) q:=by
 have B:=h.len;subst B;obtain⟨l,h1,z,f⟩:=h.row;have C:k<qs.length:=(List.getElem?_eq_some_iff.1 hk).1;obtain⟨r,hr⟩:∃r,l[k]? = some r:=⟨l[k]'(by omega),List.getElem?_eq_getElem _⟩
 have i:=z k r q hr hk;obtain⟨A,m,c,D,e,a,j,o⟩:=i.shape;obtain⟨p,s,u⟩:=ziI l k r hr;refine⟨r.1,A,m,c,D,e,a,?_,?_,?_,?_⟩
 ·rw[f.cellAt _ (by omega)];exact p
 ·rw[f.cellAt _ (by omega),s,j]
 ·rw[f.cellAt _ (by omega),u,o]
 ·rw[j,o]at i;exact i
theorem fro(h:VecS w H (b,n,c) qs)(j:Nat):w.frozen? ⟨b,j,none⟩=false:=by
 have e:=h.len;subst e;obtain⟨l,_,_,a⟩:=h.row;exact a.frozenAt j
theorem store(h:VecS w H (b,n,c) qs)(k:Nat)(D:RatS w g s d q) :
  VecS (((w.setCell ⟨b,k*3,none⟩ g).setCell ⟨b,k*3+1,none⟩ s).setCell ⟨b,k*3+2,none⟩ d) H (b,n,c) (qs.set k q):=by
 have u:=h.len;subst u;obtain⟨l,h1,z,i⟩:=h.row;have o:zff w (((w.setCell ⟨b,k*3,none⟩ g).setCell ⟨b,k*3+1,none⟩ s).setCell ⟨b,k*3+2,none⟩ d):=by
  intro j hj C;have e:j≠b:=by
   rintro rfl;rcases i.2 with ⟨f,u⟩ | ⟨g,cap,cur,f,hg,B,_⟩
   ·cases f
   ·injection f with e1;injection e1 with e1;injection e1 with e1;subst e1;exact C _ B
  rw[Below.heap_setCell _ _ _ _ (by exact e),Below.heap_setCell _ _ _ _ (by exact e),Below.heap_setCell _ _ _ _ (by exact e)]
 refine⟨l.set k (g,s,d),by simp[h1],?_,?_⟩
 ·intro j r E hr a;by_cases hj:k=j
  ·subst hj;have p:=(List.getElem?_eq_some_iff.1 hr).1;rw[List.length_set]at p;rw[List.getElem?_set_self p]at hr;rw[List.getElem?_set_self (by omega)]at a;injection hr with hr;injection a with a;subst hr a;exact D.keepT o
  ·rw[List.getElem?_set_ne hj]at hr a;exact(z j r E hr a).keepT o
 ·rw[List.length_set,←zss];exact(((i.stored _ _).1.stored _ _).1.stored _ _).1
end VecS
theorem zh3{xs:List Value}(h:w.ownsRow H 49 3 v n xs)(hg:w.grownBy w' v.ownBlock):zff w w':=by
 intro k hk i;refine hg.block k hk fun e=>?_
 rcases h.2 with ⟨a,_⟩ | ⟨g,cap,cur,a,_,f,_⟩
 ·rw[a]at e;cases e
 ·rw[a]at e;injection e with e;subst e;exact i _ f
theorem VecS.append{f:Value}{l:List RV}(e:l.length=qs.length)(hr:∀(k:Nat) (r:RV) (q:Rat),l[k]? = some r→qs[k]? = some q→RatS w r.1 r.2.1 r.2.2 q)(n:w.ownsRow H 49 3 v qs.length (rcells l))
     (j:RatS w g s d q) (i:w'.ownsRow H 49 3 f (qs.length+1) (rcells l++[.bool g,s,d])) (hg:w.grownBy w' v.ownBlock):VecS w' H f (qs++[q]):=by
 have hk:=zh3 n hg;refine⟨l++[(g,s,d)],by simp[e],?_,?_⟩
 ·intro k r o h1 a;rcases Nat.lt_trichotomy k l.length with h | h | h
  ·rw[List.getElem?_append_left h]at h1;rw[List.getElem?_append_left (by omega)]at a;exact(hr k r o h1 a).keepT hk
  ·subst h;rw[List.getElem?_append_right (Nat.le_refl _)]at h1;rw[List.getElem?_append_right (by omega)]at a;simp at h1;rw[e]at a;simp at a;subst h1 a;exact j.keepT hk
  ·rw[List.getElem?_eq_none (by simp;omega)]at h1;cases h1
 ·rw[List.length_append,zh4];exact i
theorem zev{ops:Array Oper}{rest:List Oper}{o:Oper}{a:Act}{Q:Exit→Act→World→Prop}(O:o.guard=none)(s x:Operand)
    (R:o.op=.call { callee:=.builtin .append,args:=#[s,x],argTypes:=#[28,28] })    (V:a.eval s=v) (I:VecS w H v qs)  (W:a.eval x=.slice (some ⟨b,0,none⟩) 1 1)
        {C p:Nat}  (M:w.heap[b]? = some (.cells #[g,(A,m,c),(D,C,p)] 49 (0,0))) (U:RatS w g (A,m,c) (D,C,p) q) (ab:qs.length+1≤2000000) (F:H≤w.heap.size)
    (K:∀n f c' w',VecS w' H (.slice n f c') (qs++[q])→Below H w w'→f=qs.length+1→wpList Tryz.prog ops Q rest (a.put o.dst (.slice n f c')) w'):wpList Tryz.prog ops Q (o::rest) a w:=by
  obtain⟨i0,P,X,Y,Z⟩:=info_parts ze0;obtain⟨l,h1,J,E⟩:=I.row;have z:=fun i=>zac M i
  refine wpList_append_own w O s x 28 R H 49 i0 _ 3 56 Tryz.underlying28 P X Y Z rfl (by decide) v qs.length (rcells l) V E ⟨b,0,none⟩ 1 _ [.bool g,.slice A m c,.slice D C p] W rfl
    (by intro j u e
        match j,e with
        | 0,e=>exact(z 0).trans e
        | 1,e=>exact(z 1).trans e
        | 2,e=>exact(z 2).trans e
        | j+3,e=>simp at e)
    (by intro u e;simp at e;rcases e with rfl | rfl | rfl<;>rfl) (by unfold maxLen;omega) (by omega) F ?_
  intro v' w' S G _;have B:=VecS.append h1 J E U S G;obtain⟨n,f,c',rfl⟩:=B.slice;refine K n f c' w' B ((Below.refl _ _).grown G F (fun k hk=>(I.lt hk).1)) (by rw[B.len];simp)
def zq5 (w:World) (qs:List Rat) (e:Ending) (w':World):Prop:=∃(A:OA) (n c:Nat),e=.returned (A,n,c)∧VecS w' w.heap.size (A,n,c) qs∧Below w.heap.size w w'
def zcd (w:World) (qs:List Rat) (b:Bool) (e:Ending) (w':World):Prop:=∃(A:OA) (n c:Nat),e=.returned (.tuple #[(A,n,c),b])∧VecS w' w.heap.size (A,n,c) qs∧Below w.heap.size w w'
theorem zLy:(Tryz.prog.info? 75).map (fun i=>(i.zero,i.size,i.bytes))=some (some (.agg #[(),.int .i64 0,false,(),()]),5,88):=by kernel_rfl
structure PRow where
  coef:List Rat
  kind:Int
  rhs:Rat
instance:Inhabited PRow:=⟨⟨[],0,0⟩⟩
structure RR where
  c:Value
  k:Int
  g:Bool
  s:Value
  d:Value
def zcW (l:List RR):List Value:=l.flatMap fun r=>[r.c,.int .i64 r.k,.bool r.g,r.s,r.d]
theorem zd4(r:RR)(l:List RR):zcW (r::l)=r.c::.int .i64 r.k::.bool r.g::r.s::r.d::zcW l:=by simp[zcW]
theorem zKq(a b:List RR):zcW (a++b)=zcW a++zcW b:=by simp[zcW]
theorem zqG(l:List RR):∀(k:Nat) (r:RR),l[k]? = some r→(zcW l)[k*5]? = some r.c∧(zcW l)[k*5+1]? = some (.int .i64 r.k)∧(zcW l)[k*5+2]? = some (.bool r.g)∧(zcW l)[k*5+3]? = some r.s∧(zcW l)[k*5+4]? = some r.d:=by
 induction l with
 | nil=>intro k r h;simp at h
 | cons a l ih =>
  intro k r h;rw[zd4];cases k with
  | zero=>simp at h;subst h;simp
  | succ k =>
   have:=ih k r (by simpa using h);rw[show(k+1)*5=k*5+1+1+1+1+1 by omega];simpa using this
theorem zpb(l:List RR):∀(k:Nat) (c:Value),(zcW l).set (k*5) c=zcW (l.modify k fun r=>{ r with c:=c }):=by
 induction l with
 | nil=>intro k c;simp[zcW]
 | cons a l ih =>
  intro k c;cases k with
  | zero=>simp[zd4]
  | succ k=>rw[show(k+1)*5=k*5+1+1+1+1+1 by omega,zd4];simp[zd4,ih]
theorem zKM(l:List RR):∀(k:Nat) (z:Int),(zcW l).set (k*5+1) (.int .i64 z)=zcW (l.modify k fun r=>{ r with k:=z }):=by
 induction l with
 | nil=>intro k c;simp[zcW]
 | cons a l ih =>
  intro k z;cases k with
  | zero=>simp[zd4]
  | succ k=>rw[show(k+1)*5+1=(k*5+1)+1+1+1+1+1 by omega,zd4];simp[zd4,ih]
structure RowS (w:World) (r:RR) (p:PRow):Prop where
  coef:VecS w 0 r.c p.coef
  kind:r.k=p.kind
  rhs:RatS w r.g r.s r.d p.rhs
structure RowsS (w:World) (H:Nat) (v:Value) (ps:List PRow):Prop where
  row:∃l:List RR,l.length=ps.length∧(∀(k:Nat) (r:RR) (p:PRow),l[k]? = some r→ps[k]? = some p→RowS w r p)∧w.ownsRow H 75 5 v ps.length (zcW l)
theorem RowS.below{w w':World}{r:RR}{p:PRow}(h:RowS w r p)(a:Below w.heap.size w w'):RowS w' r p:=⟨h.coef.below a,h.kind,h.rhs.below a⟩
namespace RowsS
variable {w w':World} {H:Nat} {v:Value} {ps:List PRow}
theorem lt(h:RowsS w H v ps){k:Nat}(hk:v.ownBlock=some k):H≤k∧k<w.heap.size:=by
 obtain⟨l,_,_,h⟩:=h.row;exact h.lt k hk
theorem keepAll(h:RowsS w H v ps)(hk:∀k,v.ownBlock=some k→w'.heap[k]? = w.heap[k]?)(hr:∀r p,RowS w r p→RowS w' r p):RowsS w' H v ps:=by
 obtain⟨l,h1,e,f⟩:=h.row;exact⟨l,h1,fun k r q a b=>hr _ _ (e k r q a b),zc9 f hk⟩
theorem below(h:RowsS w H v ps)(a:Below w.heap.size w w'):RowsS w' H v ps:=h.keepAll (fun k hk=>a.block k (h.lt hk).2) fun _ _ r=>r.below a
theorem alloc(h:RowsS w H v ps)(o:Obj):RowsS (w.alloc o) H v ps:=h.below (zae w o)
theorem drew(h:RowsS w H v ps):RowsS w.drew H v ps:=h.below (zap w 1)
theorem base(h:RowsS w H v ps)(g:a≤H):RowsS w a v ps:=by
 obtain⟨l,h1,e,f⟩:=h.row;exact⟨l,h1,e,zbu f g⟩
theorem nil(w:World)(H:Nat):RowsS w H () []:=⟨[],rfl,fun k r q h=>by simp at h,World.ownsRow_nil _ _ _ _⟩
theorem form(h:RowsS w H (A,n,c) ps):n=ps.length∧n≤c∧c≤maxLen∧((A=none∧c=0∧ps=[])∨∃g,A=some ⟨g,0,none⟩∧H≤g∧g<w.heap.size):=by
 obtain⟨l,_,_,f⟩:=h.row;rcases f.2 with ⟨e,a⟩ | ⟨g,cap,cur,e,hg,i,a,hm,_⟩
 ·injection e with e1 e2 e3;subst e1 e2 e3;exact⟨a.symm,Nat.le_refl _,Nat.zero_le _,.inl ⟨rfl,rfl,List.length_eq_zero_iff.1 a⟩⟩
 ·injection e with e1 e2 e3;subst e1 e2 e3;exact⟨rfl,a,hm,.inr ⟨g,rfl,hg,(Array.getElem?_eq_some_iff.1 i).1⟩⟩
theorem len(h:RowsS w H (A,n,c) ps):n=ps.length:=h.form.1
theorem has(h:RowsS w H (A,n,c) ps)(i:0<n):∃g,A=some ⟨g,0,none⟩∧H≤g∧g<w.heap.size:=by
 obtain⟨h1,e,f,a | a⟩:=h.form
 ·omega
 ·exact a
theorem slice(h:RowsS w H v ps):∃A n c,v=.slice A n c:=by
 obtain⟨l,_,_,e⟩:=h.row;rcases e.2 with ⟨a,f⟩ | ⟨g,cap,cur,a,_⟩
 ·exact⟨_,_,_,a⟩
 ·exact⟨_,_,_,a⟩
theorem fro(h:RowsS w H (b,n,c) ps)(j:Nat):w.frozen? ⟨b,j,none⟩=false:=by
 have e:=h.len;subst e;obtain⟨l,_,_,a⟩:=h.row;exact a.frozenAt j
theorem at_(h:RowsS w H (b,n,c) ps){p:PRow}(hk:ps[k]? = some p) :
  ∃(C:OA) (nc cc:Nat) (g:Bool) (A:OA) (m c:Nat) (D:OA) (i f:Nat),w.cell? ⟨b,k*5,none⟩=some (C,nc,cc)∧w.cell? ⟨b,k*5+1,none⟩=some (.int .i64 p.kind)∧w.cell? ⟨b,k*5+2,none⟩=some (.bool g) ∧
   w.cell? ⟨b,k*5+3,none⟩=some (A,m,c)∧w.cell? ⟨b,k*5+4,none⟩=some (D,i,f)∧VecS w 0 (C,nc,cc) p.coef∧RatS w g (A,m,c) (D,i,f) p.rhs:=by
 have G:=h.len;subst G;obtain⟨l,h1,F,a⟩:=h.row;have I:k<ps.length:=(List.getElem?_eq_some_iff.1 hk).1;obtain⟨r,hr⟩:∃r,l[k]? = some r:=⟨l[k]'(by omega),List.getElem?_eq_getElem _⟩
 have e:=F k r p hr hk;obtain⟨C,nc,cc,j⟩:=e.coef.slice;obtain⟨A,m,c,D,i,f,o,q⟩:=e.rhs.shape;obtain⟨s,u,z,B,E⟩:=zqG l k r hr;refine⟨C,nc,cc,r.g,A,m,c,D,i,f,?_,?_,?_,?_,?_,?_,?_⟩
 ·rw[a.cellAt _ (by omega),s,j]
 ·rw[a.cellAt _ (by omega),u,e.kind]
 ·rw[a.cellAt _ (by omega)];exact z
 ·rw[a.cellAt _ (by omega),B,o]
 ·rw[a.cellAt _ (by omega),E,q]
 ·rw[←j];exact e.coef
 ·rw[←o,←q];exact e.rhs
end RowsS
attribute [local go_sem ↓] Go.wp_at_zero Go.wp_at_succ
def rats (xs:List Int):List Rat:=xs.map fun(x:Int)=>(x:Rat)
theorem zvj{xs:List Int}{x:Int}(h:xs[k]? = some x):rats (xs.take (k+1))=rats (xs.take k)++[(x:Rat)]:=by
 unfold rats;rw[List.take_add_one,h];simp
namespace Vc
theorem of(b n c:Nat)(xs:List Int)(w:World)(E:n=xs.length)(a:∀j x,xs[j]? = some x→w.cell? ⟨b,j,none⟩=some (.int .i64 x))(hr:∀x∈xs, -9223372036854775808≤x∧x≤9223372036854775807)(C:n≤1000000)(hc:n≤c) :
  Calls Tryz.prog 22 #[(b,n,c)] w (zq5 w (rats xs)):=by
 have s:=hid E;have V:=hid a;have P:=hid hr;have ad:n≤9223372036854775807:=by omega
 have M:=hid C;clear E a hr C;go_enter Tryz.func22,Tryz.ntmps22;go_wp2
 go_loopw [3,8] (fun Z i wr=>∃(k:Nat) (o:OA) (q c':Nat),i=.int .i64 k∧Z=(o,q,c')∧k≤n∧VecS wr w.heap.size (o,q,c') (rats (xs.take k))∧Below w.heap.size w wr)
  (fun _ i _=>n-(intOf i).toNat)
 case atStart=>exact⟨0,none,0,0,rfl,rfl,Nat.zero_le _,VecS.nil _ _,Below.refl _ _⟩
 case round =>
  obtain⟨k,o,q,c',rfl,rfl,hk,l,p⟩:=hrel;have R:=hid l;have f:=hid p;by_cases X:k<n
  ·obtain⟨x,a⟩:∃x,xs[k]? = some x:=⟨xs[k]'(by rw[←s.out];exact X),List.getElem?_eq_getElem _⟩
   have h0:wr.cell? ⟨b,k,none⟩=some (.int .i64 x):=zab f.out (V.out k x a);have O:=hid a;have u:=hid (P.out x (List.mem_of_getElem? a));have ab:(0:Int)≤(k:Int):=Int.natCast_nonneg _;have ac:(k:Int)<(n:Int):=by omega
   clear p l a;go_wp2_with fail
   refine(Rt.int x u.out.1 u.out.2 _).mono ?_;rintro e w2 ⟨g,A,m,c2,D,md,cd,rfl,hq,hb⟩;have z:=hid (show w.heap.size≤w2.heap.size from Nat.le_trans f.out.size hb.size);have I:=hid (f.out.trans (hb.mono f.out.size));have S:=hid (R.out.below hb);have Q:=hid hq;clear hb hq
   go_wp2_with (at_builtin;go_loud (refine zev rfl _ _ rfl rfl (S.out.alloc _) rfl (zal _ _ _) (Q.out.alloc _) (by unfold rats;rw[List.length_map,List.length_take];have:=M.out;omega) (by have:=z.out;simp;omega) ?_;intro G n3 W w3 F B Y;have U:=hid F;have J:=hid B;clear F B))
   subst Y;exact⟨⟨k+1,G,_,W,by simp,rfl,by omega,by rw[zvj O.out];exact U.out,(I.out.alloc z.out _).trans J.out⟩,by simp[intOf];omega⟩
  ·obtain rfl:k=n:=by omega
   have K:=hid l;clear p l;go_wp2;go_ret
   refine⟨_,_,_,rfl,?_,f.out⟩;have h:=K.out;rw[s.out,List.take_length]at h;exact h
end Vc
def fr (p d:Int):Rat:=if d=0 then (p:Rat)else Rat.divInt p d
theorem zAG{d:Int}(h:d=0):fr p d=(p:Rat):=by unfold fr;rw[if_pos h]
theorem zDB{d:Int}(h:d≠0):fr p d=Rat.divInt p d:=by unfold fr;rw[if_neg h]
namespace Lw
theorem zxr(p d:Int)(f:d=0)(j : -9223372036854775808≤p)(k:p≤9223372036854775807)(w:World):Calls Tryz.prog 48 #[.agg #[.int .i64 p,.int .i64 d]] w (ze4 w (fr p d)):=by
 have n:=hid (zAG (p:=p) f);have G:(d == 0)=true:=by rw[f];rfl
 have i:=hid (And.intro j k);clear j k f;obtain⟨W,a⟩:∃W,((w.alloc (.cells #[.int .i64 p,.int .i64 d] 114)).alloc (.cells #[false,(),()] 49))=W:=⟨_,rfl⟩
 have q:=hid (show W.heap[w.heap.size]? = some (.cells #[.int .i64 p,.int .i64 d] 114 (0,0))by rw[←a];exact zak (zam (by simp)));have s:=hid (show W.heap[w.heap.size+1]? = some (.cells #[false,(),()] 49 (0,0))by rw[←a];exact zam (by simp));have g:=hid (show Below w.heap.size w W by rw[←a];exact(zae w _).alloc (by simp) _);obtain⟨I,_,J,_⟩:=bc2 q.out;go_enter Tryz.func48,Tryz.ntmps48;go_wp2_with fail
 clear a;with_reducible refine(Rt.int p i.out.1 i.out.2 _).mono ?_
 rintro e w1 ⟨g3,A3,m3,c3,D3,md3,cd3,rfl,hn,hb⟩;have l:=hid (zad hb s.out);have o:=hid (show RatS w1 g3 (A3,m3,c3) (D3,md3,cd3) (p:Rat)from hn);have z:=hid (g.out.trans ((hb).mono g.out.size));obtain⟨D,B,M,_,E,u,K,_,C,F,O,_⟩:=bf3 l.out;clear hn hb;go_wp2;refine bodyPost_ret (v:=.agg #[g3,(A3,m3,c3),(D3,md3,cd3)]) (by simp[results,Tryz.results48,go_sem,D,B,E,u,C,F]) rfl ?_;rw[n.out]
 exact⟨g3,A3,m3,c3,D3,md3,cd3,rfl,o.out.set3 l.out (by decide) _ _ _,bsc (bsc (bsc z.out))⟩
end Lw
def mw (q:Rat):Nat:=max (wlen q.num.natAbs) (wlen q.den)
theorem zd2(q:Rat):wlen q.num.natAbs≤mw q:=Nat.le_max_left _ _
theorem zds(q:Rat):wlen q.den≤mw q:=Nat.le_max_right _ _
theorem zfO(x y:Int):wlen (x*y).natAbs≤wlen x.natAbs+wlen y.natAbs:=by rw[Int.natAbs_mul];exact zdy _ _
theorem zvC(x y:Int):wlen (x+y).natAbs≤max (wlen x.natAbs) (wlen y.natAbs)+1:=Nat.le_trans (zco (Int.natAbs_add_le x y)) (zgg _ _)
theorem zhX(x y:Int)(a:y≠0):mw (Rat.divInt x y)≤max (wlen x.natAbs) (wlen y.natAbs):=by
 have h1:wlen (Rat.divInt x y).num.natAbs≤wlen x.natAbs:=by
  rw[←Rt.div_num x y a];split
  ·rw[Int.natAbs_neg,Int.natAbs_natCast];exact zco (Nat.div_le_self _ _)
  ·rw[Int.natAbs_natCast];exact zco (Nat.div_le_self _ _)
 have e:wlen (Rat.divInt x y).den≤wlen y.natAbs:=by rw[←Rt.div_den x y a];exact zco (Nat.div_le_self _ _)
 unfold mw;omega
theorem zrl(a b:Rat):((a.den*b.den:Nat):Int)≠0:=by have:=Nat.mul_pos a.den_pos b.den_pos;omega
theorem ztR(a b:Rat):Rat.divInt (a.num*(b.den:Int)+b.num*(a.den:Int)) ((a.den*b.den:Nat):Int)=a+b:=by rw[Rat.add_def',Rat.divInt_ofNat]
theorem zu5(a b:Rat):Rat.divInt (a.num*b.num) ((a.den*b.den:Nat):Int)=a*b:=by rw[Rat.mul_def',Rat.divInt_ofNat]
theorem zpc(a b:Rat):wlen (a.num*(b.den:Int)+b.num*(a.den:Int)).natAbs≤mw a+mw b+1:=by
 have h1:=zvC (a.num*(b.den:Int)) (b.num*(a.den:Int));have e:=zfO a.num (b.den:Int);have f:=zfO b.num (a.den:Int);rw[Int.natAbs_natCast]at e f;have:=zd2 a;have:=zd2 b;have:=zds a;have:=zds b;omega
theorem zic(a b:Rat):wlen (((a.den*b.den:Nat):Int)).natAbs≤mw a+mw b:=by
 rw[Int.natAbs_natCast];have:=zdy a.den b.den;have:=zds a;have:=zds b;omega
theorem zpd(a b:Rat):wlen (a.num*b.num).natAbs≤mw a+mw b:=by
 have:=zfO a.num b.num;have:=zd2 a;have:=zd2 b;omega
theorem zrI(a b:Rat):mw (a+b)≤mw a+mw b+1:=by
 rw[←ztR];have:=zhX (a.num*(b.den:Int)+b.num*(a.den:Int)) _ (zrl a b);have:=zpc a b;have:=zic a b;omega
theorem zdI(a b:Rat):mw (a*b)≤mw a+mw b:=by
 rw[←zu5];have:=zhX (a.num*b.num) _ (zrl a b);have:=zpd a b;have:=zic a b;omega
theorem zhY(a:Rat):mw (-a)=mw a:=by unfold mw;rw[Rat.neg_num,Rat.neg_den,Int.natAbs_neg]
def ziR (B:World) (s:Value) (w:World) (z:Int):Prop:=∃(nb:Nat) (g:Bool) (A:OA) (m c:Nat),s=.pointer (some ⟨nb,0,none⟩)∧Below B.heap.size B w∧B.heap.size≤nb∧w.heap[nb]? = some (.cells #[g,(A,m,c)] 47 (0,0))∧IntS w g (A,m,c) z
theorem ziR.of{z:Int}(e:Below B.heap.size B ((u.setCell ⟨a,0,none⟩ g).setCell ⟨a,1,none⟩ (A,m,c)))(i:B.heap.size≤a)(hk:u.heap[a]? = some (.cells #[v0,v1] 47 (0,0)))(f:IntS u g (A,m,c) z) :
  ziR B (.pointer (some ⟨a,0,none⟩)) ((u.setCell ⟨a,0,none⟩ g).setCell ⟨a,1,none⟩ (A,m,c)) z :=
 ⟨a,g,A,m,c,rfl,e,i,zar _ (zar _ hk),f.set2 hk (by decide) _ _⟩
def zcD (B:World) (s:Value) (w:World) (q:Rat):Prop:=∃(nb:Nat) (g:Bool) (A:OA) (m c:Nat) (D:OA) (md cd:Nat),s=.pointer (some ⟨nb,0,none⟩)∧Below B.heap.size B w∧B.heap.size≤nb∧w.heap[nb]? = some (.cells #[g,(A,m,c),(D,md,cd)] 49 (0,0))∧RatS w g (A,m,c) (D,md,cd) q
theorem zcD.of{f e:Nat}{l:Value}(i:Below B.heap.size B (((u.setCell ⟨a,0,none⟩ g).setCell ⟨a,1,none⟩ (A,m,c)).setCell ⟨a,2,none⟩ (D,f,e)))(k:B.heap.size≤a)(hk:u.heap[a]? = some (.cells #[v0,v1,l] 49 (0,0)))(j:RatS u g (A,m,c) (D,f,e) q) :
  zcD B (.pointer (some ⟨a,0,none⟩)) (((u.setCell ⟨a,0,none⟩ g).setCell ⟨a,1,none⟩ (A,m,c)).setCell ⟨a,2,none⟩ (D,f,e)) q :=
 ⟨a,g,A,m,c,D,f,e,rfl,i,k,zar _ (zar _ (zar _ hk)),j.set3 hk (by decide) _ _ _⟩
theorem zbc{w1:World}{cs:Array Value}{t:TypeId}(a:Below w.heap.size w w1)(h:w.heap[b]? = some (.cells cs t (0,0))):w1.heap[b]? = some (.cells cs t (0,0)):=zad a h
theorem IntS.nat(h:IntS w g s (n:Int)):zas w s n:=h.abs
end Go.Proofs.YtbhfhkcdfmmmiaaGreatDoor
namespace Am
variable {m:Nat}{T:Nat→Nat→Rat}{d x y z:Nat→Rat}
structure Dic (m N:Nat) (A:Nat→Nat→Rat) (b:Nat→Rat) (β:Nat→Nat) (T:Nat→Nat→Rat) (x:Nat→Rat):Prop where
  lt:∀k,k<m→β k<N
  inj:∀k l,k<m→l<m→β k=β l→k=l
  uni:∀r k,r<m→k<m→T r (β k)=if k=r then 1 else 0
  row:∀r,r<m→∃Y:Nat→Rat,(∀j,j<N→T r j=zai m fun i=>Y i*A i j)∧x r=zai m fun i=>Y i*b i
  col:∀j,j<N→∀i,i<m→zai m (fun k=>A i (β k)*T k j)=A i j
  sol:∀i,i<m→zai m (fun k=>A i (β k)*x k)=b i
structure Pri (m N:Nat) (A:Nat→Nat→Rat) (c:Nat→Rat) (β:Nat→Nat) (y d:Nat→Rat):Prop where
  eq:∀j,j<N→d j=c j-zai m fun i=>y i*A i j
  zero:∀k,k<m→d (β k)=0
def Bas (m:Nat) (β:Nat→Nat) (j:Nat):Prop:=∃k,k<m∧β k=j
def pt (m:Nat) (β:Nat→Nat) (x:Nat→Rat) (j:Nat):Rat:=zai m fun k=>if β k=j then x k else 0
theorem zyA{N:Nat}{β:Nat→Nat}(h:∀k,k<m→β k<N)(x f:Nat→Rat):zai N (fun j=>f j*pt m β x j)=zai m fun k=>f (β k)*x k:=by
 have e:zai N (fun j=>f j*pt m β x j)=zai N fun j=>zai m fun k=>if β k=j then f (β k)*x k else 0:=zaj fun j _=>by
  unfold pt;rw[←za7];exact zaj fun k _=>by
   split
   ·rename_i e;rw[e]
   ·grind
 rw[e,zbq];refine zaj fun k hk=>?_
 rw[zbI (k:=β k) (h k hk) fun j _ hj=>if_neg (Ne.symm hj),if_pos rfl]
theorem zA7{β:Nat→Nat}(h:∀k l,k<m→l<m→β k=β l→k=l)(x:Nat→Rat){k:Nat}(hk:k<m):pt m β x (β k)=x k:=by
 unfold pt;rw[zbI hk fun l a f=>if_neg fun e=>f (h l k a hk e),if_pos rfl]
theorem zyz{β:Nat→Nat}(x:Nat→Rat){j:Nat}(h:¬Bas m β j):pt m β x j=0 :=
 zcn fun k hk=>if_neg fun e=>h ⟨k,hk,e⟩
theorem zKL{n:Nat}{f:Nat→Rat}(h:zai n f<0):∃i,i<n∧f i<0:=by
 induction n with
 | zero=>simp only[zai]at h;grind
 | succ n ih =>
  rw[zai]at h;by_cases e:f n<0
  ·exact⟨n,by omega,e⟩
  ·obtain⟨i,g,a⟩:=ih (by grind);exact⟨i,by omega,a⟩
section
variable {m N:Nat} {A:Nat→Nat→Rat} {b c:Nat→Rat}
theorem Dic.line{β:Nat→Nat}(h:Dic m N A b β T x){r:Nat}(hr:r<m)(g:∀i,i<m→zai N (fun j=>A i j*z j)=b i):zai N (fun j=>T r j*z j)=x r:=by
 obtain⟨Y,h1,a⟩:=h.row r hr;have e:zai N (fun j=>T r j*z j)=zai N fun j=>zai m fun i=>Y i*(A i j*z j):=zaj fun j hj=>by
  rw[h1 j hj,←zb6];exact zaj fun i _=>by grind
 rw[e,zbq,a];exact zaj fun i f=>by rw[za7,g i f]
theorem Dic.pt_sol{β:Nat→Nat}(h:Dic m N A b β T x):∀i,i<m→zai N (fun j=>A i j*pt m β x j)=b i:=fun i a=>by
 rw[zyA h.lt x fun j=>A i j];exact h.sol i a
theorem Pri.cost{β:Nat→Nat}(h:Pri m N A c β y d){v:Nat→Rat}(f:∀i,i<m→zai N (fun j=>A i j*z j)=v i):zai N (fun j=>c j*z j)=zai m (fun i=>y i*v i)+zai N (fun j=>d j*z j):=by
 have e:zai N (fun j=>c j*z j)=zai N fun j=>zai m (fun i=>y i*(A i j*z j))+d j*z j:=zaj fun j hj=>by
  have:zai m (fun i=>y i*(A i j*z j))=zai m (fun i=>y i*A i j)*z j:=by rw[←zb6];exact zaj fun i _=>by grind
  rw[this,h.eq j hj];grind
 rw[e,zcm,zbq]
 congr 1
 exact zaj fun i a=>by rw[za7,f i a]
theorem Pri.value{β:Nat→Nat}(h:Pri m N A c β y d)(a:Dic m N A b β T x):zai N (fun j=>c j*pt m β x j)=zai m fun i=>y i*b i:=by
 rw[h.cost a.pt_sol,zyA a.lt x d,zcn (f:=fun k=>d (β k)*x k) fun k hk=>by rw[h.zero k hk];grind];grind
theorem Pri.same{β γ:Nat→Nat}{g e:Nat→Rat}(h:Pri m N A c β y d)(p:Pri m N A c γ g e)(n:Dic m N A b β T x)(s:∀k,k<m→e (β k)=0):∀j,j<N→d j=e j:=by
 intro j hj
 -- d - e is a sum of lines,0 in the basis
 have u:∀j,j<N→d j-e j=zai m fun k=>T k j*(d (β k)-e (β k)):=by
  intro j hj;have l:∀j,j<N→d j-e j=zai m fun i=>(g i-y i)*A i j:=fun j hj=>by
   rw[h.eq j hj,p.eq j hj];have:zai m (fun i=>(g i-y i)*A i j)=zai m (fun i=>g i*A i j+(-1)*(y i*A i j)):=zaj fun i _=>by grind
   rw[this,zcm,za7];grind
  rw[l j hj];have o:zai m (fun k=>T k j*(d (β k)-e (β k)))=zai m fun k=>zai m fun i=>(g i-y i)*(A i (β k)*T k j):=zaj fun k hk=>by
   rw[l _ (n.lt k hk),Rat.mul_comm,←zb6];exact zaj fun i _=>by grind
  rw[o,zbq];exact zaj fun i q=>by rw[za7,n.col j hj i q]
 have:=u j hj;rw[zcn (f:=fun k=>T k j*(d (β k)-e (β k))) fun k hk=>by rw[h.zero k hk,s k hk];grind]at this;grind
theorem Dic.only{β:Nat→Nat}(h:Dic m N A b β T x)(n:∀i,i<m→zai N (fun j=>A i j*z j)=b i)(h0:∀j,j<N→¬Bas m β j→z j=0):∀k,k<m→z (β k)=x k:=by
 intro k hk;have e:=h.line hk n;rw[zbI (k:=β k) (h.lt k hk) fun j hj g=>by
  by_cases a:Bas m β j
  ·obtain⟨l,f,rfl⟩:=a;rw[h.uni k l hk f,if_neg fun e=>g (by rw[e])];grind
  ·rw[h0 j hj a];grind,h.uni k k hk hk,if_pos rfl]at e
 grind
end
end Am
namespace Am
variable {a i s u:Nat}
structure Ring (m L:Nat) (β:Nat→Nat→Nat) (r t:Nat→Nat):Prop where
  inj:∀i,i≤L→∀k l,k<m→l<m→β i k=β i l→k=l
  at_:∀i,i<L→r i<m
  new:∀i,i<L→¬Bas m (β i) (t i)
  st:∀i,i<L→∀k,k<m→β (i+1) k=if k=r i then t i else β i k
  per:∀j,Bas m (β 0) j↔Bas m (β L) j
namespace Ring
variable {m L:Nat} {β:Nat→Nat→Nat} {r t:Nat→Nat} (h:Ring m L β r t)
include h
theorem bas_next(a:i<L)(u:Nat):Bas m (β (i+1)) u↔u=t i∨(u≠β i (r i)∧Bas m (β i) u):=by
 constructor
 ·rintro⟨k,hk,e⟩;rw[h.st i a k hk]at e;split at e
  ·exact .inl e.symm
  ·rename_i hne
   exact .inr ⟨fun f=>hne (h.inj i (by omega) k (r i) hk (h.at_ i a) (by rw[e,f])),k,hk,e⟩
 ·rintro(rfl | ⟨hne,k,hk,e⟩)
  ·exact⟨r i,h.at_ i a,by rw[h.st i a _ (h.at_ i a),if_pos rfl]⟩
  ·exact⟨k,hk,by rw[h.st i a k hk,if_neg fun f=>hne (by rw[←e,f])];exact e⟩
theorem enters(i:¬Bas m (β a) u):∀b,a≤b→b≤L→Bas m (β b) u→∃e,e<L∧t e=u:=by
  intro b
  induction b with
  | zero => intro h1 _ f;obtain rfl:a = 0:=by omega
            exact absurd f i
  | succ b ih =>
    intro h1 f g;by_cases e:a=b+1
    · subst e;exact absurd g i
    · rcases(h.bas_next (by omega) u).1 g with h4 | ⟨_,h4⟩
      · exact⟨b,by omega,h4.symm⟩
      · exact ih (by omega) (by omega) h4
theorem leaves(k:Bas m (β a) u):∀b,a≤b→b≤L→¬Bas m (β b) u→∃e,e<L∧β e (r e)=u:=by
  intro b
  induction b with
  | zero => intro h1 _ f;obtain rfl:a = 0:=by omega
            exact absurd k f
  | succ b ih =>
    intro h1 f g;by_cases e:a=b+1
    · subst e;exact absurd k g
    · by_cases i:Bas m (β b) u
      · by_cases j:u=β b (r b)
        · exact⟨b,by omega,j.symm⟩
        · exact absurd ((h.bas_next (by omega) u).2 (.inr ⟨j,i⟩)) g
      · exact ih (by omega) (by omega) i
theorem fickle{i':Nat}(g:i≤L)(k:i'≤L)(h1:Bas m (β i) u)(a:¬Bas m (β i') u):∃e,e<L∧t e=u:=by
 by_cases e:i'≤i
 ·exact h.enters a i e g h1
 ·by_cases f:Bas m (β L) u
  ·exact h.enters a L k (Nat.le_refl _) f
  ·exact h.enters (fun j=>f ((h.per u).1 j)) i (Nat.zero_le _) g h1
theorem gone(a:i<L):¬Bas m (β (i+1)) (β i (r i)):=by
 intro h1;rcases(h.bas_next a _).1 h1 with h2 | h2
 ·exact h.new i a ⟨r i,h.at_ i a,h2⟩
 ·exact h2.1 rfl
theorem out_in(a:i<L):∃e,e<L∧t e=β i (r i):=h.fickle (i:=i) (i':=i+1) (by omega) (by omega) ⟨r i,h.at_ i a,rfl⟩ (h.gone a)
theorem in_out(f:i<L):∃e,e<L∧β e (r e)=t i:=by
 have h1:Bas m (β (i+1)) (t i):=(h.bas_next f _).2 (.inl rfl);by_cases a:Bas m (β L) (t i)
 ·exact h.leaves ((h.per _).2 a) i (Nat.zero_le _) (by omega) (h.new i f)
 ·exact h.leaves h1 L (by omega) (Nat.le_refl _) a
omit h in
theorem top(j:0<L):∃e,e<L∧∀i,i<L→t i≤t e:=by
 have k:∀n,0<n→n≤L→∃e,e<n∧∀i,i<n→t i≤t e:=by
  intro n
  induction n with
  | zero=>intro h;omega
  | succ n ih =>
   intro _ p;by_cases l:n=0
   ·exact⟨n,by omega,fun i f=>by obtain rfl:i=n:=(by omega);exact Nat.le_refl _⟩
   ·obtain⟨e,o,hm⟩:=ih (by omega) (by omega);by_cases g:t n≤t e
    ·exact⟨e,by omega,fun i f=>by
      by_cases a:i=n
      ·rw[a];exact g
      ·exact hm i (by omega)⟩
    ·exact⟨n,by omega,fun i f=>by
      by_cases a:i=n
      ·rw[a];exact Nat.le_refl _
      ·have:=hm i (by omega);omega⟩
 exact k L j (Nat.le_refl _)
end Ring
theorem zMf(a b:Rat):a≤b∨b≤a:=Rat.le_total
theorem zLg{f:Nat→Rat}{L:Nat}(h:∀i,i<L→f i≤f (i+1))(e:f 0=f L):∀i,i<L→f i=f (i+1):=by
 have up:∀j,j≤L→f 0≤f j:=by
  intro j
  induction j with
  | zero=>intro _;exact Rat.le_refl
  | succ j ih=>intro hj;have:=ih (by omega);have:=h j (by omega);grind
 have down:∀d j,j+d=L→f j≤f L:=by
  intro d
  induction d with
  | zero=>intro j hj;rw[show j=L by omega];exact Rat.le_refl
  | succ d ih=>intro j hj;have:=ih (j+1) (by omega);have:=h j (by omega);grind
 intro i a;have:=up i (by omega);have:=down (L-(i+1)) (i+1) (by omega);have:=h i a;grind
section
variable {m N L:Nat} {A:Nat→Nat→Rat} {b c:Nat→Rat} {β:Nat→Nat→Nat} {T:Nat→Nat→Nat→Rat} {x y d:Nat→Nat→Rat} {r t:Nat→Nat}
theorem zKS(R:Ring m L β r t)(f:∀i,i≤L→Dic m N A b (β i) (T i) (x i))(a:∀i,i≤L→Pri m N A c (β i) (y i) (d i))(g:∀i,i<L→d i (t i)=0):∀i,i≤L→∀j,j<N→d i j=d 0 j:=by
 intro i
 induction i with
 | zero=>intro _ j _;rfl
 | succ i ih =>
  intro e j hj;rw[←ih (by omega) j hj];refine(a (i+1) e).same (a i (by omega)) (f (i+1) e) (fun k hk=>?_) j hj;rw[R.st i (by omega) k hk];split
  ·exact g i (by omega)
  ·exact(a i (by omega)).zero k hk
theorem zKG(R:Ring m L β r t)(e:∀i,i≤L→Dic m N A b (β i) (T i) (x i))(f:∀i,i≤L→Pri m N A c (β i) (y i) (d i))(a:i<L) :
  zai m (fun k=>y (i+1) k*b k)=zai m (fun k=>y i k*b k)+d i (t i)*x (i+1) (r i):=by
 rw[←(f (i+1) a).value (e (i+1) a),(f i (by omega)).cost (e (i+1) a).pt_sol,zyA (e (i+1) a).lt (x (i+1)) (d i)]
 congr 1
 rw[zbI (k:=r i) (R.at_ i a) fun k hk g=>by rw[R.st i a k hk,if_neg g,(f i (by omega)).zero k hk];grind,R.st i a _ (R.at_ i a),if_pos rfl]
theorem zMh(R:Ring m L β r t)(e:∀i,i≤L→Dic m N A b (β i) (T i) (x i))(a:i<L):T i (r i) (t i)*x (i+1) (r i)=x i (r i):=by
 rw[←(e i (by omega)).line (R.at_ i a) (e (i+1) a).pt_sol,zyA (e (i+1) a).lt (x (i+1)) (T i (r i)),
  zbI (k:=r i) (R.at_ i a) fun k hk f=>by rw[R.st i a k hk,if_neg f,(e i (by omega)).uni _ _ (R.at_ i a) hk,if_neg f];grind,R.st i a _ (R.at_ i a),if_pos rfl]
theorem zL0(a:∀i,i≤L→Dic m N A b (β i) (T i) (x i))(per:∀j,Bas m (β 0) j↔Bas m (β L) j):∀j,pt m (β 0) (x 0) j=pt m (β L) (x L) j:=by
 intro j;by_cases e:Bas m (β 0) j
 ·obtain⟨k,hk,rfl⟩:=e;rw[zA7 (a 0 (Nat.zero_le _)).inj _ hk];exact((a 0 (Nat.zero_le _)).only (a L (Nat.le_refl _)).pt_sol (fun j _ hj=>zyz _ fun h=>hj ((per j).2 h)) k hk).symm
 ·rw[zyz _ e,zyz _ fun h=>e ((per j).2 h)]
theorem zLk(a:∀i,i≤L→Dic m N A b (β i) (T i) (x i))(e:∀i,i≤L→Pri m N A c (β i) (y i) (d i))(per:∀j,Bas m (β 0) j↔Bas m (β L) j):zai m (fun k=>y 0 k*b k)=zai m (fun k=>y L k*b k):=by
 rw[←(e 0 (Nat.zero_le _)).value (a 0 (Nat.zero_le _)),←(e L (Nat.le_refl _)).value (a L (Nat.le_refl _))];exact zaj fun j _=>by rw[zL0 a per j]
theorem zKE(R:Ring m L β r t)(U:0<L)(p:∀i,i≤L→Dic m N A b (β i) (T i) (x i))(u:∀i,i≤L→Pri m N A c (β i) (y i) (d i))(W:∀i,i<L→∀j,j<N→0≤d i j)
  (Y:∀i,i<L→t i<N) (h1:∀i,i<L→x i (r i)<0∧∀k,k<m→x i k<0→β i (r i)≤β i k)
  (E:∀i,i<L→T i (r i) (t i)<0∧∀j,j<t i→T i (r i) j<0→d i (t i) * -T i (r i) j<d i j * -T i (r i) (t i)):False:=by
 have P:∀i,i<L→0<x (i+1) (r i):=fun i n=>by
  have e:=zMh R p n;have a:=(h1 i n).1;have g:=(E i n).1;rcases zMf (x (i+1) (r i)) 0 with h | h
  ·have:=Rat.mul_nonneg (show 0 ≤ -T i (r i) (t i)by grind) (show 0 ≤ -x (i+1) (r i)by grind);grind
  ·rcases Rat.le_iff_lt_or_eq.1 h with h | h
   ·exact h
   ·rw[←h]at e;grind
 have S:=zLg (f:=fun i=>zai m fun k=>y i k*b k) (L:=L) (fun i n=>by
  show zai m (fun k=>y i k*b k)≤zai m (fun k=>y (i+1) k*b k)
  rw[zKG R p u n];have:=Rat.mul_nonneg (W i n _ (Y i n)) (show 0≤x (i+1) (r i)by have:=P i n;grind);grind) (zLk p u R.per)
 have I:∀i,i<L→d i (t i)=0:=fun i n=>by
  have e:zai m (fun k=>y i k*b k)=zai m (fun k=>y (i+1) k*b k):=S i n;rw[zKG R p u n]at e;have:=P i n;have D:d i (t i)*x (i+1) (r i)=0:=by grind
  rcases Rat.mul_eq_zero.1 D with h | h
  ·exact h
  ·grind
 have G:=zKS R p u I;obtain⟨e,o,hm⟩:=Ring.top (t:=t) U;obtain⟨s,C,M⟩:=R.in_out o;have F:=p e (by omega);have q:=p s (by omega)
 -- the line by which the greatest comes in,at the point where it leaves
 have O:=F.line (R.at_ e o) q.pt_sol;rw[zyA q.lt (x s) (T e (r e))]at O;have neg:zai m (fun k=>T e (r e) (β s k)*x s k)<0:=by rw[O];exact(h1 e o).1
 obtain⟨k,hk,B⟩:=zKL neg;by_cases J:Bas m (β e) (β s k)
 ·obtain⟨l,X,hle⟩:=J;rw[←hle,F.uni _ _ (R.at_ e o) X]at B;split at B
  ·rename_i z
   subst z;have a:x s k<0:=by grind
   have g:=(h1 s C).2 k hk a;obtain⟨i,n,K⟩:=R.out_in o;have:=hm i n;rw[M,←hle]at g;have Q:t e=β e (r e):=by omega
   exact R.new e o ⟨r e,R.at_ e o,Q.symm⟩
  ·grind
 ·obtain⟨i,n,K⟩:=R.fickle (i:=s) (i':=e) (by omega) (by omega) ⟨k,hk,rfl⟩ J;have Z:=hm i n;rw[K]at Z;by_cases z:β s k=t e
  ·have D:k=r s:=q.inj k (r s) hk (R.at_ s C) (by rw[z,M]);have a:=(h1 s C).1;have g:=(E e o).1;rw[←D]at a;rw[z]at B;have:=Rat.mul_pos (show 0 < -T e (r e) (t e)by grind) (show 0 < -x s k by grind);grind
  ·have hx:¬x s k<0:=fun a=>by have:=(h1 s C).2 k hk a;omega
   have V:T e (r e) (β s k)<0:=by
    rcases zMf 0 (T e (r e) (β s k))with h | h
    ·have:=Rat.mul_nonneg h (show 0≤x s k by grind);grind
    ·rcases Rat.le_iff_lt_or_eq.1 h with h | h
     ·exact h
     ·rw[h]at B;grind
   have g:=(E e o).2 (β s k) (by omega) V;have z1:d e (t e)=0:=I e o;have z2:d e (β s k)=0:=by
    rw[G e (by omega) _ (q.lt k hk),←G s (by omega) _ (q.lt k hk)];exact(u s (by omega)).zero k hk
   rw[z1,z2]at g;grind
theorem zUa(R:Ring m L β r t)(f:∀i,i≤L→Dic m N A b (β i) (T i) (x i))(n:∀i,i<L→x (i+1) (r i)=0):∀i,i≤L→∀j,pt m (β i) (x i) j=pt m (β 0) (x 0) j:=by
 intro i
 induction i with
 | zero=>intro _ j;rfl
 | succ i ih =>
  intro g j;rw[←ih (by omega) j];have e:=(f i (by omega)).only (f (i+1) g).pt_sol fun j _ hj=>by
   by_cases a:Bas m (β (i+1)) j
   ·rcases(R.bas_next (by omega) j).1 a with h | h
    ·rw[h,show t i=β (i+1) (r i)by rw[R.st i (by omega) _ (R.at_ i (by omega)),if_pos rfl],zA7 (f (i+1) g).inj _ (R.at_ i (by omega)),n i (by omega)]
    ·exact absurd h.2 hj
   ·exact zyz _ a
  by_cases a:Bas m (β i) j
  ·obtain⟨k,hk,rfl⟩:=a;rw[e k hk,zA7 (f i (by omega)).inj _ hk]
  ·rw[zyz (x i) a];by_cases l:Bas m (β (i+1)) j
   ·rcases(R.bas_next (by omega) j).1 l with h | h
    ·rw[h,show t i=β (i+1) (r i)by rw[R.st i (by omega) _ (R.at_ i (by omega)),if_pos rfl],zA7 (f (i+1) g).inj _ (R.at_ i (by omega)),n i (by omega)]
    ·exact absurd h.2 a
   ·exact zyz _ l
def way (m:Nat) (β:Nat→Nat) (T:Nat→Nat→Rat) (s j:Nat):Rat:=(if j=s then 1 else 0)+pt m β (fun k => -T k s) j
theorem zST{β:Nat→Nat}{T:Nat→Nat→Rat}{x:Nat→Rat}(h:Dic m N A b β T x)(a:s<N):∀i,i<m→zai N (fun j=>A i j*way m β T s j)=0:=by
 intro i g;have e:zai N (fun j=>A i j*way m β T s j)=zai N (fun j=>(if j=s then A i s else 0)+A i j*pt m β (fun k => -T k s) j):=zaj fun j _=>by
  unfold way;split
  ·rename_i e;rw[e];grind
  ·grind
 rw[e,zcm,zyA h.lt _ fun j=>A i j,zbI (k:=s) a fun j _ hj=>if_neg hj,if_pos rfl,←h.col s a i g];have f:zai m (fun k=>A i (β k) * -T k s)=zai m (fun k=>(-1)*(A i (β k)*T k s)):=zaj fun k _=>by grind
 rw[f,za7];grind
theorem zUd{β:Nat→Nat}{T:Nat→Nat→Rat}(h:∀k,k<m→β k<N)(f:Nat→Rat)(a:s<N):zai N (fun j=>f j*way m β T s j)=f s+zai m (fun k=>f (β k) * -T k s):=by
 have e:zai N (fun j=>f j*way m β T s j)=zai N (fun j=>(if j=s then f s else 0)+f j*pt m β (fun k => -T k s) j):=zaj fun j _=>by
  unfold way;split
  ·rename_i e;rw[e];grind
  ·grind
 rw[e,zcm,zyA h _ f,zbI (k:=s) a fun j _ hj=>if_neg hj,if_pos rfl]
theorem zTi(R:Ring m L β r t)(X:0<L)(C:∀i,i≤L→Dic m N A b (β i) (T i) (x i))(q:∀i,i≤L→Pri m N A c (β i) (y i) (d i))(hx:∀i,i≤L→∀k,k<m→0≤x i k){may:Nat→Prop}
  (D:∀i,i<L→t i<N∧may (t i)) (h1:∀i,i<L→d i (t i)<0∧∀j,j<t i→may j→0≤d i j)
  (M:∀i,i<L→0<T i (r i) (t i)∧∀k,k<m→0<T i k (t i)→β i k<β i (r i)→x i (r i)*T i k (t i)<x i k*T i (r i) (t i)):False:=by
 have W:=zLg (f:=fun i => -zai m fun k=>y i k*b k) (L:=L) (fun i n=>by
  show -zai m (fun k=>y i k*b k) ≤ -zai m (fun k=>y (i+1) k*b k)
  rw[zKG R C q n];have:=Rat.mul_nonneg (show 0 ≤ -d i (t i)by have:=(h1 i n).1;grind) (hx (i+1) n (r i) (R.at_ i n));grind) (by show -_ = -_;rw[zLk C q R.per])
 have xz:∀i,i<L→x (i+1) (r i)=0:=fun i n=>by
  have e : -zai m (fun k=>y i k*b k) = -zai m (fun k=>y (i+1) k*b k):=W i n;rw[zKG R C q n]at e;have:=(h1 i n).1;have F:d i (t i)*x (i+1) (r i)=0:=by grind
  rcases Rat.mul_eq_zero.1 F with h | h
  ·grind
  ·exact h
 have O:=zUa R C xz;have K:∀u,(∃e,e<L∧t e=u)→∀i,i≤L→pt m (β i) (x i) u=0:=by
  rintro u ⟨e,B,rfl⟩ i n;rw[O i n,←O e (by omega),zyz _ (R.new e B)]
 obtain⟨e,B,hm⟩:=Ring.top (t:=t) X;obtain⟨s,o,E⟩:=R.in_out B;have De:=C e (by omega);have p:=C s (by omega)
 -- what the greatest's leaving makes way for,by the prices where it comes in
 have S:=(q s (by omega)).cost (z:=way m (β s) (T s) (t s)) (v:=fun _=>0) (zST p (D s o).1);have U:=(q e (by omega)).cost (z:=way m (β s) (T s) (t s)) (v:=fun _=>0) (zST p (D s o).1)
 rw[S,zUd p.lt _ (D s o).1,zUd p.lt _ (D s o).1,zcn (f:=fun i=>y s i*0) fun i _=>by grind,zcn (f:=fun i=>y e i*0) fun i _=>by grind,
  zcn (f:=fun k=>d s (β s k) * -T s k (t s)) fun k hk=>by rw[(q s (by omega)).zero k hk];grind]at U
 have n1:=(h1 s o).1;have le:=hm s o;have ne:t s≠t e:=fun h=>R.new s o ⟨r s,R.at_ s o,by rw[E,h]⟩
 have n2:=(h1 e B).2 (t s) (by omega) (D s o).2;have neg:zai m (fun k=>d e (β s k) * -T s k (t s))<0:=by grind
 obtain⟨k,hk,I⟩:=zKL neg;have Z:¬Bas m (β e) (β s k):=by
  rintro⟨l,hl,hle⟩;rw[←hle,(q e (by omega)).zero l hl]at I;grind
 have V:=R.fickle (i:=s) (i':=e) (by omega) (by omega) ⟨k,hk,rfl⟩ Z;obtain⟨i,n,G⟩:=V;have hu:=hm i n;rw[G]at hu;by_cases J:β s k=t e
 ·have F:k=r s:=p.inj k (r s) hk (R.at_ s o) (by rw[J,E]);have a:=(h1 e B).1;have g:=(M s o).1;rw[J,F]at I;have:=Rat.mul_pos (show 0 < -d e (t e)by grind) g;grind
 ·have aa:=(h1 e B).2 (β s k) (by omega) (by rw[←G];exact(D i n).2);have Y:0<T s k (t s):=by
   rcases zMf (T s k (t s)) 0 with h | h
   ·have:=Rat.mul_nonneg aa (show 0 ≤ -T s k (t s)by grind);grind
   ·rcases Rat.le_iff_lt_or_eq.1 h with h | h
    ·exact h
    ·rw[←h]at I;grind
  have g:=(M s o).2 k hk Y (by rw[E];omega);have P:=K _ ⟨i,n,G⟩ s (by omega);have Q:=K (t e) ⟨e,B,rfl⟩ s (by omega);rw[zA7 p.inj _ hk]at P;rw[←E,zA7 p.inj _ (R.at_ s o)]at Q;rw[P,Q]at g;grind
end
end Am
namespace Am
variable {N m:Nat}
def binom:Nat→Nat→Nat
  | _,0=>1
  | 0,_+1=>0
  | n+1,k+1=>binom n (k+1)+binom n k
def marks:Nat→Nat→List (List Bool)
  | 0,0=>[[]]
  | 0,_+1=>[]
  | n+1,0=>(marks n 0).map (false :: ·)
  | n+1,k+1=>(marks n (k+1)).map (false :: ·)++(marks n k).map (true :: ·)
theorem zKl:∀n k,(marks n k).length=binom n k
 | 0,0=>rfl
 | 0,_+1=>rfl
 | n+1,0=>by unfold marks;rw[List.length_map,zKl n 0];cases n<;>rfl
 | n+1,k+1=>by unfold marks;rw[List.length_append,List.length_map,List.length_map,zKl n (k+1),zKl n k];rfl
theorem zKo:∀(l:List Bool) (n k:Nat),l.length=n→l.countP id=k→l∈marks n k
 | [],n,k,h1,h2=>by simp at h1 h2;subst h1 h2;simp[marks]
 | false::l,n,k,h1,h2=>by
  cases n with
  | zero=>simp at h1
  | succ n =>
   have:=zKo l n k (by simpa using h1) (by simpa using h2);cases k with
   | zero=>simp only[marks,List.mem_map];exact⟨l,this,rfl⟩
   | succ k=>simp only[marks,List.mem_append,List.mem_map];exact .inl ⟨l,this,rfl⟩
 | true::l,n,k,h1,h2=>by
  cases n with
  | zero=>simp at h1
  | succ n =>
   cases k with
   | zero=>simp at h2
   | succ k =>
    have:=zKo l n k (by simpa using h1) (by simpa using h2);simp only[marks,List.mem_append,List.mem_map];exact .inr ⟨l,this,rfl⟩
theorem pigeon{α:Type}:∀(l:List α) (n:Nat) (f:Nat→α),(∀i,i<n→f i∈l)→(∀i j,i<j→j<n→f i≠f j)→n≤l.length
 | [],n,f,h1,_=>by
  cases n with
  | zero=>exact Nat.le_refl _
  | succ n=>exact absurd (h1 0 (by omega)) (by simp)
 | a::l,n,f,h1,h2=>by
  by_cases h:∃i,i<n∧f i=a
  ·obtain⟨i,g,e⟩:=h;have:=pigeon l (n-1) (fun j=>if j<i then f j else f (j+1)) (fun j hj=>by
    have o:∀k,k<n→k≠i→f k∈l:=fun k hk q=>by
     rcases List.mem_cons.1 (h1 k hk)with h3 | h3
     ·rcases Nat.lt_or_ge k i with h4 | h4
      ·exact absurd (h3.trans e.symm) (h2 k i h4 g)
      ·exact absurd (e.trans h3.symm) (h2 i k (by omega) hk)
     ·exact h3
    show(if j<i then f j else f (j+1))∈l
    split
    ·exact o j (by omega) (by omega)
    ·exact o (j+1) (by omega) (by omega)) (fun j k p hk=>by
    show(if j<i then f j else f (j+1))≠(if k<i then f k else f (k+1))
    split
    ·split
     ·exact h2 j k p (by omega)
     ·exact h2 j (k+1) (by omega) (by omega)
    ·rw[if_neg (by omega)];exact h2 (j+1) (k+1) (by omega) (by omega))
   simp only[List.length_cons];omega
  ·have:=pigeon l n f (fun i g=>by
    rcases List.mem_cons.1 (h1 i g)with h3 | h3
    ·exact absurd ⟨i,g,h3⟩ h
    ·exact h3) h2
   simp only[List.length_cons];omega
noncomputable def markOf (N m:Nat) (β:Nat→Nat):List Bool:=by
 classical exact(List.range N).map fun j=>decide (Bas m β j)
theorem zK4(N m:Nat)(β:Nat→Nat):(markOf N m β).length=N:=by simp[markOf]
theorem zKD(p:Nat→Bool):∀n:Nat,(((List.range n).map p).countP id:Rat)=zai n fun j=>if p j=true then 1 else 0
 | 0=>rfl
 | n+1=>by
  rw[List.range_succ,List.map_append,List.countP_append,zai,←zKD p n];cases h:p n
  ·simp[h];grind
  ·simp[h]
theorem zKs:∀n:Nat,zai n (fun _=>1)=(n:Rat)
 | 0=>rfl
 | n+1=>by rw[zai,zKs n];simp
theorem zKF{β:Nat→Nat}(h1:∀k,k<m→β k<N)(g:∀k l,k<m→l<m→β k=β l→k=l):(markOf N m β).countP id=m:=by
 classical
 have e:((markOf N m β).countP id:Rat)=(m:Rat):=by
  unfold markOf;rw[zKD,←zKs m];have f:zai N (fun j=>if decide (Bas m β j)=true then (1:Rat)else 0)=zai N fun j=>1*pt m β (fun _=>1) j:=zaj fun j _=>by
   by_cases a:Bas m β j
   ·rw[if_pos (decide_eq_true a)];obtain⟨k,hk,rfl⟩:=a;rw[zA7 g _ hk];grind
   ·rw[if_neg (by simpa using a),zyz _ a];grind
  rw[f,zyA h1];exact zaj fun k _=>by grind
 exact_mod_cast e
theorem zLf{β γ:Nat→Nat}(h1:∀k,k<m→β k<N)(a:∀k,k<m→γ k<N)(e:markOf N m β=markOf N m γ):∀j,Bas m β j↔Bas m γ j:=by
 classical
 intro j;by_cases hj:j<N
 ·have:(markOf N m β)[j]? = (markOf N m γ)[j]?:=by rw[e]
  unfold markOf at this;rw[List.getElem?_map,List.getElem?_map,List.getElem?_range hj]at this;simpa using this
 ·constructor
  ·rintro⟨k,hk,e⟩;have:=h1 k hk;omega
  ·rintro⟨k,hk,e⟩;have:=a k hk;omega
theorem zLq{n:Nat}{β:Nat→Nat→Nat}(h1:∀i,i<n→∀k,k<m→β i k<N)(f:∀i,i<n→∀k l,k<m→l<m→β i k=β i l→k=l)(g:∀i j,i<j→j<n→¬∀u,Bas m (β i) u↔Bas m (β j) u):n≤binom N m:=by
 rw[←zKl];exact pigeon _ n (fun i=>markOf N m (β i)) (fun i a=>zKo _ _ _ (zK4 _ _ _) (zKF (h1 i a) (f i a))) (fun i j o hj e=>g i j o hj (zLf (h1 i (by omega)) (h1 j hj) e))
end Am
namespace Am
variable {n:Nat}
def ywc:Nat→(Nat→Nat)→Nat
  | 0,_=>0
  | n+1,f=>ywc n f+f n
theorem ywg{f:Nat→Nat}{k:Nat}:∀ {n:Nat},(∀i,i<n→f i≤k)→ywc n f≤n*k
 | 0,_=>by simp[ywc]
 | n+1,h=>by
  have h1:=ywg (n:=n) (fun i e=>h i (by omega));have a:=h n (by omega);rw[ywc,Nat.add_mul];omega
theorem yv4(f:Nat→Nat):∀n:Nat,((ywc n f:Nat):Rat)=zai n fun i=>(f i:Rat)
 | 0=>rfl
 | n+1=>by rw[ywc,zai,←yv4 f n];exact Rat.natCast_add _ _
def ywk (k:Nat):Nat→List (List Nat)
  | 0=>[[]]
  | n+1=>(List.range (k+1)).flatMap fun x=>(ywk k n).map (x :: ·)
theorem ywe(k:Nat):∀n,(ywk k n).length=(k+1)^n
 | 0=>rfl
 | n+1=>by
  have:∀m,((List.range m).flatMap fun x=>(ywk k n).map (x :: ·)).length=m*(k+1)^n:=fun m=>by
   induction m with
   | zero=>simp
   | succ m ih=>rw[List.range_succ,List.flatMap_append,List.length_append,ih];simp[ywe k n,Nat.add_mul]
  unfold ywk;rw[this,Nat.pow_succ,Nat.mul_comm]
theorem ywf{k:Nat}:∀ {n:Nat} {l:List Nat},l.length=n→(∀x∈l,x≤k)→l∈ywk k n
 | 0,l,h,_=>by rw[List.length_eq_zero_iff.1 h];simp[ywk]
 | n+1,[],h,_=>by cases h
 | n+1,x::l,h,hx=>by
  unfold ywk;exact List.mem_flatMap.2 ⟨x,List.mem_range.2 (by have:=hx x (List.mem_cons_self ..);omega),List.mem_map.2 ⟨l,ywf (by simpa using h) fun y a=>hx y (List.mem_cons_of_mem _ a),rfl⟩⟩
theorem yv3{q:Nat}:∀ {n a b:Nat},a<q^n→b<q^n→(∀j,j<n→a/q^j%q=b/q^j%q)→a=b
 | 0,a,b,ha,hb,_=>by simp at ha hb;omega
 | n+1,a,b,ha,hb,h=>by
  have h0:=h 0 (by omega);rw[Nat.pow_zero,Nat.div_one,Nat.div_one]at h0;rw[Nat.pow_succ]at ha hb;have e:=yv3 (q:=q) (n:=n) (a:=a/q) (b:=b/q) (Nat.div_lt_of_lt_mul (by rw[Nat.mul_comm];exact ha)) (Nat.div_lt_of_lt_mul (by rw[Nat.mul_comm];exact hb)) fun j hj=>by
   have:=h (j+1) (by omega);rw[Nat.pow_succ,Nat.mul_comm,←Nat.div_div_eq_div_mul,←Nat.div_div_eq_div_mul]at this;exact this
  rw[←Nat.div_add_mod a q,←Nat.div_add_mod b q,e,h0]
def sgB (n H:Nat):Nat:=((n+1)*H)^n
theorem siegel{H:Nat}{P Q:Nat→Nat→Nat}(G:∀i,i<n→∀j,j<n+1→P i j+Q i j≤H)(h1:1≤H):∃u v:Nat→Nat,(∀j,u j≤sgB n H∧v j≤sgB n H)∧(∃j,j<n+1∧u j≠v j) ∧
  ∀i,i<n→zai (n+1) (fun j=>((P i j:Rat)-(Q i j:Rat))*((u j:Rat)-(v j:Rat)))=0:=by
 generalize hB:sgB n H=B;have V:1≤(n+1)*H:=Nat.mul_pos (by omega) h1;let f:Nat→Nat→Nat:=fun a j=>a/(B+1)^j%(B+1)
 have dl:∀a j,f a j≤B:=fun a j=>Nat.le_of_lt_succ (Nat.mod_lt _ (by omega))
 let k:Nat→Nat→Nat:=fun a i=>ywc (n+1) fun j=>P i j*f a j+Q i j*(B-f a j)
 have M:∀a i,i<n→k a i≤(n+1)*(H*B):=fun a i g=>ywg fun j hj=>by
  have o:=G i g j hj;have S:P i j*f a j≤P i j*B:=Nat.mul_le_mul_left _ (dl a j);have U:Q i j*(B-f a j)≤Q i j*B:=Nat.mul_le_mul_left _ (Nat.sub_le _ _);have F:(P i j+Q i j)*B≤H*B:=Nat.mul_le_mul_right _ o;rw[Nat.add_mul]at F;omega
 have O:∃a b,a<b∧b<(B+1)^(n+1)∧∀i,i<n→k a i=k b i:=by
  refine Classical.byContradiction fun s=>?_
  have z:=pigeon (ywk ((n+1)*(H*B)) n) ((B+1)^(n+1)) (fun a=>(List.range n).map (k a)) (fun a _=>ywf (by simp) fun x K=>by
   obtain⟨i,g,rfl⟩:=List.mem_map.1 K;exact M a i (List.mem_range.1 g)) fun a b C p e=>s ⟨a,b,C,p,fun i g=>by
    have:=congrArg (fun l:List Nat=>l[i]?) e;simpa[List.getElem?_map,List.getElem?_range g]using this⟩
  rw[ywe]at z;have D:(n+1)*(H*B)+1≤(n+1)*H*(B+1):=by rw[Nat.mul_add,Nat.mul_assoc];omega
  have E:((n+1)*(H*B)+1)^n≤((n+1)*H*(B+1))^n:=Nat.pow_le_pow_left D n;rw[Nat.mul_pow,show((n+1)*H)^n=B from hB]at E;rw[Nat.pow_succ]at z;have R:0<(B+1)^n:=Nat.pow_pos (by omega);generalize (B+1)^n=X at *
  rw[Nat.mul_add,Nat.mul_one,Nat.mul_comm X B]at z;omega
 obtain⟨a,b,C,p,I⟩:=O;refine⟨f a,f b,fun j=>⟨dl a j,dl b j⟩,?_,fun i g=>?_⟩
 ·refine Classical.byContradiction fun s=>?_
  have:=yv3 (q:=B+1) (n:=n+1) (a:=a) (b:=b) (by omega) p fun j hj=>Classical.byContradiction fun h=>s ⟨j,hj,h⟩
  omega
 ·have e:=congrArg (fun x:Nat=>(x:Rat)) (I i g);have c:∀a,((k a i:Nat):Rat)=zai (n+1) (fun j=>((P i j:Rat)-(Q i j:Rat))*(f a j:Rat))+zai (n+1) fun j=>(Q i j:Rat)*(B:Rat):=fun a=>by
   rw[←zcm];refine(yv4 _ _).trans (zaj fun j _=>?_);have J:((B-f a j:Nat):Rat)=(B:Rat)-(f a j:Rat):=by
    have:=dl a j;have o:((B-f a j+f a j:Nat):Rat)=(B:Rat):=by rw[Nat.sub_add_cancel this]
    rw[Rat.natCast_add]at o;grind
   rw[Rat.natCast_add,Rat.natCast_mul,Rat.natCast_mul,J];grind
  rw[c a,c b]at e;have d:zai (n+1) (fun j=>((P i j:Rat)-(Q i j:Rat))*((f a j:Rat)-(f b j:Rat)))=zai (n+1) (fun j=>((P i j:Rat)-(Q i j:Rat))*(f a j:Rat))+(-1)*zai (n+1) (fun j=>((P i j:Rat)-(Q i j:Rat))*(f b j:Rat)):=by
   rw[←za7,←zcm];exact zaj fun j _=>by grind
  rw[d];grind
def yv2:Nat→(Nat→Nat)→Nat
  | 0,_=>1
  | n+1,f=>yv2 n f*f n
theorem ywa{f:Nat→Nat}{T:Nat}:∀ {n:Nat},(∀i,i<n→f i≤T)→yv2 n f≤T^n
 | 0,_=>by simp[yv2]
 | n+1,h=>by rw[yv2,Nat.pow_succ];exact Nat.mul_le_mul (ywa fun i a=>h i (by omega)) (h n (by omega))
theorem yv6{f:Nat→Nat}:∀ {n:Nat},(∀i,i<n→1≤f i)→1≤yv2 n f
 | 0,_=>Nat.le_refl _
 | n+1,h=>Nat.mul_pos (yv6 fun i a=>h i (by omega)) (h n (by omega))
theorem yv5{f:Nat→Nat}{j:Nat}:∀ {n:Nat},j<n→f j∣yv2 n f
 | 0,h=>absurd h (Nat.not_lt_zero _)
 | n+1,h=>by
  rw[yv2];by_cases e:j=n
  ·rw[e];exact Nat.dvd_mul_left _ _
  ·exact Nat.dvd_trans (yv5 (by omega)) (Nat.dvd_mul_right _ _)
theorem yv9(z:Int):((z.toNat:Rat)-((-z).toNat:Rat))=(z:Rat)∧z.toNat+(-z).toNat=z.natAbs:=by
 refine⟨?_,by omega⟩;have h:z=(z.toNat:Int)-((-z).toNat:Int):=by omega
 have a:(z:Rat)=((z.toNat:Int):Rat)-(((-z).toNat:Int):Rat):=by rw[←Rat.intCast_sub,←h]
 rw[a];rfl
theorem ywd(q:Rat):((q.num:Int):Rat)=q*((q.den:Nat):Rat):=by
 have h:=Rat.num_divInt_den q;rw[Rat.divInt_eq_div]at h;have dn:(((q.den:Nat):Int):Rat)≠0:=fun e=>q.den_nz (by exact_mod_cast e)
 have e:=Rat.div_mul_cancel (a:=((q.num:Int):Rat)) dn;rw[h]at e;exact e.symm
theorem cramer{T:Nat}{M:Nat→Nat→Rat}{b x:Nat→Rat}(h1:1≤T)(hr:∀y:Nat→Rat,(∀i,i<n→zai n (fun j=>M i j*y j)=0)→∀j,j<n→y j=0)(zM:∀i,i<n→∀j,j<n→(M i j).num.natAbs≤T∧(M i j).den≤T)(zb:∀i,i<n→(b i).num.natAbs≤T∧(b i).den≤T)
  (Z:∀i,i<n→zai n (fun j=>M i j*x j)=b i):∀j,j<n→∃p q:Int,q≠0∧x j=Rat.divInt p q∧p.natAbs≤sgB n (T^(n+2))∧q.natAbs≤sgB n (T^(n+2)):=by
 -- the numbers' row and what it makes,as one row
 let a:Nat→Nat→Rat:=fun i j=>if j<n then M i j else -b i
 have J:∀i,i<n→∀j,j<n+1→(a i j).num.natAbs≤T∧(a i j).den≤T:=fun i g j hj=>by
  show(if j<n then M i j else -b i).num.natAbs≤T∧(if j<n then M i j else -b i).den≤T
  by_cases h:j<n
  ·rw[if_pos h];exact zM i g j h
  ·rw[if_neg h,Rat.neg_num,Rat.neg_den,Int.natAbs_neg];exact zb i g
 obtain⟨D,o⟩:∃D:Nat→Nat,∀i,D i=yv2 (n+1) fun j=>(a i j).den:=⟨_,fun _=>rfl⟩
 have U:∀i,i<n→D i≤T^(n+1):=fun i g=>by rw[o];exact ywa fun j hj=>(J i g j hj).2
 have S:∀i,1≤D i:=fun i=>by rw[o];exact yv6 fun j _=>Nat.pos_of_ne_zero (a i j).den_nz
 obtain⟨z,I⟩:∃z:Nat→Nat→Int,∀i j,z i j=(a i j).num*((D i/(a i j).den:Nat):Int):=⟨_,fun _ _=>rfl⟩
 have hz:∀i j,j<n+1→((z i j:Int):Rat)=(D i:Rat)*a i j:=fun i j hj=>by
  obtain⟨c,hc⟩:=(yv5 (f:=fun j=>(a i j).den) hj)
  rw[←o i]at hc;have p:0<(a i j).den:=Nat.pos_of_ne_zero (a i j).den_nz;have e:D i/(a i j).den=c:=by rw[hc];exact Nat.mul_div_cancel_left _ p
  rw[I,e,Rat.intCast_mul];have q2:((a i j).num:Rat)=a i j*((a i j).den:Rat):=ywd (a i j);have W:(D i:Rat)=((a i j).den:Rat)*(c:Rat):=by rw[hc];exact Rat.natCast_mul _ _
  rw[W,q2];show a i j*((a i j).den:Rat)*(c:Rat)=_
  grind
 have zH:∀i,i<n→∀j,j<n+1→(z i j).natAbs≤T^(n+2):=fun i g j hj=>by
  rw[I,Int.natAbs_mul,Int.natAbs_natCast,Nat.pow_succ (m:=n+1),Nat.mul_comm];exact Nat.mul_le_mul (Nat.le_trans (Nat.div_le_self _ _) (U i g)) (J i g j hj).1
 obtain⟨u,v,G,⟨k,af,Y⟩,X⟩:=siegel (n:=n) (H:=T^(n+2)) (P:=fun i j=>(z i j).toNat) (Q:=fun i j=>(-z i j).toNat) (fun i g j hj=>by rw[(yv9 _).2];exact zH i g j hj) (Nat.pow_pos h1);obtain⟨d,s⟩:∃d:Nat→Rat,∀j,d j=(u j:Rat)-(v j:Rat):=⟨_,fun _=>rfl⟩
 have E:∀i,i<n→zai n (fun j=>M i j*d j)=b i*d n:=fun i g=>by
  have e:=X i g;have K:zai (n+1) (fun j=>(((z i j).toNat:Rat)-((-z i j).toNat:Rat))*((u j:Rat)-(v j:Rat)))=(D i:Rat)*zai (n+1) (fun j=>a i j*d j):=by
   rw[←za7];exact zaj fun j hj=>by rw[(yv9 _).1,hz i j hj,s];grind
  rw[K]at e;have V:(D i:Rat)≠0:=fun h=>by
   have h1:=S i;have C:D i=0:=by exact_mod_cast h
   omega
  have B:zai (n+1) (fun j=>a i j*d j)=0:=by
   rcases Rat.mul_eq_zero.1 e with h | h
   ·exact absurd h V
   ·exact h
  rw[zai]at B;have O:zai n (fun j=>a i j*d j)=zai n fun j=>M i j*d j:=zaj fun j hj=>by show(if j<n then M i j else -b i)*d j=_;rw[if_pos hj]
  have R:a i n = -b i:=if_neg (Nat.lt_irrefl n);rw[O,R]at B;grind
 have F:d n≠0:=fun h0=>by
  have zz:=hr d fun i g=>by rw[E i g,h0];grind
  have h1:d k=0:=by
   by_cases e:k=n
   ·rw[e];exact h0
   ·exact zz k (by omega)
  rw[s]at h1;exact Y (by have C:(u k:Rat)=(v k:Rat):=(by grind);exact_mod_cast C)
 intro j hj;have aa:x j*d n=d j:=by
  have:=hr (fun j=>x j*d n-d j) (fun i g=>by
   have e:zai n (fun j=>M i j*(x j*d n-d j))=zai n (fun j=>M i j*x j)*d n+(-1)*zai n (fun j=>M i j*d j):=by
    rw[←zb6,←za7,←zcm];exact zaj fun j _=>by grind
   rw[e,Z i g,E i g];grind) j hj
  grind
 have l:∀j,d j=(((u j:Int)-(v j:Int):Int):Rat):=fun j=>by rw[s,Rat.intCast_sub];rfl
 refine⟨(u j:Int)-(v j:Int),(u n:Int)-(v n:Int),fun h=>F (by rw[l,h];rfl),?_,by have:=G j;omega,by have:=G n;omega⟩;rw[Rat.divInt_eq_div,←l,←l,←aa];exact(Rat.mul_div_cancel F).symm
