/- Contracts and lemmas: Prob1 Lp2 Lp3 Prim1 Prim2 Prim3 AppZ. Conditions: as each says. -/
import Derived.Test.YtbpjabgfcbjjmaaGreatRat2Ye
import Derived.Test.YtbpjabgfcbjjmaaGreatEtaYe
import Derived.Lib.AppendZerosOnto
set_option linter.all false
set_option maxHeartbeats 1000000
set_option maxRecDepth 100000
namespace Go.Proofs.YtbpjabgfcbjjmaaGreat
open Go.RowKit Am
variable {b c n:Nat}{A:OA}
theorem zLy:(Tryz.prog.info? 101).map (λi=>(i.zero,i.size,i.bytes))=some (some (.agg #[(),.int .i64 0,false,(),()]),5,88):=ξ
structure PRow where
  coef:List Rat
  kind:Int
  rhs:Rat
instance:Inhabited PRow:=⟨⟨[],0,0⟩⟩
structure RR where
  c:Value
  k:Int
  g:Bool
  s:Value
  d:Value
def zcW (l:List RR):List Value:=l.flatMap λr=>[r.c,.int .i64 r.k,.bool r.g,r.s,r.d]
theorem zd4(r:RR)(l:List RR):zcW (r::l)=r.c::.int .i64 r.k::.bool r.g::r.s::r.d::zcW l:=by simp[zcW]
theorem zKq(a b:List RR):zcW (a++b)=zcW a++zcW b:=by simp[zcW]
theorem zqG(l:List RR):∀(k:Nat) (r:RR),l[k]? = some r->(zcW l)[k*5]? = some r.c/\(zcW l)[k*5+1]? = some (.int .i64 r.k)/\(zcW l)[k*5+2]? = some (.bool r.g)/\(zcW l)[k*5+3]? = some r.s/\(zcW l)[k*5+4]? = some r.d:=by
 induction l with
 | nil=>grind
 | cons a l ih =>
  intro k r h;rw[zd4];cases k with
  | zero=>grind
  | succ k =>
   have:=ih k r (by simpa using h);rw[show(k+1)*5=k*5+1+1+1+1+1 by omega];grind
theorem zpb(l:List RR):∀(k:Nat) (c:Value),(zcW l).set (k*5) c=zcW (l.modify k λr=>{ r with c:=c }):=by
 induction l with
 | nil=>intro k c;simp[zcW]
 | cons a l ih =>
  intro k c;cases k with
  | zero=>simp[zd4]
  | succ k=>rw[show(k+1)*5=k*5+1+1+1+1+1 by omega,zd4];simp[zd4,ih]
structure RowS (w:World) (r:RR) (p:PRow):Prop where
  coef:VecS w 0 r.c p.coef
  kind:r.k=p.kind
  rhs:RatS w r.g r.s r.d p.rhs
structure RowsS (w:World) (H:Nat) (v:Value) (ps:List PRow):Prop where
  row:∃l:List RR,l.length=ps.length/\(∀(k:Nat) (r:RR) (p:PRow),l[k]? = some r->ps[k]? = some p->RowS w r p)/\w.ownsRow H 101 5 v ps.length (zcW l)
theorem RowS.below{w w':World}{r:RR}{p:PRow}(h:RowS w r p)(hb:Below w w w'):RowS w' r p:=⟨h.coef.below hb,h.kind,h.rhs.below hb⟩
namespace RowsS
variable {w w':World} {H:Nat} {v:Value} {ps:List PRow}
theorem lt(h:RowsS w H v ps){k:Nat}(hk:v.ownBlock=some k):H<=k/\k<w.heap.size:=by obtain⟨l,_,_,h⟩:=h.row;exact h.lt k hk
theorem keepAll(h:RowsS w H v ps)(hk:∀k,v.ownBlock=some k->w'.heap[k]? = w.heap[k]?)(hr:∀r p,RowS w r p->RowS w' r p):RowsS w' H v ps:=by obtain⟨l,h1,d,e⟩:=h.row;exact⟨l,h1,λk r q a b=>hr _ _ (d k r q a b),zc9 e hk⟩
theorem below(h:RowsS w H v ps)(hb:Below w w w'):RowsS w' H v ps:=h.keepAll (λk hk=>hb.block k (h.lt hk).2) λ_ _ r=>r.below hb
theorem alloc(h:RowsS w H v ps)(o:Obj):RowsS (w.alloc o) H v ps:=h.below (zae w o)
theorem drew(h:RowsS w H v ps):RowsS w.drew H v ps:=h.below (zap w 1)
theorem base{a:Nat}(h:RowsS w H v ps)(hb:a<=H):RowsS w a v ps:=by obtain⟨l,h1,d,e⟩:=h.row;exact⟨l,h1,d,zbu e hb⟩
theorem nil(w:World)(H:Nat):RowsS w H () []:=⟨[],rfl,λk r q h=>by simp at h,Xo _ _ _ _⟩
theorem form(h:RowsS w H (A,n,c) ps):n=ps.length/\n<=c/\c<=maxLen/\((A=none/\c=0/\ps=[])\/∃g,A=some ⟨g,0,none⟩/\H<=g/\g<w.heap.size):=by
 obtain⟨l,_,_,e⟩:=h.row;rcases e.2 with ⟨d,a⟩ | ⟨g,cap,cur,d,hg,f,a,hm,_⟩
 injection d with e1 e2 e3;subst e1 e2 e3;exact⟨a.symm,Za _,Zb _,.inl ⟨rfl,rfl,Xk.1 a⟩⟩;grind
theorem len(h:RowsS w H (A,n,c) ps):n=ps.length:=h.form.1
theorem has(h:RowsS w H (A,n,c) ps)(f:0<n):∃g,A=some ⟨g,0,none⟩/\H<=g/\g<w.heap.size:=by obtain⟨h1,d,e,a | a⟩:=h.form;omega;exact a
theorem slice(h:RowsS w H v ps):∃A n c,v=.slice A n c:=by
 obtain⟨l,_,_,d⟩:=h.row;rcases d.2 with ⟨a,e⟩ | ⟨g,cap,cur,a,_⟩
 exact⟨_,_,_,a⟩;grind
theorem fro(h:RowsS w H (b,n,c) ps)(j:Nat):w.frozen? ⟨b,j,none⟩=false:=by have d:=h.len;subst d;obtain⟨l,_,_,a⟩:=h.row;exact a.frozenAt j
theorem at_(h:RowsS w H (b,n,c) ps){k:Nat}{p:PRow}(hk:ps[k]? = some p) :
  ∃(C:OA) (nc cc:Nat) (g:Bool) (A:OA) (m c:Nat) (D:OA) (f e:Nat),χ w b (k*5) (C,nc,cc)/\χ w b (k*5+1) (.int .i64 p.kind)/\χ w b (k*5+2) (.bool g) /\
   χ w b (k*5+3) (A,m,c)/\χ w b (k*5+4) (D,f,e)/\VecS w 0 (C,nc,cc) p.coef/\RatS w g (A,m,c) (D,f,e) p.rhs:=by
 have z:=h.len;subst z;obtain⟨l,h1,y,a⟩:=h.row;have B:=(ZF.1 hk).1;obtain⟨r,hr⟩:∃r,l[k]? = some r:=⟨l[k]' ω,Ze _⟩
 have d:=y k r p hr hk;obtain⟨C,nc,cc,i⟩:=d.coef.slice;obtain⟨A,m,c,D,f,e,j,o⟩:=d.rhs.shape;obtain⟨q,s,t,u,x⟩:=zqG l k r hr;refine⟨C,nc,cc,r.g,A,m,c,D,f,e,?_,?_,?_,?_,?_,?_,?_⟩;rw[a.cellAt _ ω,q,i];rw[a.cellAt _ ω,s,d.kind];rw[a.cellAt _ ω];exact t;rw[a.cellAt _ ω,u,j];rw[a.cellAt _ ω,x,o];rw[<-i];exact d.coef;rw[<-j,<-o];exact d.rhs
end RowsS
end Go.Proofs.YtbpjabgfcbjjmaaGreat
namespace Am
variable {cols:List Nat}{j k:Nat}
inductive Next where
  | stop:Next
  | bad:Nat->Next
  | piv:Nat->Nat->Next
structure RunOut where
  cols:List Nat
  at_:Option Nat
  n:Nat
  err:Bool
def pivs (next:List Nat->Next):Nat->List Nat->RunOut
  | 0,cols => match next cols with
    | .stop=>⟨cols,none,0,false⟩
    | .bad k=>⟨cols,some k,0,false⟩
    | .piv _ _=>⟨cols,none,0,true⟩
  | f + 1,cols => match next cols with
    | .stop=>⟨cols,none,0,false⟩
    | .bad k=>⟨cols,some k,0,false⟩
    | .piv k j=>{ pivs next f (cols.set k j)with n:=(pivs next f (cols.set k j)).n+1 }
def zvo (next:List Nat->Next) (cols:List Nat):Nat->List Nat
  | 0=>cols
  | i + 1 => match next (zvo next cols i) with
    | .piv k j=>(zvo next cols i).set k j
    | _=>zvo next cols i
theorem zmc(next:List Nat->Next)(cols:List Nat){k j:Nat}(h:next cols=.piv k j):∀i,zvo next cols (i+1)=zvo next (cols.set k j) i
 | 0=>by simp only[zvo,h]
 | i+1=>by rw[zvo,zmc next cols h i];rfl
theorem zLj(next:List Nat->Next):∀f cols,(pivs next f cols).n<=f
 | 0,cols=>by unfold pivs;split<;>exact Za _
 | f+1,cols=>by
  unfold pivs;split
  exact Zb _;exact Zb _;rename_i k j _;have:=zLj next f (cols.set k j);show _+1<=_;omega
theorem zoW(next:List Nat->Next):∀f cols,(pivs next f cols).cols=zvo next cols (pivs next f cols).n/\(∀i,i<(pivs next f cols).n->∃k j,next (zvo next cols i)=.piv k j) /\
  ((pivs next f cols).err=true->(pivs next f cols).n=f/\∃k j,next (zvo next cols f)=.piv k j) /\
  ((pivs next f cols).err=false->next (zvo next cols (pivs next f cols).n)=match (pivs next f cols).at_ with | none=>.stop | some k=>.bad k)/\((pivs next f cols).err=true->(pivs next f cols).at_=none)
 | 0,cols=>by
  unfold pivs;split
  rename_i h;exact⟨rfl,λi hi=>absurd hi (ZM _),λh=>(by cases h),λ_=>h,λ_=>rfl⟩;rename_i h;exact⟨rfl,λi hi=>absurd hi (ZM _),λh=>(by cases h),λ_=>h,λh=>(by cases h)⟩;rename_i h;exact⟨rfl,λi hi=>absurd hi (ZM _),λ_=>⟨rfl,_,_,h⟩,λh=>(by cases h),λ_=>rfl⟩
 | f+1,cols=>by
  unfold pivs;split
  rename_i h;exact⟨rfl,λi hi=>absurd hi (ZM _),λh=>(by cases h),λ_=>h,λ_=>rfl⟩;rename_i h;exact⟨rfl,λi hi=>absurd hi (ZM _),λh=>(by cases h),λ_=>h,λh=>(by cases h)⟩;rename_i k j h;obtain⟨a,b,c,d,e⟩:=zoW next f (cols.set k j);have s:=zmc next cols h;refine⟨by rw[s];exact a,λi hi=>?_,λg=>?_,λg=>by rw[s];exact d g,e⟩;cases i with
  | zero=>exact⟨k,j,h⟩
  | succ i=>rw[s];exact b i (Nat.lt_of_succ_lt_succ hi)
  grind
theorem zKI(next:List Nat->Next):∀f g cols,(pivs next f cols).err=false->(pivs next f cols).n<=g->pivs next g cols=pivs next f cols
 | 0,g,cols,h,_=>by
  cases hn:next cols with
  | stop=>cases g<;>simp only[pivs,hn]
  | bad k=>cases g<;>simp only[pivs,hn]
  | piv k j=>simp only[pivs,hn]at h;cases h
 | f+1,g,cols,h,hg=>by
  cases hn:next cols with
  | stop=>cases g<;>simp only[pivs,hn]
  | bad k=>cases g<;>simp only[pivs,hn]
  | piv k j =>
   simp only[pivs,hn]at h hg;cases g with
   | zero=>omega
   | succ g=>simp only[pivs,hn];rw[zKI next f g _ h ω]
theorem zKH(next:List Nat->Next):∀f g cols,(pivs next f cols).err=false->g<(pivs next f cols).n->(pivs next g cols).err=true/\(pivs next g cols).n=g
 | 0,g,cols,h,hg=>by have:=zLj next 0 cols;omega
 | f+1,g,cols,h,hg=>by
  cases hn:next cols with
  | stop=>simp only[pivs,hn]at hg;omega
  | bad k=>simp only[pivs,hn]at hg;omega
  | piv k j =>
   simp only[pivs,hn]at h hg;cases g with
   | zero=>simp only[pivs,hn];exact⟨trivial,trivial⟩
   | succ g =>
    simp only[pivs,hn];obtain⟨a,b⟩:=zKH next f g _ h ω;exact⟨a,ω⟩
def zbk (cols:List Nat) (xs:List Rat):Nat->Option Nat
  | 0=>none
  | k + 1 => match zbk cols xs k with
    | none=>if el xs k<0 then some k else none
    | some b=>if el xs k<0/\cols.getD k 0<cols.getD b 0 then some k else some b
def zi5 (cols:List Nat) (xs:List Rat):Option Nat:=zbk cols xs xs.length
theorem zdk(cols:List Nat)(xs:List Rat):∀n,match zbk cols xs n with
  | none=>∀k,k<n->0<=el xs k
  | some b=>b<n/\el xs b<0/\∀k,k<n->el xs k<0->cols.getD b 0<=cols.getD k 0
 | 0=>by simp only[zbk];omega
 | n+1=>by have d:=zdk cols xs n;simp only[zbk];grind
def za4 (p l:List Rat) (may:List Bool):Nat->Option Nat
  | 0=>none
  | j + 1 => if may.getD j false = true /\ el l j < 0 then
      match za4 p l may j with
      | none=>some j
      | some b=>if el p j / -el l j<el p b / -el l b then some j else some b
    else za4 p l may j
def zhy (p l:List Rat) (may:List Bool):Option Nat:=za4 p l may (min p.length (min l.length may.length))
theorem zdW(p l:List Rat)(may:List Bool):∀n,match za4 p l may n with
  | none=>∀j,j<n->may.getD j false=true->0<=el l j
  | some b=>b<n/\may.getD b false=true/\el l b<0/\∀j,j<n->may.getD j false=true->el l j<0->el p b / -el l b<=el p j / -el l j/\(j<b->el p b / -el l b<el p j / -el l j)
 | 0=>by simp only[za4];omega
 | n+1=>by
  have a:=zdW p l may n;simp only[za4];by_cases d:may.getD n false=true/\el l n<0;rw[if_pos d];cases h:za4 p l may n with
  | none =>
   rw[h]at a;grind
  | some b =>
   rw[h]at a;grind
  rw[if_neg d];cases h:za4 p l may n with
  | none =>
   rw[h]at a;grind
  | some b =>
   rw[h]at a;grind
def zbE (N:Nat) (A:List (List Rat)) (b c:List Rat) (may:List Bool) (cols:List Nat):Next :=
  match zi5 cols (za5 A b cols)with
  | none=>.stop
  | some k => match zhy (zaC N A cols c) (zk8 N A cols k) may with
    | none=>.bad k
    | some j=>.piv k j
def zx5 (N:Nat) (A:List (List Rat)) (c:List Rat) (cols:List Nat):Prop:=∀j,j<N->0<=el (zaC N A cols c) j
section
variable {m N:Nat} {A:List (List Rat)} {b c:List Rat}
structure DPiv (m N:Nat) (A:List (List Rat)) (b c:List Rat) (cols:List Nat) (k j:Nat):Prop where
  hk:k<m
  hj:j<N
  x:el (za5 A b cols) k<0
  xl:∀l,l<m->el (za5 A b cols) l<0->cols.getD k 0<=cols.getD l 0
  t:el (zav A cols j) k<0
  q:∀i,i<N->el (zav A cols i) k<0->el (zaC N A cols c) j / -el (zav A cols j) k<=el (zaC N A cols c) i / -el (zav A cols i) k/\(i<j->el (zaC N A cols c) j / -el (zav A cols j) k<el (zaC N A cols c) i / -el (zav A cols i) k)
theorem zwH(h:Basis m N A cols)(hc:c.length=N)(e:zbE N A b c (List.replicate N true) cols=.piv k j):DPiv m N A b c cols k j:=by
 have hm:∀i,i<N->(List.replicate N true).getD i false=true:=λi hi=>by rw[Zg,Z8,if_pos hi];rfl
 have s:(zaC N A cols c).length=N:=by unfold zaC;rw[zdt (by rw[zkb,hc]),hc]
 have ll:∀k,(zk8 N A cols k).length=N:=λk=>zkb _ _ _
 have r:∀k,min (zaC N A cols c).length (min (zk8 N A cols k).length (List.replicate N true).length)=N:=λk=>by rw[s,ll,ZO];omega
 unfold zbE at e;have d:=zdk cols (za5 A b cols) (za5 A b cols).length;split at e
 cases e;rename_i k' h1;unfold zi5 at h1;rw[h1,(h.vals_ok b).2]at d;simp only at d;split at e
 cases e;rename_i j' h2;injection e with e1 e2;subst e1 e2;unfold zhy at h2;rw[r]at h2;have f:=zdW (zaC N A cols c) (zk8 N A cols k') (List.replicate N true) N;rw[h2]at f;simp only at f;obtain⟨a,o,p⟩:=d;obtain⟨g,_,l,n⟩:=f;rw[h.line_el a g]at l n;exact⟨a,g,o,p,l,λi hi q=>by have:=n i hi (hm i hi) (by rw[h.line_el a hi];exact q);rw[h.line_el a hi]at this;exact this⟩
theorem zox{p q a b:Rat}(d:0<a)(hb:0<b):p/a<q/b↔p*b<q*a:=by rw[Rat.div_lt_iff d,show q/b*a=q*a/b by rw[Z5,Z5,YG,Rat.mul_comm b⁻¹,<-YG],Rat.lt_div_iff hb]
theorem DPiv.right(h:Basis m N A cols)(hc:c.length=N)(p:DPiv m N A b c cols k j)(r:zx5 N A c cols):zx5 N A c (cols.set k j):=by
 have f:=h.swap p.hk p.hj (by have:=p.t;grind);have d:=h.dic b;have n:=h.pri hc;have z:=f.pri hc;obtain⟨Y,x,_⟩:=d.row k p.hk
 -- what the prices are behind it
 have s:0<=el (zaC N A cols c) j / -el (zav A cols j) k:=by rw[Z5];exact Xg (r j p.hj) (XU (Yp.2 (by have:=p.t;grind)))
 generalize hth:el (zaC N A cols c) j / -el (zav A cols j) k=th at s;have y:el (zaC N A cols c) j+th*el (zav A cols j) k=0:=by have:=p.t;rw[<-hth];have e:el (zaC N A cols c) j / -el (zav A cols j) k * -el (zav A cols j) k=el (zaC N A cols c) j:=YH ψ;grind
 have o:Pri m N (en A) (el c) (λl=>(cols.set k j).getD l 0) (λi=>el (zcl A cols c) i-th*Y i) (λi=>el (zaC N A cols c) i+th*el (zav A cols i) k):=by
  refine⟨λi hi=>?_,λl a=>?_⟩;show el (zaC N A cols c) i+th*el (zav A cols i) k=_
  rw[n.eq i hi,x i hi];have:zai m (λt=>(el (zcl A cols c) t-th*Y t)*en A t i)=zai m (λt=>el (zcl A cols c) t*en A t i+(-th)*(Y t*en A t i)):=zaj λt _=>ψ
  rw[this,zcm,za7];grind;show el (zaC N A cols c) ((cols.set k j).getD l 0)+th*el (zav A cols ((cols.set k j).getD l 0)) k=0
  rw[gset (by rw[h.len];exact p.hk)];by_cases e:k=l;rw[if_pos e];exact y;rw[if_neg e];have u:el (zav A cols (cols.getD l 0)) k=if l=k then 1 else 0:=d.uni k l p.hk a
  rw[u,if_neg (Z4 e),n.zero l a];grind
 have same:=z.same o (f.dic b) o.zero;intro i hi;rw[same i hi];by_cases a:el (zav A cols i) k<0;have g:=(p.q i hi a).1;rw[hth]at g;have:th * -el (zav A cols i) k<=el (zaC N A cols c) i:=by have e:el (zaC N A cols c) i / -el (zav A cols i) k * -el (zav A cols i) k=el (zaC N A cols c) i:=YH ψ;rw[<-e];grind[Rat.mul_le_mul_of_nonneg_right]
 grind;have:=Xg s (show 0<=el (zav A cols i) k by grind);have:=r i hi;grind
end
end Am
namespace Am
variable {cols:List Nat}{j k:Nat}
def zfV (p:List Rat) (may:List Bool):Nat->Nat->Option Nat
  | 0,_=>none
  | f+1,j=>if may.getD j false=true/\el p j<0 then some j else zfV p may f (j+1)
def zdi (p:List Rat) (may:List Bool):Option Nat:=zfV p may p.length 0
theorem zKj(p:List Rat)(may:List Bool):∀f s,match zfV p may f s with
  | none=>∀j,s<=j->j<s+f->may.getD j false=true->0<=el p j
  | some b=>s<=b/\b<s+f/\may.getD b false=true/\el p b<0/\∀j,s<=j->j<b->may.getD j false=true->0<=el p j
 | 0,s=>by simp only[zfV];omega
 | f+1,s=>by have d:=zKj p may f (s+1);simp only[zfV];grind
def znH (cols:List Nat) (xs col:List Rat):Nat->Option Nat
  | 0=>none
  | k + 1 => if 0 < el col k then
      match znH cols xs col k with
      | none=>some k
      | some b=>if el xs k/el col k<el xs b/el col b\/(el xs k/el col k=el xs b/el col b/\cols.getD k 0<cols.getD b 0)then some k else some b
    else znH cols xs col k
def zDG (cols:List Nat) (xs col:List Rat):Option Nat:=znH cols xs col (min col.length cols.length)
theorem zKk(cols:List Nat)(xs col:List Rat):∀n,match znH cols xs col n with
  | none=>∀k,k<n->el col k<=0
  | some b=>b<n/\0<el col b/\∀k,k<n->0<el col k->el xs b/el col b<=el xs k/el col k/\(cols.getD k 0<cols.getD b 0->el xs b/el col b<el xs k/el col k)
 | 0=>by simp only[znH];omega
 | n+1=>by
  have a:=zKk cols xs col n;simp only[znH];by_cases i:0<el col n;rw[if_pos i];cases h:znH cols xs col n with
  | none =>
   rw[h]at a;grind
  | some b =>
   rw[h]at a;grind
  rw[if_neg i];cases h:znH cols xs col n with
  | none =>
   rw[h]at a;grind
  | some b =>
   rw[h]at a;grind
def zBX (N:Nat) (A:List (List Rat)) (b c:List Rat) (may:List Bool) (cols:List Nat):Next :=
  match zdi (zaC N A cols c) may with
  | none=>.stop
  | some j => match zDG cols (za5 A b cols) (zav A cols j) with
    | none=>.bad j
    | some k=>.piv k j
def zyF (m:Nat) (A:List (List Rat)) (b:List Rat) (cols:List Nat):Prop:=∀k,k<m->0<=el (za5 A b cols) k
section
variable {m N:Nat} {A:List (List Rat)} {b c:List Rat} {may:List Bool}
structure PPiv (m N:Nat) (A:List (List Rat)) (b c:List Rat) (may:List Bool) (cols:List Nat) (k j:Nat):Prop where
  hk:k<m
  hj:j<N
  hm:may.getD j false=true
  d:el (zaC N A cols c) j<0
  dl:∀i,i<j->may.getD i false=true->0<=el (zaC N A cols c) i
  t:0<el (zav A cols j) k
  q:∀l,l<m->0<el (zav A cols j) l->el (za5 A b cols) k/el (zav A cols j) k<=el (za5 A b cols) l/el (zav A cols j) l/\(cols.getD l 0<cols.getD k 0->el (za5 A b cols) k/el (zav A cols j) k<el (za5 A b cols) l/el (zav A cols j) l)
theorem zKp(hc:c.length=N):(zaC N A cols c).length=N:=by unfold zaC;rw[zdt (by rw[zkb,hc]),hc]
theorem zK6(h:Basis m N A cols)(hc:c.length=N)(e:zBX N A b c may cols=.piv k j):PPiv m N A b c may cols k j:=by
 have q:=zKp (A:=A) (cols:=cols) hc;unfold zBX at e;have a:=zKj (zaC N A cols c) may N 0;split at e
 cases e;rename_i j' h1;unfold zdi at h1;rw[q]at h1;rw[h1]at a;simp only at a;split at e
 cases e;rename_i k' h2;injection e with e1 e2;subst e1 e2;unfold zDG at h2;rw[(h.column_ok _).2,h.len,Ve]at h2;have d:=zKk cols (za5 A b cols) (zav A cols j') m;rw[h2]at d;simp only at d;obtain⟨_,r,f,g,l⟩:=a;obtain⟨n,o,p⟩:=d;exact⟨n,ω,f,g,λi hi hm=>l i (Zb _) hi hm,o,p⟩
theorem zo9(h:Basis m N A cols)(hk:k<m)(hj:j<N)(d:el (zav A cols j) k≠0):za5 A b (cols.set k j)=zsC m k (zav A cols j) (za5 A b cols):=by have a:=h.swap hk hj d;have e:=zp3 h.sq hk (h.column_ok j).1 d (h.vals_ok b).1;rw[<-zq6]at e;have:=znS a.sq a.reg e (zng _ _ _ _);rw[this];unfold za5;rw[a.len]
theorem PPiv.feas(h:Basis m N A cols)(p:PPiv m N A b c may cols k j)(f:zyF m A b cols):zyF m A b (cols.set k j):=by
 intro l a;rw[zo9 h p.hk p.hj (by have:=p.t;grind),zkK a];have i:0<=el (za5 A b cols) k/el (zav A cols j) k:=by rw[Z5];exact Xg (f k p.hk) (XU (Yp.2 p.t))
 split
 exact i;by_cases d:0<el (zav A cols j) l;have g:=(p.q l a d).1;have e:el (za5 A b cols) l/el (zav A cols j) l*el (zav A cols j) l=el (za5 A b cols) l:=YH ψ;have:=Vx g (XU d);grind;have:=Xg (show 0 <= -el (zav A cols j) l by grind) i;have:=f l a;grind
theorem zVH{cols:List Nat}(h:Basis m N A cols)(hc:c.length=N)(f:zyF m A b cols):∀i,Basis m N A (zvo (zBX N A b c may) cols i)/\zyF m A b (zvo (zBX N A b c may) cols i)
 | 0=>⟨h,f⟩
 | i+1=>by
  obtain⟨h1,a⟩:=zVH h hc f i;rw[zvo];split
  rename_i k j e;have p:=zK6 h1 hc e;exact⟨h1.swap p.hk p.hj (by have:=p.t;grind),p.feas h1 a⟩;exact⟨h1,a⟩
theorem ysX(h:Basis m N A cols)(hc:c.length=N)(f:zyF m A b cols)(n:Nat)(I:∀i,i<n->∃k j,zBX N A b c may (zvo (zBX N A b c may) cols i)=.piv k j):∀i j,i<j->j<n->¬∀u,Bas m (λk=>(zvo (zBX N A b c may) cols i).getD k 0) u↔Bas m (λk=>(zvo (zBX N A b c may) cols j).getD k 0) u:=by
 have p:=zVH (may:=may) h hc f;have E:∀i,∃F:Nat × Nat,i<n->zBX N A b c may (zvo (zBX N A b c may) cols i)=.piv F.1 F.2:=λi=>by
  by_cases hi:i<n
  simp_all
  exact⟨(0,0),λh=>absurd h hi⟩
 generalize hnx:zBX N A b c may=nx at *
 let K:Nat->Nat × Nat:=λi=>Classical.choose (E i)
 have C:∀i,i<n->nx (zvo nx cols i)=.piv (K i).1 (K i).2:=λi=>Classical.choose_spec (E i)
 have M:∀i,i<n->zvo nx cols (i+1)=(zvo nx cols i).set (K i).1 (K i).2:=λi hi=>by rw[zvo,C i hi]
 have g:∀i,i<n->PPiv m N A b c may (zvo nx cols i) (K i).1 (K i).2:=λi hi=>zK6 (p i).1 hc (by rw[hnx];exact C i hi)
 intro i j O hj per
 refine zTi (m:=m) (N:=N) (L:=j-i) (A:=en A) (b:=el b) (c:=el c) (β:=λa k=>(zvo nx cols (i+a)).getD k 0) (T:=λa r s=>el (zav A (zvo nx cols (i+a)) s) r) (x:=λa=>el (za5 A b (zvo nx cols (i+a)))) (y:=λa=>el (zcl A (zvo nx cols (i+a)) c)) (d:=λa=>el (zaC N A (zvo nx cols (i+a)) c)) (r:=λa=>(K (i+a)).1) (t:=λa=>(K (i+a)).2) (may:=λj=>may.getD j false=true)
  ⟨λa o=>(p (i+a)).1.inj,λa o=>(g (i+a) ω).hk,λa o hb=>?_,λa o k hk=>?_,?_⟩ ω (λa o=>(p (i+a)).1.dic b) (λa o=>(p (i+a)).1.pri hc) (λa o=>(p (i+a)).2) (λa o=>⟨(g (i+a) ω).hj,(g (i+a) ω).hm⟩)
  (λa o=>⟨(g (i+a) ω).d,λs J hm=>(g (i+a) ω).dl s J hm⟩) (λa o=>⟨(g (i+a) ω).t,λl B D G=>?_⟩)
 obtain⟨l,B,e⟩:=hb;have z:=((p (i+a)).1.pri hc).zero l B;simp only at e z;rw[e]at z;have:=(g (i+a) ω).d;grind;show(zvo nx cols (i+a+1)).getD k 0=_
 rw[M (i+a) ω,gset (by rw[(p (i+a)).1.len];exact(g (i+a) ω).hk)];grind;intro u;show Bas m (λk=>(zvo nx cols (i+0)).getD k 0) u↔Bas m (λk=>(zvo nx cols (i+(j-i))).getD k 0) u
 rw[show i+(j-i)=j by omega];exact per u;have q:=((g (i+a) ω).q l B D).2 G;rw[zox (g (i+a) ω).t D]at q;exact q
theorem zTd(h:Basis m N A cols)(hc:c.length=N)(f:zyF m A b cols):∀n,(∀i,i<n->∃k j,zBX N A b c may (zvo (zBX N A b c may) cols i)=.piv k j)->n<=binom N m:=λn a =>
 zLq (β:=λi k=>(zvo (zBX N A b c may) cols i).getD k 0) (λi _=>(zVH h hc f i).1.lt) (λi _=>(zVH h hc f i).1.inj) (ysX h hc f n a)
end
end Am
namespace Am
variable {cols:List Nat}{c xs:List Rat}{N i j k m t:Nat}
def sgn (q:Rat):Rat:=if q<0 then -1 else 1
theorem zDO(q:Rat):sgn q*sgn q=1:=by unfold sgn;split<;>grind
theorem zYm(q:Rat):0<=sgn q*q:=by unfold sgn;split<;>grind
def zt0 (A:List (List Rat)) (b:List Rat):List (List Rat):=(List.range A.length).map λk=>((A.getD k []).map λx=>sgn (el b k)*x)++zdL A.length k
def zwh (b:List Rat):List Rat:=b.map λq=>sgn q*q
def zKb (m:Nat) (c:List Rat):List Rat:=c++List.replicate m 0
def zJG (N m:Nat):List Rat:=List.replicate N 0++List.replicate m 1
def zKa (N m:Nat):List Nat:=(List.range m).map λk=>N+k
def zKc (N m:Nat):List Bool:=List.replicate N true++List.replicate m false
theorem zyo{f:Rat->Rat}(h:j<xs.length):el (xs.map f) j=f (el xs j):=by
 conv=>lhs;unfold el
 rw[zbU _ _ h 0];rfl
theorem zS9{ys:List Rat}:el (xs++ys) (xs.length+i)=el ys i:=by unfold el;rw[Zg,Zg,ZJ ω,show xs.length+i-xs.length=i by omega]
theorem zVe{a:Rat}{n:Nat}(h:i<n):el (List.replicate n a) i=a:=by unfold el;rw[Zg,Z8,if_pos h];rfl
theorem zSS(m:Nat)(c:List Rat):(zKb m c).length=c.length+m:=by simp[zKb]
theorem zSD(N m:Nat):(zJG N m).length=N+m:=by simp[zJG]
theorem zTq(h:j<N):el (zJG N m) j=0:=by unfold zJG;rw[zkF ψ,zVe h]
theorem zTp(h:t<m):el (zJG N m) (N+t)=1:=by unfold zJG;have:=zS9 (xs:=List.replicate N (0:Rat)) (ys:=List.replicate m 1) (i:=t);rw[ZO]at this;rw[this,zVe h]
theorem zTu(h:j<c.length):el (zKb m c) j=el c j:=by unfold zKb;rw[zkF h]
theorem zVP:el (zKb m c) (c.length+t)=0:=by unfold zKb;rw[zS9,zrm]
theorem zUA(h:j<N):(zKc N m).getD j false=true:=by unfold zKc;rw[Zg,Z1 ψ,Z8,if_pos h];rfl
theorem zUz(h:N<=j):(zKc N m).getD j false=false:=by unfold zKc;rw[Zg,ZJ ψ,Z8];split<;>rfl
theorem zUg(N m:Nat):(zKa N m).length=m:=by simp[zKa]
theorem zSI(h:k<m):(zKa N m).getD k 0=N+k:=by unfold zKa;rw[zbU _ _ ψ 0,zcA h]
section
variable {m N:Nat} {A:List (List Rat)} {b c:List Rat} (hA:Rect m N A) (hb:b.length=m)
include hA
theorem zwg(h:k<m):(zt0 A b).getD k []=((A.getD k []).map λx=>sgn (el b k)*x)++zdL m k:=by unfold zt0;rw[zbU _ _ (by rw[Yf,hA.len];exact h) 0,zcA (by rw[hA.len];exact h),hA.len]
theorem zSV:Rect m (N+m) (zt0 A b) :=
 ⟨by simp[zt0,hA.len],λi hi=>by rw[zwg hA hi,ZD,ZK,zfM,hA.row i hi]⟩
theorem zwf(h:k<m)(hj:j<N):en (zt0 A b) k j=sgn (el b k)*en A k j:=by unfold en;rw[zwg hA h,zkF (by rw[ZK,hA.row k h];exact hj),zyo (by rw[hA.row k h];exact hj)]
theorem zTs(h:k<m):en (zt0 A b) k (N+t)=if k=t then 1 else 0:=by unfold en;rw[zwg hA h];have:=zS9 (xs:=(A.getD k []).map λx=>sgn (el b k)*x) (ys:=zdL m k) (i:=t);rw[ZK,hA.row k h]at this;rw[this,zge h]
theorem zSU:Basis m (N+m) (zt0 A b) (zKa N m):=by
 refine⟨zSV hA,zUg _ _,λk hk=>by rw[zSI hk];omega,λk l hk a e=>by rw[zSI hk,zSI a]at e;omega,λx f j hj=>?_⟩;have:zai m (λi=>en (bc (zt0 A b) (zKa N m)) i j*x i)=0:=f j hj;have e:∀i,i<m->en (bc (zt0 A b) (zKa N m)) i j=if j=i then 1 else 0:=λi hi=>by rw[ztZ (by rw[zUg];exact hi) (by rw[(zSV hA).len];exact hj),zSI hi,zTs hA hj]
 rw[zbI (k:=j) hj λi hi d=>by rw[e i hi,if_neg (Z4 d)];grind,e j hj,if_pos rfl]at this;grind
omit hA in
theorem zzj{b:List Rat}(h:i<b.length):el (zwh b) i=sgn (el b i)*el b i:=by unfold zwh;rw[zyo h]
include hb
theorem zVO(hk:k<m):el (za5 (zt0 A b) (zwh b) (zKa N m)) k=sgn (el b k)*el b k:=by have a:=zSU (b:=b) hA;have e:=a.mk_en (a.vals_ok (zwh b)).1 hk;rw[zbI (k:=k) hk λi hi d=>by rw[zSI hi,zTs hA hk,if_neg (Z4 d)];grind,zSI hk,zTs hA hk,if_pos rfl,zzj ω]at e;grind
theorem zVN:zyF m (zt0 A b) (zwh b) (zKa N m):=λk hk=>by rw[zVO hA hb hk];exact zYm _
end
section
variable {m N:Nat} {A:List (List Rat)} {b c:List Rat} {may:List Bool}
theorem zTe(hc:c.length=N)(e:zBX N A b c may cols=.stop):∀j,j<N->may.getD j false=true->0<=el (zaC N A cols c) j:=by
 have d:=zKp (A:=A) (cols:=cols) hc;unfold zBX at e;have a:=zKj (zaC N A cols c) may N 0;split at e
 rename_i h1;unfold zdi at h1;rw[d]at h1;rw[h1]at a;intro j hj hm;exact a j (Zb _) ω hm;grind
theorem zSR(h:Basis m N A cols)(hc:c.length=N)(e:zBX N A b c may cols=.bad j) :
  j<N/\may.getD j false=true/\el (zaC N A cols c) j<0/\∀k,k<m->el (zav A cols j) k<=0:=by
 have f:=zKp (A:=A) (cols:=cols) hc;unfold zBX at e;have a:=zKj (zaC N A cols c) may N 0;split at e
 cases e;rename_i j' h1;unfold zdi at h1;rw[f]at h1;rw[h1]at a;simp only at a;split at e
 rename_i h2;injection e with e;subst e;unfold zDG at h2;rw[(h.column_ok _).2,h.len,Ve]at h2;have d:=zKk cols (za5 A b cols) (zav A cols j') m;rw[h2]at d;exact⟨ω,a.2.2.1,a.2.2.2.1,d⟩;cases e
theorem zUS(h:Basis m N A cols)(hc:c.length=N)(hj:j<N)(a:∀k,k<m->el (zav A cols j) k<=0) :
  (∀i,0<=way m (λk=>cols.getD k 0) (λr s=>el (zav A cols s) r) j i)/\(∀i,i<m->zai N (λs=>en A i s*way m (λk=>cols.getD k 0) (λr s=>el (zav A cols s) r) j s)=0) /\
  zai N (λs=>el c s*way m (λk=>cols.getD k 0) (λr s=>el (zav A cols s) r) j s)=el (zaC N A cols c) j:=by
 have D:=h.dic [];refine⟨λi=>?_,zST D hj,?_⟩;unfold way;have q:0<=pt m (λk=>cols.getD k 0) (λk => -el (zav A cols j) k) i:=by by_cases hb:Bas m (λk=>cols.getD k 0) i;obtain⟨k,hk,rfl⟩:=hb;rw[zA7 h.inj _ hk];have:=a k hk;grind;grind[zyz,Rat.le_refl]
 split<;>grind
 rw[(h.pri hc).cost (z:=way m (λk=>cols.getD k 0) (λr s=>el (zav A cols s) r) j) (v:=λ_=>0) (zST D hj),zUd h.lt _ hj,zcn (f:=λi=>el (zcl A cols c) i*0) λi _=>ψ,
  zcn (f:=λk=>el (zaC N A cols c) (cols.getD k 0) * -el (zav A cols j) k) λk hk=>by rw[(h.pri hc).zero k hk];grind]
 grind
theorem zVC(h:Basis m N A cols)(hc:c.length=N)(d:∀j,0<=el c j)(j:Nat):zBX N A b c may cols≠.bad j:=by intro e;obtain⟨h1,_,a,f⟩:=zSR h hc e;obtain⟨w1,_,g⟩:=zUS h hc h1 f;rw[<-g]at a;obtain⟨i,hi,k⟩:=zKL a;have:=Xg (d i) (w1 i);grind
end
end Am
namespace Am
variable {cols:List Nat}{j k:Nat}
theorem zTg{n:Nat}{f:Nat->Rat}(h0:∀i,i<n->0<=f i)(a:zai n f<=0):∀i,i<n->f i=0:=by
 induction n with
 | zero=>omega
 | succ n ih =>
  rw[zai]at a;have d:=h0 n ω;have j:0<=zai n f:=by
   have:=zUD (n:=n) (f:=λ_=>0) (g:=f) λi hi=>h0 i ω
   rw[zgd]at this;exact this
  grind
def zkZ (xs:List Rat):Nat->Nat->Option Nat
  | 0,_=>none
  | f+1,j=>if el xs j=0 then zkZ xs f (j+1)else some j
theorem zSM(xs:List Rat):∀f s,match zkZ xs f s with
  | none=>∀j,s<=j->j<s+f->el xs j=0
  | some b=>s<=b/\b<s+f/\el xs b≠0
 | 0,s=>by simp only[zkZ];omega
 | f+1,s=>by have a:=zSM xs f (s+1);simp only[zkZ];grind
def zuz (own N:Nat) (A:List (List Rat)) (k:Nat) (cn:List Nat × Nat):List Nat × Nat :=
  if own<=cn.1.getD k 0 then match zkZ (zk8 N A cn.1 k) own 0 with
    | none=>cn
    | some j=>(cn.1.set k j,cn.2+1)
  else cn
def zAd (own N:Nat) (A:List (List Rat)) (cols:List Nat):Nat->List Nat × Nat
  | 0=>(cols,0)
  | k+1=>zuz own N A k (zAd own N A cols k)
section
variable {m N own:Nat} {A:List (List Rat)} {b c:List Rat} {may:List Bool}
theorem zpV(h:Basis m N A cols)(hk:k<m)(hj:j<N)(d:el (zav A cols j) k≠0)(i:Nat):zav A (cols.set k j) i=zsC m k (zav A cols j) (zav A cols i):=by have a:=h.swap hk hj d;have e:=zp3 h.sq hk (h.column_ok j).1 d (h.column_ok i).1;rw[<-zq6]at e;have:=znS a.sq a.reg e (zng _ _ _ _);rw[this];unfold zav;rw[a.len]
structure Own (m N own:Nat) (A:List (List Rat)) (b:List Rat) (cols:List Nat) (K:Nat):Prop where
  basis:Basis m N A cols
  feas:zyF m A b cols
  zero:∀k,k<m->own<=cols.getD k 0->el (za5 A b cols) k=0
  line:∀k,k<K->k<m->own<=cols.getD k 0->∀j,j<own->el (zav A cols j) k=0
theorem Own.drive{cols:List Nat}(h:Own m N own A b cols 0)(z:own<=N):∀K,K<=m->Own m N own A b (zAd own N A cols K).1 K/\(zAd own N A cols K).2<=K
 | 0,_=>⟨h,Za _⟩
 | K+1,hK=>by
  obtain⟨a,B⟩:=Own.drive h z K ω;show Own m N own A b (zuz own N A K (zAd own N A cols K)).1 (K+1)/\(zuz own N A K (zAd own N A cols K)).2<=K+1
  generalize zAd own N A cols K=cn at *
  obtain⟨d,t⟩:=cn;simp only at a B;unfold zuz;simp only;split
  rename_i hart;have s:=zSM (zk8 N A d K) own 0;split
  rename_i h1;rw[h1]at s;refine⟨⟨a.basis,a.feas,a.zero,λk y n o j hj=>?_⟩,by simp only;omega⟩;by_cases e:k=K;subst e;rw[<-a.basis.line_el n ω];grind;exact a.line k ω n o j hj;rename_i j h1;rw[h1]at s;simp only at s;obtain⟨_,D,p⟩:=s;rw[a.basis.line_el ω ω]at p;have x:=a.zero K ω hart;have u:∀l,l<m->el (za5 A b (d.set K j)) l=el (za5 A b d) l:=λl g=>by rw[zo9 a.basis ω ω p,zkK g,x];grind
  have r:∀l,(d.set K j).getD l 0=if K=l then j else d.getD l 0:=λl=>gset (by rw[a.basis.len];omega)
  refine⟨⟨a.basis.swap ω ω p,λl g=>by rw[u l g];exact a.feas l g,λl g f=>?_,λl C q f i hi=>?_⟩,ω⟩;simp only at f;rw[r l]at f;split at f
  omega;rw[u l g];exact a.zero l g f;simp only at f;rw[r l]at f;split at f
  omega;rename_i hne;rw[zpV a.basis ω ω p,zkK q,if_neg (Z4 hne),a.line l ω q f i hi,a.line l ω q f j ω];grind;rename_i hown;refine⟨⟨a.basis,a.feas,a.zero,λk y n o j hj=>?_⟩,by simp only;omega⟩;by_cases e:k=K;grind;exact a.line k ω n o j hj
theorem Own.piv(h:Own m N own A b cols m)(p:PPiv m N A b c may cols k j)(hj:j<own):Own m N own A b (cols.set k j) m:=by
 have e:el (zav A cols j) k≠0:=by have:=p.t;grind
 have f:∀l,(cols.set k j).getD l 0=if k=l then j else cols.getD l 0:=λl=>gset (by rw[h.basis.len];exact p.hk)
 refine⟨h.basis.swap p.hk p.hj e,p.feas h.basis h.feas,λl a d=>?_,λl _ a d i hi=>?_⟩;rw[f l]at d;split at d
 omega;rename_i hne;rw[zo9 h.basis p.hk p.hj e,zkK a,if_neg (Z4 hne),h.line l a a d j hj,h.zero l a d];grind;rw[f l]at d;split at d
 omega;rename_i hne;rw[zpV h.basis p.hk p.hj e,zkK a,if_neg (Z4 hne),h.line l a a d j hj,h.line l a a d i hi];grind
theorem Own.seq{cols:List Nat}(h:Own m N own A b cols m)(hc:c.length=N)(hm:∀j,may.getD j false=true->j<own):∀i,Own m N own A b (zvo (zBX N A b c may) cols i) m
 | 0=>h
 | i+1=>by
  have a:=Own.seq h hc hm i;rw[zvo];split
  rename_i k j e;have p:=zK6 a.basis hc e;exact a.piv p (hm j p.hm);exact a
end
section
variable {m N:Nat} {A:List (List Rat)} {b c:List Rat} (hA:Rect m N A) (hb:b.length=m)
theorem zsq{z:Nat->Rat}(k:∀i,i<m->zai (N+m) (λj=>en (zt0 A b) i j*z j)=el (zwh b) i)(h0:∀t,t<m->z (N+t)=0)(hA:Rect m N A)(hb:b.length=m):∀i,i<m->zai N (λj=>en A i j*z j)=el b i:=by
 intro i hi;have e:=k i hi;rw[zgc _ N m,zcn (f:=λt=>en (zt0 A b) i (N+t)*z (N+t)) λt g=>by rw[h0 t g];grind,zzj ω]at e;have a:zai N (λj=>en (zt0 A b) i j*z j)=sgn (el b i)*zai N (λj=>en A i j*z j):=by rw[<-za7];exact zaj λj hj=>by rw[zwf hA hi hj];grind
 rw[a]at e;have s:=zDO (el b i);grind
theorem Own.art_zero(h:Own m (N+m) N (zt0 A b) (zwh b) cols m){t:Nat}(_:t<m):pt m (λk=>cols.getD k 0) (el (za5 (zt0 A b) (zwh b) cols)) (N+t)=0:=by by_cases hb:Bas m (λk=>cols.getD k 0) (N+t);obtain⟨k,hk,e⟩:=hb;simp only at e;rw[<-e,zA7 h.basis.inj _ hk];exact h.zero k hk (by rw[e];omega);grind[zyz]
theorem Own.fits(h:Own m (N+m) N (zt0 A b) (zwh b) cols m)(hA:Rect m N A)(hb:b.length=m) :
  (∀j,0<=pt m (λk=>cols.getD k 0) (el (za5 (zt0 A b) (zwh b) cols)) j)/\∀i,i<m->zai N (λj=>en A i j*pt m (λk=>cols.getD k 0) (el (za5 (zt0 A b) (zwh b) cols)) j)=el b i:=by
 refine⟨λj=>?_,zsq (h.basis.dic (zwh b)).pt_sol (λt a=>h.art_zero a) hA hb⟩;by_cases hb:Bas m (λk=>cols.getD k 0) j;obtain⟨k,hk,rfl⟩:=hb;rw[zA7 h.basis.inj _ hk];exact h.feas k hk;grind[zyz,Rat.le_refl]
theorem Own.best(h:Own m (N+m) N (zt0 A b) (zwh b) cols m)(hA:Rect m N A)(hb:b.length=m)(hc:c.length=N)(e:zBX (N+m) (zt0 A b) (zwh b) (zKb m c) (zKc N m) cols=.stop) :
  (∀j,j<N->zai m (λi=>sgn (el b i)*el (zcl (zt0 A b) cols (zKb m c)) i*en A i j)<=el c j) /\
  zai N (λj=>el c j*pt m (λk=>cols.getD k 0) (el (za5 (zt0 A b) (zwh b) cols)) j)=zai m λi=>sgn (el b i)*el (zcl (zt0 A b) cols (zKb m c)) i*el b i:=by
 have lc:(zKb m c).length=N+m:=by rw[zSS,hc]
 refine⟨λj hj=>?_,?_⟩;have:=zTe lc e j ω (zUA hj);rw[h.basis.prices_el lc ω,zTu ω,zaj λi hi=>by rw[zwf hA hi hj]]at this;rw[zaj (g:=λi=>el (zcl (zt0 A b) cols (zKb m c)) i*(sgn (el b i)*en A i j)) λi _=>ψ];grind;have v:=(h.basis.pri lc).value (h.basis.dic (zwh b));rw[zgc _ N m,zcn (f:=λt=>el (zKb m c) (N+t)*_) λt l=>by rw[<-hc,zVP];grind]at v;have a:zai N (λj=>el c j*pt m (λk=>cols.getD k 0) (el (za5 (zt0 A b) (zwh b) cols)) j)=zai N (λj=>el (zKb m c) j*pt m (λk=>cols.getD k 0) (λk=>el (za5 (zt0 A b) (zwh b) cols) k) j):=zaj λj hj=>by rw[zTu ω]
 have d:zai m (λi=>sgn (el b i)*el (zcl (zt0 A b) cols (zKb m c)) i*el b i)=zai m (λi=>el (zcl (zt0 A b) cols (zKb m c)) i*el (zwh b) i):=zaj λi hi=>by rw[zzj ω];grind
 rw[a,d,<-v];grind
theorem Own.ray(h:Own m (N+m) N (zt0 A b) (zwh b) cols m)(hA:Rect m N A)(hb:b.length=m)(hc:c.length=N)(e:zBX (N+m) (zt0 A b) (zwh b) (zKb m c) (zKc N m) cols=.bad j) :
  j<N/\(∀i,0<=way m (λk=>cols.getD k 0) (λr s=>el (zav (zt0 A b) cols s) r) j i)/\(∀i,i<m->zai N (λs=>en A i s*way m (λk=>cols.getD k 0) (λr s=>el (zav (zt0 A b) cols s) r) j s)=0) /\
  zai N (λs=>el c s*way m (λk=>cols.getD k 0) (λr s=>el (zav (zt0 A b) cols s) r) j s)<0:=by
 have lc:(zKb m c).length=N+m:=by rw[zSS,hc]
 obtain⟨h1,d,p,q⟩:=zSR h.basis lc e;have hj:j<N:=by grind[Nat.lt_or_ge,zUz]
 obtain⟨w1,u,x⟩:=zUS h.basis lc h1 q;have wz:∀t,t<m->way m (λk=>cols.getD k 0) (λr s=>el (zav (zt0 A b) cols s) r) j (N+t)=0:=λt a=>by
  unfold way;rw[if_neg ω];by_cases hb:Bas m (λk=>cols.getD k 0) (N+t);obtain⟨k,hk,e⟩:=hb;simp only at e;rw[<-e,zA7 h.basis.inj _ hk];show 0 + -el (zav (zt0 A b) cols j) k=0
  rw[h.line k hk hk (by rw[e];omega) j hj];grind;grind[zyz]
 refine⟨hj,w1,λi hi=>?_,?_⟩;have e:=u i hi;rw[zgc _ N m,zcn (f:=λt=>en (zt0 A b) i (N+t)*_) λt a=>by rw[wz t a];grind]at e;have n:zai N (λs=>en (zt0 A b) i s*way m (λk=>cols.getD k 0) (λr s=>el (zav (zt0 A b) cols s) r) j s)=sgn (el b i)*zai N (λs=>en A i s*way m (λk=>cols.getD k 0) (λr s=>el (zav (zt0 A b) cols s) r) j s):=by rw[<-za7];exact zaj λs l=>by rw[zwf hA hi l];grind
 rw[n]at e;have s:=zDO (el b i);grind;rw[<-x,zgc _ N m,zcn (f:=λt=>el (zKb m c) (N+t)*_) λt a=>by rw[wz t a];grind]at p;rw[zaj (g:=λs=>el (zKb m c) s*way m (λk=>cols.getD k 0) (λr s=>el (zav (zt0 A b) cols s) r) j s) λs l=>by rw[zTu ω]];grind
theorem zTS(h:Basis m (N+m) (zt0 A b) cols)(f:zyF m (zt0 A b) (zwh b) cols)(hA:Rect m N A)(hb:b.length=m)(e:zBX (N+m) (zt0 A b) (zwh b) (zJG N m) (zKc N m) cols=.stop) :
  (zai (N+m) (λj=>el (zJG N m) j*pt m (λk=>cols.getD k 0) (el (za5 (zt0 A b) (zwh b) cols)) j)<=0->Own m (N+m) N (zt0 A b) (zwh b) cols 0) /\
  (0<zai (N+m) (λj=>el (zJG N m) j*pt m (λk=>cols.getD k 0) (el (za5 (zt0 A b) (zwh b) cols)) j) ->
   (∀j,j<N->zai m (λi=>sgn (el b i)*el (zcl (zt0 A b) cols (zJG N m)) i*en A i j)<=0)/\0<zai m λi=>sgn (el b i)*el (zcl (zt0 A b) cols (zJG N m)) i*el b i):=by
 have lc:(zJG N m).length=N+m:=zSD _ _;have p:∀j,0<=pt m (λk=>cols.getD k 0) (el (za5 (zt0 A b) (zwh b) cols)) j:=λj=>by by_cases hb:Bas m (λk=>cols.getD k 0) j;obtain⟨k,hk,rfl⟩:=hb;rw[zA7 h.inj _ hk];exact f k hk;grind[zyz,Rat.le_refl]
 have l:∀j,j<N+m->0<=el (zJG N m) j:=λj hj=>by by_cases o:j<N;rw[zTq o];rfl;have:=zTp (N:=N) (m:=m) (t:=j-N) ω;rw[show N+(j-N)=j by omega]at this;rw[this];decide
 refine⟨λa=>⟨h,f,λk hk q=>?_,λk hk=>absurd hk (ZM _)⟩,λa=>⟨λj hj=>?_,?_⟩⟩;have:=zTg (λj hj=>Xg (l j hj) (p j)) a (cols.getD k 0) (h.lt k hk);have d:=zTp (N:=N) (m:=m) (t:=cols.getD k 0-N) (by have:=h.lt k hk;omega);rw[show N+(cols.getD k 0-N)=cols.getD k 0 by omega]at d;rw[d,zA7 h.inj _ hk]at this;grind;have:=zTe lc e j ω (zUA hj);rw[h.prices_el lc ω,zTq hj,zaj λi hi=>by rw[zwf hA hi hj]]at this;rw[zaj (g:=λi=>el (zcl (zt0 A b) cols (zJG N m)) i*(sgn (el b i)*en A i j)) λi _=>ψ];grind;have v:=(h.pri lc).value (h.dic (zwh b));have n:zai m (λi=>sgn (el b i)*el (zcl (zt0 A b) cols (zJG N m)) i*el b i)=zai m (λi=>el (zcl (zt0 A b) cols (zJG N m)) i*el (zwh b) i):=zaj λi hi=>by rw[zzj ω];grind
 rw[n,<-v];exact a
end
end Am
namespace Am
def zSz (own N:Nat) (A:List (List Rat)) (budget:Nat):Nat->Nat->List Nat × Nat->(List Nat × Nat) × Bool
  | 0,_,cn=>(cn,false)
  | f + 1,k,cn => if own <= cn.1.getD k 0 then match zkZ (zk8 N A cn.1 k) own 0 with
      | none=>zSz own N A budget f (k+1) cn
      | some j=>if budget<=cn.2 then (cn,true)else zSz own N A budget f (k+1) (cn.1.set k j,cn.2+1)
    else zSz own N A budget f (k+1) cn
def zSG (own N:Nat) (A:List (List Rat)):Nat->Nat->List Nat × Nat->List Nat × Nat
  | 0,_,cn=>cn
  | f+1,k,cn=>zSG own N A f (k+1) (zuz own N A k cn)
theorem zTL(own N:Nat)(A:List (List Rat))(cols:List Nat):∀f k,zSG own N A f k (zAd own N A cols k)=zAd own N A cols (k+f)
 | 0,k=>rfl
 | f+1,k=>by
  show zSG own N A f (k+1) (zAd own N A cols (k+1))=_
  rw[zTL own N A cols f (k+1),show k+1+f=k+(f+1)by omega]
theorem zS8(own N:Nat)(A:List (List Rat)):∀f k a,a.2<=(zSG own N A f k a).2
 | 0,_,_=>Za _
 | f+1,k,a=>by
  refine Zl ?_ (zS8 own N A f (k+1) (zuz own N A k a));unfold zuz;split
  split
  exact Za _;exact Nat.le_succ _;exact Za _
theorem zSC(own N:Nat)(A:List (List Rat))(B:Nat):∀f k a,(zSG own N A f k a).2<=B->zSz own N A B f k a=(zSG own N A f k a,false)
 | 0,_,_,_=>rfl
 | f+1,k,a,h=>by
  unfold zSz;show _=(zSG own N A f (k+1) (zuz own N A k a),false)
  have d:(zSG own N A f (k+1) (zuz own N A k a)).2<=B:=h;have mono:=zS8 own N A f (k+1) (zuz own N A k a);unfold zuz at d mono ⊢;by_cases h1:own<=a.1.getD k 0;rw[if_pos h1]at d mono ⊢;rw[if_pos h1];cases e:zkZ (zk8 N A a.1 k) own 0 with
  | none =>
   rw[e]at d;exact zSC own N A B f (k+1) a d
  | some j =>
   rw[e]at d mono;simp only at d mono ⊢;rw[if_neg ω];exact zSC own N A B f (k+1) _ d
  rw[if_neg h1]at d ⊢;rw[if_neg h1];exact zSC own N A B f (k+1) a d
theorem zSF(own N:Nat)(A:List (List Rat))(B:Nat):∀f k a,a.2<=B->B<(zSG own N A f k a).2->(zSz own N A B f k a).2=true/\(zSz own N A B f k a).1.2=B
 | 0,_,a,h0,h=>by simp only[zSG]at h;omega
 | f+1,k,a,h0,h=>by
  unfold zSz;have d:B<(zSG own N A f (k+1) (zuz own N A k a)).2:=h;unfold zuz at d;by_cases h1:own<=a.1.getD k 0;rw[if_pos h1]at d ⊢;cases e:zkZ (zk8 N A a.1 k) own 0 with
  | none =>
   rw[e]at d;exact zSF own N A B f (k+1) a h0 d
  | some j =>
   rw[e]at d;simp only at d ⊢;by_cases hb:B<=a.2;rw[if_pos hb];exact⟨rfl,by simp only;omega⟩;rw[if_neg hb];exact zSF own N A B f (k+1) _ (by simp only;omega) d
  rw[if_neg h1]at d ⊢;exact zSF own N A B f (k+1) a h0 d
inductive Out where
 | spent:Nat->Out
 | none:List Nat->Nat->Out
 | best:List Nat->Nat->Out
 | falls:List Nat->Nat->Nat->Out
def zSB (N m:Nat) (A:List (List Rat)) (b:List Rat) (cols:List Nat):Rat:=zai (N+m) λj=>el (zJG N m) j*pt m (λk=>cols.getD k 0) (el (za5 (zt0 A b) (zwh b) cols)) j
def zSA (N m:Nat) (A:List (List Rat)) (b c:List Rat) (B:Nat):Out :=
  let r:=pivs (zBX (N+m) (zt0 A b) (zwh b) (zJG N m) (zKc N m)) B (zKa N m)
  if r.err then .spent r.n
  else if 0<zSB N m A b r.cols then .none r.cols r.n
  else
    let d:=zSz N (N+m) (zt0 A b) (B-r.n) m 0 (r.cols,0)
    if d.2 then .spent (r.n+d.1.2)
    else
      let s:=pivs (zBX (N+m) (zt0 A b) (zwh b) (zKb m c) (zKc N m)) (B-(r.n+d.1.2)) d.1.1
      if s.err then .spent (r.n+d.1.2+s.n)
      else match s.at_ with
        | some j=>.falls s.cols j (r.n+d.1.2+s.n)
        | .none=>.best s.cols (r.n+d.1.2+s.n)
def Out.pivots:Out->Nat
  | .spent n=>n
  | .none _ n=>n
  | .best _ n=>n
  | .falls _ _ n=>n
section
variable {m N:Nat} {A:List (List Rat)} {b c:List Rat} (hA:Rect m N A) (hb:b.length=m) (hc:c.length=N)
include hA hb
end
end Am
namespace Go.Proofs.YtbpjabgfcbjjmaaGreat
open Go.RowKit Am
theorem zfG{P:Program}(w:World)(t o D e:TypeId)(i:TypeInfo)(z:Value)(C:IntKind)(j:P.underlying t=some (.slice e))(l:P.underlying o=some (.int C))(hi:P.info? e=some i)(n:i.zero=some z)
  (g zKx d:Nat) (cur:Array Value) (hg:θ w g cur e) (k:Nat) (G:0<i.size) (I:z.cells.size=i.size) (f:zKx+k<=d) (F:((zKx+k:Nat):Int)<=9223372036854775807) (E:k*i.bytes<=281474976710656)
  (r:zKx*i.size+(Builtin.zeroCells z.cells k).toList.length<=cur.size) (h1:∀u∈(Builtin.zeroCells z.cells k).toList,u.oneCell'=true) :
  (Builtin.append_ #[t,o] D #[(g,zKx,d),.int .i64 k]).run P w =
   .ok (g,zKx+k,d) (w.setRow g (cur.toList.take (zKx*i.size)++(Builtin.zeroCells z.cells k).toList++cur.toList.drop (zKx*i.size+(Builtin.zeroCells z.cells k).toList.length)).toArray):=by
 have hw:IntKind.i64.wrap (k:Int)=k:=by rw[IntKind.wrap_i64];omega
 have s:¬((k:Int)<0):=ω;have q:¬(281474976710656<(k:Int)*(i.bytes:Int)):=by rw[<-XO];omega
 have a:=run_storeCells_at P g (zKx*i.size) e (Builtin.zeroCells z.cells k).toList 0 cur w hg ω h1;simp only[Yj]at a;by_cases hk:k=0;subst hk;have p:Builtin.zeroCells z.cells 0=#[]:=by simp[Builtin.zeroCells]
 rw[p]at a ⊢;have B:IntKind.i64.wrap (0:Int)=0:=δ;have y:zKx<=d:=f;simp[Builtin.append_,run_underlying j,run_underlying l,sizeOf,typeInfo,zeroValue,hi,n,asInt,asIntOf,B,y,Addr.add_lit]at a ⊢;simp[a];have x:¬(k*i.size=0):=Nat.mul_ne_zero hk ω;simp[Builtin.append_,run_underlying j,run_underlying l,sizeOf,typeInfo,zeroValue,hi,n,asInt,asIntOf,hw,s,x,q,f,Addr.add_lit,a]
theorem zgk{P:Program}(w:World)(base:Nat)(t f r e:TypeId)(i:TypeInfo)(z:Value)(size D:Nat)(q:IntKind)(o:P.underlying t=some (.slice e))(p:P.underlying f=some (.int q))(hi:P.info? e=some i)(B:i.zero=some z)
  (T:i.size=size) (M:i.bytes=D) (C:z.cells.size=size) (y:0<size)
  (v:Value) (n:Nat) (xs:List Value) (d:w.ownsRow base e size v n xs) (m:Nat) (h1:∀u∈(Builtin.zeroCells z.cells m).toList,u.oneCell'=true)
  (E:n+m<=maxLen) (O:(n+m)*D<=140737488355328) (K:base<=w.heap.size) :
  ∃I w',(Builtin.append_ #[t,f] r #[v,.int .i64 m]).run P w=.ok I w'/\w'.ownsRow base e size I (n+m) (xs++(Builtin.zeroCells z.cells m).toList)/\w.grownBy w' v.ownBlock:=by
 subst T;subst M;have Z:n+m<=9223372036854775807:=by simp only[maxLen]at E;omega
 have G:(Builtin.zeroCells z.cells m).toList.length=m*i.size:=by rw[Array.length_toList,size_zeroCells,C]
 have W:m*i.bytes<=140737488355328:=Zl (ZV _ ω) O;have l:(xs++(Builtin.zeroCells z.cells m).toList).length=(n+m)*i.size:=by rw[ZD,d.1,G,XD]
 have grown:∀(old:Nat),old<n+m->∀(row:Option Nat),
   (w.drew.alloc (.cells (xs.toArray++Builtin.zeroCells z.cells m++Builtin.zeroCells z.cells (grownCap w (n+m) old e-(n+m))) e)).ownsRow base e i.size
    (.slice (some ⟨w,0,none⟩) (n+m) (grownCap w (n+m) old e)) (n+m) (xs++(Builtin.zeroCells z.cells m).toList) /\
   w.grownBy (w.drew.alloc (.cells (xs.toArray++Builtin.zeroCells z.cells m++Builtin.zeroCells z.cells (grownCap w (n+m) old e-(n+m))) e)) row:=by
  intro old Y row;have R:=grownCap_ge w (n+m) old e;have s:grownCap w (n+m) old e<=maxLen:=grownCap_le_maxLen w (n+m) old e E;refine⟨⟨l,.inr ⟨w.heap.size,_,_,rfl,K,heap_alloc_new w.drew _,R,s,?_,?_⟩⟩,⟨rfl,rfl,rfl,σ,λk hk _=>Below.heap_alloc w.drew _ k hk⟩⟩;simp only[Array.size_append,List.size_toArray,size_zeroCells,C,d.1,<-XD]
  congr 1
  omega;simp only[Array.toList_append,XT];rw[<-XT,<-l];exact List.take_left
 rcases d.2 with ⟨rfl,rfl⟩ | ⟨g,cap,cur,rfl,L,hg,X,s,Q,U⟩
 have V:xs=[]:=List.eq_nil_of_length_eq_zero (by simpa using d.1);subst V;by_cases hm:m=0;subst hm;have J:(Builtin.zeroCells z.cells 0).toList=[]:=by simp[Builtin.zeroCells]
 rw[J];refine⟨.slice none 0 0,w,?_,Xo w base e i.size,⟨rfl,rfl,rfl,Za _,λ_ _ _=>rfl⟩⟩;have hw:IntKind.i64.wrap (0:Int)=0:=δ;simp[Builtin.append_,run_underlying o,run_underlying p,sizeOf,typeInfo,hi,asInt,asIntOf,hw];have hr:=Lib.run_append_nil_zeros (P:=P) w t f r e i z .i64 q o p hi B m ω y ω ω;have a:=grown 0 ω (Value.ownBlock ());simp only[Z6,XV,Array.empty_append]at a ⊢;exact⟨_,_,hr,a.1,a.2⟩;by_cases x:n+m<=cap;have F:n*i.size+(Builtin.zeroCells z.cells m).toList.length<=cur.size:=by rw[G,Q,<-XD];exact ZV _ x
 have hr:=zfG (P:=P) w t f r e i z q o p hi B g n cap cur hg m y C x ω ω F h1;refine⟨_,_,hr,⟨l,.inr ⟨g,cap,_,rfl,L,setRow_heap w g cur _ e _ hg,x,s,?_,?_⟩⟩,⟨rfl,rfl,rfl,σ,λk _ hk=>setRow_other w g k _ (λe=>hk (by simp[Value.ownBlock,e]))⟩⟩;simp only[List.size_toArray,ZD,ZG,Yc,Array.length_toList]at F ⊢;omega;rw[U,<-l];exact List.take_left;have holds:=d.cells (g:=g) rfl;have S:(Builtin.firstCells i.size n (g,n,cap)).run P w.drew=.ok xs.toArray w.drew:=by have h:=run_loadCells_list (P:=P) w.drew ⟨g,0,none⟩ xs holds;rw[d.1]at h;simpa[Builtin.firstCells]using h
 have hr:=Lib.run_append_grow_zeros (P:=P) w t f r e i z .i64 q o p hi B (some ⟨g,0,none⟩) n cap xs S m ω y ω ω ω (growslice_fits ω ω);have a:=grown cap ω (some g);exact⟨_,_,hr,a.1,a.2⟩
