/- Contracts and lemmas: Vec1 Vec2 Vec3 Rat4. Conditions: as each says. -/
import Derived.Test.YtbhfhkcdfmmmiaaGreatRat2Zj
set_option linter.all false
set_option maxHeartbeats 8000000
set_option maxRecDepth 100000
namespace Go.Proofs.YtbhfhkcdfmmmiaaGreat
open Go.RowKit Am Tryz
variable {g:Bool}{p:Int}{qs:List Rat}{H a b c k m n:Nat}{A D:OA}{q:Rat}{d s v v0 v1:Value}{B u w w':World}
theorem ze0:(prog.info? 41).map (fun i=>(i.zero,i.size,i.bytes))=some (some (.agg #[false,(),()]),3,56):=by kernel_rfl
abbrev RV:=Bool × Value × Value
def rcells (l:List RV):List Value:=l.flatMap fun r=>[.bool r.1,r.2.1,r.2.2]
theorem zcy(r:RV)(l:List RV):rcells (r::l)=.bool r.1::r.2.1::r.2.2::rcells l:=by simp[rcells]
theorem zcC(l:List RV):(rcells l).length=l.length*3:=by
 induction l with
 | nil=>rfl
 | cons r l ih=>rw[zcy];grind
theorem zh4(a b:List RV):rcells (a++b)=rcells a++rcells b:=by simp[rcells]
theorem ziI(l:List RV):∀(k:Nat) (r:RV),l[k]? = some r→(rcells l)[k*3]? = some (.bool r.1)∧(rcells l)[k*3+1]? = some r.2.1∧(rcells l)[k*3+2]? = some r.2.2:=by
 induction l with
 | nil=>grind
 | cons a l ih =>
  grind[zcy]
theorem zss(l:List RV):∀(k:Nat) (r:RV),(((rcells l).set (k*3) (.bool r.1)).set (k*3+1) r.2.1).set (k*3+2) r.2.2=rcells (l.set k r):=by
 induction l with
 | nil=>intro k r;simp[rcells]
 | cons a l ih =>
  intro k r;cases k with
  | zero=>simp[zcy]
  | succ k =>
   rw[show(k+1)*3=k*3+1+1+1 by omega,List.set_cons_succ,zcy,zcy,←ih k r];simp
theorem ziJ(l:List RV)(h:∀r∈l,r.2.1.oneCell'=true∧r.2.2.oneCell'=true):∀u∈rcells l,u.oneCell'=true:=by
 intro u a;simp only[rcells,List.mem_flatMap]at a;obtain⟨p,b,a⟩:=a;simp at a;rcases a with rfl | rfl | rfl
 ·rfl
 ·exact(h p b).1
 grind
theorem RatS.shape(h:RatS w g s d q):∃(A:OA) (m c:Nat) (D:OA) (b a:Nat),s=(A,m,c)∧d=.slice D b a:=by
 obtain⟨A,m,c,rfl⟩:=h.num.abs.slice;obtain⟨D,b,a,rfl⟩:=h.den.slice;grind
theorem RatS.zero(w:World):RatS w false () () 0:=⟨⟨zas.zero w,rfl⟩,zas.zero w⟩
def zff (w w':World):Prop:=∀k,k<w.heap.size→(∀cs,w.heap[k]? ≠ some (.cells cs 41 (0,0)))→w'.heap[k]? = w.heap[k]?
theorem zas.keepT(h:zas w s n)(hk:zff w w'):zas w' s n:=by
 obtain⟨xs,a,c⟩:=h;refine⟨xs,a.keep fun k b=>hk k (a.block b) fun cs e=>?_,c⟩;exact za6 a.1 e (by decide) b
theorem RatS.keepT{w w':World}{g:Bool}{s d:Value}{q:Rat}(h:RatS w g s d q)(hk:zff w w'):RatS w' g s d q:=⟨⟨h.num.abs.keepT hk,h.num.neg⟩,h.den.keepT hk⟩
structure VecS (w:World) (H:Nat) (v:Value) (qs:List Rat):Prop where
  row:∃l:List RV,l.length=qs.length∧(∀(k:Nat) (r:RV) (q:Rat),l[k]? = some r→qs[k]? = some q→RatS w r.1 r.2.1 r.2.2 q)∧w.ownsRow H 41 3 v qs.length (rcells l)
theorem zc9{e:TypeId}{size:Nat}{ys:List Value}(h:w.ownsRow H e size s n ys)(hk:∀k,s.ownBlock=some k→w'.heap[k]? = w.heap[k]?):w'.ownsRow H e size s n ys:=by
 refine⟨h.1,?_⟩;rcases h.2 with h2 | ⟨g,cap,cur,hv,hg,hh,r⟩
 ·grind
 ·exact .inr ⟨g,cap,cur,hv,hg,by rw[hk g (by rw[hv];rfl)];exact hh,r⟩
namespace VecS
variable {w w':World} {H:Nat} {v:Value} {qs:List Rat}
theorem lt(h:VecS w H v qs){k:Nat}(hk:v.ownBlock=some k):H≤k∧k<w.heap.size:=by
 obtain⟨l,_,_,h⟩:=h.row;exact h.lt k hk
theorem keepAll(h:VecS w H v qs)(hk:∀k,v.ownBlock=some k→w'.heap[k]? = w.heap[k]?)(hr:∀g s d q,RatS w g s d q→RatS w' g s d q):VecS w' H v qs:=by
 obtain⟨l,h1,c,e⟩:=h.row;exact⟨l,h1,fun k r q a b=>hr _ _ _ _ (c k r q a b),zc9 e hk⟩
theorem below(h:VecS w H v qs)(a:Below w w w'):VecS w' H v qs:=h.keepAll (fun k hk=>a.block k (h.lt hk).2) fun _ _ _ _ r=>r.below a
theorem alloc(h:VecS w H v qs)(o:Obj):VecS (w.alloc o) H v qs:=h.below (zae w o)
theorem drew(h:VecS w H v qs):VecS w.drew H v qs:=h.below (zap w 1)
theorem base(h:VecS w H v qs)(d:a≤H):VecS w a v qs:=by
 obtain⟨l,h1,b,c⟩:=h.row;exact⟨l,h1,b,zbu c d⟩
theorem setCell(h:VecS w H v qs){p:Addr}{t:TypeId}{cs:Array Value}(b:v.ownBlock≠some p.block)(hg:w.heap[p.block]? = some (.cells cs t (0,0)))(a:165≠t)(u:Value):VecS (w.setCell p u) H v qs :=
 h.keepAll (fun k hk=>Zk w p u k (fun e=>b (by rw[hk,e]))) fun _ _ _ _ r=>⟨⟨r.num.abs.setCell hg a u,r.num.neg⟩,r.den.setCell hg a u⟩
theorem nil(w:World)(H:Nat):VecS w H () []:=⟨[],rfl,fun k r q h=>by simp at h,Xf _ _ _ _⟩
theorem form(h:VecS w H (A,n,c) qs):n=qs.length∧n≤c∧c≤maxLen∧((A=none∧c=0∧qs=[])∨∃g,A=some ⟨g,0,none⟩∧H≤g∧g<w.heap.size):=by
 obtain⟨l,_,_,d⟩:=h.row;rcases d.2 with ⟨b,a⟩ | ⟨g,cap,cur,b,hg,e,a,hm,_⟩
 ·injection b with e1 e2 e3;subst e1 e2 e3;exact⟨a.symm,Za _,Zb _,.inl ⟨rfl,rfl,Xl.1 a⟩⟩
 grind
theorem len(h:VecS w H (A,n,c) qs):n=qs.length:=h.form.1
theorem has(h:VecS w H (A,n,c) qs)(e:0<n):∃g,A=some ⟨g,0,none⟩∧H≤g∧g<w.heap.size:=by
 obtain⟨h1,b,d,a | a⟩:=h.form
 ·omega
 ·exact a
theorem slice(h:VecS w H v qs):∃A n c,v=.slice A n c:=by
 obtain⟨l,_,_,b⟩:=h.row;rcases b.2 with ⟨a,d⟩ | ⟨g,cap,cur,a,_⟩
 ·exact⟨_,_,_,a⟩
 grind
theorem at_(h:VecS w H (b,n,c) qs)(hk:qs[k]? = some q) :
  ∃(g:Bool) (A:OA) (m c:Nat) (D:OA) (d a:Nat),w.cell? ⟨b,k*3,none⟩=some (.bool g)∧w.cell? ⟨b,k*3+1,none⟩=some (A,m,c)∧w.cell? ⟨b,k*3+2,none⟩=some (D,d,a)∧RatS w g (A,m,c) (D,d,a) q:=by
 have u:=h.len;subst u;obtain⟨l,h1,t,e⟩:=h.row;have x:k<qs.length:=(Zm.1 hk).1;obtain⟨r,hr⟩:∃r,l[k]? = some r:=⟨l[k]'(by omega),Ze _⟩
 have f:=t k r q hr hk;obtain⟨A,m,c,D,d,a,i,j⟩:=f.shape;obtain⟨o,p,s⟩:=ziI l k r hr;refine⟨r.1,A,m,c,D,d,a,?_,?_,?_,?_⟩
 ·rw[e.cellAt _ (by omega)];exact o
 ·rw[e.cellAt _ (by omega),p,i]
 ·rw[e.cellAt _ (by omega),s,j]
 grind
theorem fro(h:VecS w H (b,n,c) qs)(j:Nat):w.frozen? ⟨b,j,none⟩=false:=by
 have d:=h.len;subst d;obtain⟨l,_,_,a⟩:=h.row;exact a.frozenAt j
theorem store(h:VecS w H (b,n,c) qs)(k:Nat)(y:RatS w g s d q) :
  VecS (((w.setCell ⟨b,k*3,none⟩ g).setCell ⟨b,k*3+1,none⟩ s).setCell ⟨b,k*3+2,none⟩ d) H (b,n,c) (qs.set k q):=by
 have p:=h.len;subst p;obtain⟨l,h1,t,i⟩:=h.row;have m:zff w (((w.setCell ⟨b,k*3,none⟩ g).setCell ⟨b,k*3+1,none⟩ s).setCell ⟨b,k*3+2,none⟩ d):=by
  intro j hj x;have e:j≠b:=by
   rintro rfl;rcases i.2 with ⟨f,p⟩ | ⟨g,cap,cur,f,hg,u,_⟩
   ·cases f
   grind
  rw[Zk _ _ _ _ (by exact e),Zk _ _ _ _ (by exact e),Zk _ _ _ _ (by exact e)]
 refine⟨l.set k (g,s,d),by simp[h1],?_,?_⟩
 ·intro j r z hr a;by_cases hj:k=j
  ·subst hj;have o:=(Zm.1 hr).1;rw[ZE]at o;rw[X4 o]at hr;rw[X4 (by omega)]at a;injection hr with hr;injection a with a;subst hr a;exact y.keepT m
  ·rw[X5 hj]at hr a;exact(t j r z hr a).keepT m
 ·rw[ZE,←zss];exact(((i.stored _ _).1.stored _ _).1.stored _ _).1
end VecS
theorem zh3{xs:List Value}(h:w.ownsRow H 41 3 v n xs)(hg:w.grownBy w' v.ownBlock):zff w w':=by
 intro k hk c;refine hg.block k hk fun e=>?_
 rcases h.2 with ⟨a,_⟩ | ⟨g,cap,cur,a,_,b,_⟩
 ·rw[a]at e;cases e
 ·rw[a]at e;injection e with e;grind
theorem VecS.append{c:Value}{l:List RV}(b:l.length=qs.length)(hr:∀(k:Nat) (r:RV) (q:Rat),l[k]? = some r→qs[k]? = some q→RatS w r.1 r.2.1 r.2.2 q)(i:w.ownsRow H 41 3 v qs.length (rcells l))
     (f:RatS w g s d q) (e:w'.ownsRow H 41 3 c (qs.length+1) (rcells l++[.bool g,s,d])) (hg:w.grownBy w' v.ownBlock):VecS w' H c (qs++[q]):=by
 have hk:=zh3 i hg;refine⟨l++[(g,s,d)],by simp[b],?_,?_⟩
 ·intro k r j h1 a;rcases Xr k l.length with h | h | h
  ·rw[ZO h]at h1;rw[ZO (by omega)]at a;exact(hr k r j h1 a).keepT hk
  ·subst h;rw[Zy (Za _)]at h1;rw[Zy (by omega)]at a;simp at h1;rw[b]at a;simp at a;subst h1 a;exact f.keepT hk
  grind
 ·rw[Zj,zh4];exact e
theorem zev{ops:Array Oper}{rest:List Oper}{o:Oper}{a:Act}{Q:Exit→Act→World→Prop}(I:o.guard=none)(s x:Operand)
    (J:o.op=.call { callee:=.builtin .append,args:=#[s,x],argTypes:=#[28,28] })    (M:a.eval s=v) (C:VecS w H v qs)  (N:a.eval x=.slice (some ⟨b,0,none⟩) 1 1)
        {t:Nat}  (G:w.heap[b]? = some (.cells #[g,(A,m,c),(D,t,n)] 41 (0,0))) (L:RatS w g (A,m,c) (D,t,n) q) (T:qs.length+1≤2000000) (z:H≤w.heap.size)
    (F:∀f e c' w',VecS w' H (.slice f e c') (qs++[q])→Below H w w'→e=qs.length+1→wpList prog ops Q rest (a.put o.dst (.slice f e c')) w'):wpList prog ops Q (o::rest) a w:=by
  obtain⟨S,hi,O,P,R⟩:=info_parts ze0;obtain⟨l,h1,E,y⟩:=C.row;have p:=fun i=>zac G i
  refine wpList_append_own w I s x 28 J H 41 S _ 3 56 underlying28 hi O P R rfl (by decide) v qs.length (rcells l) M y ⟨b,0,none⟩ 1 _ [.bool g,.slice A m c,.slice D t n] N rfl
    (by intro j u d
        match j,d with
        | 0,d=>exact(p 0).trans d
        | 1,d=>exact(p 1).trans d
        | 2,d=>exact(p 2).trans d
        | j+3,d=>simp at d)
    (by intro u d;simp at d;rcases d with rfl | rfl | rfl<;>rfl) (by unfold maxLen;omega) (by omega) z ?_
  intro U w' K B _;have r:=VecS.append h1 E y L K B;obtain⟨f,e,c',rfl⟩:=r.slice;refine F f e c' w' r ((Zg _ _).grown B z (fun k hk=>(C.lt hk).1)) (by rw[r.len];simp)
def zq5 (w:World) (qs:List Rat) (e:Ending) (w':World):Prop:=∃(A:OA) (n c:Nat),e=.returned (A,n,c)∧VecS w' w (A,n,c) qs∧Below w w w'
def zcd (w:World) (qs:List Rat) (b:Bool) (e:Ending) (w':World):Prop:=∃(A:OA) (n c:Nat),e=.returned (.tuple #[(A,n,c),b])∧VecS w' w (A,n,c) qs∧Below w w w'
attribute [local go_sem ↓] Go.wp_at_zero Go.wp_at_succ
theorem zvc(q:Rat):q.num<0↔q<0:=by
 have h:=Yt (q:=q);grind
theorem zwb{p:Rat→Bool}(h:(qs.take k).any p=false)(b:qs[k]? = some q)(a:p q=false):(qs.take (k+1)).any p=false:=by
 rw[ZN,List.any_append,h,b];simp[a]
theorem ztV{p:Rat→Bool}(b:qs[k]? = some q)(a:p q=true):qs.any p=true:=by grind
namespace Vc
theorem below(A:OA)(n c:Nat)(qs:List Rat)(H:Nat)(w:World)(h:VecS w H (A,n,c) qs) :
  Calls prog 70 #[(A,n,c)] w fun e w'=>e=.returned (.bool (qs.any fun q=>decide (q<0)))∧Below w w w':=by
 have y:=h.len;have x:=h.form;have r:=un y;have E:=un h;have K:n≤9223372036854775807:=by have I:=x.2.2.1;unfold maxLen at I;omega
 have O:=un K;clear h x y;go_enter func70,ntmps70;go_wp2
 go_loopw [7] (fun i wr=>∃k:Nat,i=.int .i64 k∧k≤n∧Below w w wr∧(qs.take k).any (fun q=>decide (q<0))=false)
  (fun i _=>n-(intOf i).toNat)
 case atStart=>exact⟨0,rfl,Zb _,Zg _ _,rfl⟩
 case round =>
  obtain⟨k,rfl,hk,d,f⟩:=hrel;have l:=un d;have D:=un f;by_cases J:k<n
  ·have t:=un (E.o.below d);obtain⟨b,rfl,P,Q⟩:=t.o.has (by omega);obtain⟨q,m⟩:∃q,qs[k]? = some q:=⟨qs[k]'(by rw[←r.o];exact J),Ze _⟩
   obtain⟨g,z,M,F,B,N,G,T,U,k2,u⟩:=t.o.at_ m;have C:=un u;have s:=un m;have R:(0:Int)≤(k:Int):=Zf _;have S:(k:Int)<(n:Int):=by omega
   clear d f u m;go_wp2_with fail
   refine(Rt.sign g z M F B N G q _ (C.o.alloc _)).mono ?_;rintro e V ⟨rfl,hb⟩;have o:=un (l.o.trans (((zae wr _).trans (hb.mono (by simp))).mono l.o.size));clear hb;by_cases j:q<0
   ·have L:=(zvc q).2 j;have a:=un (ztV (p:=fun q=>decide (q<0)) s.o (Zs j));go_wp2;go_ret
    exact⟨by rw[a.o];rfl,o.o⟩
   ·have L:¬q.num<0:=fun h=>j ((zvc q).1 h)
    have a:=un (zwb D.o s.o (Zu j));go_wp2;go_roundw
    case rel=>exact⟨k+1,by go_num,by omega,o.o,a.o⟩
    case measure=>simp[intOf];omega
  ·obtain rfl:k=n:=by omega
   have a:=un f;clear d f;go_wp2;go_ret
   refine⟨?_,l.o⟩;have h:=a.o;rw[r.o,Xn]at h;rw[h];rfl
end Vc
def rats (xs:List Int):List Rat:=xs.map fun(x:Int)=>(x:Rat)
theorem zvj{xs:List Int}{x:Int}(h:xs[k]? = some x):rats (xs.take (k+1))=rats (xs.take k)++[(x:Rat)]:=by
 unfold rats;rw[ZN,h];simp
namespace Vc
theorem of(b n c:Nat)(xs:List Int)(w:World)(y:n=xs.length)(a:∀j x,xs[j]? = some x→w.cell? ⟨b,j,none⟩=some (.int .i64 x))(hr:∀x∈xs, -9223372036854775808≤x∧x≤9223372036854775807)(u:n≤1000000)(hc:n≤c) :
  Calls prog 43 #[(b,n,c)] w (zq5 w (rats xs)):=by
 have q:=un y;have O:=un a;have J:=un hr;have W:n≤9223372036854775807:=by omega
 have G:=un u;clear y a hr u;go_enter func43,ntmps43;go_wp2
 go_loopw [3,8] (fun S i wr=>∃(k:Nat) (l:OA) (p c':Nat),i=.int .i64 k∧S=(l,p,c')∧k≤n∧VecS wr w (l,p,c') (rats (xs.take k))∧Below w w wr)
  (fun _ i _=>n-(intOf i).toNat)
 case atStart=>exact⟨0,none,0,0,rfl,rfl,Zb _,VecS.nil _ _,Zg _ _⟩
 case round =>
  obtain⟨k,l,p,c',rfl,rfl,hk,f,o⟩:=hrel;have L:=un f;have d:=un o;by_cases Q:k<n
  ·obtain⟨x,a⟩:∃x,xs[k]? = some x:=⟨xs[k]'(by rw[←q.o];exact Q),Ze _⟩
   have h0:wr.cell? ⟨b,k,none⟩=some (.int .i64 x):=zab d.o (O.o k x a);have I:=un a;have r:=un (J.o x (Zh a));have U:(0:Int)≤(k:Int):=Zf _;have V:(k:Int)<(n:Int):=by omega
   clear o f a;go_wp2_with fail
   refine(Rt.int x r.o.1 r.o.2 _).mono ?_;rintro e T ⟨g,A,m,c2,D,md,cd,rfl,hq,hb⟩;have s:=un (show w.heap.size≤T.heap.size from Zc d.o.size hb.size);have C:=un (d.o.trans (hb.mono d.o.size));have M:=un (L.o.below hb);have K:=un hq;clear hb hq
   go_wp2_with (at_builtin;go_loud (refine zev rfl _ _ rfl rfl (M.o.alloc _) rfl (zal _ _ _) (K.o.alloc _) (by unfold rats;rw[Zl,Zn];have:=G.o;omega) (by have:=s.o;simp;omega) ?_;intro B X P Y z t R;have N:=un z;have E:=un t;clear z t))
   subst R;exact⟨⟨k+1,B,_,P,by simp,rfl,by omega,by rw[zvj I.o];exact N.o,(C.o.alloc s.o _).trans E.o⟩,by simp[intOf];omega⟩
  ·obtain rfl:k=n:=by omega
   have F:=un f;clear o f;go_wp2;go_ret
   refine⟨_,_,_,rfl,?_,d.o⟩;have h:=F.o;rw[q.o,Xn]at h;exact h
end Vc
def fr (p d:Int):Rat:=if d=0 then (p:Rat)else Rat.divInt p d
theorem zAG{d:Int}(h:d=0):fr p d=(p:Rat):=by unfold fr;rw[if_pos h]
theorem zDB{d:Int}(h:d≠0):fr p d=Rat.divInt p d:=by unfold fr;rw[if_neg h]
namespace Lw
theorem zxr(p d:Int)(b:d=0)(g : -9223372036854775808≤p)(i:p≤9223372036854775807)(w:World):Calls prog 19 #[.agg #[.int .i64 p,.int .i64 d]] w (ze4 w (fr p d)):=by
 have k:=un (zAG (p:=p) b);have y:(d == 0)=true:=by rw[b];rfl
 have f:=un (And.intro g i);clear g i b;obtain⟨W,a⟩:∃W,((w.alloc (.cells #[.int .i64 p,.int .i64 d] 58)).alloc (.cells #[false,(),()] 41))=W:=⟨_,rfl⟩
 have m:=un (show W.heap[w.heap.size]? = some (.cells #[.int .i64 p,.int .i64 d] 58 (0,0))by rw[←a];exact zak (zam (by simp)));have n:=un (show W.heap[w.heap.size+1]? = some (.cells #[false,(),()] 41 (0,0))by rw[←a];exact zam (by simp));have c:=un (show Below w w W by rw[←a];exact(zae w _).alloc (by simp) _);obtain⟨z,_,A,_⟩:=bc2 m.o;go_enter func19,ntmps19;go_wp2_with fail
 clear a;with_reducible refine(Rt.int p f.o.1 f.o.2 _).mono ?_
 rintro e w1 ⟨g3,A3,m3,c3,D3,md3,cd3,rfl,hn,hb⟩;have j:=un (zad hb n.o);have l:=un (show RatS w1 g3 (A3,m3,c3) (D3,md3,cd3) (p:Rat)from hn);have q:=un (c.o.trans ((hb).mono c.o.size));obtain⟨t,r,C,_,u,o,B,_,s,x,D,_⟩:=bf3 j.o;clear hn hb;go_wp2;refine Zd (v:=.agg #[g3,(A3,m3,c3),(D3,md3,cd3)]) (by simp[results,results19,go_sem,t,r,u,o,s,x]) rfl ?_;rw[k.o]
 exact⟨g3,A3,m3,c3,D3,md3,cd3,rfl,l.o.set3 j.o (by decide) _ _ _,bsc (bsc (bsc q.o))⟩
end Lw
def mw (q:Rat):Nat:=max (wlen q.num.natAbs) (wlen q.den)
theorem zd2(q:Rat):wlen q.num.natAbs≤mw q:=YH _ _
theorem zds(q:Rat):wlen q.den≤mw q:=YI _ _
theorem zfO(x y:Int):wlen (x*y).natAbs≤wlen x.natAbs+wlen y.natAbs:=by rw[YX];simp[zdy]
theorem zvC(x y:Int):wlen (x+y).natAbs≤max (wlen x.natAbs) (wlen y.natAbs)+1:=Zc (zco (Int.natAbs_add_le x y)) (zgg _ _)
theorem zhX(x y:Int)(a:y≠0):mw (Rat.divInt x y)≤max (wlen x.natAbs) (wlen y.natAbs):=by
 have h1:wlen (Rat.divInt x y).num.natAbs≤wlen x.natAbs:=by
  rw[←Rt.div_num x y a];split
  ·rw[YY,Xj];exact zco (XO _ _)
  ·rw[Xj];exact zco (XO _ _)
 have b:wlen (Rat.divInt x y).den≤wlen y.natAbs:=by rw[←Rt.div_den x y a];simp[zco,XO]
 unfold mw;omega
theorem zrl(a b:Rat):((a.den*b.den:Nat):Int)≠0:=by have:=Yr a.den_pos b.den_pos;omega
theorem ztR(a b:Rat):Rat.divInt (a.num*(b.den:Int)+b.num*(a.den:Int)) ((a.den*b.den:Nat):Int)=a+b:=by rw[Rat.add_def',Rat.divInt_ofNat]
theorem zu5(a b:Rat):Rat.divInt (a.num*b.num) ((a.den*b.den:Nat):Int)=a*b:=by rw[Rat.mul_def',Rat.divInt_ofNat]
theorem zpc(a b:Rat):wlen (a.num*(b.den:Int)+b.num*(a.den:Int)).natAbs≤mw a+mw b+1:=by
 have h1:=zvC (a.num*(b.den:Int)) (b.num*(a.den:Int));have c:=zfO a.num (b.den:Int);have d:=zfO b.num (a.den:Int);rw[Xj]at c d;have:=zd2 a;have:=zd2 b;have:=zds a;have:=zds b;omega
theorem zic(a b:Rat):wlen (((a.den*b.den:Nat):Int)).natAbs≤mw a+mw b:=by
 rw[Xj];have:=zdy a.den b.den;have:=zds a;have:=zds b;omega
theorem zpd(a b:Rat):wlen (a.num*b.num).natAbs≤mw a+mw b:=by
 have:=zfO a.num b.num;have:=zd2 a;have:=zd2 b;omega
theorem zrI(a b:Rat):mw (a+b)≤mw a+mw b+1:=by
 rw[←ztR];have:=zhX (a.num*(b.den:Int)+b.num*(a.den:Int)) _ (zrl a b);have:=zpc a b;have:=zic a b;omega
theorem zdI(a b:Rat):mw (a*b)≤mw a+mw b:=by
 rw[←zu5];have:=zhX (a.num*b.num) _ (zrl a b);have:=zpd a b;have:=zic a b;omega
theorem zhY(a:Rat):mw (-a)=mw a:=by unfold mw;rw[Yu,Rat.neg_den,YY]
def ziR (B:World) (s:Value) (w:World) (z:Int):Prop:=∃(nb:Nat) (g:Bool) (A:OA) (m c:Nat),s=.pointer (some ⟨nb,0,none⟩)∧Below B B w∧B.heap.size≤nb∧w.heap[nb]? = some (.cells #[g,(A,m,c)] 39 (0,0))∧IntS w g (A,m,c) z
theorem ziR.of{z:Int}(b:Below B B ((u.setCell ⟨a,0,none⟩ g).setCell ⟨a,1,none⟩ (A,m,c)))(d:B.heap.size≤a)(hk:u.heap[a]? = some (.cells #[v0,v1] 39 (0,0)))(hi:IntS u g (A,m,c) z) :
  ziR B (.pointer (some ⟨a,0,none⟩)) ((u.setCell ⟨a,0,none⟩ g).setCell ⟨a,1,none⟩ (A,m,c)) z :=
 ⟨a,g,A,m,c,rfl,b,d,zar _ (zar _ hk),hi.set2 hk (by decide) _ _⟩
def zcD (B:World) (s:Value) (w:World) (q:Rat):Prop:=∃(nb:Nat) (g:Bool) (A:OA) (m c:Nat) (D:OA) (md cd:Nat),s=.pointer (some ⟨nb,0,none⟩)∧Below B B w∧B.heap.size≤nb∧w.heap[nb]? = some (.cells #[g,(A,m,c),(D,md,cd)] 41 (0,0))∧RatS w g (A,m,c) (D,md,cd) q
theorem zcD.of{d:Nat}{i:Value}(e:Below B B (((u.setCell ⟨a,0,none⟩ g).setCell ⟨a,1,none⟩ (A,m,c)).setCell ⟨a,2,none⟩ (D,d,b)))(f:B.heap.size≤a)(hk:u.heap[a]? = some (.cells #[v0,v1,i] 41 (0,0)))(hi:RatS u g (A,m,c) (D,d,b) q) :
  zcD B (.pointer (some ⟨a,0,none⟩)) (((u.setCell ⟨a,0,none⟩ g).setCell ⟨a,1,none⟩ (A,m,c)).setCell ⟨a,2,none⟩ (D,d,b)) q :=
 ⟨a,g,A,m,c,D,d,b,rfl,e,f,zar _ (zar _ (zar _ hk)),hi.set3 hk (by decide) _ _ _⟩
theorem zbc{w1:World}{cs:Array Value}{t:TypeId}(a:Below w w w1)(h:w.heap[b]? = some (.cells cs t (0,0))):w1.heap[b]? = some (.cells cs t (0,0)):=zad a h
theorem IntS.nat(h:IntS w g s (n:Int)):zas w s n:=h.abs
