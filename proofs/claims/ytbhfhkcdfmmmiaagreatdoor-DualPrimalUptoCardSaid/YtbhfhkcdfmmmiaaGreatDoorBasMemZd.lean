/- Contracts and lemmas: BasMem Vec6 Vec8 Mat3 BasCap Mat4. Conditions: as each says. -/
import Derived.Test.YtbhfhkcdfmmmiaaGreatDoorLuMem2Zd
import Derived.Test.YtbhfhkcdfmmmiaaGreatDoorEtaZd
import Derived.Test.YtbhfhkcdfmmmiaaGreatDoorRat6Zd
set_option linter.all false
set_option maxHeartbeats 4000000
set_option maxRecDepth 100000
namespace Go.Proofs.YtbhfhkcdfmmmiaaGreatDoor
open Go.RowKit Am
open Lib (hid)
variable {cs:Array Value}{g:Bool}{F:LUv}{C D:List (List Rat)}{qs r xs y:List Rat}{H K N S T b c k n o q ql:Nat}{A:OA}{tb:Option Nat}{a:Rat}{t:TypeId}{d s v:Value}{w w':World}
theorem zxj:(Tryz.prog.info? 177).map (fun i=>(i.zero,i.size,i.bytes))=some (some (.agg #[.int .i64 0,()]),2,32):=by kernel_rfl
structure Kept (T:List TypeId) (b:Option Nat) (w w':World):Prop where
  all:∀(k:Nat) (cs:Array Value) (t:TypeId),w.heap[k]? = some (.cells cs t (0,0))→t ∉ T→(t=3→some k≠b)→w'.heap[k]? = some (.cells cs t (0,0))
  size:w.heap.size≤w'.heap.size
def TB:List TypeId:=[28,175,177]
def TT:List TypeId:=[28,175,177,138]
namespace Kept
variable {T:List TypeId} {b:Option Nat} {w w1 w2:World}
theorem of_below(h:Below w.heap.size w w1):Kept T b w w1:=⟨fun _ _ _ h1 _ _=>zad h h1,h.size⟩
theorem refl(w:World):Kept T b w w:=of_below (Below.refl _ _)
theorem trans(h:Kept T b w w1)(a:Kept T b w1 w2):Kept T b w w2:=⟨fun k cs t e n m=>a.all k cs t (h.all k cs t e n m) n m,Nat.le_trans h.size a.size⟩
theorem below(h:Kept T b w w1)(a:Below w1.heap.size w1 w2):Kept T b w w2:=h.trans (of_below a)
theorem alloc(h:Kept T b w w1)(o:Obj):Kept T b w (w1.alloc o):=h.below (zae _ o)
theorem drew(h:Kept T b w w1):Kept T b w w1.drew:=h.below (zap _ 1)
theorem any{a:List TypeId}{c:Option Nat}(h:Kept T none w w1)(f:∀t∈T,t∈a):Kept a c w w1:=⟨fun k cs t e n _=>h.all k cs t e (fun d=>n (f t d)) (fun _=>by simp),h.size⟩
theorem set(a:w.heap[k]? = some (.cells cs t (0,0)))(c:t∈T)(u:Value):Kept T b w (w.setCell ⟨k,o,none⟩ u) :=
 ⟨fun j d f e n _=>by rw[Below.heap_setCell _ _ _ _ (by rintro rfl;rw[a]at e;injection e with e;injection e with _ e;exact n (e▸c))];exact e,by simp⟩
theorem setInt(a:w.heap[k]? = some (.cells cs 3 (0,0)))(u:Value):Kept T (some k) w (w.setCell ⟨k,o,none⟩ u) :=
 ⟨fun j c d e _ m=>by rw[Below.heap_setCell _ _ _ _ (by rintro rfl;rw[a]at e;injection e with e;injection e with _ e;exact m e.symm rfl)];exact e,by simp⟩
theorem tk(h:TKeep t w w1)(c:w.heap.size≤w1.heap.size)(d:t∈T):Kept T b w w1 :=
 ⟨fun _ _ f e n _=>h.blk e (fun a=>n (a▸d)),c⟩
theorem blk(h:Kept T b w w1)(e:w.heap[k]? = some (.cells cs t (0,0)))(n:t ∉ T)(m:t≠3):w1.heap[k]? = some (.cells cs t (0,0)):=h.all k cs t e n (fun a=>absurd a m)
theorem nat(h:Kept T b w w1)(h1:184 ∉ T)(f:zas w s n):zas w1 s n:=by
 obtain⟨xs,c,e⟩:=f;refine⟨xs,c.keep fun k a=>?_,e⟩;rcases c.1.2 with ⟨rfl,_⟩ | ⟨g',cap,cur,rfl,_,d,_⟩
 ·cases a
 ·injection a with a;subst a;rw[d];exact h.blk d h1 (by decide)
theorem ratS{q:Rat}(h:Kept T b w w1)(h1:184 ∉ T)(a:RatS w g s d q):RatS w1 g s d q:=⟨⟨h.nat h1 a.num.abs,a.num.neg⟩,h.nat h1 a.den⟩
theorem vec(h:Kept T b w w1)(h1:184 ∉ T)(d:49 ∉ T)(c:VecS w H v qs):VecS w1 H v qs:=by
 refine c.keepAll (fun k hk=>?_) fun _ _ _ _ r=>h.ratS h1 r
 obtain⟨l,_,_,e⟩:=c.row;rcases e.2 with ⟨rfl,_⟩ | ⟨g',cap,cur,rfl,_,a,_⟩
 ·cases hk
 ·injection hk with hk;subst hk;rw[a];exact h.blk a d (by decide)
theorem ints{xs:List Nat}(h:Kept T b w w1)(h1:3 ∉ T)(c:IntsS w H v xs)(e:∀g,v.ownBlock=some g→some g≠b):IntsS w1 H v xs:=by
 refine c.keep fun k hk=>?_
 rcases c.own.2 with ⟨rfl,_⟩ | ⟨g',cap,cur,rfl,_,a,_⟩
 ·cases hk
 ·have d:g'=k:=by injection hk
  subst d;rw[a];exact h.all _ _ _ a h1 fun _=>e _ hk
end Kept
def ecells (l:List (Nat × Value)):List Value:=l.flatMap fun r=>[.int .i64 (r.1:Int),r.2]
theorem zp1(r:Nat × Value)(l:List (Nat × Value)):ecells (r::l)=.int .i64 (r.1:Int)::r.2::ecells l:=by simp[ecells]
theorem znc(a b:List (Nat × Value)):ecells (a++b)=ecells a++ecells b:=by simp[ecells]
theorem zr7(l:List (Nat × Value)):∀(k:Nat) (r:Nat × Value),l[k]? = some r→(ecells l)[k*2]? = some (.int .i64 (r.1:Int))∧(ecells l)[k*2+1]? = some r.2:=by
 induction l with
 | nil=>intro k r h;simp at h
 | cons a l ih =>
  intro k r h;rw[zp1];cases k with
  | zero=>simp at h;subst h;simp
  | succ k =>
   have:=ih k r (by simpa using h);rw[show(k+1)*2=k*2+1+1 by omega];simpa using this
structure EtasL (w:World) (H:Nat) (v:Value) (l:List (Nat × Value)) (es:List (Nat × List Rat)):Prop where
  len:l.length=es.length
  each:∀(k:Nat) (s:Nat × Value) (e:Nat × List Rat),l[k]? = some s→es[k]? = some e→s.1=e.1∧VecS w H s.2 e.2
  own:w.ownsRow H 177 2 v es.length (ecells l)
namespace EtasL
variable {w w':World} {H:Nat} {v:Value} {l:List (Nat × Value)} {es:List (Nat × List Rat)}
theorem keepAll(h:EtasL w H v l es)(hk:∀k,v.ownBlock=some k→w'.heap[k]? = w.heap[k]?)(hr:∀s r,VecS w H s r→VecS w' H s r):EtasL w' H v l es :=
 ⟨h.len,fun k s e a b=>⟨(h.each k s e a b).1,hr _ _ (h.each k s e a b).2⟩,zc9 h.own hk⟩
theorem below(h:EtasL w H v l es)(a:Below w.heap.size w w'):EtasL w' H v l es:=h.keepAll (fun k hk=>a.block k (h.own.lt k hk).2) fun _ _ r=>r.below a
theorem alloc(h:EtasL w H v l es)(o:Obj):EtasL (w.alloc o) H v l es:=h.below (zae w o)
theorem drew(h:EtasL w H v l es):EtasL w.drew H v l es:=h.below (zap w 1)
theorem nil(w:World)(H:Nat):EtasL w H () [] []:=⟨rfl,fun k s r h=>by simp at h,World.ownsRow_nil _ _ _ _⟩
theorem tk{t:TypeId}(h:EtasL w H v l es)(hk:TKeep t w w')(h1:184≠t)(c:49≠t)(d:177≠t):EtasL w' H v l es :=
 h.keepAll (fun k a=>hk k (h.own.lt k a).2 fun cs e=>za6 h.own e d a) fun _ _ r=>r.tk hk h1 c
theorem form(h:EtasL w H (A,n,c) l es):n=es.length∧n≤c∧c≤maxLen∧((A=none∧c=0∧es=[])∨∃g,A=some ⟨g,0,none⟩∧H≤g∧g<w.heap.size):=by
 rcases h.own.2 with ⟨d,a⟩ | ⟨g,cap,cur,d,hg,e,a,hm,_⟩
 ·injection d with e1 e2 e3;subst e1 e2 e3;exact⟨a.symm,Nat.le_refl _,Nat.zero_le _,.inl ⟨rfl,rfl,List.length_eq_zero_iff.1 a⟩⟩
 ·injection d with e1 e2 e3;subst e1 e2 e3;exact⟨rfl,a,hm,.inr ⟨g,rfl,hg,(Array.getElem?_eq_some_iff.1 e).1⟩⟩
theorem nlen(h:EtasL w H (A,n,c) l es):n=es.length:=h.form.1
theorem has(h:EtasL w H (A,n,c) l es)(f:0<n):∃g,A=some ⟨g,0,none⟩∧H≤g∧g<w.heap.size:=by
 obtain⟨h1,d,e,a | a⟩:=h.form
 ·omega
 ·exact a
theorem slice(h:EtasL w H v l es):∃A c,v=.slice A es.length c:=by
 rcases h.own.2 with ⟨a,d⟩ | ⟨g,cap,cur,a,_⟩
 ·exact⟨_,_,by rw[a,d]⟩
 ·exact⟨_,_,a⟩
theorem at_(h:EtasL w H (b,n,c) l es){e:Nat × List Rat}(hk:es[k]? = some e):∃(A:OA) (c:Nat),w.cell? ⟨b,k*2,none⟩=some (.int .i64 (e.1:Int))∧w.cell? ⟨b,k*2+1,none⟩=some (.slice A e.2.length c)∧VecS w H (.slice A e.2.length c) e.2:=by
 have m:=h.nlen;subst m;have j:=(List.getElem?_eq_some_iff.1 hk).1;obtain⟨s,f⟩:∃s,l[k]? = some s:=⟨l[k]'(by rw[h.len];exact j),List.getElem?_eq_getElem _⟩
 obtain⟨h1,a⟩:=h.each k s e f hk;obtain⟨A,n,c,d⟩:=a.slice;rw[d]at a;obtain rfl:=a.len;obtain⟨g,i⟩:=zr7 l k s f;refine⟨A,c,?_,?_,a⟩
 ·rw[h.own.cellAt _ (by omega),g,h1]
 ·rw[h.own.cellAt _ (by omega),i,d]
end EtasL
theorem zC5{c:Value}(e:w.heap[b]? = some (.cells #[c,d] t (0,0))):∀j u,[c,d][j]? = some u→w.cell? ((⟨b,0,none⟩:Addr).add j)=some u:=by
 intro j u a
 match j,a with
 | 0,a=>exact(zac e 0).trans a
 | 1,a=>exact(zac e 1).trans a
 | j+2,a=>simp at a
theorem zjg{ops:Array Oper}{o:Oper}{a:Act}{K:Act→World→Prop}{Q:Exit→Act→World→Prop}{E:Prop}(hg:o.guard=none)(s x:Operand)
  (B:o.op=.call { callee:=.builtin .append,args:=#[s,x],argTypes:=#[173,173] })   {l:List (Nat × Value)} {es:List (Nat × List Rat)} (I:a.eval s=v) (c:EtasL w H v l es)  (J:a.eval x=.slice (some ⟨b,0,none⟩) 1 1)
  {at_:Nat} {g:Value}  (y:w.heap[b]? = some (.cells #[(at_:Int),g] 177 (0,0))) (hr:VecS w H g r)  (A:es.length=n) (U:n+1≤1000000) (i:H≤w.heap.size)
  (t:∀f c' P w',EtasL w' H (.slice f (n+1) c') P (es++[(at_,r)])→TKeep 177 w w'→Below H w w'→K (a.put o.dst (.slice f (n+1) c')) w') :
  if Region.wanted o (yielded ops a.tmps)=true then Oper.wp Tryz.prog o a w K Q else E:=by
 have hw:Region.wanted o (yielded ops a.tmps)=true:=by simp[Region.wanted,hg]
 rw[if_pos hw];subst A;obtain⟨O,z,L,M,N⟩:=info_parts zxj
 refine wp_append_own w s x 173 B H 177 O _ 2 32 Tryz.underlying173 z L M N rfl (by decide) v es.length (ecells l) I c.own ⟨b,0,none⟩ 1 1 [.int .i64 (at_:Int),g] J rfl (zC5 y)
  (by intro u p;simp at p;rcases p with e | e;(rw[e];rfl);(rw[e];exact hr.one)) (by unfold maxLen;omega) (by omega) i ?_
 intro R w' G m _;have hk:=TKeep.grown c.own m;have j:EtasL w' H R (l++[(at_,g)]) (es++[(at_,r)]):=by
  refine⟨by simp[c.len],?_,by rw[List.length_append,znc];exact G⟩;intro k r' p' h1 d;rcases Nat.lt_trichotomy k l.length with h | h | h
  ·rw[List.getElem?_append_left h]at h1;rw[List.getElem?_append_left (by rw[←c.len];exact h)]at d;exact⟨(c.each k r' p' h1 d).1,(c.each k r' p' h1 d).2.tk hk (by decide) (by decide)⟩
  ·subst h;rw[List.getElem?_append_right (Nat.le_refl _)]at h1;rw[List.getElem?_append_right (by rw[c.len];exact Nat.le_refl _)]at d;simp at h1;rw[c.len]at d;simp at d;subst h1 d;exact⟨rfl,hr.tk hk (by decide) (by decide)⟩
  ·rw[List.getElem?_eq_none (by simp;omega)]at h1;cases h1
 obtain⟨f,c',e⟩:=j.slice;rw[List.length_append]at e;subst e;exact t f c' _ w' j hk ((Below.refl _ _).grown m i (fun k hk=>(c.own.lt k hk).1))
theorem zd5{ops:Array Oper}{rest:List Oper}{o:Oper}{a:Act}{Q:Exit→Act→World→Prop}(d:o.guard=none)(s x:Operand)
  (y:o.op=.call { callee:=.builtin .append,args:=#[s,x],argTypes:=#[173,173] })   {l:List (Nat × Value)} {es:List (Nat × List Rat)} (z:a.eval s=v) (A:EtasL w H v l es)  (B:a.eval x=.slice (some ⟨b,0,none⟩) 1 1)
  {at_:Nat} {f:Value}  (p:w.heap[b]? = some (.cells #[(at_:Int),f] 177 (0,0))) (hr:VecS w H f r)  (u:es.length=n) (t:n+1≤1000000) (j:H≤w.heap.size)
  (k:∀c c' e w',EtasL w' H (.slice c (n+1) c') e (es++[(at_,r)])→TKeep 177 w w'→Below H w w'→wpList Tryz.prog ops Q rest (a.put o.dst (.slice c (n+1) c')) w') :
  wpList Tryz.prog ops Q (o::rest) a w:=by
 refine wpList_plain d fun K m=>?_
 have h:=zjg (ops:=ops) (K:=K) (Q:=Q) (E:=True) d s x y z A B p hr u t j fun c c' e w' h1 g i=>m _ _ (k c c' e w' h1 g i)
 have hw:Region.wanted o (yielded ops a.tmps)=true:=by simp[Region.wanted,d]
 rw[if_pos hw]at h;exact h
structure Hi (H:Nat) (w w':World):Prop where
  blk:∀k,H≤k→k<w.heap.size→w'.heap[k]? = w.heap[k]?
  num:∀(k:Nat) (cs:Array Value),w.heap[k]? = some (.cells cs 184 (0,0))→w'.heap[k]? = some (.cells cs 184 (0,0))
namespace Hi
variable {H:Nat} {w w':World}
theorem nat(h:Hi H w w')(f:zas w s n):zas w' s n:=by
 obtain⟨xs,c,e⟩:=f;refine⟨xs,c.keep fun k a=>?_,e⟩;rcases c.1.2 with ⟨rfl,_⟩ | ⟨g',cap,cur,rfl,_,d,_⟩
 ·cases a
 ·injection a with a;subst a;rw[d];exact h.num _ _ d
theorem ratS{q:Rat}(h:Hi H w w')(a:RatS w g s d q):RatS w' g s d q:=⟨⟨h.nat a.num.abs,a.num.neg⟩,h.nat a.den⟩
theorem vec(h:Hi H w w')(a:VecS w H v qs):VecS w' H v qs:=a.keepAll (fun k hk=>h.blk k (a.lt hk).1 (a.lt hk).2) fun _ _ _ _ r=>h.ratS r
theorem vecs{l:List Value}{L:List (List Rat)}(h:Hi H w w')(a:VecsL w H v l L):VecsL w' H v l L:=a.keepAll (fun k hk=>h.blk k (a.own.lt k hk).1 (a.own.lt k hk).2) fun _ _ _ r=>h.vec r
theorem ints{xs:List Nat}(h:Hi H w w')(a:IntsS w H v xs):IntsS w' H v xs:=a.keep fun k hk=>h.blk k (a.own.lt k hk).1 (a.own.lt k hk).2
theorem lu(h:Hi H w w')(k:LuS w H q n F):LuS w' H q n F:=by
 obtain⟨⟨lA,lc,ll,uA,uc,ul,pA,pc,h1,c,d,e,f,g,i⟩,a,j⟩:=k;exact⟨⟨lA,lc,ll,uA,uc,ul,pA,pc,by rw[h.blk q a (Array.getElem?_eq_some_iff.1 h1).1];exact h1,h.vecs c,d,h.vecs e,f,g,h.ints i⟩,a,j⟩
theorem set(hk:k<H)(a:w.heap[k]? = some (.cells cs t (0,0)))(c:184≠t)(u:Value):Hi H w (w.setCell ⟨k,o,none⟩ u) :=
 ⟨fun j h1 _=>Below.heap_setCell _ _ _ _ (show j≠k by omega),fun j d e=>by
  rw[Below.heap_setCell _ _ _ _ (show j≠k by rintro rfl;rw[a]at e;injection e with e;injection e with _ e;exact c e.symm)];exact e⟩
end Hi
theorem LuS.below(h:LuS w H q n F)(a:Below w.heap.size w w'):LuS w' H q n F :=
 Hi.lu ⟨fun k _ hk=>a.block k hk,fun _ _ e=>zad a e⟩ h
theorem LuS.tk{w w':World}{H q n:Nat}{F:LUv}{t:TypeId}(h:LuS w H q n F)(hk:TKeep t w w')(h1:184≠t)(a:49≠t)(c:28≠t)(p:3≠t)(r:205≠t):LuS w' H q n F:=by
 obtain⟨⟨lA,lc,ll,uA,uc,ul,pA,pc,d,e,f,g,i,j,k⟩,m,o⟩:=h;exact⟨⟨lA,lc,ll,uA,uc,ul,pA,pc,hk.blk d r,e.tk hk h1 a c,f,g.tk hk h1 a c,i,j,k.tk hk p⟩,m,o⟩
structure BasP (w:World) (H q n S:Nat) (cA:OA) (cc:Nat) (lc:List Value) (C:List (List Rat)) (K ql:Nat) (F:LUv) (D:List (List Rat)) (eA:OA) (ec:Nat) (le:List (Nat × Value)) (es:List (Nat × List Rat)):Prop where
  blk:w.heap[q]? = some (.cells #[(cA,n,cc),.pointer (some ⟨ql,0,none⟩),(eA,es.length,ec)] 175 (0,0))
  cols:VecsL w H (cA,n,cc) lc C
  low:∀g,(Value.slice cA n cc).ownBlock=some g→g<K
  lu:LuS w K ql n F
  fac:zoN n (zcZ n D)=some F
  etas:EtasL w H (eA,es.length,ec) le es
  right:EtasZ mw S n D es C
  few:es.length≤8
  own:H≤q
  ownK:H≤K
def zjE (w:World) (H q n S:Nat) (C:List (List Rat)):Prop:=∃cA cc lc K ql F D eA ec le es,BasP w H q n S cA cc lc C K ql F D eA ec le es
namespace BasP
variable {w w':World} {H q n S:Nat} {cA:OA} {cc:Nat} {lc:List Value} {C:List (List Rat)} {K ql:Nat} {F:LUv} {D:List (List Rat)} {eA:OA} {ec:Nat} {le:List (Nat × Value)} {es:List (Nat × List Rat)}
theorem below(h:BasP w H q n S cA cc lc C K ql F D eA ec le es)(a:Below w.heap.size w w'):BasP w' H q n S cA cc lc C K ql F D eA ec le es :=
 ⟨by rw[a.block q (Array.getElem?_eq_some_iff.1 h.blk).1];exact h.blk,h.cols.below a,h.low,h.lu.below a,h.fac,h.etas.below a,h.right,h.few,h.own,h.ownK⟩
theorem alloc(h:BasP w H q n S cA cc lc C K ql F D eA ec le es)(o:Obj):BasP (w.alloc o) H q n S cA cc lc C K ql F D eA ec le es:=h.below (zae w o)
theorem drew(h:BasP w H q n S cA cc lc C K ql F D eA ec le es):BasP w.drew H q n S cA cc lc C K ql F D eA ec le es:=h.below (zap w 1)
theorem tk{t:TypeId}(h:BasP w H q n S cA cc lc C K ql F D eA ec le es)(hk:TKeep t w w')(h1:184≠t)(a:49≠t)(c:28≠t)(d:3≠t)(e:205≠t)(f:177≠t)(g:175≠t):BasP w' H q n S cA cc lc C K ql F D eA ec le es :=
 ⟨hk.blk h.blk g,h.cols.tk hk h1 a c,h.low,h.lu.tk hk h1 a c d e,h.fac,h.etas.tk hk h1 a f,h.right,h.few,h.own,h.ownK⟩
theorem qlt(h:BasP w H q n S cA cc lc C K ql F D eA ec le es):q<w.heap.size:=(Array.getElem?_eq_some_iff.1 h.blk).1
theorem hle(h:BasP w H q n S cA cc lc C K ql F D eA ec le es):H≤w.heap.size:=Nat.le_trans h.own (Nat.le_of_lt h.qlt)
end BasP
namespace zjE
variable {w w':World} {H q n S:Nat} {C:List (List Rat)}
theorem below(h:zjE w H q n S C)(a:Below w.heap.size w w'):zjE w' H q n S C:=by
 obtain⟨cA,cc,lc,K,ql,F,D,eA,ec,le,es,h⟩:=h;exact⟨cA,cc,lc,K,ql,F,D,eA,ec,le,es,h.below a⟩
theorem alloc(h:zjE w H q n S C)(o:Obj):zjE (w.alloc o) H q n S C:=h.below (zae w o)
theorem drew(h:zjE w H q n S C):zjE w.drew H q n S C:=h.below (zap w 1)
theorem tk{t:TypeId}(h:zjE w H q n S C)(hk:TKeep t w w')(h1:184≠t)(a:49≠t)(c:28≠t)(d:3≠t)(e:205≠t)(f:177≠t)(g:175≠t):zjE w' H q n S C:=by
 obtain⟨cA,cc,lc,K,ql,F,D,eA,ec,le,es,h⟩:=h;exact⟨cA,cc,lc,K,ql,F,D,eA,ec,le,es,h.tk hk h1 a c d e f g⟩
theorem good(h:zjE w H q n S C):CSq n C∧CReg n C∧zhg mw n S C:=by
 obtain⟨cA,cc,lc,K,ql,F,D,eA,ec,le,es,h⟩:=h;exact h.right.good
theorem hle(h:zjE w H q n S C):H≤w.heap.size:=by
 obtain⟨cA,cc,lc,K,ql,F,D,eA,ec,le,es,h⟩:=h;exact h.hle
end zjE
def zey (w:World) (ql:Nat) (tb:Option Nat):Prop:=∀(cs:Array Value),w.heap[ql]? = some (.cells cs 205 (0,0))→∀p,cs[2]? = some p→∀g,p.ownBlock=some g→some g≠tb
def zhf (w:World) (H q n S:Nat) (C:List (List Rat)) (tb:Option Nat):Prop:=∃cA cc lc K ql F D eA ec le es,BasP w H q n S cA cc lc C K ql F D eA ec le es∧zey w ql tb
theorem LuS.perm{w:World}{K ql n:Nat}{F:LUv}(h:LuS w K ql n F){cs:Array Value}(hc:w.heap[ql]? = some (.cells cs 205 (0,0))){p:Value}(d:cs[2]? = some p):IntsS w K p F.perm:=by
 obtain⟨⟨lA,lc,ll,uA,uc,ul,pA,pc,a,e,f,g,i,j,c⟩,k,m⟩:=h;rw[a]at hc;injection hc with hc;injection hc with hc;subst hc;have:p=.slice pA n pc:=by simpa using d.symm
 rw[this];exact c
theorem LuS.qlt(h:LuS w K ql n F):ql<w.heap.size:=by
 obtain⟨⟨lA,lc,ll,uA,uc,ul,pA,pc,a,_⟩,_,_⟩:=h;exact(Array.getElem?_eq_some_iff.1 a).1
theorem LuS.setI(h:LuS w K ql n F)(t:zey w ql (some b))(s:w.heap[b]? = some (.cells cs 3 (0,0)))(u:Value):LuS (w.setCell ⟨b,o,none⟩ u) K ql n F:=by
 have a:TKeep 3 w (w.setCell ⟨b,o,none⟩ u):=TKeep.set s u;obtain⟨⟨lA,lc,ll,uA,uc,ul,pA,pc,c,d,f,g,i,j,m⟩,p,r⟩:=h;refine⟨⟨lA,lc,ll,uA,uc,ul,pA,pc,a.blk c (by decide),d.tk a (by decide) (by decide) (by decide),f,g.tk a (by decide) (by decide) (by decide),i,j,m.keep fun k hk=>Below.heap_setCell _ _ _ _ ?_⟩,p,r⟩;intro e;exact t _ c (pA,n,pc) rfl k hk (by rw[e])
theorem zey.same(h:zey w ql tb)(e:w'.heap[ql]? = w.heap[ql]?):zey w' ql tb:=fun cs hc p a g hg=>h cs (e▸hc) p a g hg
namespace zhf
variable {w w':World} {H q n S:Nat} {C:List (List Rat)} {tb:Option Nat}
theorem toS(h:zhf w H q n S C tb):zjE w H q n S C:=by
 obtain⟨cA,cc,lc,K,ql,F,D,eA,ec,le,es,h,_⟩:=h;exact⟨cA,cc,lc,K,ql,F,D,eA,ec,le,es,h⟩
theorem below(h:zhf w H q n S C tb)(a:Below w.heap.size w w'):zhf w' H q n S C tb:=by
 obtain⟨cA,cc,lc,K,ql,F,D,eA,ec,le,es,h,c⟩:=h;exact⟨cA,cc,lc,K,ql,F,D,eA,ec,le,es,h.below a,c.same (a.block ql h.lu.qlt)⟩
theorem alloc(h:zhf w H q n S C tb)(o:Obj):zhf (w.alloc o) H q n S C tb:=h.below (zae w o)
theorem drew(h:zhf w H q n S C tb):zhf w.drew H q n S C tb:=h.below (zap w 1)
theorem tk{t:TypeId}(h:zhf w H q n S C tb)(hk:TKeep t w w')(h1:184≠t)(d:49≠t)(e:28≠t)(f:3≠t)(c:205≠t)(g:177≠t)(i:175≠t):zhf w' H q n S C tb:=by
 obtain⟨cA,cc,lc,K,ql,F,D,eA,ec,le,es,h,j⟩:=h;refine⟨cA,cc,lc,K,ql,F,D,eA,ec,le,es,h.tk hk h1 d e f c g i,j.same ?_⟩;obtain⟨⟨lA,lc,ll,uA,uc,ul,pA,pc,a,_⟩,_,_⟩:=h.lu;rw[hk.blk a c,a]
theorem setI{b o:Nat}{cs:Array Value}(h:zhf w H q n S C (some b))(d:w.heap[b]? = some (.cells cs 3 (0,0)))(u:Value):zhf (w.setCell ⟨b,o,none⟩ u) H q n S C (some b):=by
 have a:TKeep 3 w (w.setCell ⟨b,o,none⟩ u):=TKeep.set d u;obtain⟨cA,cc,lc,K,ql,F,D,eA,ec,le,es,h,e⟩:=h;refine⟨cA,cc,lc,K,ql,F,D,eA,ec,le,es,⟨a.blk h.blk (by decide),h.cols.tk a (by decide) (by decide) (by decide),h.low,h.lu.setI e d u,h.fac,h.etas.tk a (by decide) (by decide) (by decide),h.right,h.few,h.own,h.ownK⟩,e.same ?_⟩;obtain⟨⟨lA,lc,ll,uA,uc,ul,pA,pc,c,_⟩,_,_⟩:=h.lu;rw[a.blk c (by decide),c]
theorem good(h:zhf w H q n S C tb):CSq n C∧CReg n C∧zhg mw n S C:=h.toS.good
theorem hle(h:zhf w H q n S C tb):H≤w.heap.size:=h.toS.hle
end zhf
theorem zjE.later(h:zjE w H q n S C)(c:∀g,tb=some g→w.heap.size≤g):zhf w H q n S C tb:=by
 obtain⟨cA,cc,lc,K,ql,F,D,eA,ec,le,es,h⟩:=h;refine⟨cA,cc,lc,K,ql,F,D,eA,ec,le,es,h,fun cs hc p a g hg e=>?_⟩;have h1:=((h.lu.perm hc a).own.lt g hg).2;have d:=c g e.symm;omega
theorem BasP.ahead{cA:OA}{cc:Nat}{lc:List Value}{eA:OA}{ec:Nat}{le:List (Nat × Value)}{es:List (Nat × List Rat)}
  (h:BasP w H q n S cA cc lc C K ql F D eA ec le es)  (c:∀g,tb=some g→g<K):zey w ql tb:=fun cs hc p a g hg e=>by
 have h1:=((h.lu.perm hc a).own.lt g hg).1;have d:=c g e.symm;omega
attribute [local go_sem ↓] Go.wp_at_zero Go.wp_at_succ
theorem zu9(x:Int)(h:I64 x):mw (x:Rat)≤1:=by
 unfold mw;rw[Rat.num_intCast,Rat.den_intCast];have h1:=zdl (n:=x.natAbs) (by unfold B64;omega);have a:=zdl (n:=1) (by decide);omega
theorem zvb:mw 0≤1:=zu9 0 (by constructor<;>decide)
theorem zDJ{M:Nat}(c:1≤M)(h:∀q∈xs,mw q≤M)(i:Nat):mw (el xs i)≤M:=by
 unfold el;rw[List.getD_eq_getElem?_getD];cases e:xs[i]? with
 | none=>exact Nat.le_trans zvb c
 | some a=>exact h a (List.mem_of_getElem? e)
theorem zrK{f:Nat→Rat}{M:Nat}(h:∀i,mw (f i)≤M):∀n,mw (zai n f)≤n*(M+1)+1
 | 0=>by simpa[zai]using zvb
 | n+1=>by
  have h1:=zrK h n;have a:=h n;have c:=zrI (zai n f) (f n);rw[Nat.succ_mul];show mw (zai n f+f n)≤_
  omega
def ziw (xs ys:List Rat) (k:Nat):Rat:=zai k fun i=>el xs i*el ys i
def dot (xs ys:List Rat):Rat:=ziw xs ys xs.length
theorem zlZ(xs ys:List Rat)(k:Nat){b:Rat}(c:xs[k]? = some a)(d:ys[k]? = some b):ziw xs ys (k+1)=ziw xs ys k+a*b:=by
 unfold ziw;rw[zai,znd c,znd d]
theorem zlY(xs ys:List Rat)(k:Nat){b:Rat}(c:xs[k]? = some a)(d:ys[k]? = some b)(h:a=0∨b=0):ziw xs ys (k+1)=ziw xs ys k:=by
 rw[zlZ xs ys k c d];rcases h with rfl | rfl
 ·rw[Rat.zero_mul,Rat.add_zero]
 ·rw[Rat.mul_zero,Rat.add_zero]
theorem zrJ{ys:List Rat}(zx:∀q∈xs,mw q≤4000000)(zy:∀q∈ys,mw q≤4000000)(k:Nat):mw (ziw xs ys k)≤k*8000001+1 :=
 zrK (fun i=>Nat.le_trans (zdI _ _) (by have:=zDJ (by omega) zx i;have:=zDJ (by omega) zy i;omega)) k
def scale (r:Rat) (xs:List Rat):List Rat:=xs.map fun a=>r*a
theorem zvn{r:Rat}(h:xs[k]? = some a):(scale r xs)[k]? = some (r*a):=by simp[scale,h]
theorem zfH(r:Rat)(xs:List Rat):(scale r xs).length=xs.length:=by simp[scale]
namespace Vc
theorem subS(S:Nat)(hS:12*S+8≤LIM)(h1:1≤S)(A:OA)(n c:Nat)(xs:List Rat)(B:OA)(f c':Nat)(ys:List Rat)(H i:Nat)(w:World)(k:VecS w H (A,n,c) xs)(o:VecS w i (B,f,c') ys)
  (j:xs.length=ys.length) (a:n≤1048576) (zx:∀q∈xs,mw q≤S) (zy:∀q∈ys,mw q≤S) :
  Calls Tryz.prog 105 #[(A,n,c),(B,f,c')] w (zcd w (zly xs ((-1:Int):Rat) ys) true):=by
 have p:=hid k;have s:=hid o;have y:=hid j;have x:=hid a;have J:=hid zx;have L:=hid zy;have E:=hid hS;have G:=hid h1;clear k o j a zx zy hS h1;go_enter Tryz.func105,Tryz.ntmps105;go_wp2_with fail
 refine(Rt.int (-1) (by decide) (by decide) _).mono ?_;rintro e w1 ⟨g,R,m,cr,D,md,cd,rfl,hr,a⟩;have r:=hid (p.out.below a);have t:=hid (s.out.below a);have z:=hid hr;have d:=hid a;clear hr a;go_wp2_with fail
 refine(addTimesS S E.out A n c xs g R m cr D md cd ((-1:Int):Rat) B f c' ys H i _ r.out z.out t.out y.out x.out J.out (Nat.le_trans (zu9 _ (by constructor<;>decide)) G.out) L.out).mono ?_;rintro e w2 ⟨A2,n2,c2,rfl,hv,a⟩;have I:=hid (hv.base d.out.size);have u:=hid (d.out.trans (a.mono d.out.size));clear hv a;go_wp2;refine bodyPost_ret (v:=.tuple #[(A2,n2,c2),true]) (by simp[results,Tryz.results105,go_sem]) rfl ?_;exact⟨_,_,_,rfl,I.out,u.out⟩
theorem sub(A:OA)(n c:Nat)(xs:List Rat)(B:OA)(a c':Nat)(ys:List Rat)(H d:Nat)(w:World)(g:VecS w H (A,n,c) xs)(i:VecS w d (B,a,c') ys)
  (f:xs.length=ys.length) (e:n≤1048576) (zx:∀q∈xs,mw q≤100000000) (zy:∀q∈ys,mw q≤100000000) :
  Calls Tryz.prog 105 #[(A,n,c),(B,a,c')] w (zcd w (zly xs ((-1:Int):Rat) ys) true) :=
 subS 100000000 (by rw[zaP];decide) (by decide) A n c xs B a c' ys H d w g i f e zx zy
theorem scaleS(S:Nat)(hS:8*S+8≤LIM)(g:Bool)(R:OA)(m j:Nat)(D:OA)(p f:Nat)(r:Rat)(A:OA)(n c:Nat)(xs:List Rat)(H:Nat)(w:World)(Q:VecS w H (A,n,c) xs)(hr:RatS w g (R,m,j) (D,p,f) r)
  (d:n≤1048576) (zx:∀q∈xs,mw q≤S) (zr:mw r≤S) :
  Calls Tryz.prog 29 #[.agg #[g,(R,m,j),(D,p,f)],(A,n,c)] w (zq5 w (scale r xs)):=by
 have x:=Q.len;have u:=hid x;have ae:=hid d;have ZX:=hid zx;have ZR:=hid zr;have aN:n≤9223372036854775807:=by omega
 have am:=hid hS;clear x d zx zr hS;obtain⟨W,t⟩:∃W,(w.alloc (.cells #[g,(R,m,j),(D,p,f)] 49))=W:=⟨_,rfl⟩
 have ap:=hid (show W.heap[w.heap.size]? = some (.cells #[g,(R,m,j),(D,p,f)] 49 (0,0))by rw[←t];exact zam (by simp));have O:=hid (show Below w.heap.size w W by rw[←t];exact zae w _);have HZ:=hid (show w.heap.size+1≤W.heap.size by rw[←t];simp);have U:=hid (show VecS W H (A,n,c) xs by rw[←t];exact(Q).alloc _);have HR:=hid (show RatS W g (R,m,j) (D,p,f) r by rw[←t];exact(hr).alloc _);clear Q hr;go_enter Tryz.func29,Tryz.ntmps29
 go_wp2_with (at_make;go_must (refine zdv rfl _ _ rfl n _ rfl rfl rfl ae.out W.heap.size rfl ?_;intro w1 Z X))
 clear t;have HO:=hid Z;have ad:=hid X;clear Z X;go_wp2
 go_loopw [12] (fun i wr=>∃k:Nat,i=.int .i64 k∧k≤n∧VecS wr W.heap.size (.slice (some ⟨W.heap.size,0,none⟩) n n) (mix (Go.Proofs.YtbhfhkcdfmmmiaaGreatDoor.scale r xs) k)∧Below W.heap.size W wr)
  (fun i _=>n-(intOf i).toNat)
 case atStart=>exact⟨0,rfl,Nat.zero_le _,by rw[zhW,zfH,←u.out];exact HO.out,ad.out⟩
 case round =>
  obtain⟨k,rfl,hk,L,o⟩:=hrel;by_cases Y:k<n
  ·obtain⟨a,J⟩:∃a,xs[k]? = some a:=⟨xs[k]'(by rw[←u.out];exact Y),List.getElem?_eq_getElem _⟩
   obtain⟨s,rfl,aJ,aK⟩:=U.out.has (by omega);obtain⟨I,z,M,E,B,N,G,k0,k1,k2,V⟩:=(U.out.below o).at_ J;have ac:=hid (zad o ap.out);have aE:=hid (HR.out.below o);have al:=hid (show RatS wr I (z,M,E) (B,N,G) a from V);have P:=hid (show VecS wr W.heap.size (.slice (some ⟨W.heap.size,0,none⟩) n n) (mix (Go.Proofs.YtbhfhkcdfmmmiaaGreatDoor.scale r xs) k)from L);have HW:=hid (show Bel W wr from Bel.mk o);obtain⟨aW,_,aX,_,a0,_⟩:=bc3 ac.out;have aB:wr.cell? ⟨s,k*3,none⟩=some (.bool I):=k0
   have ax:=zaa aB;have aC:wr.cell? ⟨s,k*3+1,none⟩=some (z,M,E):=k1;have ay:=zaa aC;have aD:wr.cell? ⟨s,k*3+2,none⟩=some (B,N,G):=k2;have az:=zaa aD;have ag:=hid (zvn (r:=r) J);have ZA:=hid (ZX.out a (List.mem_of_getElem? J));have aL:(0:Int)≤(k:Int):=Int.natCast_nonneg _;have aM:(k:Int)<(n:Int):=by omega
   have L1:=hid (show 4*(mw r+mw a)+8≤LIM by have:=ZR.out;have:=ZA.out;have:=am.out;omega);have ai:=hid (zld (k:=k) (rs:=Go.Proofs.YtbhfhkcdfmmmiaaGreatDoor.scale r xs) (by rw[zfH,←u.out];exact Y));clear L o J k0 k1 k2 V;have aO:=HZ.out;go_wp2_with fail
   go_region_held3 (fun w'=>w'.cell? ⟨w.heap.size,0,none⟩=some (.bool g)∧w'.cell? ⟨w.heap.size,1,none⟩=some (R,m,j)∧w'.cell? ⟨w.heap.size,2,none⟩=some (D,p,f)∧w'.cell? ⟨s,k*3,none⟩=some (.bool I)∧w'.cell? ⟨s,k*3+1,none⟩=some (z,M,E)∧w'.cell? ⟨s,k*3+2,none⟩=some (B,N,G))
    (((try go_split_ands);(try simp only[World.cell?_drew]);(repeat' apply And.intro)<;>(repeat(first | with_reducible assumption | with_reducible refine cell_set (by omega) ?_ | with_reducible refine cell_al ?_))))
    (first
     | (go_at_call 71;(with_reducible refine(Rt.mul g R m j D p f r I z M E B N G a _ aE.out.drew al.out.drew L1.out).mono ?_);rintro e u1 ⟨g1,A1,m1,c1,D1,md1,cd1,rfl,x,d⟩;have aA:=hid (zad d ac.out);have y:=hid (P.out.drew.below d);have aF:=hid (HW.out.drew.below d);have HM:=hid (show RatS u1 g1 (A1,m1,c1) (D1,md1,cd1) (r*a)from x);obtain⟨aY,_,aZ,_,a3,_⟩:=bc3 aA.out;have a1:=zab d ax;have a2:=zab d ay;have a4:=zab d az;have pp:=y.out.at_ ai.out;obtain⟨go,Ao,mo,co,Do,aP,aI,o0,o1,o2,_⟩:=pp;have aU:=y.out.fro (k*3);have of1:=y.out.fro (k*3+1);have aV:=y.out.fro (k*3+2);clear x d)
     | fail)
   go_wp2;go_roundw
   case rel=>exact⟨k+1,by go_num,by omega,by rw[←zhV ag.out];exact VecS.store y.out k HM.out,(Bel.set3 aF.out (Nat.le_refl _) _ _ _).b⟩
   case measure=>simp[intOf];omega
  ·obtain rfl:k=n:=by omega
   have P:=hid L;have HF:=hid o;clear L o;go_wp2;go_ret
   refine⟨_,_,_,rfl,?_,O.out.trans (HF.out.mono O.out.size)⟩;have h:=P.out;rw[show k=(Go.Proofs.YtbhfhkcdfmmmiaaGreatDoor.scale r xs).length by rw[zfH,←u.out],zlc]at h;rw[←show k=(Go.Proofs.YtbhfhkcdfmmmiaaGreatDoor.scale r xs).length by rw[zfH,←u.out]]at h;exact h.base O.out.size
theorem scale(g:Bool)(R:OA)(m d:Nat)(D:OA)(e a:Nat)(r:Rat)(A:OA)(n c:Nat)(xs:List Rat)(H:Nat)(w:World)(i:VecS w H (A,n,c) xs)(hr:RatS w g (R,m,d) (D,e,a) r)
  (f:n≤1048576) (zx:∀q∈xs,mw q≤100000000) (zr:mw r≤100000000) :
  Calls Tryz.prog 29 #[.agg #[g,(R,m,d),(D,e,a)],(A,n,c)] w (zq5 w (scale r xs)) :=
 scaleS 100000000 (by rw[zaP];decide) g R m d D e a r A n c xs H w i hr f zx zr
end Vc
theorem zqJ{o:Oper}{a:Act}{K:Act→World→Prop}{Q:Exit→Act→World→Prop}(s x:Operand)
  (B:o.op=.call { callee:=.builtin .append,args:=#[s,x],argTypes:=#[28,28] }) (E:a.eval s=())     (I:a.eval x=(A,n,c)) (i:VecS w H (A,n,c) qs) (ae:qs.length≤1000000)
  (t:∀d c' w',VecS w' w.heap.size (.slice d n c') qs→Below w.heap.size w w'→K (a.put o.dst (.slice d n c')) w'):Oper.wp Tryz.prog o a w K Q:=by
 obtain⟨J,z,X,Y,Z⟩:=info_parts ze0;obtain rfl:=i.len;rcases i.form.2.2.2 with ⟨rfl,rfl,rfl⟩ | ⟨g,rfl,ac,ad⟩
 ·have W:=run_append_owned_none (P:=Tryz.prog) (w:=w) w.heap.size 28 o.type 49 J 3 Tryz.underlying28 z () 0 [] (World.ownsRow_nil _ _ _ _);unfold Oper.wp;simp[execOp,B,resolve,invoke,builtin,E,I,W,Result.andThen];exact t none 0 w (VecS.nil _ _) (Below.refl _ _)
 ·obtain⟨l,e,p,L⟩:=i.row;have R:∀u∈rcells l,u.oneCell'=true:=ziJ l fun r hr=>by
   obtain⟨k,hk,O⟩:=List.getElem_of_mem hr;have N:l[k]? = some r:=by rw[List.getElem?_eq_getElem hk,O]
   obtain⟨q,V⟩:∃q,qs[k]? = some q:=⟨qs[k]'(by omega),List.getElem?_eq_getElem _⟩
   obtain⟨A,m,c,D,md,cd,h1,f⟩:=(p k r q N V).shape;rw[h1,f];exact⟨rfl,rfl⟩
  refine wp_append_own w s x 28 B w.heap.size 49 J _ 3 56 Tryz.underlying28 z X Y Z rfl (by decide) () 0 [] E (World.ownsRow_nil _ _ _ _) ⟨g,0,none⟩ qs.length c (rcells l) I (by rw[zcC,e])
   (fun j u G=>by
    have hj:=(List.getElem?_eq_some_iff.1 G).1;rw[zcC,e]at hj;show w.cell? (Addr.add _ _)=_
    rw[show(⟨g,0,none⟩:Addr).add j=⟨g,j,none⟩by unfold Addr.add;split<;>simp_all];rw[L.cellAt j hj];exact G) R (by unfold maxLen;omega) (by omega) (Nat.le_refl _) ?_
  intro v' w' U M _;have y:Below w.heap.size w w':=(Below.refl _ _).grown M (Nat.le_refl _) (fun k hk=>by cases hk);have hS:VecS w' w.heap.size v' qs:=⟨l,e,fun k r q h1 f=>(p k r q h1 f).below y,by simpa using U⟩
  obtain⟨d,n',c',rfl⟩:=hS.slice;obtain rfl:=hS.len;exact t d c' w' hS y
namespace Vc
theorem copy(A:OA)(n c:Nat)(qs:List Rat)(H:Nat)(w:World)(h:VecS w H (A,n,c) qs)(g:n≤1000000) :
  Calls Tryz.prog 54 #[(A,n,c)] w fun e w'=>∃(a:OA) (c':Nat),e=.returned (a,n,c')∧VecS w' w.heap.size (a,n,c') qs∧Below w.heap.size w w':=by
 have o:=hid h;have k:=hid g;have m:=hid h.len;clear h g;go_enter Tryz.func54,Tryz.ntmps54;go_wp2_with (at_builtin;go_loud (refine wpList_plain rfl fun K d=>zqJ _ _ rfl rfl rfl o.out (by have:=m.out;have:=k.out;omega) ?_;intro a c' w' i f;refine d _ _ ?_;have p:=hid i;have j:=hid f;clear i f d))
 go_ret
 exact⟨a,c',rfl,p.out,j.out⟩
end Vc
def zsR (w:World) (n:Nat) (L:List (List Rat)) (c:Nat) (e:Ending) (w':World):Prop:=∃(A:OA) (cR:Nat) (l:List Value),e=.returned (.tuple #[.agg #[(A,n,cR),(c:Int)],true])∧VecsL w' w.heap.size (A,n,cR) l L∧zbG l∧Below w.heap.size w w'
def zx4 (w:World) (n:Nat) (L:List (List Rat)) (c:Nat) (e:Ending) (w':World):Prop:=∃(A:OA) (cR:Nat) (l:List Value),e=.returned (.agg #[(A,n,cR),(c:Int)])∧VecsL w' w.heap.size (A,n,cR) l L∧zbG l∧Below w.heap.size w w'
def noughts (n c:Nat):List (List Rat):=List.replicate n (List.replicate c 0)
namespace Mt
theorem new(n c:Nat)(X:n≤64)(hc:c≤64)(w:World):Calls Tryz.prog 98 #[(n:Int),(c:Int)] w (zsR w n (noughts n c) c):=by
 have h1:decide ((n:Int)<0)=false:=by simp
 have h2:decide ((64:Int)<(n:Int))=false:=by simp;omega
 have h3:decide ((c:Int)<0)=false:=by simp
 have h4:decide ((64:Int)<(c:Int))=false:=by simp;omega
 have HN:=hid X;have HC:=hid hc;have az:n≤9223372036854775807:=by omega
 clear X hc;obtain⟨W,x⟩:∃W,(w.alloc (.cells #[(),.int .i64 0] 78))=W:=⟨_,rfl⟩
 have O:=hid (show W.heap[w.heap.size]? = some (.cells #[(),.int .i64 0] 78 (0,0))by rw[←x];exact zam (by simp));have r:=hid (show Below w.heap.size w W by rw[←x];exact zae w _);have HZ:=hid (show w.heap.size+1≤W.heap.size by rw[←x];simp);go_enter Tryz.func98,Tryz.ntmps98;go_wp2;clear x
 go_loopw [25] (fun i wr=>∃(k:Nat) (A:OA) (d:Nat) (l:List Value),i=.int .i64 k∧k≤n∧wr.heap[W.heap.size]? = some (.cells #[(A,k,d),(c:Int)] 78 (0,0))∧VecsL wr W.heap.size (A,k,d) l (noughts k c)∧zbG l∧Below W.heap.size W wr)
  (fun i _=>n-(intOf i).toNat)
 case atStart=>exact⟨0,none,0,[],rfl,Nat.zero_le _,zal _ _ _,VecsL.nil _ _,zbG.nil,zae W _⟩
 case round =>
  obtain⟨k,A,d,l,rfl,hk,y,u,P,f⟩:=hrel;have N:=hid P;clear P;have aA:=HZ.out;have an:=f.size;by_cases ay:k<n
  ·skip
   have j:=hid (zad f O.out);have s:=hid (show VecsL wr W.heap.size (A,k,d) l (noughts k c)from u);have HW:=hid (show Bel W wr from Bel.mk f);have aa:=hid (r.out.trans ((f).mono r.out.size));obtain⟨z,E,L,_,B,G,M,_⟩:=bf2 j.out;have t:=hid y;obtain⟨ap,_,_,_,aq,_⟩:=bf2 t.out;clear y u f;have ax:(k:Int)<(n:Int):=by omega
   have af:=hid (show(noughts k c).length=k by simp[noughts]);go_wp2_with fail
   refine za2 (S:=fun w'=>w'.cell? ⟨W.heap.size,0,none⟩=some (A,k,d)∧w'.cell? ⟨W.heap.size,1,none⟩=some (.int .i64 (c:Int))) 7 (h:=fun hHeld=>?_);refine zaw [0,1,2] ?_;repeat refine tkE (hS:=hHeld) (h:=?_)
   refine zao ?_;refine zaN 3 (h:=fun K a=>?_)
   (refine zh5 rfl _ _ rfl c _ rfl rfl rfl (by have:=HC.out;omega) ?_;intro Y J I;have ab:=hid (zad I t.out);have ao:=hid (s.out.drew.below I);have ar:=hid (HW.out.drew.below I);have HR:=hid (show VecS Y W.heap.size (.slice (some ⟨wr.heap.size,0,none⟩) c c) (List.replicate c 0)from(J.base an));obtain⟨aF,_,_,_,aG,_⟩:=bf2 ab.out;have aB:wr.heap.size<Y.heap.size:=(J.lt rfl).2;clear J)
   refine a.out _ _ kp fun hHeld=>?_
   clear a K;try simp only[Act.put,pu1,pu2,pu3,pu4,pu5,pu6]
   refine zaN 4 (h:=fun K a=>?_);go_simp;refine a.out _ _ kp fun hHeld=>?_
   clear a K;try simp only[Act.put,pu1,pu2,pu3,pu4,pu5,pu6]
   refine zaN 5 (h:=fun K a=>?_)
   (refine zjh rfl _ _ rfl rfl (ao.out.alloc _) rfl (zal _ _ _) (HR.out.alloc _) af.out (by have:=HN.out;omega) (by simp;omega) ?_;intro A5 c5 Z Q V R;have ae:=hid Q;have m:=hid (V.blk (zak ab.out) (by decide));have aj:=hid ((ar.out.alloc _).b.trans R);have p0:Z.cell? ⟨W.heap.size,0,none⟩=some (A,k,d):=zac m.out 0;have p1:Z.cell? ⟨W.heap.size,1,none⟩=some (.int .i64 (c:Int)):=zac m.out 1;have aE:=zag m.out 0;clear Q V R)
   refine a.out _ _ kp fun hHeld=>?_
   clear a K;try simp only[Act.put,pu1,pu2,pu3,pu4,pu5,pu6]
   refine zaw [6] ?_;repeat refine tkE (hS:=hHeld) (h:=?_)
   refine zao ?_;refine zba (h:=fun K a=>?_);go_simp;refine a.out _ _ ?_;clear a K;try simp only[Act.put,pu1,pu2,pu3,pu4,pu5,pu6]
   refine za1 (h:=?_);go_wp2;go_roundw
   case rel=>exact⟨k+1,A5,c5,_,by go_num,by omega,zar _ m.out,by rw[show noughts (k+1) c=noughts k c++[List.replicate c 0]from List.replicate_succ'];exact ae.out.tk (TKeep.set m.out _) (by decide) (by decide) (by decide),N.out.push fun g b hg hb e=>(by have U:some wr.heap.size=some g:=hg;injection U with U;have:=(s.out.lt hb e).2;omega),Below.setCell aj.out (p:=⟨W.heap.size,0,none⟩) (Nat.le_refl _) _⟩
   case measure=>simp[intOf];omega
  ·obtain rfl:k=n:=by omega
   have j:=hid (zad f O.out);have s:=hid (show VecsL wr W.heap.size (A,k,d) l (noughts k c)from u);have aa:=hid (r.out.trans ((f).mono r.out.size));obtain⟨z,E,L,_,B,G,M,_⟩:=bf2 j.out;have t:=hid y;obtain⟨ap,_,aq,_⟩:=bc2 t.out;clear y u f;go_wp2;refine bodyPost_ret (v:=.tuple #[.agg #[(A,k,d),(c:Int)],true]) (by simp[results,Tryz.results98,go_sem,z,E,B,G]) rfl ?_
   have h1:=((s.out.base (show w.heap.size≤W.heap.size by omega)).tk (TKeep.set (o:=0) j.out (A,k,d)) (by decide) (by decide) (by decide)).tk (TKeep.set (o:=1) (zar _ j.out) (c:Int)) (by decide) (by decide) (by decide);exact⟨A,d,l,rfl,h1,N.out,bsc (bsc aa.out)⟩
end Mt
def zpS (n S T:Nat):Nat:=64*(tB n S T+sB n S T+sB n S S+uB n S+n*(sB n S S+tB n S T+2)+xB n (uB n S) (cB n (S+T)) (tB n S T)+S+T+2)+64
theorem zyh(h:zpS n S T≤LIM):64*(sB n S T+sB n S S+S+T+1)+8≤LIM:=by unfold zpS at h;omega
theorem zC3(h:zpS n S T≤LIM):24*uB n S+8≤LIM:=by unfold zpS at h;omega
theorem zHx(h:zpS n S T≤LIM):4*(4*sB n S T+uB n S+1)+8≤LIM:=by unfold zpS at h;omega
theorem zC2(h:zpS n S T≤LIM):4*(tB n S T+sB n S S+tB n S T+n*(sB n S S+tB n S T+2)+sB n S S)+8≤LIM:=by unfold zpS at h;omega
theorem zC4(h:zpS n S T≤LIM):4*(4*xB n (uB n S) (cB n (S+T)) (tB n S T)+uB n S+1)+8≤LIM:=by unfold zpS at h;omega
theorem zoC(c:CSq n D)(hr:CReg n D)(g:zhg mw n S D)(d:zoN n (zcZ n D)=some F) :
  LUinv n (en (zcZ n D)) n F∧LUsz mw n (uB n S) F:=by
 obtain⟨G,a,f⟩:=ziH c hr;rw[d]at a;injection a with a;subst a;refine⟨f,zk9 zo5 (zfJ n D) (zfK c) (fun i e j hj=>?_) d⟩;rw[zeI e (by rw[c.len];exact hj)];exact g j hj i e
theorem yv8(c:CSq n D)(d:zhg mw n S D):∀i,i<n→∀j,j<n→mw (en (zcZ n D) i j)≤S:=fun i a j hj=>by
 rw[zeI a (by rw[c.len];exact hj)];exact d j hj i a
theorem zxE(a:zoN n (zcZ n D)=some F)(v:List Rat):zes n D v=zaR n F v:=by unfold zes;rw[a]
theorem zxF(a:zoN n (zcZ n D)=some F)(v:List Rat):zlA n D v=zcq n F v:=by unfold zlA;rw[a]
theorem zrz{v:List Rat}(h:∀x∈v,mw x≤T){i:Nat}(a:i<v.length):mw (el v i)≤T:=h _ (List.mem_of_getElem? (zaH a))
theorem zrD{v:List Rat}(c:v.length=n)(h:∀i,i<n→mw (el v i)≤T):∀x∈v,mw x≤T:=fun x d=>by
 obtain⟨i,a⟩:=List.mem_iff_getElem?.1 d;rw[←znd a];exact h i (by rw[←c];exact(List.getElem?_eq_some_iff.1 a).1)
def zph (N:Nat) (A:List (List Rat)) (y:List Rat) (k:Nat):List Rat:=(List.range N).map fun j=>zai k fun i=>el y i*en A i j
theorem zhm(N:Nat)(A:List (List Rat))(y:List Rat)(k:Nat):(zph N A y k).length=N:=by simp[zph]
theorem zt5(N:Nat)(A:List (List Rat))(y:List Rat):zph N A y 0=List.replicate N 0:=by
 unfold zph;simp only[zai];apply List.ext_getElem?;intro i;simp[List.getElem?_replicate];by_cases h:i<N<;>simp[h]
theorem zq8(N:Nat)(A:List (List Rat))(y:List Rat):zph N A y A.length=byL N A y:=rfl
theorem zq9{A:List (List Rat)}{j:Nat}(h:j<N):(zph N A y k)[j]? = some (zai k fun i=>el y i*en A i j):=by
 unfold zph;rw[List.getElem?_map,List.getElem?_range h];rfl
theorem zt4{A:List (List Rat)}{q:Rat}(hr:A[k]? = some r)(d:y[k]? = some q)(c:r.length=N):zly (zph N A y k) q r=zph N A y (k+1):=by
 apply List.ext_getElem?;intro j;by_cases h:j<N
 ·obtain⟨b,a⟩:∃b,r[j]? = some b:=⟨r[j]'(by omega),List.getElem?_eq_getElem _⟩
  rw[zmR (zq9 h) a,zq9 h,zai,znd d];unfold en;rw[getD_some hr,znd a]
 ·rw[List.getElem?_eq_none (by rw[zdt (by rw[zhm,c]),zhm];omega),List.getElem?_eq_none (by rw[zhm];omega)]
theorem zu8{A:List (List Rat)}(m:∀q∈y,mw q≤S)(f:∀r∈A,∀q∈r,mw q≤T)(h1:1≤S)(c:1≤T)(k:Nat):∀q∈zph N A y k,mw q≤k*(S+T+1)+1:=by
 intro q g;obtain⟨j,hj,rfl⟩:=List.mem_map.1 g;have e:∀ {xs:List Rat} {S:Nat},(∀q∈xs,mw q≤S)→1≤S→∀i,mw (el xs i)≤S:=fun {xs S} h h1 i=>by
  by_cases a:i<xs.length
  ·exact h _ (List.mem_of_getElem? (zaH a))
  ·rw[zDb (by omega)];exact Nat.le_trans mw0 h1
 induction k with
 | zero=>rw[zai];have:=mw0;omega
 | succ k d =>
  rw[zai];have o:=zrI (zai k fun i=>el y i*en A i j) (el y k*en A k j);have p:=zdI (el y k) (en A k j);have s:=e m h1 k;have t:mw (en A k j)≤T:=by
   unfold en;by_cases a:k<A.length
   ·exact e (f _ (List.mem_of_getElem? (zaO a))) c j
   ·rw[List.getD_eq_getElem?_getD,List.getElem?_eq_none (by omega)];exact Nat.le_trans mw0 c
  have d:=d (List.mem_map.2 ⟨j,hj,rfl⟩);rw[Nat.add_mul];omega
