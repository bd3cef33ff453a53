/- Contracts and lemmas: BasMem BasCap Mat5. Conditions: as each says. -/
import Derived.Test.YtbpjabgfcbjjmaaGreatSiegYe
import Derived.Test.YtbpjabgfcbjjmaaGreatMat3Ye
set_option linter.all false
set_option maxHeartbeats 4000000
set_option maxRecDepth 100000
namespace Go.Proofs.YtbpjabgfcbjjmaaGreat
open Go.RowKit Am Tryz
variable {cs:Array Value}{g:Bool}{F:LUv}{C D L:List (List Rat)}{xs:List Nat}{qs r:List Rat}{l:List Value}{H K S T b c k n o q ql:Nat}{A:OA}{tb:Option Nat}{t:TypeId}{d s v:Value}{w w':World}
theorem zxj:(prog.info? 248).map (λi=>(i.zero,i.size,i.bytes))=some (some (.agg #[.int .i64 0,()]),2,32):=ξ
structure Kept (T:List TypeId) (b:Option Nat) (w w':World):Prop where
  all:∀(k:Nat) (cs:Array Value) (t:TypeId),θ w k cs t->t ∉ T->(t=3->some k≠b)->θ w' k cs t
  size:w.heap.size<=w'.heap.size
def TB:List TypeId:=[30,246,248]
def TT:List TypeId:=[30,246,248,202]
namespace Kept
variable {T:List TypeId} {b:Option Nat} {w w1 w2:World}
theorem of_below(h:Below w w w1):Kept T b w w1:=⟨λ_ _ _ h1 _ _=>zad h h1,h.size⟩
theorem refl(w:World):Kept T b w w:=of_below (Zj _ _)
theorem trans(h:Kept T b w w1)(a:Kept T b w1 w2):Kept T b w w2:=⟨λk cs t e n m=>a.all k cs t (h.all k cs t e n m) n m,Zl h.size a.size⟩
theorem below(h:Kept T b w w1)(a:Below w1 w1 w2):Kept T b w w2:=h.trans (of_below a)
theorem alloc(h:Kept T b w w1)(o:Obj):Kept T b w (w1.alloc o):=h.below (zae _ o)
theorem drew(h:Kept T b w w1):Kept T b w w1.drew:=h.below (zap _ 1)
theorem any{a:List TypeId}{c:Option Nat}(h:Kept T none w w1)(f:∀t∈T,t∈a):Kept a c w w1:=⟨λk cs t e n _=>h.all k cs t e (λd=>n (f t d)) (λ_=>σ),h.size⟩
theorem set(a:θ w k cs t)(c:t∈T)(u:Value):Kept T b w (w.setCell ⟨k,o,none⟩ u) :=
 ⟨λj d f e n _=>by rw[ZE _ _ _ _ ψ];exact e,σ⟩
theorem setInt(a:θ w k cs 3)(u:Value):Kept T (some k) w (w.setCell ⟨k,o,none⟩ u) :=
 ⟨λj c d e _ m=>by rw[ZE _ _ _ _ ψ];exact e,σ⟩
theorem tk(h:TKeep t w w1)(c:w.heap.size<=w1.heap.size)(d:t∈T):Kept T b w w1 :=
 ⟨λ_ _ f e n _=>h.blk e (λa=>n (a▸d)),c⟩
theorem blk(h:Kept T b w w1)(e:θ w k cs t)(n:t ∉ T)(m:t≠3):θ w1 k cs t:=h.all k cs t e n (λa=>absurd a m)
theorem nat(h:Kept T b w w1)(h1:206 ∉ T)(f:zas w s n):zas w1 s n:=by
 obtain⟨xs,c,e⟩:=f;refine⟨xs,c.keep λk a=>?_,e⟩;rcases c.1.2 with ⟨rfl,_⟩ | ⟨g',cap,cur,rfl,_,d,_⟩
 cases a;injection a with a;subst a;rw[d];exact h.blk d h1 δ
theorem ratS{q:Rat}(h:Kept T b w w1)(h1:206 ∉ T)(a:RatS w g s d q):RatS w1 g s d q:=⟨⟨h.nat h1 a.num.abs,a.num.neg⟩,h.nat h1 a.den⟩
theorem vec(h:Kept T b w w1)(h1:206 ∉ T)(d:62 ∉ T)(c:VecS w H v qs):VecS w1 H v qs:=by
 refine c.keepAll (λk hk=>?_) λ_ _ _ _ r=>h.ratS h1 r
 obtain⟨l,_,_,e⟩:=c.row;rcases e.2 with ⟨rfl,_⟩ | ⟨g',cap,cur,rfl,_,a,_⟩
 cases hk;injection hk with hk;subst hk;rw[a];exact h.blk a d δ
theorem ints(h:Kept T b w w1)(h1:3 ∉ T)(c:IntsS w H v xs)(e:∀g,v.ownBlock=some g->some g≠b):IntsS w1 H v xs:=by
 refine c.keep λk hk=>?_;rcases c.own.2 with ⟨rfl,_⟩ | ⟨g',cap,cur,rfl,_,a,_⟩
 cases hk;have d:g'=k:=by injection hk
 subst d;rw[a];exact h.all _ _ _ a h1 λ_=>e _ hk
end Kept
def ecells (l:List (Nat × Value)):List Value:=l.flatMap λr=>[.int .i64 (r.1:Int),r.2]
theorem zp1(r:Nat × Value)(l:List (Nat × Value)):ecells (r::l)=.int .i64 (r.1:Int)::r.2::ecells l:=by simp[ecells]
theorem znc(a b:List (Nat × Value)):ecells (a++b)=ecells a++ecells b:=by simp[ecells]
theorem zr7(l:List (Nat × Value)):∀(k:Nat) (r:Nat × Value),l[k]? = some r->(ecells l)[k*2]? = some (.int .i64 (r.1:Int))/\(ecells l)[k*2+1]? = some r.2:=by
 induction l with
 | nil=>grind
 | cons a l ih =>
  grind[zp1]
structure EtasL (w:World) (H:Nat) (v:Value) (l:List (Nat × Value)) (es:List (Nat × List Rat)):Prop where
  len:l.length=es.length
  each:∀(k:Nat) (s:Nat × Value) (e:Nat × List Rat),l[k]? = some s->es[k]? = some e->s.1=e.1/\VecS w H s.2 e.2
  own:w.ownsRow H 248 2 v es.length (ecells l)
namespace EtasL
variable {w w':World} {H:Nat} {v:Value} {l:List (Nat × Value)} {es:List (Nat × List Rat)}
theorem keepAll(h:EtasL w H v l es)(hk:∀k,v.ownBlock=some k->w'.heap[k]? = w.heap[k]?)(hr:∀s r,VecS w H s r->VecS w' H s r):EtasL w' H v l es :=
 ⟨h.len,λk s e a b=>⟨(h.each k s e a b).1,hr _ _ (h.each k s e a b).2⟩,zc9 h.own hk⟩
theorem below(h:EtasL w H v l es)(a:Below w w w'):EtasL w' H v l es:=h.keepAll (λk hk=>a.block k (h.own.lt k hk).2) λ_ _ r=>r.below a
theorem alloc(h:EtasL w H v l es)(o:Obj):EtasL (w.alloc o) H v l es:=h.below (zae w o)
theorem drew(h:EtasL w H v l es):EtasL w.drew H v l es:=h.below (zap w 1)
theorem nil(w:World)(H:Nat):EtasL w H () [] []:=⟨rfl,λk s r h=>by simp at h,Xo _ _ _ _⟩
theorem tk{t:TypeId}(h:EtasL w H v l es)(hk:TKeep t w w')(h1:206≠t)(c:62≠t)(d:248≠t):EtasL w' H v l es :=
 h.keepAll (λk a=>hk k (h.own.lt k a).2 λcs e=>za6 h.own e d a) λ_ _ r=>r.tk hk h1 c
theorem form(h:EtasL w H (A,n,c) l es):n=es.length/\n<=c/\c<=maxLen/\((A=none/\c=0/\es=[])\/∃g,A=some ⟨g,0,none⟩/\H<=g/\g<w.heap.size):=by
 rcases h.own.2 with ⟨d,a⟩ | ⟨g,cap,cur,d,hg,e,a,hm,_⟩
 injection d with e1 e2 e3;subst e1 e2 e3;exact⟨a.symm,Za _,Zb _,.inl ⟨rfl,rfl,Xk.1 a⟩⟩;grind
theorem nlen(h:EtasL w H (A,n,c) l es):n=es.length:=h.form.1
theorem has(h:EtasL w H (A,n,c) l es)(f:0<n):∃g,A=some ⟨g,0,none⟩/\H<=g/\g<w.heap.size:=by obtain⟨h1,d,e,a | a⟩:=h.form;omega;exact a
theorem slice(h:EtasL w H v l es):∃A c,v=.slice A es.length c:=by
 rcases h.own.2 with ⟨a,d⟩ | ⟨g,cap,cur,a,_⟩
 exact⟨_,_,by rw[a,d]⟩;grind
theorem at_(h:EtasL w H (b,n,c) l es){e:Nat × List Rat}(hk:es[k]? = some e):∃(A:OA) (c:Nat),χ w b (k*2) (.int .i64 (e.1:Int))/\χ w b (k*2+1) (.slice A e.2.length c)/\VecS w H (.slice A e.2.length c) e.2:=by
 have m:=h.nlen;subst m;have j:=(ZF.1 hk).1;obtain⟨s,f⟩:∃s,l[k]? = some s:=⟨l[k]'(by rw[h.len];exact j),Ze _⟩
 obtain⟨h1,a⟩:=h.each k s e f hk;obtain⟨A,n,c,d⟩:=a.slice;rw[d]at a;obtain rfl:=a.len;obtain⟨g,i⟩:=zr7 l k s f;refine⟨A,c,?_,?_,a⟩;rw[h.own.cellAt _ ω,g,h1];rw[h.own.cellAt _ ω,i,d]
end EtasL
theorem zC5{c:Value}(e:θ w b #[c,d] t):∀j u,[c,d][j]? = some u->w.cell? ((⟨b,0,none⟩:Addr).add j)=some u:=by
 intro j u a
 match j,a with
 | 0,a=>exact(zac e 0).trans a
 | 1,a=>exact(zac e 1).trans a
 | j+2,a=>simp at a
theorem zjg{ops:Array Oper}{o:Oper}{a:Act}{K:Act->World->Prop}{Q:Exit->Act->World->Prop}{E:Prop}(hg:o.guard=none)(s x:Operand)
  (A:o.op=.call { callee:=.builtin .append,args:=#[s,x],argTypes:=#[244,244] })   {l:List (Nat × Value)} {es:List (Nat × List Rat)} (G:a.eval s=v) (c:EtasL w H v l es)  (I:a.eval x=.slice (some ⟨b,0,none⟩) 1 1)
  {at_:Nat} {g:Value}  (y:θ w b #[(at_:Int),g] 248) (hr:VecS w H g r)  (z:es.length=n) (R:n+1<=1000000) (i:H<=w.heap.size)
  (t:∀f c' O w',EtasL w' H (.slice f (n+1) c') O (es++[(at_,r)])->TKeep 248 w w'->Below H w w'->K (a.put o.dst (.slice f (n+1) c')) w') :
  if Region.wanted o (yielded ops a.tmps)=true then Oper.wp prog o a w K Q else E:=by
 have hw:Region.wanted o (yielded ops a.tmps)=true:=by simp[Region.wanted,hg]
 rw[if_pos hw];subst z;obtain⟨N,hi,J,L,M⟩:=info_parts zxj
 refine wp_append_own w s x 244 A H 248 N _ 2 32 underlying244 hi J L M rfl δ v es.length (ecells l) G c.own ⟨b,0,none⟩ 1 1 [.int .i64 (at_:Int),g] I rfl (zC5 y)
  (by intro u p;simp at p;rcases p with e | e;(rw[e];rfl);(rw[e];exact hr.one)) (by unfold maxLen;omega) ω i ?_
 intro P w' B m _;have hk:=TKeep.grown c.own m;have j:EtasL w' H P (l++[(at_,g)]) (es++[(at_,r)]):=by refine⟨by simp[c.len],?_,by rw[ZD,znc];exact B⟩;intro k r' p' h1 d;rcases XJ k l.length with h | h | h;rw[Z1 h]at h1;rw[Z1 (by rw[<-c.len];exact h)]at d;exact⟨(c.each k r' p' h1 d).1,(c.each k r' p' h1 d).2.tk hk δ δ⟩;subst h;rw[ZJ (Za _)]at h1;rw[ZJ (by rw[c.len];exact Za _)]at d;simp at h1;rw[c.len]at d;simp at d;subst h1 d;exact⟨rfl,hr.tk hk δ δ⟩;grind
 obtain⟨f,c',e⟩:=j.slice;rw[ZD]at e;subst e;exact t f c' _ w' j hk ((Zj _ _).grown m i (λk hk=>(c.own.lt k hk).1))
theorem zd5{ops:Array Oper}{rest:List Oper}{o:Oper}{a:Act}{Q:Exit->Act->World->Prop}(d:o.guard=none)(s x:Operand)
  (y:o.op=.call { callee:=.builtin .append,args:=#[s,x],argTypes:=#[244,244] })   {l:List (Nat × Value)} {es:List (Nat × List Rat)} (z:a.eval s=v) (A:EtasL w H v l es)  (B:a.eval x=.slice (some ⟨b,0,none⟩) 1 1)
  {at_:Nat} {f:Value}  (p:θ w b #[(at_:Int),f] 248) (hr:VecS w H f r)  (u:es.length=n) (t:n+1<=1000000) (j:H<=w.heap.size)
  (k:∀c c' e w',EtasL w' H (.slice c (n+1) c') e (es++[(at_,r)])->TKeep 248 w w'->Below H w w'->wpList prog ops Q rest (a.put o.dst (.slice c (n+1) c')) w') :
  wpList prog ops Q (o::rest) a w:=by
 refine wpList_plain d λK m=>?_;have h:=zjg (ops:=ops) (K:=K) (Q:=Q) (E:=True) d s x y z A B p hr u t j λc c' e w' h1 g i=>m _ _ (k c c' e w' h1 g i)
 have hw:Region.wanted o (yielded ops a.tmps)=true:=by simp[Region.wanted,d]
 rw[if_pos hw]at h;exact h
structure Hi (H:Nat) (w w':World):Prop where
  blk:∀k,H<=k->k<w.heap.size->w'.heap[k]? = w.heap[k]?
  num:∀(k:Nat) (cs:Array Value),θ w k cs 206->θ w' k cs 206
namespace Hi
variable {H:Nat} {w w':World}
theorem nat(h:Hi H w w')(f:zas w s n):zas w' s n:=by
 obtain⟨xs,c,e⟩:=f;refine⟨xs,c.keep λk a=>?_,e⟩;rcases c.1.2 with ⟨rfl,_⟩ | ⟨g',cap,cur,rfl,_,d,_⟩
 cases a;injection a with a;subst a;rw[d];exact h.num _ _ d
theorem ratS{q:Rat}(h:Hi H w w')(a:RatS w g s d q):RatS w' g s d q:=⟨⟨h.nat a.num.abs,a.num.neg⟩,h.nat a.den⟩
theorem vec(h:Hi H w w')(a:VecS w H v qs):VecS w' H v qs:=a.keepAll (λk hk=>h.blk k (a.lt hk).1 (a.lt hk).2) λ_ _ _ _ r=>h.ratS r
theorem vecs(h:Hi H w w')(a:VecsL w H v l L):VecsL w' H v l L:=a.keepAll (λk hk=>h.blk k (a.own.lt k hk).1 (a.own.lt k hk).2) λ_ _ _ r=>h.vec r
theorem ints(h:Hi H w w')(a:IntsS w H v xs):IntsS w' H v xs:=a.keep λk hk=>h.blk k (a.own.lt k hk).1 (a.own.lt k hk).2
theorem lu(h:Hi H w w')(k:LuS w H q n F):LuS w' H q n F:=by obtain⟨⟨lA,lc,ll,uA,uc,ul,pA,pc,h1,c,d,e,f,g,i⟩,a,j⟩:=k;exact⟨⟨lA,lc,ll,uA,uc,ul,pA,pc,by rw[h.blk q a (ZS.1 h1).1];exact h1,h.vecs c,d,h.vecs e,f,g,h.ints i⟩,a,j⟩
theorem set(hk:k<H)(a:θ w k cs t)(c:206≠t)(u:Value):Hi H w (w.setCell ⟨k,o,none⟩ u) :=
 ⟨λj h1 _=>ZE _ _ _ _ (show j≠k by omega),λj d e=>by rw[ZE _ _ _ _ (show j≠k by grind)];exact e⟩
end Hi
theorem LuS.below(h:LuS w H q n F)(a:Below w w w'):LuS w' H q n F :=
 Hi.lu ⟨λk _ hk=>a.block k hk,λ_ _ e=>zad a e⟩ h
theorem LuS.tk{w w':World}{H q n:Nat}{F:LUv}{t:TypeId}(h:LuS w H q n F)(hk:TKeep t w w')(h1:206≠t)(a:62≠t)(c:30≠t)(p:3≠t)(r:265≠t):LuS w' H q n F:=by obtain⟨⟨lA,lc,ll,uA,uc,ul,pA,pc,d,e,f,g,i,j,k⟩,m,o⟩:=h;exact⟨⟨lA,lc,ll,uA,uc,ul,pA,pc,hk.blk d r,e.tk hk h1 a c,f,g.tk hk h1 a c,i,j,k.tk hk p⟩,m,o⟩
structure BasP (w:World) (H q n S:Nat) (cA:OA) (cc:Nat) (lc:List Value) (C:List (List Rat)) (K ql:Nat) (F:LUv) (D:List (List Rat)) (eA:OA) (ec:Nat) (le:List (Nat × Value)) (es:List (Nat × List Rat)):Prop where
  blk:θ w q #[(cA,n,cc),.pointer (some ⟨ql,0,none⟩),(eA,es.length,ec)] 246
  cols:VecsL w H (cA,n,cc) lc C
  low:∀g,(Value.slice cA n cc).ownBlock=some g->g<K
  lu:LuS w K ql n F
  fac:zoN n (zcZ n D)=some F
  etas:EtasL w H (eA,es.length,ec) le es
  right:EtasZ mw S n D es C
  few:es.length<=8
  own:H<=q
  ownK:H<=K
def zjE (w:World) (H q n S:Nat) (C:List (List Rat)):Prop:=∃cA cc lc K ql F D eA ec le es,BasP w H q n S cA cc lc C K ql F D eA ec le es
namespace BasP
variable {w w':World} {H q n S:Nat} {cA:OA} {cc:Nat} {lc:List Value} {C:List (List Rat)} {K ql:Nat} {F:LUv} {D:List (List Rat)} {eA:OA} {ec:Nat} {le:List (Nat × Value)} {es:List (Nat × List Rat)}
theorem below(h:BasP w H q n S cA cc lc C K ql F D eA ec le es)(a:Below w w w'):BasP w' H q n S cA cc lc C K ql F D eA ec le es :=
 ⟨by rw[a.block q (ZS.1 h.blk).1];exact h.blk,h.cols.below a,h.low,h.lu.below a,h.fac,h.etas.below a,h.right,h.few,h.own,h.ownK⟩
theorem alloc(h:BasP w H q n S cA cc lc C K ql F D eA ec le es)(o:Obj):BasP (w.alloc o) H q n S cA cc lc C K ql F D eA ec le es:=h.below (zae w o)
theorem drew(h:BasP w H q n S cA cc lc C K ql F D eA ec le es):BasP w.drew H q n S cA cc lc C K ql F D eA ec le es:=h.below (zap w 1)
theorem tk{t:TypeId}(h:BasP w H q n S cA cc lc C K ql F D eA ec le es)(hk:TKeep t w w')(h1:206≠t)(a:62≠t)(c:30≠t)(d:3≠t)(e:265≠t)(f:248≠t)(g:246≠t):BasP w' H q n S cA cc lc C K ql F D eA ec le es :=
 ⟨hk.blk h.blk g,h.cols.tk hk h1 a c,h.low,h.lu.tk hk h1 a c d e,h.fac,h.etas.tk hk h1 a f,h.right,h.few,h.own,h.ownK⟩
theorem qlt(h:BasP w H q n S cA cc lc C K ql F D eA ec le es):q<w.heap.size:=(ZS.1 h.blk).1
theorem hle(h:BasP w H q n S cA cc lc C K ql F D eA ec le es):H<=w.heap.size:=Zl h.own (Xi h.qlt)
end BasP
namespace zjE
variable {w w':World} {H q n S:Nat} {C:List (List Rat)}
theorem below(h:zjE w H q n S C)(a:Below w w w'):zjE w' H q n S C:=by obtain⟨cA,cc,lc,K,ql,F,D,eA,ec,le,es,h⟩:=h;exact⟨cA,cc,lc,K,ql,F,D,eA,ec,le,es,h.below a⟩
theorem alloc(h:zjE w H q n S C)(o:Obj):zjE (w.alloc o) H q n S C:=h.below (zae w o)
theorem drew(h:zjE w H q n S C):zjE w.drew H q n S C:=h.below (zap w 1)
theorem tk{t:TypeId}(h:zjE w H q n S C)(hk:TKeep t w w')(h1:206≠t)(a:62≠t)(c:30≠t)(d:3≠t)(e:265≠t)(f:248≠t)(g:246≠t):zjE w' H q n S C:=by obtain⟨cA,cc,lc,K,ql,F,D,eA,ec,le,es,h⟩:=h;exact⟨cA,cc,lc,K,ql,F,D,eA,ec,le,es,h.tk hk h1 a c d e f g⟩
theorem good(h:zjE w H q n S C):CSq n C/\CReg n C/\zhg mw n S C:=by obtain⟨cA,cc,lc,K,ql,F,D,eA,ec,le,es,h⟩:=h;exact h.right.good
theorem hle(h:zjE w H q n S C):H<=w.heap.size:=by obtain⟨cA,cc,lc,K,ql,F,D,eA,ec,le,es,h⟩:=h;exact h.hle
end zjE
def zey (w:World) (ql:Nat) (tb:Option Nat):Prop:=∀(cs:Array Value),θ w ql cs 265->∀p,cs[2]? = some p->∀g,p.ownBlock=some g->some g≠tb
def zhf (w:World) (H q n S:Nat) (C:List (List Rat)) (tb:Option Nat):Prop:=∃cA cc lc K ql F D eA ec le es,BasP w H q n S cA cc lc C K ql F D eA ec le es/\zey w ql tb
theorem LuS.perm{w:World}{K ql n:Nat}{F:LUv}(h:LuS w K ql n F){cs:Array Value}(hc:θ w ql cs 265){p:Value}(d:cs[2]? = some p):IntsS w K p F.perm:=by obtain⟨⟨lA,lc,ll,uA,uc,ul,pA,pc,a,e,f,g,i,j,c⟩,k,m⟩:=h;rw[a]at hc;grind
theorem LuS.qlt(h:LuS w K ql n F):ql<w.heap.size:=by obtain⟨⟨lA,lc,ll,uA,uc,ul,pA,pc,a,_⟩,_,_⟩:=h;grind
theorem LuS.setI(h:LuS w K ql n F)(t:zey w ql (some b))(s:θ w b cs 3)(u:Value):LuS (w.setCell ⟨b,o,none⟩ u) K ql n F:=by have a:TKeep 3 w (w.setCell ⟨b,o,none⟩ u):=TKeep.set s u;obtain⟨⟨lA,lc,ll,uA,uc,ul,pA,pc,c,d,f,g,i,j,m⟩,p,r⟩:=h;refine⟨⟨lA,lc,ll,uA,uc,ul,pA,pc,a.blk c δ,d.tk a δ δ δ,f,g.tk a δ δ δ,i,j,m.keep λk hk=>ZE _ _ _ _ ?_⟩,p,r⟩;intro e;exact t _ c (pA,n,pc) rfl k hk (by rw[e])
theorem zey.same(h:zey w ql tb)(e:w'.heap[ql]? = w.heap[ql]?):zey w' ql tb:=λcs hc p a g hg=>h cs (e▸hc) p a g hg
namespace zhf
variable {w w':World} {H q n S:Nat} {C:List (List Rat)} {tb:Option Nat}
theorem toS(h:zhf w H q n S C tb):zjE w H q n S C:=by obtain⟨cA,cc,lc,K,ql,F,D,eA,ec,le,es,h,_⟩:=h;exact⟨cA,cc,lc,K,ql,F,D,eA,ec,le,es,h⟩
theorem below(h:zhf w H q n S C tb)(a:Below w w w'):zhf w' H q n S C tb:=by obtain⟨cA,cc,lc,K,ql,F,D,eA,ec,le,es,h,c⟩:=h;exact⟨cA,cc,lc,K,ql,F,D,eA,ec,le,es,h.below a,c.same (a.block ql h.lu.qlt)⟩
theorem alloc(h:zhf w H q n S C tb)(o:Obj):zhf (w.alloc o) H q n S C tb:=h.below (zae w o)
theorem drew(h:zhf w H q n S C tb):zhf w.drew H q n S C tb:=h.below (zap w 1)
theorem tk{t:TypeId}(h:zhf w H q n S C tb)(hk:TKeep t w w')(h1:206≠t)(d:62≠t)(e:30≠t)(f:3≠t)(c:265≠t)(g:248≠t)(i:246≠t):zhf w' H q n S C tb:=by obtain⟨cA,cc,lc,K,ql,F,D,eA,ec,le,es,h,j⟩:=h;refine⟨cA,cc,lc,K,ql,F,D,eA,ec,le,es,h.tk hk h1 d e f c g i,j.same ?_⟩;obtain⟨⟨lA,lc,ll,uA,uc,ul,pA,pc,a,_⟩,_,_⟩:=h.lu;rw[hk.blk a c,a]
theorem setI{b o:Nat}{cs:Array Value}(h:zhf w H q n S C (some b))(d:θ w b cs 3)(u:Value):zhf (w.setCell ⟨b,o,none⟩ u) H q n S C (some b):=by have a:TKeep 3 w (w.setCell ⟨b,o,none⟩ u):=TKeep.set d u;obtain⟨cA,cc,lc,K,ql,F,D,eA,ec,le,es,h,e⟩:=h;refine⟨cA,cc,lc,K,ql,F,D,eA,ec,le,es,⟨a.blk h.blk δ,h.cols.tk a δ δ δ,h.low,h.lu.setI e d u,h.fac,h.etas.tk a δ δ δ,h.right,h.few,h.own,h.ownK⟩,e.same ?_⟩;obtain⟨⟨lA,lc,ll,uA,uc,ul,pA,pc,c,_⟩,_,_⟩:=h.lu;rw[a.blk c δ,c]
theorem good(h:zhf w H q n S C tb):CSq n C/\CReg n C/\zhg mw n S C:=h.toS.good
theorem hle(h:zhf w H q n S C tb):H<=w.heap.size:=h.toS.hle
end zhf
theorem zjE.later(h:zjE w H q n S C)(c:∀g,tb=some g->w.heap.size<=g):zhf w H q n S C tb:=by obtain⟨cA,cc,lc,K,ql,F,D,eA,ec,le,es,h⟩:=h;refine⟨cA,cc,lc,K,ql,F,D,eA,ec,le,es,h,λcs hc p a g hg e=>?_⟩;have h1:=((h.lu.perm hc a).own.lt g hg).2;have d:=c g e.symm;omega
theorem BasP.ahead{cA:OA}{cc:Nat}{lc:List Value}{eA:OA}{ec:Nat}{le:List (Nat × Value)}{es:List (Nat × List Rat)}
  (h:BasP w H q n S cA cc lc C K ql F D eA ec le es)  (c:∀g,tb=some g->g<K):zey w ql tb:=λcs hc p a g hg e=>by
 have h1:=((h.lu.perm hc a).own.lt g hg).1;have d:=c g e.symm;omega
def zpS (n S T:Nat):Nat:=64*(tB n S T+sB n S T+sB n S S+uB n S+n*(sB n S S+tB n S T+2)+xB n (uB n S) (cB n (S+T)) (tB n S T)+S+T+2)+64
theorem zyh(h:zpS n S T<=LIM):64*(sB n S T+sB n S S+S+T+1)+8<=LIM:=by unfold zpS at h;omega
theorem zC3(h:zpS n S T<=LIM):24*uB n S+8<=LIM:=by unfold zpS at h;omega
theorem zHx(h:zpS n S T<=LIM):4*(4*sB n S T+uB n S+1)+8<=LIM:=by unfold zpS at h;omega
theorem zC2(h:zpS n S T<=LIM):4*(tB n S T+sB n S S+tB n S T+n*(sB n S S+tB n S T+2)+sB n S S)+8<=LIM:=by unfold zpS at h;omega
theorem zC4(h:zpS n S T<=LIM):4*(4*xB n (uB n S) (cB n (S+T)) (tB n S T)+uB n S+1)+8<=LIM:=by unfold zpS at h;omega
theorem zoC(c:CSq n D)(hr:CReg n D)(e:zhg mw n S D)(hf:zoN n (zcZ n D)=some F) :
  LUinv n (en (zcZ n D)) n F/\LUsz mw n (uB n S) F:=by
 obtain⟨G,a,d⟩:=ziH c hr;rw[hf]at a;injection a with a;subst a;refine⟨d,zk9 zo5 (zfJ n D) (zfK c) (λi hi j hj=>?_) hf⟩;rw[zeI hi (by rw[c.len];exact hj)];exact e j hj i hi
theorem yv8(a:CSq n D)(c:zhg mw n S D):∀i,i<n->∀j,j<n->mw (en (zcZ n D) i j)<=S:=λi hi j hj=>by rw[zeI hi (by rw[a.len];exact hj)];exact c j hj i hi
theorem zxE(hf:zoN n (zcZ n D)=some F)(v:List Rat):zes n D v=zaR n F v:=by unfold zes;rw[hf]
theorem zxF(hf:zoN n (zcZ n D)=some F)(v:List Rat):zlA n D v=zcq n F v:=by unfold zlA;rw[hf]
theorem zrz{v:List Rat}(h:∀x∈v,mw x<=T){i:Nat}(hi:i<v.length):mw (el v i)<=T:=h _ (Zz (zaH hi))
theorem zrD{v:List Rat}(a:v.length=n)(h:∀i,i<n->mw (el v i)<=T):∀x∈v,mw x<=T:=by grind[List.mem_iff_getElem?,znd,List.getElem?_eq_some_iff]
attribute [local go_sem ↓] Go.wp_at_zero Go.wp_at_succ
theorem znQ(P:Program)(w:World)(f r t c:TypeId)(s:Nat)(d a:OA)(e g zKx p:Nat)(o:P.underlying f=some (.slice c))(m:(P.info? c).map (·.size)=some s)(k:Nat.min zKx e=0) :
  (Builtin.copy_ #[f,r] t #[(d,e,g),(a,zKx,p)]).run P w=.ok (goInt 0) w:=by
 cases hq:P.info? c with
 | none=>simp[hq]at m
 | some i =>
  have j:∀(x:Addr),(loadCells x 0).run P w=.ok #[] w:=λx=>by rfl
  cases d<;>cases a<;>simp[Builtin.copy_,run_underlying o,Builtin.lenOf,Builtin.firstCells,sizeOf,typeInfo,hq,k,storeCells,j]
theorem VecS.cells(i:VecS w H (A,n,c) qs):∃l:List RV,l.length=qs.length/\(∀(k:Nat) (r:RV) (q:Rat),l[k]? = some r->qs[k]? = some q->RatS w r.1 r.2.1 r.2.2 q)/\w.ownsRow H 62 3 (A,n,c) qs.length (rcells l) /\
  (∀u∈rcells l,u.oneCell'=true)/\∀g,A=some ⟨g,0,none⟩->∀j u,(rcells l)[j]? = some u->w.cell? ((⟨g,0,none⟩:Addr).add j)=some u:=by
 obtain rfl:=i.len;obtain⟨l,a,d,e⟩:=i.row;refine⟨l,a,d,e,ziJ l λr hr=>?_,λg hg j u f=>?_⟩;obtain⟨k,hk,s⟩:=YI hr;have p:l[k]? = some r:=by rw[Ze hk,s]
 obtain⟨q,t⟩:∃q,qs[k]? = some q:=⟨qs[k]' ω,Ze _⟩
 obtain⟨A,m,c,D,y,x,h1,o⟩:=(d k r q p t).shape;rw[h1,o];exact⟨rfl,rfl⟩;subst hg;have hj:=(ZF.1 f).1;rw[zcC,a]at hj;rw[show(⟨g,0,none⟩:Addr).add j=⟨g,j,none⟩by unfold Addr.add;split<;>simp_all,e.cellAt j hj];exact f
theorem zwE(f:VecsL w H v l L)(X:zbG l){I:List Rat}(z:l[k]? = some (A,n,c))(s:L[k]? = some I){Q:Nat}{u:OA}{c':Nat}(hr:VecS w Q (u,n,c') r)(J:TypeId) :
  ∃w',(Builtin.copy_ #[30,30] J #[(A,n,c),(u,n,c')]).run prog w=.ok (goInt n) w'/\VecsL w' H v l (L.set k r)/\TKeep 62 w w'/\∀B,B<=H->Below B w w':=by
 obtain⟨i0,hi,_,ab,_⟩:=info_parts ze0;have P:(prog.info? 62).map (·.size)=some 3:=by rw[hi];simp[ab]
 have h0:=f.each k _ _ z s;have n0:=h0.len;have o:=hr.len;by_cases O:n=0;have t:=znQ prog w 30 30 J 62 3 A u n c n c' underlying30 P (by rw[O];rfl);refine⟨w,by rw[t,O];rfl,?_,λ_ _ _=>rfl,λB _=>Zj _ _⟩;have e:r=I:=by rw[Xk.1 (show r.length=0 by omega),Xk.1 (show I.length=0 by omega)]
 have:L.set k r=L:=by rw[e];apply Xc;grind
 rw[this];exact f;obtain⟨g,rfl,ag,ai⟩:=h0.has ω;obtain⟨g',rfl,ah,aj⟩:=hr.has ω;obtain⟨lr,p,U,M,V,W⟩:=hr.cells;obtain⟨l0,d1,_,R⟩:=h0.row;rcases R.2 with ⟨G,_⟩ | ⟨gg,cap,cur,G,Y,m,ak,hm,Z,al⟩
 cases G;injection G with e6 e7 e8;injection e6 with e6;injection e6 with e6;subst e6;have t:=zqx prog w 30 30 J 62 3 g 0 n c ⟨g',0,none⟩ n c' cur 62 (rcells lr) underlying30 P m (by rw[zcC,p,<-o];simp) (W g' rfl) (by rw[zcC,p,Z];omega) V;rw[show Nat.min n n=n from Ve n]at t;subst e8;refine⟨_,t,?_,?_,?_⟩
 all_goals
  generalize hcs:(cur.toList.take 0++rcells lr++cur.toList.drop (0+(rcells lr).length)).toArray=cs'
 have y:=λj hj=>setRow_other w g j cs' hj
 have at_:θ (w.setRow g cs') g cs' 62:=setRow_heap w g cur _ 62 _ m;have kp:zff w (w.setRow g cs'):=λj _ E=>y j (by rintro rfl;exact E _ m)
 have N:(rcells lr).length=n*3:=by rw[zcC,p,<-o]
 refine⟨by rw[ZQ];exact f.len,λj s' r' h1 d=>?_,by rw[ZQ];exact zc9 f.own λj hj=>y j λe=>za6 f.own (e▸m) δ (e▸hj)⟩;by_cases e:k=j;subst e;rw[Yy (ZF.1 s).1]at d;injection d with d;subst d;rw[z]at h1;injection h1 with h1;subst h1;refine⟨lr,p,λi x q a b=>(U i x q a b).keepT kp,by rw[N,o],.inr ⟨g,c,cs',by rw[o],Y,at_,ω,hm,?_,?_⟩⟩;rw[<-hcs];simp;omega;rw[<-hcs,<-o,<-N];simp;rw[YF e]at d;exact(f.each j s' r' h1 d).keepAll (λx hx=>y x λM=>e (X k j _ _ g z h1 rfl (by rw[hx,M]))) λ_ _ _ _ r=>r.keepT kp
 exact λj _ E=>setRow_other w g j cs' (by rintro rfl;exact E _ m)
 grind[below_setRow,Below.refl]
def zsE (L:List (List Rat)) (c k:Nat):List (List Rat):=L.take k++noughts (L.length-k) c
theorem zu2(L:List (List Rat))(c:Nat):zsE L c 0=noughts L.length c:=by simp[zsE]
theorem zxm(L:List (List Rat))(c:Nat):zsE L c L.length=L:=by simp[zsE,noughts]
theorem zrE(h:k<L.length):(zsE L c k)[k]? = some (List.replicate c 0):=by unfold zsE noughts;rw[ZJ (by rw[ZG];omega),ZG,Xx (Xi h),Xq,Z8,if_pos ω]
theorem zu1(h:L[k]? = some r):(zsE L c k).set k r=zsE L c (k+1):=by have hk:=(ZF.1 h).1;unfold zsE noughts;rw[Yo,if_neg (by rw[ZG];omega),Xb,h,ZG,Xx (Xi hk),Xq,show L.length-k=(L.length-(k+1))+1 by omega,Ys];simp
namespace Mt
theorem of(n c:Nat)(hn:n<=64)(hc:c<=64)(R:OA)(M:Nat)(l0:List Value)(L:List (List Rat))(G:Nat)(w:World)(h:VecsL w G (R,n,M) l0 L)(hL:∀r∈L,r.length=c) :
  Calls prog 110 #[(c:Int),(R,n,M)] w (zsR w n L c):=by
 refine μ4 hn hc hL h.nlen λHN HC am g=>?_;have aJ:n<=9223372036854775807:=ω;clear hn hc hL;obtain⟨W,j⟩:∃W,(w.alloc (.cells #[(),.int .i64 0] 112))=W:=⟨_,rfl⟩
 refine μ4 (show θ W w.heap.size #[(),.int .i64 0] 112by rw[<-j];exact zam σ) (show Below w w W by rw[<-j];exact zae w _) (show w.heap.size+1<=W.heap.size by rw[<-j];simp) (show VecsL W G (R,n,M) l0 L by rw[<-j];exact(h).alloc _) λJ m HZ Y=>?_;clear h;go_enter func110,ntmps110;go_wp2_with fail
 clear j;with_reducible refine(new n c HN.o HC.o _).mono ?_
 rintro e w1 ⟨A,cA,l1,rfl,a,ha,hb⟩;refine μ3 (show θ (w1.alloc (.cells #[(A,n,cA),(c:Int)] 112)) w.heap.size #[(),.int .i64 0] 112from zak (zad hb J.o)) (show VecsL (w1.alloc (.cells #[(A,n,cA),(c:Int)] 112)) W.heap.size (A,n,cA) l1 (noughts n c)from(a).alloc _) (show θ (w1.alloc (.cells #[(A,n,cA),(c:Int)] 112)) w1.heap.size #[(A,n,cA),(c:Int)] 112from zam σ) λaC HM aB=>?_;obtain⟨aO,aR,aT,aW,aP,aS,aU,aX⟩:=bf2 aC.o;obtain⟨aV,aQ,aY,aN⟩:=bc2 aB.o;have X:=un ha;have ai:=un hb;have aA:=hb.size;clear a ha hb;go_wp2
 go_loopw [22] (λi wr=>∃k:Nat,i=.int .i64 k/\k<=n/\θ wr w1.heap.size #[(A,n,cA),(c:Int)] 112/\VecsL wr W.heap.size (A,n,cA) l1 (zsE L c k)/\Below W.heap.size W wr)
  (λi _=>n-(intOf i).toNat)
 case atStart=>exact⟨0,rfl,Zb _,zal _ _ _,by rw[zu2,<-g.o];exact HM.o,ai.o.alloc aA _⟩
 obtain⟨k,rfl,hk,t,a,d⟩:=hrel;have aL:=HZ.o;by_cases P:k<n
 ·obtain⟨r,hr⟩:∃r,L[k]? = some r:=⟨L[k]'(by rw[<-g.o];exact P),Ze _⟩
  have ae:=am.o r (Zz hr);obtain⟨bR,rfl,_,_⟩:=Y.o.has ω;obtain⟨V,Z,_,u,N⟩:=(Y.o.below d).at_ hr;rw[ae]at u N;obtain⟨bA,rfl,_,_⟩:=a.has ω;obtain⟨Ak,ck,O,x,_⟩:=a.at_ (zrE (c:=c) (by rw[<-g.o];exact P));rw[ZO]at O x;refine μ5 (zad d J.o) (N) (a) (Bel.mk d) (m.o.trans ((d).mono m.o.size)) λf ar I HW ag=>?_;obtain⟨B,y,Q,_,E,z,U,_⟩:=bf2 f.o;have aF:=u;have aG:=x;have s:=un t;obtain⟨aD,_,_,_,aE,_⟩:=bf2 s.o;have aF:=u;have aG:=x;refine μ3 O hr (zrE (c:=c) (show k<L.length by rw[<-g.o];exact P)) λal ak ao=>?_;clear t a d N hr ae u x O;have aH:(0:Int)<=(k:Int):=Zf _;have aI:(k:Int)<(n:Int):=ω;obtain⟨w3,aK,af,ac,ab⟩:=zwE I.o X.o al.o ao.o ar.o 3;refine μ3 af (ac.blk s.o δ) (HW.o.b.trans (ab _ (Za _))) λaq ax av=>?_;clear af ac ab;go_wp2;go_roundw
  case rel=>exact⟨k+1,by go_num,ω,ax.o,by rw[<-zu1 ak.o];exact aq.o,av.o⟩
  case measure=>simp[intOf];omega
 obtain rfl:k=n:=ω;refine μ3 (zad d J.o) (a) (m.o.trans ((d).mono m.o.size)) λf I ag=>?_;obtain⟨B,y,Q,_,E,z,U,_⟩:=bf2 f.o;have s:=un t;obtain⟨aD,_,aE,_⟩:=bc2 s.o;clear t a d;go_wp2;refine Zh (v:=.tuple #[.agg #[(A,k,cA),(c:Int)],true]) (by simp[results,results110,go_sem,B,y,E,z]) rfl ?_;have h0:=I.o;rw[g.o,zxm,<-g.o]at h0;have h1:=((h0.base (show w.heap.size<=W.heap.size by omega)).tk (TKeep.set (o:=0) f.o (A,k,cA)) δ δ δ).tk (TKeep.set (o:=1) (zar _ f.o) (c:Int)) δ δ δ;exact⟨A,cA,l1,rfl,h1,X.o,bsc (bsc ag.o)⟩
