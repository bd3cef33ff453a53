/- Contracts and lemmas: Law1 Mat1. Conditions: as each says. -/
import Derived.Test.YtbhfhkcdfmmmiaaGreatProb1Zj
import Derived.Test.YtbhfhkcdfmmmiaaGreatVec4Zj
import Derived.Laws.OwnMore
set_option linter.all false
set_option maxHeartbeats 1000000
set_option maxRecDepth 100000
namespace Go.Proofs.YtbhfhkcdfmmmiaaGreat
open Go.RowKit Am Tryz
variable {cs:Array Value}{g:Bool}{ps:List PRow}{l:List RR}{qs r:List Rat}{xs:List Value}{H b c k m n:Nat}{A D:OA}{q:Rat}{t:TypeId}{d e f s v:Value}{w w':World}
theorem zC6(c:w.heap[b]? = some (.cells #[d,e,f] t (0,0))):∀j u,[d,e,f][j]? = some u→w.cell? ((⟨b,0,none⟩:Addr).add j)=some u:=by
 intro j u a
 match j,a with
 | 0,a=>exact(zac c 0).trans a
 | 1,a=>exact(zac c 1).trans a
 | 2,a=>exact(zac c 2).trans a
 | j+3,a=>simp at a
theorem zMe{g i:Value}(c:w.heap[b]? = some (.cells #[d,e,f,g,i] t (0,0))):∀j u,[d,e,f,g,i][j]? = some u→w.cell? ((⟨b,0,none⟩:Addr).add j)=some u:=by
 intro j u a
 match j,a with
 | 0,a=>exact(zac c 0).trans a
 | 1,a=>exact(zac c 1).trans a
 | 2,a=>exact(zac c 2).trans a
 | 3,a=>exact(zac c 3).trans a
 | 4,a=>exact(zac c 4).trans a
 | j+5,a=>simp at a
theorem zK2(M:VecS w H v qs){d a:Nat}
  (o:w.heap[b]? = some (.cells #[g,(A,m,c),(D,d,a)] 41 (0,0))) (J:RatS w g (A,m,c) (D,d,a) q) (Q:qs.length+1≤2000000) (F:H≤w.heap.size) (n:TypeId) :
  ∃f w',(Builtin.append_ #[28,28] n #[v,.slice (some ⟨b,0,none⟩) 1 1]).run prog w=.ok f w'∧VecS w' H f (qs++[q])∧w.grownBy w' v.ownBlock∧(f.ownBlock=v.ownBlock∨∃k,f.ownBlock=some k∧w.heap.size≤k):=by
 obtain⟨p,hi,x,j,y⟩:=info_parts ze0;obtain⟨l,h1,E,e⟩:=M.row;have B:∀u∈[Value.bool g,.slice A m c,.slice D d a],u.oneCell'=true:=by intro u C;simp at C;rcases C with rfl | rfl | rfl<;>rfl
 obtain⟨f,w',hr,I,z,_⟩:=run_append_own (P:=prog) w H 28 n 41 p _ 3 56 underlying28 hi x j y rfl (by decide) v qs.length (rcells l) e ⟨b,0,none⟩ 1 1 [.bool g,.slice A m c,.slice D d a] rfl (zC6 o) B (by unfold maxLen;omega) (by omega) F;refine⟨f,w',hr,VecS.append h1 E e J I z,z,?_⟩;rcases e.2 with ⟨s,G⟩ | ⟨r,cap,cur,s,hg,O,G,hm,N,R⟩
 ·subst s;have i:=run_append_nil (P:=prog) w 28 n 41 p _ underlying28 hi x ⟨b,0,none⟩ 1 1 [.bool g,.slice A m c,.slice D d a] (by rw[j];rfl) (zC6 o) (by decide) (by decide) (by rw[y];decide);rw[i]at hr;injection hr with hr _;exact .inr ⟨_,by rw[←hr];rfl,Za _⟩
 ·subst s;by_cases K:qs.length+1≤cap
  ·obtain⟨S,i,_⟩:=run_append_fits (P:=prog) w H 28 n 41 p 3 underlying28 hi j r qs.length cap (rcells l) e ⟨b,0,none⟩ 1 1 [.bool g,.slice A m c,.slice D d a] rfl (zC6 o) B K;rw[i]at hr;injection hr with hr _;exact .inl (by rw[←hr];rfl)
  ·have i:=run_append_grow (P:=prog) w 28 n 41 p _ underlying28 hi x ⟨r,0,none⟩ qs.length cap (rcells l) (by rw[e.1,j]) (e.cells (g:=r) rfl) ⟨b,0,none⟩ 1 1 [.bool g,.slice A m c,.slice D d a] (by rw[j];rfl) (zC6 o) (by omega) (by omega) (growslice_fits (by omega) (by rw[y];omega));rw[i]at hr;injection hr with hr _;exact .inr ⟨_,by rw[←hr];rfl,Za _⟩
theorem zKm{ops:Array Oper}{rest:List Oper}{o:Oper}{a:Act}{Q:Exit→Act→World→Prop}(C:o.guard=none)(s x:Operand)
  (F:o.op=.call { callee:=.builtin .append,args:=#[s,x],argTypes:=#[28,28] })    (I:a.eval s=v) (j:VecS w H v qs)  (J:a.eval x=.slice (some ⟨b,0,none⟩) 1 1)
      {f:Nat}  (B:w.heap[b]? = some (.cells #[g,(A,m,c),(D,n,f)] 41 (0,0))) (G:RatS w g (A,m,c) (D,n,f) q) (E:qs.length+1≤2000000) (u:H≤w.heap.size)
  (y:∀e d c' w',VecS w' H (.slice e d c') (qs++[q])→zff w w'→w.grownBy w' v.ownBlock→((Value.slice e d c').ownBlock=v.ownBlock∨∃k,(Value.slice e d c').ownBlock=some k∧w.heap.size≤k)→d=qs.length+1→wpList prog ops Q rest (a.put o.dst (.slice e d c')) w'):wpList prog ops Q (o::rest) a w:=by
 refine wpList_plain C fun K z=>?_
 obtain⟨O,w',hr,h1,i,r⟩:=zK2 j B G E u o.type;obtain⟨l,_,_,p⟩:=j.row;obtain⟨e,d,c',rfl⟩:=h1.slice;unfold Oper.wp execOp;simp only[F,resolve,invoke,builtin,Sem.run_bind,Sem.run_pure,Result.andThen_ok,List.map_toArray,List.map_cons,List.map_nil,I,J,hr];exact z _ _ (y e d c' w' h1 (zh3 p i) i r (by rw[h1.len];simp))
structure RowsL (w:World) (H:Nat) (v:Value) (l:List RR) (ps:List PRow):Prop where
  len:l.length=ps.length
  each:∀(k:Nat) (r:RR) (p:PRow),l[k]? = some r→ps[k]? = some p→RowS w r p
  own:w.ownsRow H 43 5 v ps.length (zcW l)
theorem RowsL.toS(h:RowsL w H v l ps):RowsS w H v ps:=⟨l,h.len,h.each,h.own⟩
theorem RowsL.below{w w':World}{H:Nat}{v:Value}{l:List RR}{ps:List PRow}(h:RowsL w H v l ps)(a:Below w w w'):RowsL w' H v l ps :=
 ⟨h.len,fun k r p h1 b=>(h.each k r p h1 b).below a,zc9 h.own fun k hk=>a.block k (h.own.lt k hk).2⟩
theorem RowsL.alloc{w:World}{H:Nat}{v:Value}{l:List RR}{ps:List PRow}(h:RowsL w H v l ps)(o:Obj):RowsL (w.alloc o) H v l ps:=h.below (zae w o)
theorem RowsL.drew{w:World}{H:Nat}{v:Value}{l:List RR}{ps:List PRow}(h:RowsL w H v l ps):RowsL w.drew H v l ps:=h.below (zap w 1)
def zij (w w':World):Prop:=∀k,k<w.heap.size→(∀cs,w.heap[k]? ≠ some (.cells cs 43 (0,0)))→w'.heap[k]? = w.heap[k]?
theorem zas.keepR(h:zas w s n)(hk:zij w w'):zas w' s n:=by
 obtain⟨xs,a,c⟩:=h;refine⟨xs,a.keep fun k b=>hk k (a.block b) fun cs e=>?_,c⟩;exact za6 a.1 e (by decide) b
theorem RatS.keepR{w w':World}{g:Bool}{s d:Value}{q:Rat}(h:RatS w g s d q)(hk:zij w w'):RatS w' g s d q:=⟨⟨h.num.abs.keepR hk,h.num.neg⟩,h.den.keepR hk⟩
theorem VecS.keepR{w w':World}{H:Nat}{v:Value}{qs:List Rat}(h:VecS w H v qs)(hk:zij w w'):VecS w' H v qs:=by
 obtain⟨l,_,_,b⟩:=h.row;exact h.keepAll (fun k a=>hk k (h.lt a).2 fun cs e=>za6 b e (by decide) a) fun _ _ _ _ r=>r.keepR hk
theorem RowS.keepR{w w':World}{r:RR}{p:PRow}(h:RowS w r p)(hk:zij w w'):RowS w' r p:=⟨h.coef.keepR hk,h.kind,h.rhs.keepR hk⟩
theorem zKw(h:w.ownsRow H 43 5 v n xs)(hg:w.grownBy w' v.ownBlock):zij w w':=by
 intro k hk c;refine hg.block k hk fun e=>?_
 rcases h.2 with ⟨a,_⟩ | ⟨g,cap,cur,a,_,b,_⟩
 ·rw[a]at e;cases e
 ·rw[a]at e;injection e with e;grind
theorem RowsL.coefLt(h:RowsL w H v l ps)(i:Nat)(a:RR)(b:Nat)(hi:l[i]? = some a)(d:a.c.ownBlock=some b):b<w.heap.size:=by
 have e:=(Zm.1 hi).1;obtain⟨p,f⟩:∃p,ps[i]? = some p:=⟨ps[i]'(by rw[←h.len];exact e),Ze _⟩
 exact((h.each i a p hi f).coef.lt d).2
theorem RowsL.nil(w:World)(H:Nat):RowsL w H () [] []:=⟨rfl,fun k r p h=>by simp at h,Xf _ _ _ _⟩
theorem RowsL.slice{w:World}{H:Nat}{v:Value}{l:List RR}{ps:List PRow}(h:RowsL w H v l ps):∃A c,v=.slice A ps.length c:=by
 rcases h.own.2 with ⟨a,b⟩ | ⟨g,cap,cur,a,_⟩
 ·exact⟨_,_,by rw[a,b]⟩
 grind
theorem zKn{ops:Array Oper}{o:Oper}{a:Act}{K:Act→World→Prop}{Q:Exit→Act→World→Prop}{E:Prop}(hg:o.guard=none)(s x:Operand)
  (M:o.op=.call { callee:=.builtin .append,args:=#[s,x],argTypes:=#[29,29] })     (O:a.eval s=v) (d:RowsL w H v l ps)  (P:a.eval x=.slice (some ⟨b,0,none⟩) 1 1)
  {C:OA} {nc cc:Nat} {kd:Int}     {j i:Nat} {p:PRow} (I:w.heap[b]? = some (.cells #[(C,nc,cc),.int .i64 kd,g,(A,m,c),(D,j,i)] 43 (0,0)))
  (hr:RowS w ⟨.slice C nc cc,kd,g,.slice A m c,.slice D j i⟩ p)  (J:ps.length=n) (W:n+1≤1000000) (y:H≤w.heap.size)
  (G:∀q c' w',RowsL w' H (.slice q (n+1) c') (l++[⟨.slice C nc cc,kd,g,.slice A m c,.slice D j i⟩]) (ps++[p])→zij w w'→Below H w w'→K (a.put o.dst (.slice q (n+1) c')) w') :
  if Region.wanted o (yielded ops a.tmps)=true then Oper.wp prog o a w K Q else E:=by
 have hw:Region.wanted o (yielded ops a.tmps)=true:=by simp[Region.wanted,hg]
 rw[if_pos hw];subst J;obtain⟨U,hi,R,S,T⟩:=info_parts zLy
 refine wp_append_own w s x 29 M H 43 U _ 5 88 underlying29 hi R S T rfl (by decide) v ps.length (zcW l) O d.own ⟨b,0,none⟩ 1 1 [.slice C nc cc,.int .i64 kd,.bool g,.slice A m c,.slice D j i] P rfl (zMe I)
  (by intro u F;simp at F;rcases F with rfl | rfl | rfl | rfl | rfl<;>rfl) (by unfold maxLen;omega) (by omega) y ?_
 intro V w' N B _;have hk:=zKw d.own B;have z:RowsL w' H V (l++[⟨.slice C nc cc,kd,g,.slice A m c,.slice D j i⟩]) (ps++[p]):=by
  refine⟨by simp[d.len],?_,by rw[Zj,zKq];exact N⟩;intro k r p' h1 f;rcases Xr k l.length with h | h | h
  ·rw[ZO h]at h1;rw[ZO (by rw[←d.len];exact h)]at f;exact(d.each k r p' h1 f).keepR hk
  ·subst h;rw[Zy (Za _)]at h1;rw[Zy (by rw[d.len];exact Za _)]at f;simp at h1;rw[d.len]at f;simp at f;subst h1 f;exact hr.keepR hk
  grind
 obtain⟨q,c',e⟩:=z.slice;rw[Zj]at e;subst e;exact G q c' w' z hk ((Zg _ _).grown B y (fun k hk=>(d.own.lt k hk).1))
structure LineV where
  coef:List (Int × Int)
  kind:Int
  rhs:Int × Int
def zex (w:World) (A:OA) (ls:List LineV):Prop:=∀(k:Nat) (x:LineV),ls[k]? = some x→x.coef.length≤1048576∧I64 x.rhs.1∧I64 x.rhs.2∧∃b o C cc,A=some ⟨b,o,none⟩∧zcs w C x.coef ∧
  w.cell? ⟨b,o+k*4,none⟩=some (.slice C x.coef.length cc)∧w.cell? ⟨b,o+k*4+1,none⟩=some (.int .i64 x.kind)∧w.cell? ⟨b,o+k*4+2,none⟩=some (.int .i64 x.rhs.1)∧w.cell? ⟨b,o+k*4+3,none⟩=some (.int .i64 x.rhs.2)
theorem zex.below{w w':World}{A:OA}{c:List LineV}(h:zex w A c)(a:Below w w w'):zex w' A c:=by
 intro k x p;obtain⟨h1,d,e,b,o,C,cc,f,g,i,j,m,n⟩:=h k x p;exact⟨h1,d,e,b,o,C,cc,f,g.below a,zab a i,zab a j,zab a m,zab a n⟩
theorem zex.alloc{w:World}{A:OA}{a:List LineV}(h:zex w A a)(o:Obj):zex (w.alloc o) A a:=h.below (zae w o)
theorem zex.drew{w:World}{A:OA}{a:List LineV}(h:zex w A a):zex w.drew A a:=h.below (zap w 1)
theorem zcs.alloc{w:World}{A:OA}{ps:List (Int × Int)}(h:zcs w A ps)(o:Obj):zcs (w.alloc o) A ps:=h.below (zae w o)
theorem zcs.drew{w:World}{A:OA}{ps:List (Int × Int)}(h:zcs w A ps):zcs w.drew A ps:=h.below (zap w 1)
def zH6 (x:LineV):PRow:=⟨frs x.coef,x.kind,fr x.rhs.1 x.rhs.2⟩
def Apart (C:Value) (l:List RR):Prop:=(∀(i j:Nat) (ri rj:RR) (b:Nat),l[i]? = some ri→l[j]? = some rj→ri.c.ownBlock=some b→rj.c.ownBlock=some b→i=j)∧∀(i:Nat) (ri:RR) (b:Nat),l[i]? = some ri→ri.c.ownBlock=some b→C.ownBlock≠some b
theorem zLa(C:Value):Apart C []:=⟨fun i j a c b h=>by simp at h,fun i a b h=>by simp at h⟩
theorem zKz{C:Value}{r:RR}{N:Nat}(h:Apart C l)(n:∀(i:Nat) (a:RR) (b:Nat),l[i]? = some a→a.c.ownBlock=some b→b<N)(p:∀b,C.ownBlock=some b→b<N)(hr:∀b,r.c.ownBlock=some b→N≤b):Apart C (l++[r]):=by
 have g:∀(i:Nat) (a:RR),(l++[r])[i]? = some a→(i<l.length∧l[i]? = some a)∨(i=l.length∧a=r):=by grind
 refine⟨fun i j a k b hi hj d f=>?_,fun i a b hi d hc=>?_⟩
 ·rcases g i a hi with ⟨h1,e⟩ | ⟨h1,rfl⟩<;>rcases g j k hj with ⟨o,m⟩ | ⟨o,rfl⟩
  ·exact h.1 i j a k b e m d f
  ·have:=n i a b e d;have:=hr b f;omega
  ·have:=n j k b m f;have:=hr b d;omega
  ·omega
 ·rcases g i a hi with ⟨h1,e⟩ | ⟨h1,rfl⟩
  ·exact h.2 i a b e d hc
  grind
theorem zrA:(prog.info? 28).map (fun i=>(i.zero,i.size,i.bytes))=some (some (.slice none 0 0),1,24):=by kernel_rfl
def TKeep (t:TypeId) (w w':World):Prop:=∀k,k<w.heap.size→(∀cs,w.heap[k]? ≠ some (.cells cs t (0,0)))→w'.heap[k]? = w.heap[k]?
theorem TKeep.set{o:Nat}(a:w.heap[b]? = some (.cells cs t (0,0)))(u:Value):TKeep t w (w.setCell ⟨b,o,none⟩ u):=fun k _ c =>
 Zk _ _ _ _ (by grind)
theorem TKeep.grown{size:Nat}(h:w.ownsRow H t size v n xs)(hg:w.grownBy w' v.ownBlock):TKeep t w w':=by
 intro k hk c;refine hg.block k hk fun e=>?_
 rcases h.2 with ⟨a,_⟩ | ⟨g,cap,cur,a,_,b,_⟩
 ·rw[a]at e;cases e
 ·rw[a]at e;injection e with e;grind
theorem TKeep.blk{c:TypeId}(h:TKeep t w w')(a:w.heap[b]? = some (.cells cs c (0,0)))(d:c≠t):w'.heap[b]? = some (.cells cs c (0,0)):=by
 rw[h b (ZI.1 a).1 fun f e=>d (by rw[a]at e;grind)];exact a
section
variable {w w':World} {t:TypeId}
theorem zas.tk(h:zas w s n)(hk:TKeep t w w')(h1:165≠t):zas w' s n:=by
 obtain⟨xs,a,c⟩:=h;refine⟨xs,a.keep fun k b=>hk k (a.block b) fun cs e=>?_,c⟩;exact za6 a.1 e h1 b
theorem RatS.tk{g:Bool}{s d:Value}{q:Rat}(h:RatS w g s d q)(hk:TKeep t w w')(h1:165≠t):RatS w' g s d q:=⟨⟨h.num.abs.tk hk h1,h.num.neg⟩,h.den.tk hk h1⟩
theorem VecS.tk{H:Nat}{v:Value}{qs:List Rat}(h:VecS w H v qs)(hk:TKeep t w w')(h1:165≠t)(c:41≠t):VecS w' H v qs:=by
 obtain⟨l,_,_,b⟩:=h.row;exact h.keepAll (fun k a=>hk k (h.lt a).2 fun cs e=>za6 b e c a) fun _ _ _ _ r=>r.tk hk h1
end
theorem VecS.ratBlk(h:VecS w H (b,n,c) qs):∃cs,w.heap[b]? = some (.cells cs 41 (0,0)):=by
 obtain⟨_,_,_,d⟩:=h.row;rcases d.2 with ⟨a,_⟩ | ⟨g,cap,cur,a,_,e,_⟩
 ·cases a
 grind
structure VecsL (w:World) (H:Nat) (v:Value) (l:List Value) (L:List (List Rat)):Prop where
  len:l.length=L.length
  each:∀(k:Nat) (s:Value) (r:List Rat),l[k]? = some s→L[k]? = some r→VecS w H s r
  own:w.ownsRow H 28 1 v L.length l
def zbG (l:List Value):Prop:=∀(i j:Nat) (a b:Value) (g:Nat),l[i]? = some a→l[j]? = some b→a.ownBlock=some g→b.ownBlock=some g→i=j
namespace VecsL
variable {w w':World} {H:Nat} {v:Value} {l:List Value} {L:List (List Rat)}
theorem keepAll(h:VecsL w H v l L)(hk:∀k,v.ownBlock=some k→w'.heap[k]? = w.heap[k]?)(hr:∀s r,s∈l→VecS w H s r→VecS w' H s r):VecsL w' H v l L :=
 ⟨h.len,fun k s r a b=>hr s r (Zh a) (h.each k s r a b),zc9 h.own hk⟩
theorem below(h:VecsL w H v l L)(a:Below w w w'):VecsL w' H v l L:=h.keepAll (fun k hk=>a.block k (h.own.lt k hk).2) fun _ _ _ r=>r.below a
theorem alloc(h:VecsL w H v l L)(o:Obj):VecsL (w.alloc o) H v l L:=h.below (zae w o)
theorem drew(h:VecsL w H v l L):VecsL w.drew H v l L:=h.below (zap w 1)
theorem base{c:Nat}(h:VecsL w H v l L)(d:c≤H):VecsL w c v l L:=⟨h.len,fun k s r a b=>(h.each k s r a b).base d,zbu h.own d⟩
theorem nil(w:World)(H:Nat):VecsL w H () [] []:=⟨rfl,fun k s r h=>by simp at h,Xf _ _ _ _⟩
theorem tk{t:TypeId}(h:VecsL w H v l L)(hk:TKeep t w w')(h1:165≠t)(b:41≠t)(c:28≠t):VecsL w' H v l L :=
 h.keepAll (fun k a=>hk k (h.own.lt k a).2 fun cs e=>za6 h.own e c a) fun _ _ _ r=>r.tk hk h1 b
theorem form(h:VecsL w H (A,n,c) l L):n=L.length∧n≤c∧c≤maxLen∧((A=none∧c=0∧L=[])∨∃g,A=some ⟨g,0,none⟩∧H≤g∧g<w.heap.size):=by
 rcases h.own.2 with ⟨b,a⟩ | ⟨g,cap,cur,b,hg,d,a,hm,_⟩
 ·injection b with e1 e2 e3;subst e1 e2 e3;exact⟨a.symm,Za _,Zb _,.inl ⟨rfl,rfl,Xl.1 a⟩⟩
 grind
theorem nlen(h:VecsL w H (A,n,c) l L):n=L.length:=h.form.1
theorem has(h:VecsL w H (A,n,c) l L)(e:0<n):∃g,A=some ⟨g,0,none⟩∧H≤g∧g<w.heap.size:=by
 obtain⟨h1,b,d,a | a⟩:=h.form
 ·omega
 ·exact a
theorem slice(h:VecsL w H v l L):∃A c,v=.slice A L.length c:=by
 rcases h.own.2 with ⟨a,b⟩ | ⟨g,cap,cur,a,_⟩
 ·exact⟨_,_,by rw[a,b]⟩
 grind
theorem fro(h:VecsL w H (b,n,c) l L)(j:Nat):w.frozen? ⟨b,j,none⟩=false:=by
 have a:=h.nlen;subst a;exact h.own.frozenAt j
theorem get(h:VecsL w H v l L)(hk:L[k]? = some r):∃(A:OA) (c:Nat),l[k]? = some (A,r.length,c)∧VecS w H (A,r.length,c) r:=by
 have d:=(Zm.1 hk).1;obtain⟨s,b⟩:∃s,l[k]? = some s:=⟨l[k]'(by rw[h.len];exact d),Ze _⟩
 have a:=h.each k s r b hk;obtain⟨A,n,c,rfl⟩:=a.slice;obtain rfl:=a.len;grind
theorem at_(h:VecsL w H (b,n,c) l L)(hk:L[k]? = some r):∃(A:OA) (c:Nat),l[k]? = some (A,r.length,c)∧w.cell? ⟨b,k,none⟩=some (A,r.length,c)∧VecS w H (A,r.length,c) r:=by
 have d:=h.nlen;subst d;obtain⟨A,c',a,e⟩:=h.get hk;have f:=(Zm.1 hk).1;exact⟨A,c',a,by rw[h.own.cellAt _ (by omega)];exact a,e⟩
theorem blk(h:VecsL w H (b,n,c) l L):∃cs,w.heap[b]? = some (.cells cs 28 (0,0)):=by
 rcases h.own.2 with ⟨a,_⟩ | ⟨g,cap,cur,a,_,d,_⟩
 ·cases a
 grind
theorem store(h:VecsL w H (b,n,c) l L)(hk:k<L.length)(o:VecS w H s r):VecsL (w.setCell ⟨b,k,none⟩ s) H (b,n,c) (l.set k s) (L.set k r):=by
 have m:=h.nlen;subst m;obtain⟨cs,f⟩:∃cs,w.heap[b]? = some (.cells cs 28 (0,0)):=by
  rcases h.own.2 with ⟨d,_⟩ | ⟨g,cap,cur,d,_,j,_⟩
  ·cases d
  grind
 have kp:TKeep 28 w (w.setCell ⟨b,k,none⟩ s):=TKeep.set f s;refine⟨by rw[ZE,ZE];exact h.len,fun i p r' h1 a=>?_,?_⟩
 ·by_cases e:k=i
  ·subst e;rw[X4 (by rw[h.len];exact hk)]at h1;rw[X4 hk]at a;injection h1 with h1;injection a with a;subst h1 a;exact o.tk kp (by decide) (by decide)
  ·rw[X5 e]at h1 a;exact(h.each i p r' h1 a).tk kp (by decide) (by decide)
 ·rw[ZE];exact(h.own.stored _ _).1
theorem put(h:VecsL w H v l L)(z:zbG l)(o:l[k]? = some (b,n,c))(p:L[k]? = some r)(i:Nat)(C:RatS w g s d q) :
  VecsL (((w.setCell ⟨b,i*3,none⟩ (.bool g)).setCell ⟨b,i*3+1,none⟩ s).setCell ⟨b,i*3+2,none⟩ d) H v l (L.set k (r.set i q)):=by
 have f:=h.each k _ _ o p;have D:=f.store i C;obtain⟨cs,u⟩:∃cs,w.heap[b]? = some (.cells cs 41 (0,0)):=by
  obtain⟨_,_,_,y⟩:=f.row;rcases y.2 with ⟨f,_⟩ | ⟨g,cap,cur,f,_,A,_⟩
  ·cases f
  grind
 have m:∀j,j≠b→(((w.setCell ⟨b,i*3,none⟩ (.bool g)).setCell ⟨b,i*3+1,none⟩ s).setCell ⟨b,i*3+2,none⟩ d).heap[j]? = w.heap[j]?:=fun j hj=>by
  rw[Zk _ _ _ _ (by exact hj),Zk _ _ _ _ (by exact hj),Zk _ _ _ _ (by exact hj)]
 refine⟨by rw[ZE];exact h.len,fun j E r' h1 a=>?_,by rw[ZE];exact zc9 h.own fun j hj=>m j fun e=>za6 h.own (e▸u) (by decide) (e▸hj)⟩;by_cases e:k=j
 ·grind
 ·rw[X5 e]at a;exact(h.each j E r' h1 a).keepAll (fun g hg=>m g fun x=>e (z k j _ _ b o h1 rfl (by rw[hg,x]))) fun _ _ _ _ r=>r.keepT fun j hj B=>m j fun e=>B _ (e▸u)
end VecsL
theorem zbG.set{l:List Value}(h:zbG l){k:Nat}{s:Value}(f:∀(g:Nat) (j:Nat) (b:Value),s.ownBlock=some g→j≠k→l[j]? = some b→b.ownBlock≠some g):zbG (l.set k s):=by
 intro i j a b g h1 c d e;rw[Xg]at h1 c;split at h1<;>split at c
 ·omega
 ·grind
 ·rename_i e1 e2
  split at c
  ·injection c with c;subst c;exact absurd d (f g i a e (ZM e1) h1)
  ·cases c
 ·exact h i j a b g h1 c d e
theorem zbG.push{l:List Value}(h:zbG l)(f:∀(g:Nat) (b:Value),s.ownBlock=some g→b∈l→b.ownBlock≠some g):zbG (l++[s]):=by
 intro i j a b g h1 c d e;rw[List.getElem?_append]at h1 c;split at h1<;>split at c
 ·exact h i j a b g h1 c d e
 ·rename_i e1 e2
  rw[List.getElem?_singleton]at c;split at c
  ·injection c with c;subst c;exact absurd d (f g a e (Zh h1))
  ·cases c
 ·rename_i e1 e2
  rw[List.getElem?_singleton]at h1;split at h1
  ·injection h1 with h1;subst h1;exact absurd e (f g b d (Zh c))
  ·cases h1
 grind
theorem VecsL.lt{w:World}{H:Nat}{v:Value}{l:List Value}{L:List (List Rat)}(h:VecsL w H v l L){s:Value}(a:s∈l){g:Nat}(hg:s.ownBlock=some g):H≤g∧g<w.heap.size:=by
 obtain⟨k,hk,rfl⟩:=X9 a;exact(h.each k _ (L[k]'(by rw[←h.len];exact hk)) (Ze hk) (Ze _)).lt hg
theorem zbG.nil:zbG []:=fun i j a b g h=>by simp at h
