/- Contracts and lemmas: Law1 Mat1. Conditions: as each says. -/
import Derived.Test.YtbhfhkcdfmmmiaaGreatProb1Zr
import Derived.Test.YtbhfhkcdfmmmiaaGreatVec4Zr
import Derived.Laws.OwnMore
set_option linter.all false
set_option maxHeartbeats 1000000
set_option maxRecDepth 100000
namespace Go.Proofs.YtbhfhkcdfmmmiaaGreat
open Go.RowKit Am
variable {cs:Array Value}{g:Bool}{ps:List PRow}{l:List RR}{r:List Rat}{xs:List Value}{H b c k n:Nat}{A:OA}{t:TypeId}{d e f s v:Value}{w w':World}
theorem zC6(c:w.heap[b]? = some (.cells #[d,e,f] t (0,0))):∀j u,[d,e,f][j]? = some u→w.cell? ((⟨b,0,none⟩:Addr).add j)=some u:=by
 intro j u a
 match j,a with
 | 0,a=>exact(zac c 0).trans a
 | 1,a=>exact(zac c 1).trans a
 | 2,a=>exact(zac c 2).trans a
 | j+3,a=>simp at a
theorem zMe{g i:Value}(c:w.heap[b]? = some (.cells #[d,e,f,g,i] t (0,0))):∀j u,[d,e,f,g,i][j]? = some u→w.cell? ((⟨b,0,none⟩:Addr).add j)=some u:=by
 intro j u a
 match j,a with
 | 0,a=>exact(zac c 0).trans a
 | 1,a=>exact(zac c 1).trans a
 | 2,a=>exact(zac c 2).trans a
 | 3,a=>exact(zac c 3).trans a
 | 4,a=>exact(zac c 4).trans a
 | j+5,a=>simp at a
structure RowsL (w:World) (H:Nat) (v:Value) (l:List RR) (ps:List PRow):Prop where
  len:l.length=ps.length
  each:∀(k:Nat) (r:RR) (p:PRow),l[k]? = some r→ps[k]? = some p→RowS w r p
  own:w.ownsRow H 43 5 v ps.length (zcW l)
theorem RowsL.toS(h:RowsL w H v l ps):RowsS w H v ps:=⟨l,h.len,h.each,h.own⟩
theorem RowsL.below{w w':World}{H:Nat}{v:Value}{l:List RR}{ps:List PRow}(h:RowsL w H v l ps)(a:Below w w w'):RowsL w' H v l ps :=
 ⟨h.len,fun k r p h1 b=>(h.each k r p h1 b).below a,zc9 h.own fun k hk=>a.block k (h.own.lt k hk).2⟩
theorem RowsL.alloc{w:World}{H:Nat}{v:Value}{l:List RR}{ps:List PRow}(h:RowsL w H v l ps)(o:Obj):RowsL (w.alloc o) H v l ps:=h.below (zae w o)
theorem RowsL.drew{w:World}{H:Nat}{v:Value}{l:List RR}{ps:List PRow}(h:RowsL w H v l ps):RowsL w.drew H v l ps:=h.below (zap w 1)
def zij (w w':World):Prop:=∀k,k<w.heap.size→(∀cs,w.heap[k]? ≠ some (.cells cs 43 (0,0)))→w'.heap[k]? = w.heap[k]?
theorem zas.keepR(h:zas w s n)(hk:zij w w'):zas w' s n:=by
 obtain⟨xs,a,c⟩:=h;refine⟨xs,a.keep fun k b=>hk k (a.block b) fun cs e=>?_,c⟩;exact za6 a.1 e (by decide) b
theorem RatS.keepR{w w':World}{g:Bool}{s d:Value}{q:Rat}(h:RatS w g s d q)(hk:zij w w'):RatS w' g s d q:=⟨⟨h.num.abs.keepR hk,h.num.neg⟩,h.den.keepR hk⟩
theorem VecS.keepR{w w':World}{H:Nat}{v:Value}{qs:List Rat}(h:VecS w H v qs)(hk:zij w w'):VecS w' H v qs:=by
 obtain⟨l,_,_,b⟩:=h.row;exact h.keepAll (fun k a=>hk k (h.lt a).2 fun cs e=>za6 b e (by decide) a) fun _ _ _ _ r=>r.keepR hk
theorem RowS.keepR{w w':World}{r:RR}{p:PRow}(h:RowS w r p)(hk:zij w w'):RowS w' r p:=⟨h.coef.keepR hk,h.kind,h.rhs.keepR hk⟩
theorem zKw(h:w.ownsRow H 43 5 v n xs)(hg:w.grownBy w' v.ownBlock):zij w w':=by
 intro k hk c;refine hg.block k hk fun e=>?_
 rcases h.2 with ⟨a,_⟩ | ⟨g,cap,cur,a,_,b,_⟩
 ·rw[a]at e;cases e
 ·rw[a]at e;injection e with e;subst e;exact c _ b
theorem RowsL.nil(w:World)(H:Nat):RowsL w H () [] []:=⟨rfl,fun k r p h=>by simp at h,World.ownsRow_nil _ _ _ _⟩
theorem RowsL.slice{w:World}{H:Nat}{v:Value}{l:List RR}{ps:List PRow}(h:RowsL w H v l ps):∃A c,v=.slice A ps.length c:=by
 rcases h.own.2 with ⟨a,b⟩ | ⟨g,cap,cur,a,_⟩
 ·exact⟨_,_,by rw[a,b]⟩
 ·exact⟨_,_,a⟩
theorem zKn{ops:Array Oper}{o:Oper}{a:Act}{K:Act→World→Prop}{Q:Exit→Act→World→Prop}{E:Prop}(hg:o.guard=none)(s x:Operand)
  (N:o.op=.call { callee:=.builtin .append,args:=#[s,x],argTypes:=#[29,29] })     (P:a.eval s=v) (d:RowsL w H v l ps)  (R:a.eval x=.slice (some ⟨b,0,none⟩) 1 1)
  {C:OA} {nc cc:Nat} {kd:Int}   {m:Nat} {D:OA} {j i:Nat} {p:PRow} (I:w.heap[b]? = some (.cells #[(C,nc,cc),.int .i64 kd,g,(A,m,c),(D,j,i)] 43 (0,0)))
  (hr:RowS w ⟨.slice C nc cc,kd,g,.slice A m c,.slice D j i⟩ p)  (M:ps.length=n) (X:n+1≤1000000) (y:H≤w.heap.size)
  (G:∀q c' w',RowsL w' H (.slice q (n+1) c') (l++[⟨.slice C nc cc,kd,g,.slice A m c,.slice D j i⟩]) (ps++[p])→zij w w'→Below H w w'→K (a.put o.dst (.slice q (n+1) c')) w') :
  if Region.wanted o (yielded ops a.tmps)=true then Oper.wp Tryz.prog o a w K Q else E:=by
 have hw:Region.wanted o (yielded ops a.tmps)=true:=by simp[Region.wanted,hg]
 rw[if_pos hw];subst M;obtain⟨V,J,S,T,U⟩:=info_parts zLy
 refine wp_append_own w s x 29 N H 43 V _ 5 88 Tryz.underlying29 J S T U rfl (by decide) v ps.length (zcW l) P d.own ⟨b,0,none⟩ 1 1 [.slice C nc cc,.int .i64 kd,.bool g,.slice A m c,.slice D j i] R rfl (zMe I)
  (by intro u F;simp at F;rcases F with rfl | rfl | rfl | rfl | rfl<;>rfl) (by unfold maxLen;omega) (by omega) y ?_
 intro W w' O B _;have hk:=zKw d.own B;have z:RowsL w' H W (l++[⟨.slice C nc cc,kd,g,.slice A m c,.slice D j i⟩]) (ps++[p]):=by
  refine⟨by simp[d.len],?_,by rw[List.length_append,zKq];exact O⟩;intro k r p' h1 f;rcases Nat.lt_trichotomy k l.length with h | h | h
  ·rw[List.getElem?_append_left h]at h1;rw[List.getElem?_append_left (by rw[←d.len];exact h)]at f;exact(d.each k r p' h1 f).keepR hk
  ·subst h;rw[List.getElem?_append_right (Nat.le_refl _)]at h1;rw[List.getElem?_append_right (by rw[d.len];exact Nat.le_refl _)]at f;simp at h1;rw[d.len]at f;simp at f;subst h1 f;exact hr.keepR hk
  ·rw[List.getElem?_eq_none (by simp;omega)]at h1;cases h1
 obtain⟨q,c',e⟩:=z.slice;rw[List.length_append]at e;subst e;exact G q c' w' z hk ((Below.refl _ _).grown B y (fun k hk=>(d.own.lt k hk).1))
structure LineV where
  coef:List (Int × Int)
  kind:Int
  rhs:Int × Int
def zex (w:World) (A:OA) (ls:List LineV):Prop:=∀(k:Nat) (x:LineV),ls[k]? = some x→x.coef.length≤1048576∧I64 x.rhs.1∧I64 x.rhs.2∧∃b o C cc,A=some ⟨b,o,none⟩∧zcs w C x.coef ∧
  w.cell? ⟨b,o+k*4,none⟩=some (.slice C x.coef.length cc)∧w.cell? ⟨b,o+k*4+1,none⟩=some (.int .i64 x.kind)∧w.cell? ⟨b,o+k*4+2,none⟩=some (.int .i64 x.rhs.1)∧w.cell? ⟨b,o+k*4+3,none⟩=some (.int .i64 x.rhs.2)
theorem zex.below{w w':World}{A:OA}{c:List LineV}(h:zex w A c)(a:Below w w w'):zex w' A c:=by
 intro k x p;obtain⟨h1,d,e,b,o,C,cc,f,g,i,j,m,n⟩:=h k x p;exact⟨h1,d,e,b,o,C,cc,f,g.below a,zab a i,zab a j,zab a m,zab a n⟩
theorem zex.alloc{w:World}{A:OA}{a:List LineV}(h:zex w A a)(o:Obj):zex (w.alloc o) A a:=h.below (zae w o)
theorem zex.drew{w:World}{A:OA}{a:List LineV}(h:zex w A a):zex w.drew A a:=h.below (zap w 1)
theorem zcs.alloc{w:World}{A:OA}{ps:List (Int × Int)}(h:zcs w A ps)(o:Obj):zcs (w.alloc o) A ps:=h.below (zae w o)
theorem zcs.drew{w:World}{A:OA}{ps:List (Int × Int)}(h:zcs w A ps):zcs w.drew A ps:=h.below (zap w 1)
def zH6 (x:LineV):PRow:=⟨frs x.coef,x.kind,fr x.rhs.1 x.rhs.2⟩
def Apart (C:Value) (l:List RR):Prop:=(∀(i j:Nat) (ri rj:RR) (b:Nat),l[i]? = some ri→l[j]? = some rj→ri.c.ownBlock=some b→rj.c.ownBlock=some b→i=j)∧∀(i:Nat) (ri:RR) (b:Nat),l[i]? = some ri→ri.c.ownBlock=some b→C.ownBlock≠some b
theorem zrA:(Tryz.prog.info? 28).map (fun i=>(i.zero,i.size,i.bytes))=some (some (.slice none 0 0),1,24):=by kernel_rfl
def TKeep (t:TypeId) (w w':World):Prop:=∀k,k<w.heap.size→(∀cs,w.heap[k]? ≠ some (.cells cs t (0,0)))→w'.heap[k]? = w.heap[k]?
theorem TKeep.set{o:Nat}(a:w.heap[b]? = some (.cells cs t (0,0)))(u:Value):TKeep t w (w.setCell ⟨b,o,none⟩ u):=fun k _ c =>
 Below.heap_setCell _ _ _ _ (by rintro rfl;exact c _ a)
theorem TKeep.grown{size:Nat}(h:w.ownsRow H t size v n xs)(hg:w.grownBy w' v.ownBlock):TKeep t w w':=by
 intro k hk c;refine hg.block k hk fun e=>?_
 rcases h.2 with ⟨a,_⟩ | ⟨g,cap,cur,a,_,b,_⟩
 ·rw[a]at e;cases e
 ·rw[a]at e;injection e with e;subst e;exact c _ b
theorem TKeep.blk{c:TypeId}(h:TKeep t w w')(a:w.heap[b]? = some (.cells cs c (0,0)))(d:c≠t):w'.heap[b]? = some (.cells cs c (0,0)):=by
 rw[h b (Array.getElem?_eq_some_iff.1 a).1 fun f e=>d (by rw[a]at e;injection e with e;injection e)];exact a
section
variable {w w':World} {t:TypeId}
theorem zas.tk(h:zas w s n)(hk:TKeep t w w')(h1:165≠t):zas w' s n:=by
 obtain⟨xs,a,c⟩:=h;refine⟨xs,a.keep fun k b=>hk k (a.block b) fun cs e=>?_,c⟩;exact za6 a.1 e h1 b
theorem RatS.tk{g:Bool}{s d:Value}{q:Rat}(h:RatS w g s d q)(hk:TKeep t w w')(h1:165≠t):RatS w' g s d q:=⟨⟨h.num.abs.tk hk h1,h.num.neg⟩,h.den.tk hk h1⟩
theorem VecS.tk{H:Nat}{v:Value}{qs:List Rat}(h:VecS w H v qs)(hk:TKeep t w w')(h1:165≠t)(c:41≠t):VecS w' H v qs:=by
 obtain⟨l,_,_,b⟩:=h.row;exact h.keepAll (fun k a=>hk k (h.lt a).2 fun cs e=>za6 b e c a) fun _ _ _ _ r=>r.tk hk h1
end
theorem VecS.ratBlk{qs:List Rat}(h:VecS w H (b,n,c) qs):∃cs,w.heap[b]? = some (.cells cs 41 (0,0)):=by
 obtain⟨_,_,_,d⟩:=h.row;rcases d.2 with ⟨a,_⟩ | ⟨g,cap,cur,a,_,e,_⟩
 ·cases a
 ·injection a with e1;injection e1 with e1;injection e1 with e1;subst e1;exact⟨_,e⟩
structure VecsL (w:World) (H:Nat) (v:Value) (l:List Value) (L:List (List Rat)):Prop where
  len:l.length=L.length
  each:∀(k:Nat) (s:Value) (r:List Rat),l[k]? = some s→L[k]? = some r→VecS w H s r
  own:w.ownsRow H 28 1 v L.length l
def zbG (l:List Value):Prop:=∀(i j:Nat) (a b:Value) (g:Nat),l[i]? = some a→l[j]? = some b→a.ownBlock=some g→b.ownBlock=some g→i=j
namespace VecsL
variable {w w':World} {H:Nat} {v:Value} {l:List Value} {L:List (List Rat)}
theorem keepAll(h:VecsL w H v l L)(hk:∀k,v.ownBlock=some k→w'.heap[k]? = w.heap[k]?)(hr:∀s r,s∈l→VecS w H s r→VecS w' H s r):VecsL w' H v l L :=
 ⟨h.len,fun k s r a b=>hr s r (List.mem_of_getElem? a) (h.each k s r a b),zc9 h.own hk⟩
theorem below(h:VecsL w H v l L)(a:Below w w w'):VecsL w' H v l L:=h.keepAll (fun k hk=>a.block k (h.own.lt k hk).2) fun _ _ _ r=>r.below a
theorem alloc(h:VecsL w H v l L)(o:Obj):VecsL (w.alloc o) H v l L:=h.below (zae w o)
theorem drew(h:VecsL w H v l L):VecsL w.drew H v l L:=h.below (zap w 1)
theorem base{c:Nat}(h:VecsL w H v l L)(d:c≤H):VecsL w c v l L:=⟨h.len,fun k s r a b=>(h.each k s r a b).base d,zbu h.own d⟩
theorem nil(w:World)(H:Nat):VecsL w H () [] []:=⟨rfl,fun k s r h=>by simp at h,World.ownsRow_nil _ _ _ _⟩
theorem tk{t:TypeId}(h:VecsL w H v l L)(hk:TKeep t w w')(h1:165≠t)(b:41≠t)(c:28≠t):VecsL w' H v l L :=
 h.keepAll (fun k a=>hk k (h.own.lt k a).2 fun cs e=>za6 h.own e c a) fun _ _ _ r=>r.tk hk h1 b
theorem form(h:VecsL w H (A,n,c) l L):n=L.length∧n≤c∧c≤maxLen∧((A=none∧c=0∧L=[])∨∃g,A=some ⟨g,0,none⟩∧H≤g∧g<w.heap.size):=by
 rcases h.own.2 with ⟨b,a⟩ | ⟨g,cap,cur,b,hg,d,a,hm,_⟩
 ·injection b with e1 e2 e3;subst e1 e2 e3;exact⟨a.symm,Nat.le_refl _,Nat.zero_le _,.inl ⟨rfl,rfl,List.length_eq_zero_iff.1 a⟩⟩
 ·injection b with e1 e2 e3;subst e1 e2 e3;exact⟨rfl,a,hm,.inr ⟨g,rfl,hg,(Array.getElem?_eq_some_iff.1 d).1⟩⟩
theorem nlen(h:VecsL w H (A,n,c) l L):n=L.length:=h.form.1
theorem has(h:VecsL w H (A,n,c) l L)(e:0<n):∃g,A=some ⟨g,0,none⟩∧H≤g∧g<w.heap.size:=by
 obtain⟨h1,b,d,a | a⟩:=h.form
 ·omega
 ·exact a
theorem slice(h:VecsL w H v l L):∃A c,v=.slice A L.length c:=by
 rcases h.own.2 with ⟨a,b⟩ | ⟨g,cap,cur,a,_⟩
 ·exact⟨_,_,by rw[a,b]⟩
 ·exact⟨_,_,a⟩
theorem fro(h:VecsL w H (b,n,c) l L)(j:Nat):w.frozen? ⟨b,j,none⟩=false:=by
 have a:=h.nlen;subst a;exact h.own.frozenAt j
theorem get(h:VecsL w H v l L)(hk:L[k]? = some r):∃(A:OA) (c:Nat),l[k]? = some (A,r.length,c)∧VecS w H (A,r.length,c) r:=by
 have d:=(List.getElem?_eq_some_iff.1 hk).1;obtain⟨s,b⟩:∃s,l[k]? = some s:=⟨l[k]'(by rw[h.len];exact d),List.getElem?_eq_getElem _⟩
 have a:=h.each k s r b hk;obtain⟨A,n,c,rfl⟩:=a.slice;obtain rfl:=a.len;exact⟨A,c,b,a⟩
theorem at_(h:VecsL w H (b,n,c) l L)(hk:L[k]? = some r):∃(A:OA) (c:Nat),l[k]? = some (A,r.length,c)∧w.cell? ⟨b,k,none⟩=some (A,r.length,c)∧VecS w H (A,r.length,c) r:=by
 have d:=h.nlen;subst d;obtain⟨A,c',a,e⟩:=h.get hk;have f:=(List.getElem?_eq_some_iff.1 hk).1;exact⟨A,c',a,by rw[h.own.cellAt _ (by omega)];exact a,e⟩
theorem blk(h:VecsL w H (b,n,c) l L):∃cs,w.heap[b]? = some (.cells cs 28 (0,0)):=by
 rcases h.own.2 with ⟨a,_⟩ | ⟨g,cap,cur,a,_,d,_⟩
 ·cases a
 ·injection a with e1;injection e1 with e1;injection e1 with e1;subst e1;exact⟨_,d⟩
theorem store(h:VecsL w H (b,n,c) l L)(hk:k<L.length)(o:VecS w H s r):VecsL (w.setCell ⟨b,k,none⟩ s) H (b,n,c) (l.set k s) (L.set k r):=by
 have m:=h.nlen;subst m;obtain⟨cs,f⟩:∃cs,w.heap[b]? = some (.cells cs 28 (0,0)):=by
  rcases h.own.2 with ⟨d,_⟩ | ⟨g,cap,cur,d,_,j,_⟩
  ·cases d
  ·injection d with e1;injection e1 with e1;injection e1 with e1;subst e1;exact⟨_,j⟩
 have kp:TKeep 28 w (w.setCell ⟨b,k,none⟩ s):=TKeep.set f s;refine⟨by rw[List.length_set,List.length_set];exact h.len,fun i p r' h1 a=>?_,?_⟩
 ·by_cases e:k=i
  ·subst e;rw[List.getElem?_set_self (by rw[h.len];exact hk)]at h1;rw[List.getElem?_set_self hk]at a;injection h1 with h1;injection a with a;subst h1 a;exact o.tk kp (by decide) (by decide)
  ·rw[List.getElem?_set_ne e]at h1 a;exact(h.each i p r' h1 a).tk kp (by decide) (by decide)
 ·rw[List.length_set];exact(h.own.stored _ _).1
theorem put(h:VecsL w H v l L)(z:zbG l)(o:l[k]? = some (b,n,c))(p:L[k]? = some r)(i:Nat){q:Rat}(C:RatS w g s d q) :
  VecsL (((w.setCell ⟨b,i*3,none⟩ (.bool g)).setCell ⟨b,i*3+1,none⟩ s).setCell ⟨b,i*3+2,none⟩ d) H v l (L.set k (r.set i q)):=by
 have f:=h.each k _ _ o p;have D:=f.store i C;obtain⟨cs,u⟩:∃cs,w.heap[b]? = some (.cells cs 41 (0,0)):=by
  obtain⟨_,_,_,y⟩:=f.row;rcases y.2 with ⟨f,_⟩ | ⟨g,cap,cur,f,_,A,_⟩
  ·cases f
  ·injection f with e1;injection e1 with e1;injection e1 with e1;subst e1;exact⟨_,A⟩
 have m:∀j,j≠b→(((w.setCell ⟨b,i*3,none⟩ (.bool g)).setCell ⟨b,i*3+1,none⟩ s).setCell ⟨b,i*3+2,none⟩ d).heap[j]? = w.heap[j]?:=fun j hj=>by
  rw[Below.heap_setCell _ _ _ _ (by exact hj),Below.heap_setCell _ _ _ _ (by exact hj),Below.heap_setCell _ _ _ _ (by exact hj)]
 refine⟨by rw[List.length_set];exact h.len,fun j E r' h1 a=>?_,by rw[List.length_set];exact zc9 h.own fun j hj=>m j fun e=>za6 h.own (e▸u) (by decide) (e▸hj)⟩;by_cases e:k=j
 ·subst e;rw[List.getElem?_set_self (List.getElem?_eq_some_iff.1 p).1]at a;injection a with a;subst a;rw[o]at h1;injection h1 with h1;subst h1;exact D
 ·rw[List.getElem?_set_ne e]at a;exact(h.each j E r' h1 a).keepAll (fun g hg=>m g fun x=>e (z k j _ _ b o h1 rfl (by rw[hg,x]))) fun _ _ _ _ r=>r.keepT fun j hj B=>m j fun e=>B _ (e▸u)
end VecsL
theorem zbG.set{l:List Value}(h:zbG l){k:Nat}{s:Value}(f:∀(g:Nat) (j:Nat) (b:Value),s.ownBlock=some g→j≠k→l[j]? = some b→b.ownBlock≠some g):zbG (l.set k s):=by
 intro i j a b g h1 c d e;rw[List.getElem?_set]at h1 c;split at h1<;>split at c
 ·omega
 ·rename_i e1 e2
  split at h1
  ·injection h1 with h1;subst h1;exact absurd e (f g j b d (Ne.symm e2) c)
  ·cases h1
 ·rename_i e1 e2
  split at c
  ·injection c with c;subst c;exact absurd d (f g i a e (Ne.symm e1) h1)
  ·cases c
 ·exact h i j a b g h1 c d e
theorem zbG.push{l:List Value}(h:zbG l)(f:∀(g:Nat) (b:Value),s.ownBlock=some g→b∈l→b.ownBlock≠some g):zbG (l++[s]):=by
 intro i j a b g h1 c d e;rw[List.getElem?_append]at h1 c;split at h1<;>split at c
 ·exact h i j a b g h1 c d e
 ·rename_i e1 e2
  rw[List.getElem?_singleton]at c;split at c
  ·injection c with c;subst c;exact absurd d (f g a e (List.mem_of_getElem? h1))
  ·cases c
 ·rename_i e1 e2
  rw[List.getElem?_singleton]at h1;split at h1
  ·injection h1 with h1;subst h1;exact absurd e (f g b d (List.mem_of_getElem? c))
  ·cases h1
 ·rw[List.getElem?_singleton]at h1 c;split at h1<;>split at c<;>first | omega | (cases c;done) | (cases h1;done)
theorem VecsL.lt{w:World}{H:Nat}{v:Value}{l:List Value}{L:List (List Rat)}(h:VecsL w H v l L){s:Value}(a:s∈l){g:Nat}(hg:s.ownBlock=some g):H≤g∧g<w.heap.size:=by
 obtain⟨k,hk,rfl⟩:=List.getElem_of_mem a;exact(h.each k _ (L[k]'(by rw[←h.len];exact hk)) (List.getElem?_eq_getElem hk) (List.getElem?_eq_getElem _)).lt hg
theorem zbG.nil:zbG []:=fun i j a b g h=>by simp at h
