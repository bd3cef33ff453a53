/- Contracts and lemmas: Mat2 LuMem LuMem2. Conditions: as each says. -/
import Derived.Test.YtbpjabgfcbjjmaaGreatVec4Ye
import Derived.Laws.CopyRow
set_option linter.all false
set_option maxHeartbeats 1000000
set_option maxRecDepth 100000
namespace Go.Proofs.YtbpjabgfcbjjmaaGreat
open Go.RowKit Am Tryz
variable {cs:Array Value}{F:LUv}{L:List (List Rat)}{xs:List Nat}{r:List Rat}{l:List Value}{H b c i j k m n x:Nat}{A:OA}{t:TypeId}{s v y:Value}{w:World}
theorem zxP{w1:World}(b:w1.ownsRow H 62 3 (H,n,n) n (madeCells (Value.agg #[false,(),()]).cells (n*3)).toList):VecS w1 H (H,n,n) (List.replicate n 0):=by rw[zl9]at b;refine⟨List.replicate n (false,.slice none 0 0,.slice none 0 0),σ,?_,by rw[ZO];exact b⟩;simp_all[Z8,if_pos,RatS.zero]
theorem zh5{ops:Array Oper}{o:Oper}{a:Act}{K:Act->World->Prop}{Q:Exit->Act->World->Prop}{E:Prop}(hg:o.guard=none)(l c:Operand)(f:o.op=Op.makeSlice 30 l c)(n:Nat)(L:Int)(e:a.eval l=.int .i64 L)(hc:a.eval c=.int .i64 L)(d:L=(n:Int))(s:n<=1048576)
  (b:∀w1,VecS w1 w (w.heap.size,n,n) (List.replicate n 0)->Below w w w1->K (a.put o.dst (w.heap.size,n,n)) w1) :
  if Region.wanted o (yielded ops a.tmps)=true then Oper.wp prog o a w K Q else E:=by
 have hw:Region.wanted o (yielded ops a.tmps)=true:=by simp[Region.wanted,hg]
 rw[if_pos hw];obtain⟨p,hi,i,j,m⟩:=info_parts ze0;subst d;obtain⟨w',g,r,r2⟩:=run_make_full (P:=prog) w w.heap.size 30 62 p _ 3 underlying30 hi i j .i64 .i64 n (by rw[m];omega) (by unfold maxLen;omega) (Za _);unfold Oper.wp;simp[execOp,f,e,hc,g,Result.andThen];exact b _ (zxP r) ((Zj _ _).grown r2 (Za _) (λk hk=>by cases hk))
theorem VecsL.append{w':World}{c:Value}(b:VecsL w H v l L)(e:VecS w H s r)(d:w'.ownsRow H 30 1 c (L.length+1) (l++[s]))(hg:w.grownBy w' v.ownBlock):VecsL w' H c (l++[s]) (L++[r]):=by have hk:=TKeep.grown b.own hg;refine⟨by simp[b.len],λk r' p' h1 a=>?_,by rw[ZD];exact d⟩;rcases XJ k l.length with h | h | h;rw[Z1 h]at h1;rw[Z1 (by rw[<-b.len];exact h)]at a;exact(b.each k r' p' h1 a).tk hk δ δ;subst h;rw[ZJ (Za _)]at h1;rw[ZJ (by rw[b.len];exact Za _)]at a;simp at h1;rw[b.len]at a;simp at a;subst h1 a;exact e.tk hk δ δ;grind
theorem zrj{c:Value}(d:θ w b #[c] t):∀j u,[c][j]? = some u->w.cell? ((⟨b,0,none⟩:Addr).add j)=some u:=by
 intro j u a
 match j,a with
 | 0,a=>exact(zac d 0).trans a
 | j+1,a=>simp at a
theorem VecS.one(h:VecS w H s r):s.oneCell'=true:=by obtain⟨A,n,c,rfl⟩:=h.slice;rfl
theorem zjh{ops:Array Oper}{o:Oper}{a:Act}{K:Act->World->Prop}{Q:Exit->Act->World->Prop}{E:Prop}(hg:o.guard=none)(s x:Operand)
  (z:o.op=.call { callee:=.builtin .append,args:=#[s,x],argTypes:=#[110,110] })     (B:a.eval s=v) (d:VecsL w H v l L)  (C:a.eval x=.slice (some ⟨b,0,none⟩) 1 1)
  {e:Value}  (p:θ w b #[e] 30) (hr:VecS w H e r)  (y:L.length=n) (M:n+1<=1000000) (i:H<=w.heap.size)
  (m:∀c c' w',VecsL w' H (.slice c (n+1) c') (l++[e]) (L++[r])->TKeep 30 w w'->Below H w w'->K (a.put o.dst (.slice c (n+1) c')) w') :
  if Region.wanted o (yielded ops a.tmps)=true then Oper.wp prog o a w K Q else E:=by
 have hw:Region.wanted o (yielded ops a.tmps)=true:=by simp[Region.wanted,hg]
 rw[if_pos hw];subst y;obtain⟨J,hi,D,G,I⟩:=info_parts zrA
 refine wp_append_own w s x 110 z H 30 J _ 1 24 underlying110 hi D G I rfl δ v L.length l B d.own ⟨b,0,none⟩ 1 1 [e] C rfl (zrj p)
  (by intro u j;simp at j;subst j;exact hr.one) (by unfold maxLen;omega) ω i ?_
 intro N w' A g _;have f:=d.append hr A g;obtain⟨c,c',rfl⟩:=f.slice;rw[ZD]at f;have t:=m c c' w' f (TKeep.grown d.own g) ((Zj _ _).grown g i (λk hk=>(d.own.lt k hk).1));grind
theorem zqx(P:Program)(w:World)(e z A c:TypeId)(d:Nat)(g o b m:Nat)(a:Addr)(zKx y:Nat)(cur:Array Value)(t:TypeId)(cs:List Value)
  (x:P.underlying e=some (.slice c)) (k:(P.info? c).map (·.size)=some d)
  (hg:θ w g cur t) (r:cs.length=Nat.min zKx b*d)
  (s:∀j v,cs[j]? = some v->w.cell? (a.add j)=some v) (p:o+cs.length<=cur.size) (h1:∀v∈cs,v.oneCell'=true) :
  (Builtin.copy_ #[e,z] A #[.slice (some ⟨g,o,none⟩) b m,.slice (some a) zKx y]).run P w =
   .ok (goInt (Nat.min zKx b)) (w.setRow g (cur.toList.take o++cs++cur.toList.drop (o+cs.length)).toArray):=by
 have f:=run_loadCells_list (P:=P) w a cs s;have u:=run_storeCells_at P g o t cs 0 cur w hg ω h1;cases hq:P.info? c with
 | none=>simp[hq]at k
 | some i =>
  have hi:i.size=d:=by simpa[hq]using k
  rw[r]at f;simp[Builtin.copy_,run_underlying x,Builtin.lenOf,Builtin.firstCells,sizeOf,typeInfo,hq,hi,f,u]
theorem znF:(prog.info? 3).map (λi=>(i.zero,i.size,i.bytes))=some (some (.int .i64 0),1,8):=ξ
def icells (xs:List Nat):List Value:=xs.map λx=>.int .i64 ((x:Nat):Int)
structure IntsS (w:World) (H:Nat) (v:Value) (xs:List Nat):Prop where
  own:w.ownsRow H 3 1 v xs.length (icells xs)
namespace IntsS
variable {w w':World} {H:Nat} {v:Value} {xs:List Nat}
theorem keep(h:IntsS w H v xs)(hk:∀k,v.ownBlock=some k->w'.heap[k]? = w.heap[k]?):IntsS w' H v xs:=⟨zc9 h.own hk⟩
theorem below(h:IntsS w H v xs)(a:Below w w w'):IntsS w' H v xs:=h.keep λk hk=>a.block k (h.own.lt k hk).2
theorem alloc(h:IntsS w H v xs)(o:Obj):IntsS (w.alloc o) H v xs:=h.below (zae w o)
theorem drew(h:IntsS w H v xs):IntsS w.drew H v xs:=h.below (zap w 1)
theorem base{a:Nat}(h:IntsS w H v xs)(b:a<=H):IntsS w a v xs:=⟨zbu h.own b⟩
theorem nil(w:World)(H:Nat):IntsS w H () []:=⟨Xo _ _ _ _⟩
theorem tk(h:IntsS w H v xs)(hk:TKeep t w w')(h1:3≠t):IntsS w' H v xs :=
 h.keep λk a=>hk k (h.own.lt k a).2 λcs e=>za6 h.own e h1 a
theorem form(h:IntsS w H (A,n,c) xs):n=xs.length/\n<=c/\c<=maxLen/\((A=none/\c=0/\xs=[])\/∃g,A=some ⟨g,0,none⟩/\H<=g/\g<w.heap.size):=by
 rcases h.own.2 with ⟨b,a⟩ | ⟨g,cap,cur,b,hg,d,a,hm,_⟩
 injection b with e1 e2 e3;subst e1 e2 e3;exact⟨a.symm,Za _,Zb _,.inl ⟨rfl,rfl,Xk.1 a⟩⟩;grind
theorem len(h:IntsS w H (A,n,c) xs):n=xs.length:=h.form.1
theorem has(h:IntsS w H (A,n,c) xs)(e:0<n):∃g,A=some ⟨g,0,none⟩/\H<=g/\g<w.heap.size:=by obtain⟨h1,b,d,a | a⟩:=h.form;omega;exact a
theorem slice(h:IntsS w H v xs):∃A c,v=.slice A xs.length c:=by
 rcases h.own.2 with ⟨a,b⟩ | ⟨g,cap,cur,a,_⟩
 exact⟨_,_,by rw[a,b]⟩;grind
theorem fro(h:IntsS w H (b,n,c) xs)(j:Nat):w.frozen? ⟨b,j,none⟩=false:=by have a:=h.len;subst a;exact h.own.frozenAt j
theorem at_(h:IntsS w H (b,n,c) xs)(hk:xs[k]? = some x):χ w b k (.int .i64 (x:Int)):=by have a:=h.len;subst a;have d:=(ZF.1 hk).1;rw[h.own.cellAt _ ω];simp[icells,hk]
theorem store(h:IntsS w H (b,n,c) xs)(k x:Nat):IntsS (w.setCell ⟨b,k,none⟩ (x:Int)) H (b,n,c) (xs.set k x):=by have a:=h.len;subst a;refine⟨?_⟩;have:=(h.own.stored k (x:Int)).1;rw[ZQ];simpa[icells,Vd]using this
theorem push{w':World}{a:Value}(c:IntsS w H v xs)(b:w'.ownsRow H 3 1 a (xs.length+1) (icells xs++[.int .i64 (x:Int)])):IntsS w' H a (xs++[x]):=by refine⟨?_⟩;rw[ZD];simpa[icells]using b
end IntsS
theorem zll{ops:Array Oper}{o:Oper}{a:Act}{K:Act->World->Prop}{Q:Exit->Act->World->Prop}{E:Prop}(hg:o.guard=none)(s x:Operand)
  (t:o.op=.call { callee:=.builtin .append,args:=#[s,x],argTypes:=#[41,41] })    (A:a.eval s=v) (d:IntsS w H v xs)  (B:a.eval x=.slice (some ⟨b,0,none⟩) 1 1)
  {z:Nat} (m:θ w b #[(z:Int)] 3)  (r:xs.length=n) (J:n+1<=1000000) (f:H<=w.heap.size)
  (j:∀c c' w',IntsS w' H (.slice c (n+1) c') (xs++[z])->TKeep 3 w w'->Below H w w'->K (a.put o.dst (.slice c (n+1) c')) w') :
  if Region.wanted o (yielded ops a.tmps)=true then Oper.wp prog o a w K Q else E:=by
 have hw:Region.wanted o (yielded ops a.tmps)=true:=by simp[Region.wanted,hg]
 rw[if_pos hw];subst r;obtain⟨I,hi,C,D,G⟩:=info_parts znF
 refine wp_append_own w s x 41 t H 3 I _ 1 8 underlying41 hi C D G rfl δ v xs.length (icells xs) A d.own ⟨b,0,none⟩ 1 1 [.int .i64 (z:Int)] B rfl (zrj m)
  (by intro u i;simp at i;subst i;rfl) (by unfold maxLen;omega) ω f ?_
 intro M w' y g _;have e:=d.push y;obtain⟨c,c',rfl⟩:=e.slice;rw[ZD]at e;have p:=j c c' w' e (TKeep.grown d.own g) ((Zj _ _).grown g f (λk hk=>(d.own.lt k hk).1));grind
structure LuS (w:World) (H q n:Nat) (F:LUv):Prop where
  ex:∃(lA:OA) (lc:Nat) (ll:List Value) (uA:OA) (uc:Nat) (ul:List Value) (pA:OA) (pc:Nat),
    θ w q #[(lA,n,lc),(uA,n,uc),(pA,n,pc),.bool F.odd] 265/\VecsL w H (lA,n,lc) ll F.lo/\zbG ll/\VecsL w H (uA,n,uc) ul F.up/\zbG ul /\
    (∀a∈ll,∀b∈ul,∀g,a.ownBlock=some g->b.ownBlock≠some g)/\IntsS w H (pA,n,pc) F.perm
  own:H<=q
  sq:Sq n F
namespace VecsL
variable {w w':World} {H:Nat} {v:Value} {l:List Value} {L:List (List Rat)}
theorem off(h:VecsL w H v l L){o:Nat}(a:θ w b cs 30)(c:v.ownBlock≠some b)(u:Value):VecsL (w.setCell ⟨b,o,none⟩ u) H v l L :=
 h.keepAll (λk hk=>ZE _ _ _ _ ψ) λ_ _ _ r=>r.tk (TKeep.set a u) δ δ
theorem offRat(h:VecsL w H v l L)(c:θ w b cs 62)(f:∀s∈l,s.ownBlock≠some b)(i:Nat)(x y z:Value) :
  VecsL (((w.setCell ⟨b,i*3,none⟩ x).setCell ⟨b,i*3+1,none⟩ y).setCell ⟨b,i*3+2,none⟩ z) H v l L:=by
 have a:∀j,j≠b->(((w.setCell ⟨b,i*3,none⟩ x).setCell ⟨b,i*3+1,none⟩ y).setCell ⟨b,i*3+2,none⟩ z).heap[j]? = w.heap[j]?:=λj hj=>by rw[ZE _ _ _ _ (by exact hj),ZE _ _ _ _ (by exact hj),ZE _ _ _ _ (by exact hj)]
 exact h.keepAll (λk hk=>a k λe=>za6 h.own (e▸c) δ (e▸hk)) λs r m o=>o.keepAll (λg hg=>a g λe=>f s m (e▸hg)) λ_ _ _ _ q=>q.keepT λj hj d=>a j λe=>d _ (e▸c)
theorem swap(h:VecsL w H (b,n,c) l L){x:Value}{s:List Rat}(hi:l[i]? = some x)(hj:l[j]? = some y)(hr:L[i]? = some r)(a:L[j]? = some s) :
  VecsL ((w.setCell ⟨b,i,none⟩ y).setCell ⟨b,j,none⟩ x) H (b,n,c) ((l.set i y).set j x) (sw L i j []):=by
 obtain⟨cs,e⟩:=h.blk;have h1:=h.store (ZF.1 hr).1 (h.each _ _ _ hj a);have d:=h1.store (k:=j) (by rw[ZQ];grind) ((h.each _ _ _ hi hr).tk (TKeep.set (o:=i) e y) δ δ);unfold sw;rw[Zg,Zg,hr,a];exact d
end VecsL
theorem zrV{α:Type}{l:List α}{x y:α}(hi:l[i]? = some x)(hj:l[j]? = some y)(k:Nat):((l.set i y).set j x)[k]? = l[tw i j k]?:=by have h1:=(ZF.1 hi).1;have b:=(ZF.1 hj).1;unfold tw;rw[XA,ZQ,XA];grind
theorem zyB{α:Type}{l:List α}{x y:α}(hi:l[i]? = some x)(hj:l[j]? = some y){a:α}(h:a∈(l.set i y).set j x):a∈l:=ψ
theorem zbG.sw(h:zbG l){x:Value}(hi:l[i]? = some x)(hj:l[j]? = some y):zbG ((l.set i y).set j x):=by intro a b u v g h1 c d e;rw[zrV hi hj]at h1 c;have:=h _ _ _ _ _ h1 c d e;rw[<-zxO i j a,this,zxO]
theorem IntsS.swap(h:IntsS w H (b,n,c) xs){y:Nat}(hi:xs[i]? = some x)(hj:xs[j]? = some y) :
  IntsS ((w.setCell ⟨b,i,none⟩ (y:Int)).setCell ⟨b,j,none⟩ (x:Int)) H (b,n,c) (Am.sw xs i j 0):=by
 have:=(h.store i y).store j x;unfold Am.sw;rw[Zg,Zg,hi,hj];exact this
theorem IntsS.blk(h:IntsS w H (b,n,c) xs):∃cs,θ w b cs 3:=by
 rcases h.own.2 with ⟨a,_⟩ | ⟨g,cap,cur,a,_,d,_⟩
 cases a;grind
structure LuP (w:World) (H q n lb lc:Nat) (ll:List Value) (ub uc:Nat) (ul:List Value) (pb pc:Nat) (F:LUv):Prop where
  blk:θ w q #[(lb,n,lc),(ub,n,uc),(pb,n,pc),.bool F.odd] 265
  lo:VecsL w H (lb,n,lc) ll F.lo
  la:zbG ll
  up:VecsL w H (ub,n,uc) ul F.up
  ua:zbG ul
  rows:∀a∈ll,∀b∈ul,∀g,a.ownBlock=some g->b.ownBlock≠some g
  sep:lb≠ub
  perm:IntsS w H (pb,n,pc) F.perm
  own:H<=q
namespace LuP
variable {w w':World} {H q n lb lc:Nat} {ll:List Value} {ub uc:Nat} {ul:List Value} {pb pc:Nat} {F:LUv}
theorem below(h:LuP w H q n lb lc ll ub uc ul pb pc F)(a:Below w w w'):LuP w' H q n lb lc ll ub uc ul pb pc F :=
 ⟨by rw[a.block q (ZS.1 h.blk).1];exact h.blk,h.lo.below a,h.la,h.up.below a,h.ua,h.rows,h.sep,h.perm.below a,h.own⟩
theorem alloc(h:LuP w H q n lb lc ll ub uc ul pb pc F)(o:Obj):LuP (w.alloc o) H q n lb lc ll ub uc ul pb pc F:=h.below (zae w o)
theorem drew(h:LuP w H q n lb lc ll ub uc ul pb pc F):LuP w.drew H q n lb lc ll ub uc ul pb pc F:=h.below (zap w 1)
theorem qlt(h:LuP w H q n lb lc ll ub uc ul pb pc F):q<w.heap.size:=(ZS.1 h.blk).1
theorem lbge(h:LuP w H q n lb lc ll ub uc ul pb pc F)(b:0<n):H<=lb/\lb<w.heap.size:=by obtain⟨g,e,h1,a⟩:=h.lo.has b;grind
theorem ubge(h:LuP w H q n lb lc ll ub uc ul pb pc F)(b:0<n):H<=ub/\ub<w.heap.size:=by obtain⟨g,e,h1,a⟩:=h.up.has b;grind
theorem pbge(h:LuP w H q n lb lc ll ub uc ul pb pc F)(b:0<n):H<=pb/\pb<w.heap.size:=by obtain⟨g,e,h1,a⟩:=h.perm.has b;grind
theorem swU(h:LuP w H q n lb lc ll ub uc ul pb pc F){x:Value}{s:List Rat}(hi:ul[i]? = some x)(hj:ul[j]? = some y)(hr:F.up[i]? = some r)(p:F.up[j]? = some s) :
  LuP ((w.setCell ⟨ub,i,none⟩ y).setCell ⟨ub,j,none⟩ x) H q n lb lc ll ub uc ((ul.set i y).set j x) pb pc { F with up:=sw F.up i j [] }:=by
 obtain⟨cs,c⟩:=h.up.blk;have g:TKeep 30 w (w.setCell ⟨ub,i,none⟩ y):=TKeep.set c y;have d:=zar (o:=i) y c;have k2:TKeep 30 (w.setCell ⟨ub,i,none⟩ y) ((w.setCell ⟨ub,i,none⟩ y).setCell ⟨ub,j,none⟩ x):=TKeep.set d x;have f:(Value.slice (some ⟨lb,0,none⟩) n lc).ownBlock≠some ub:=by intro e;exact h.sep (by injection e)
 exact⟨k2.blk (g.blk h.blk δ) δ,(h.lo.off c f y).off d f x,h.la,h.up.swap hi hj hr p,h.ua.sw hi hj,λa k b m=>h.rows a k b (zyB hi hj m),h.sep,(h.perm.tk g δ).tk k2 δ,h.own⟩
theorem swL(h:LuP w H q n lb lc ll ub uc ul pb pc F){x:Value}{s:List Rat}(hi:ll[i]? = some x)(hj:ll[j]? = some y)(hr:F.lo[i]? = some r)(p:F.lo[j]? = some s) :
  LuP ((w.setCell ⟨lb,i,none⟩ y).setCell ⟨lb,j,none⟩ x) H q n lb lc ((ll.set i y).set j x) ub uc ul pb pc { F with lo:=sw F.lo i j [] }:=by
 obtain⟨cs,c⟩:=h.lo.blk;have g:TKeep 30 w (w.setCell ⟨lb,i,none⟩ y):=TKeep.set c y;have d:=zar (o:=i) y c;have k2:TKeep 30 (w.setCell ⟨lb,i,none⟩ y) ((w.setCell ⟨lb,i,none⟩ y).setCell ⟨lb,j,none⟩ x):=TKeep.set d x;have f:(Value.slice (some ⟨ub,0,none⟩) n uc).ownBlock≠some lb:=by intro e;exact h.sep (by injection e with e;exact e.symm)
 exact⟨k2.blk (g.blk h.blk δ) δ,h.lo.swap hi hj hr p,h.la.sw hi hj,(h.up.off c f y).off d f x,h.ua,λa k b m=>h.rows a (zyB hi hj k) b m,h.sep,(h.perm.tk g δ).tk k2 δ,h.own⟩
theorem swP(h:LuP w H q n lb lc ll ub uc ul pb pc F){y:Nat}(hi:F.perm[i]? = some x)(hj:F.perm[j]? = some y) :
  LuP ((w.setCell ⟨pb,i,none⟩ (y:Int)).setCell ⟨pb,j,none⟩ (x:Int)) H q n lb lc ll ub uc ul pb pc { F with perm:=sw F.perm i j 0 }:=by
 obtain⟨cs,b⟩:=h.perm.blk;have a:TKeep 3 w (w.setCell ⟨pb,i,none⟩ (y:Int)):=TKeep.set b _;have c:=zar (o:=i) (y:Int) b;have k2:TKeep 3 (w.setCell ⟨pb,i,none⟩ (y:Int)) ((w.setCell ⟨pb,i,none⟩ (y:Int)).setCell ⟨pb,j,none⟩ (x:Int)):=TKeep.set c _;exact⟨k2.blk (a.blk h.blk δ) δ,(h.lo.tk a δ δ δ).tk k2 δ δ δ,h.la,(h.up.tk a δ δ δ).tk k2 δ δ δ,h.ua,h.rows,h.sep,h.perm.swap hi hj,h.own⟩
theorem setO(h:LuP w H q n lb lc ll ub uc ul pb pc F)(o:Bool):LuP (w.setCell ⟨q,3,none⟩ o) H q n lb lc ll ub uc ul pb pc { F with odd:=o }:=by have a:TKeep 265 w (w.setCell ⟨q,3,none⟩ o):=TKeep.set h.blk _;refine⟨?_,h.lo.tk a δ δ δ,h.la,h.up.tk a δ δ δ,h.ua,h.rows,h.sep,h.perm.tk a δ,h.own⟩;have:=zar (o:=3) o h.blk;grind
theorem putL(h:LuP w H q n lb lc ll ub uc ul pb pc F)(e:ll[k]? = some (b,m,c))(f:F.lo[k]? = some r)(i:Nat){g:Bool}{d:Value}{x:Rat}(y:RatS w g s d x) :
  LuP (((w.setCell ⟨b,i*3,none⟩ g).setCell ⟨b,i*3+1,none⟩ s).setCell ⟨b,i*3+2,none⟩ d) H q n lb lc ll ub uc ul pb pc { F with lo:=F.lo.set k (r.set i x) }:=by
 obtain⟨cs,a⟩:=(h.lo.each k _ _ e f).ratBlk;have p:TKeep 62 w (w.setCell ⟨b,i*3,none⟩ g):=TKeep.set a _;have j:=zar (o:=i*3) g a;have k2:TKeep 62 (w.setCell ⟨b,i*3,none⟩ g) ((w.setCell ⟨b,i*3,none⟩ g).setCell ⟨b,i*3+1,none⟩ s):=TKeep.set j _;have u:=zar (o:=i*3+1) s j;have k3:TKeep 62 ((w.setCell ⟨b,i*3,none⟩ g).setCell ⟨b,i*3+1,none⟩ s) (((w.setCell ⟨b,i*3,none⟩ g).setCell ⟨b,i*3+1,none⟩ s).setCell ⟨b,i*3+2,none⟩ d):=TKeep.set u _;exact⟨k3.blk (k2.blk (p.blk h.blk δ) δ) δ,h.lo.put h.la e f i y,h.la,h.up.offRat a (λt z=>h.rows _ (Zz e) t z b rfl) i _ _ _,h.ua,h.rows,h.sep,((h.perm.tk p δ).tk k2 δ).tk k3 δ,h.own⟩
theorem putU(h:LuP w H q n lb lc ll ub uc ul pb pc F)(hk:k<F.up.length){B:Nat}(y:VecS w H (A,m,c) r)(hf:∀g,(Value.slice A m c).ownBlock=some g->B<=g)(u:∀a∈ll,∀g,a.ownBlock=some g->g<B)(z:∀a∈ul,∀g,a.ownBlock=some g->g<B) :
  LuP (w.setCell ⟨ub,k,none⟩ (A,m,c)) H q n lb lc ll ub uc (ul.set k (A,m,c)) pb pc { F with up:=F.up.set k r }:=by
 obtain⟨cs,o⟩:=h.up.blk;have p:TKeep 30 w (w.setCell ⟨ub,k,none⟩ (A,m,c)):=TKeep.set o _;have x:(Value.slice (some ⟨lb,0,none⟩) n lc).ownBlock≠some ub:=by intro e;exact h.sep (by injection e)
 refine⟨p.blk h.blk δ,h.lo.off o x _,h.la,h.up.store hk y,h.ua.set λg j b h1 f d s=>?_,λa i b t g h1 f=>?_,h.sep,h.perm.tk p δ,h.own⟩;have:=hf g h1;have:=z b (Zz d) g s;omega;rcases Vj t with d | d;exact h.rows a i b d g h1 f;subst d;have:=hf g f;have:=u a i g h1;omega
theorem ltL(h:LuP w H q n lb lc ll ub uc ul pb pc F):∀a∈ll,∀g,a.ownBlock=some g->g<w.heap.size:=λa b g hg=>(h.lo.lt b hg).2
theorem ltU(h:LuP w H q n lb lc ll ub uc ul pb pc F):∀a∈ul,∀g,a.ownBlock=some g->g<w.heap.size:=λa b g hg=>(h.up.lt b hg).2
end LuP
def LuQ (w:World) (H q n:Nat) (F:LUv):Prop:=∃lb lc ll ub uc ul pb pc,LuP w H q n lb lc ll ub uc ul pb pc F
theorem LuQ.toS{q:Nat}(h:LuQ w H q n F)(a:Sq n F):LuS w H q n F:=by obtain⟨lb,lc,ll,ub,uc,ul,pb,pc,h⟩:=h;exact⟨⟨_,lc,ll,_,uc,ul,_,pc,h.blk,h.lo,h.la,h.up,h.ua,h.rows,h.perm⟩,h.own,a⟩
def clr (F:LUv) (c t:Nat):LUv:={ F with lo:=(zaT c F.lo F.up t).1,up:=(zaT c F.lo F.up t).2 }
theorem zwC(F:LUv)(c t:Nat):clr F c (t+1)=({ clr F c t with lo:=(clr F c t).lo.set (c+1+t) (((clr F c t).lo.getD (c+1+t) []).set c (en (clr F c t).up (c+1+t) c/en (clr F c t).up c c)),up:=(clr F c t).up.set (c+1+t) (zly ((clr F c t).up.getD (c+1+t) []) (-(en (clr F c t).up (c+1+t) c/en (clr F c t).up c c)) ((clr F c t).up.getD c [])) }:LUv):=rfl
theorem zxH(s:Sq n F)(c k:Nat):F.step c k=clr (F.turn c k) c (n-(c+1)):=by unfold LUv.step clr;rw[s.ul]
theorem zC8(s:Sq n F)(hc:c<n)(t:Nat)(e:c+1+t<=n):Sq n (clr F c t):=by obtain⟨⟨h1,a,b,d⟩,_⟩:=zfU c n F.lo F.up s.ll s.lr s.ul s.ur hc t e;exact⟨h1,a,b,d,s.pl⟩
theorem zz5(s:Sq n F)(hc:c<n)(t:Nat)(a:c+1+t<n):(∀j,j<n->en (clr F c t).up (c+1+t) j=en F.up (c+1+t) j)/\∀j,j<n->en (clr F c t).up c j=en F.up c j:=by obtain⟨_,h,_⟩:=zfU c n F.lo F.up s.ll s.lr s.ul s.ur hc t ω;exact⟨λj hj=>by show en (zaT c F.lo F.up t).2 _ _=_;rw[h _ a _ hj,if_neg ω],λj hj=>by show en (zaT c F.lo F.up t).2 _ _=_;rw[h _ hc _ hj,if_neg ω]⟩
