/- Contracts and lemmas: Mat2 LuMem. Conditions: as each says. -/
import Derived.Test.YtbhfhkcdfmmmiaaGreatDoorLaw1Zd
import Derived.Test.YtbhfhkcdfmmmiaaGreatDoorVec5Zd
import Derived.Laws.CopyRow
set_option linter.all false
set_option maxHeartbeats 1000000
set_option maxRecDepth 100000
namespace Go.Proofs.YtbhfhkcdfmmmiaaGreatDoor
open Go.RowKit Am
variable {L:List (List Rat)}{r:List Rat}{l:List Value}{H b c n x:Nat}{A:OA}{t:TypeId}{s v:Value}{w:World}
theorem zxP{w1:World}(b:w1.ownsRow H 49 3 (H,n,n) n (madeCells (Value.agg #[false,(),()]).cells (n*3)).toList):VecS w1 H (H,n,n) (List.replicate n 0):=by
 rw[zl9]at b;refine⟨List.replicate n (false,.slice none 0 0,.slice none 0 0),by simp,?_,by rw[List.length_replicate];exact b⟩;intro k r q h1 a;rw[List.getElem?_replicate]at h1 a;split at h1
 ·injection h1 with h1;rw[if_pos ‹_›]at a;injection a with a;subst h1 a;exact RatS.zero _
 ·cases h1
theorem zh5{ops:Array Oper}{o:Oper}{a:Act}{K:Act→World→Prop}{Q:Exit→Act→World→Prop}{E:Prop}(hg:o.guard=none)(l c:Operand)(g:o.op=Op.makeSlice 28 l c)(n:Nat)(L:Int)(f:a.eval l=.int .i64 L)(hc:a.eval c=.int .i64 L)(d:L=(n:Int))(s:n≤1048576)
  (b:∀w1,VecS w1 w.heap.size (w.heap.size,n,n) (List.replicate n 0)→Below w.heap.size w w1→K (a.put o.dst (w.heap.size,n,n)) w1) :
  if Region.wanted o (yielded ops a.tmps)=true then Oper.wp Tryz.prog o a w K Q else E:=by
 have hw:Region.wanted o (yielded ops a.tmps)=true:=by simp[Region.wanted,hg]
 rw[if_pos hw];obtain⟨q,e,j,m,p⟩:=info_parts ze0;subst d;obtain⟨w',i,r,r2⟩:=run_make_full (P:=Tryz.prog) w w.heap.size 28 49 q _ 3 Tryz.underlying28 e j m .i64 .i64 n (by rw[p];omega) (by unfold maxLen;omega) (Nat.le_refl _);unfold Oper.wp;simp[execOp,g,f,hc,i,Result.andThen];exact b _ (zxP r) ((Below.refl _ _).grown r2 (Nat.le_refl _) (fun k hk=>by cases hk))
theorem VecsL.append{w':World}{c:Value}(b:VecsL w H v l L)(e:VecS w H s r)(d:w'.ownsRow H 28 1 c (L.length+1) (l++[s]))(hg:w.grownBy w' v.ownBlock):VecsL w' H c (l++[s]) (L++[r]):=by
 have hk:=TKeep.grown b.own hg;refine⟨by simp[b.len],fun k r' p' h1 a=>?_,by rw[List.length_append];exact d⟩;rcases Nat.lt_trichotomy k l.length with h | h | h
 ·rw[List.getElem?_append_left h]at h1;rw[List.getElem?_append_left (by rw[←b.len];exact h)]at a;exact(b.each k r' p' h1 a).tk hk (by decide) (by decide)
 ·subst h;rw[List.getElem?_append_right (Nat.le_refl _)]at h1;rw[List.getElem?_append_right (by rw[b.len];exact Nat.le_refl _)]at a;simp at h1;rw[b.len]at a;simp at a;subst h1 a;exact e.tk hk (by decide) (by decide)
 ·rw[List.getElem?_eq_none (by simp;omega)]at h1;cases h1
theorem zrj{c:Value}(d:w.heap[b]? = some (.cells #[c] t (0,0))):∀j u,[c][j]? = some u→w.cell? ((⟨b,0,none⟩:Addr).add j)=some u:=by
 intro j u a
 match j,a with
 | 0,a=>exact(zac d 0).trans a
 | j+1,a=>simp at a
theorem VecS.one(h:VecS w H s r):s.oneCell'=true:=by
 obtain⟨A,n,c,rfl⟩:=h.slice;rfl
theorem zjh{ops:Array Oper}{o:Oper}{a:Act}{K:Act→World→Prop}{Q:Exit→Act→World→Prop}{E:Prop}(hg:o.guard=none)(s x:Operand)
  (z:o.op=.call { callee:=.builtin .append,args:=#[s,x],argTypes:=#[76,76] })     (B:a.eval s=v) (d:VecsL w H v l L)  (C:a.eval x=.slice (some ⟨b,0,none⟩) 1 1)
  {e:Value}  (p:w.heap[b]? = some (.cells #[e] 28 (0,0))) (hr:VecS w H e r)  (y:L.length=n) (J:n+1≤1000000) (i:H≤w.heap.size)
  (m:∀c c' w',VecsL w' H (.slice c (n+1) c') (l++[e]) (L++[r])→TKeep 28 w w'→Below H w w'→K (a.put o.dst (.slice c (n+1) c')) w') :
  if Region.wanted o (yielded ops a.tmps)=true then Oper.wp Tryz.prog o a w K Q else E:=by
 have hw:Region.wanted o (yielded ops a.tmps)=true:=by simp[Region.wanted,hg]
 rw[if_pos hw];subst y;obtain⟨I,t,D,F,G⟩:=info_parts zrA
 refine wp_append_own w s x 76 z H 28 I _ 1 24 Tryz.underlying76 t D F G rfl (by decide) v L.length l B d.own ⟨b,0,none⟩ 1 1 [e] C rfl (zrj p)
  (by intro u j;simp at j;subst j;exact hr.one) (by unfold maxLen;omega) (by omega) i ?_
 intro M w' A g _;have f:=d.append hr A g;obtain⟨c,c',rfl⟩:=f.slice;rw[List.length_append]at f;have q:=m c c' w' f (TKeep.grown d.own g) ((Below.refl _ _).grown g i (fun k hk=>(d.own.lt k hk).1));simpa using q
theorem zqx(P:Program)(w:World)(d u x c:TypeId)(sz:Nat)(g o b k:Nat)(a:Addr)(zKx s:Nat)(cur:Array Value)(t:TypeId)(cs:List Value)
  (r:P.underlying d=some (.slice c)) (f:(P.info? c).map (·.size)=some sz)
  (hg:w.heap[g]? = some (.cells cur t (0,0))) (n:cs.length=Nat.min zKx b*sz)
  (p:∀j v,cs[j]? = some v→w.cell? (a.add j)=some v) (l:o+cs.length≤cur.size) (h1:∀v∈cs,v.oneCell'=true) :
  (Builtin.copy_ #[d,u] x #[.slice (some ⟨g,o,none⟩) b k,.slice (some a) zKx s]).run P w =
   .ok (goInt (Nat.min zKx b)) (w.setRow g (cur.toList.take o++cs++cur.toList.drop (o+cs.length)).toArray):=by
 have e:=run_loadCells_list (P:=P) w a cs p;have q:=run_storeCells_at P g o t cs 0 cur w hg (by simpa using l) h1;cases hq:P.info? c with
 | none=>simp[hq]at f
 | some i =>
  have m:i.size=sz:=by simpa[hq]using f
  rw[n]at e;simp[Builtin.copy_,run_underlying r,Builtin.lenOf,Builtin.firstCells,sizeOf,typeInfo,hq,m,e,q]
theorem znF:(Tryz.prog.info? 3).map (fun i=>(i.zero,i.size,i.bytes))=some (some (.int .i64 0),1,8):=by kernel_rfl
def icells (xs:List Nat):List Value:=xs.map fun x=>.int .i64 ((x:Nat):Int)
structure IntsS (w:World) (H:Nat) (v:Value) (xs:List Nat):Prop where
  own:w.ownsRow H 3 1 v xs.length (icells xs)
namespace IntsS
variable {w w':World} {H:Nat} {v:Value} {xs:List Nat}
theorem keep(h:IntsS w H v xs)(hk:∀k,v.ownBlock=some k→w'.heap[k]? = w.heap[k]?):IntsS w' H v xs:=⟨zc9 h.own hk⟩
theorem below(h:IntsS w H v xs)(a:Below w.heap.size w w'):IntsS w' H v xs:=h.keep fun k hk=>a.block k (h.own.lt k hk).2
theorem alloc(h:IntsS w H v xs)(o:Obj):IntsS (w.alloc o) H v xs:=h.below (zae w o)
theorem drew(h:IntsS w H v xs):IntsS w.drew H v xs:=h.below (zap w 1)
theorem base{a:Nat}(h:IntsS w H v xs)(b:a≤H):IntsS w a v xs:=⟨zbu h.own b⟩
theorem nil(w:World)(H:Nat):IntsS w H () []:=⟨World.ownsRow_nil _ _ _ _⟩
theorem tk(h:IntsS w H v xs)(hk:TKeep t w w')(h1:3≠t):IntsS w' H v xs :=
 h.keep fun k a=>hk k (h.own.lt k a).2 fun cs e=>za6 h.own e h1 a
theorem form(h:IntsS w H (A,n,c) xs):n=xs.length∧n≤c∧c≤maxLen∧((A=none∧c=0∧xs=[])∨∃g,A=some ⟨g,0,none⟩∧H≤g∧g<w.heap.size):=by
 rcases h.own.2 with ⟨b,a⟩ | ⟨g,cap,cur,b,hg,d,a,hm,_⟩
 ·injection b with e1 e2 e3;subst e1 e2 e3;exact⟨a.symm,Nat.le_refl _,Nat.zero_le _,.inl ⟨rfl,rfl,List.length_eq_zero_iff.1 a⟩⟩
 ·injection b with e1 e2 e3;subst e1 e2 e3;exact⟨rfl,a,hm,.inr ⟨g,rfl,hg,(Array.getElem?_eq_some_iff.1 d).1⟩⟩
theorem len(h:IntsS w H (A,n,c) xs):n=xs.length:=h.form.1
theorem has(h:IntsS w H (A,n,c) xs)(e:0<n):∃g,A=some ⟨g,0,none⟩∧H≤g∧g<w.heap.size:=by
 obtain⟨h1,b,d,a | a⟩:=h.form
 ·omega
 ·exact a
theorem slice(h:IntsS w H v xs):∃A c,v=.slice A xs.length c:=by
 rcases h.own.2 with ⟨a,b⟩ | ⟨g,cap,cur,a,_⟩
 ·exact⟨_,_,by rw[a,b]⟩
 ·exact⟨_,_,a⟩
theorem fro(h:IntsS w H (b,n,c) xs)(j:Nat):w.frozen? ⟨b,j,none⟩=false:=by
 have a:=h.len;subst a;exact h.own.frozenAt j
theorem at_(h:IntsS w H (b,n,c) xs){k:Nat}(hk:xs[k]? = some x):w.cell? ⟨b,k,none⟩=some (.int .i64 (x:Int)):=by
 have a:=h.len;subst a;have d:=(List.getElem?_eq_some_iff.1 hk).1;rw[h.own.cellAt _ (by omega)];simp[icells,hk]
theorem store(h:IntsS w H (b,n,c) xs)(k x:Nat):IntsS (w.setCell ⟨b,k,none⟩ (x:Int)) H (b,n,c) (xs.set k x):=by
 have a:=h.len;subst a;refine⟨?_⟩;have:=(h.own.stored k (x:Int)).1;rw[List.length_set];simpa[icells,List.map_set]using this
theorem push{w':World}{a:Value}(c:IntsS w H v xs)(b:w'.ownsRow H 3 1 a (xs.length+1) (icells xs++[.int .i64 (x:Int)])):IntsS w' H a (xs++[x]):=by
 refine⟨?_⟩;rw[List.length_append];simpa[icells]using b
end IntsS
theorem zll{ops:Array Oper}{o:Oper}{a:Act}{K:Act→World→Prop}{Q:Exit→Act→World→Prop}{E:Prop}(hg:o.guard=none)(s x:Operand)
  (r:o.op=.call { callee:=.builtin .append,args:=#[s,x],argTypes:=#[32,32] })   {xs:List Nat} (y:a.eval s=v) (d:IntsS w H v xs)  (A:a.eval x=.slice (some ⟨b,0,none⟩) 1 1)
  {z:Nat} (l:w.heap[b]? = some (.cells #[(z:Int)] 3 (0,0)))  (q:xs.length=n) (G:n+1≤1000000) (f:H≤w.heap.size)
  (j:∀c c' w',IntsS w' H (.slice c (n+1) c') (xs++[z])→TKeep 3 w w'→Below H w w'→K (a.put o.dst (.slice c (n+1) c')) w') :
  if Region.wanted o (yielded ops a.tmps)=true then Oper.wp Tryz.prog o a w K Q else E:=by
 have hw:Region.wanted o (yielded ops a.tmps)=true:=by simp[Region.wanted,hg]
 rw[if_pos hw];subst q;obtain⟨F,p,B,C,D⟩:=info_parts znF
 refine wp_append_own w s x 32 r H 3 F _ 1 8 Tryz.underlying32 p B C D rfl (by decide) v xs.length (icells xs) y d.own ⟨b,0,none⟩ 1 1 [.int .i64 (z:Int)] A rfl (zrj l)
  (by intro u i;simp at i;subst i;rfl) (by unfold maxLen;omega) (by omega) f ?_
 intro I w' t g _;have e:=d.push t;obtain⟨c,c',rfl⟩:=e.slice;rw[List.length_append]at e;have m:=j c c' w' e (TKeep.grown d.own g) ((Below.refl _ _).grown g f (fun k hk=>(d.own.lt k hk).1));simpa using m
structure LuS (w:World) (H q n:Nat) (F:LUv):Prop where
  ex:∃(lA:OA) (lc:Nat) (ll:List Value) (uA:OA) (uc:Nat) (ul:List Value) (pA:OA) (pc:Nat),
    w.heap[q]? = some (.cells #[(lA,n,lc),(uA,n,uc),(pA,n,pc),.bool F.odd] 205 (0,0))∧VecsL w H (lA,n,lc) ll F.lo∧zbG ll∧VecsL w H (uA,n,uc) ul F.up∧zbG ul ∧
    (∀a∈ll,∀b∈ul,∀g,a.ownBlock=some g→b.ownBlock≠some g)∧IntsS w H (pA,n,pc) F.perm
  own:H≤q
  sq:Sq n F
