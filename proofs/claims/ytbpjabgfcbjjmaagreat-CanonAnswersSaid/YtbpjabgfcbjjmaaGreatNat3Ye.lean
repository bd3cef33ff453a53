/- Contracts and lemmas: Nat3 Step Frame. Conditions: as each says. -/
import Derived.Test.YtbpjabgfcbjjmaaGreatWord3Ye
import Derived.Deep.RegionLaw
import Derived.OneCell
set_option linter.all false
set_option maxHeartbeats 1000000
set_option maxRecDepth 100000
namespace Go.Proofs.YtbpjabgfcbjjmaaGreat
open Go.RowKit Am Tryz
attribute [local go_sem ↓] Go.wp_at_zero Go.wp_at_succ
variable {b n:Nat}{u v:Value}{a w w':World}
namespace Nt
theorem words(A:OA)(m c:Nat)(xs:List Nat)(w:World)(h:SW w (A,m,c) xs)(b:xs.length<=LIM):Calls prog 173 #[.agg #[(A,m,c)]] w (zCs w xs):=by
 have a:=(h.alloc (.cells #[(A,m,c)] 58)).reads;have d:=un a;have f:=un b;clear h a b;go_enter func173,ntmps173;go_wp2_with fail
 refine(clone _ xs _ d.o f.o).mono ?_;rintro e w1 ⟨A1,m1,c1,rfl,hs1,hb1⟩;go_wp2;go_ret;exact⟨_,_,_,rfl,hs1,bstep (zae w _) hb1 σ⟩
theorem add(A B:OA)(m c m' c' a b:Nat)(w:World)(x:zas w (A,m,c) a)(y:zas w (B,m',c') b)(ab:wlen a<=LIM)(ac:wlen b<=LIM) :
  Calls prog 137 #[.agg #[(A,m,c)],.agg #[(B,m',c')]] w (zc0 w (a+b)):=by
 obtain⟨xs,L,Y,rfl,E,rfl⟩:=x.words;obtain⟨ys,N,Z,rfl,F,rfl⟩:=y.words;rw[<-E]at ab;rw[<-F]at ac;clear E F x y;obtain⟨n,G⟩:∃n,n=max xs.length ys.length+1:=⟨_,rfl⟩
 have t:n<=16*LIM:=by have:=zaP;omega
 refine μ3 G L N λq f g=>?_;clear L N Y Z;obtain⟨M,U⟩:∃M,M=max xs.length ys.length:=⟨_,rfl⟩
 have T:(if xs.length<ys.length then (ys.length:Int)else (xs.length:Int))=(M:Int):=by split<;>omega
 have u:wrap64 ((M:Int)+1)=(n:Int):=by have:=zaP;rw[show(M:Int)+1=(n:Int)by omega];unfold wrap64;omega
 clear U;clear G;go_enter func137,ntmps137;go_wp2_with (at_make;go_must (refine zdz rfl _ _ rfl n _ rfl rfl u t (w.heap.size+1+1+1) σ ?_))
 intro w1 H;have P:=un H;clear H T u t;go_wp2
 go_loopw [6,19] (λS i wr=>∃(j C:Nat) (os:List Nat),i=.int .i64 j/\S=.int .u64 C/\j<=n/\AddInv xs ys os j C/\OutAt (((w.alloc (.cells #[(A,xs.length,c)] 58)).alloc (.cells #[(B,ys.length,c')] 58)).alloc (.cells #[()] 58)) wr (w.heap.size+1+1+1) n os)
  (λ_ i _=>n-(intOf i).toNat)
 case atStart=>exact⟨0,0,List.replicate n 0,rfl,rfl,Zb _,AddInv.start xs ys n,P.o⟩
 obtain⟨j,C,os,rfl,rfl,hj,s,d⟩:=hrel;have l:=un s;have r:=un d;have hC:=s.one;have V:=un (d.keep (((f.o.alloc _).alloc _).alloc _) σ);have W:=un (d.keep (((g.o.alloc _).alloc _).alloc _) σ);have af:=d.old (b:=w.heap.size) (o:=0) (v:=.slice A xs.length c) ω (cell_al (cell_al (zax rfl rfl)));have ag:=d.old (b:=w.heap.size+1) (o:=0) (v:=.slice B ys.length c') ω (cell_al (zax σ rfl));have ak:=zdM f.o.2 j;have al:=zdM g.o.2 j;clear s;by_cases D:j<n
 ·have X:=d.cell D;have aa:=d.fro j;have J:=d.lt;have aj:n<=9223372036854775807:=by have:=q.o;have:=zaP;omega
  have ah:(0:Int)<=(j:Int):=Zf _;have ai:(j:Int)<(n:Int):=ω;clear d;go_wp2_with fail
  have q1:=cell_al (ob:=.cells #[(B,ys.length,c')] 58) (cell_al (ob:=.cells #[(A,xs.length,c)] 58) X);have q2:=zd1 (ob:=.cells #[(B,ys.length,c')] 58) (zxk (ob:=.cells #[(A,xs.length,c)] 58) J) (zd1 (ob:=.cells #[(A,xs.length,c)] 58) J aa)
  go_region_held3 (λw'=>χ w' w 0 (A,xs.length,c)/\χ w' (w.heap.size+1) 0 (B,ys.length,c'))
   (first | ((try go_split_ands);(try simp only[Xp]);(repeat' apply And.intro)<;>(first | assumption | exact cell_al (by assumption) | exact cell_set ω (by assumption))) | go_keep)
   (first
    | (go_at_call 170;(with_reducible refine(word (A,xs.length,c) xs _ ω _ ?_).mono ?_);(exact V.o.drew);rintro e w' ⟨rfl,rfl⟩)
    | (go_at_call 170;(with_reducible refine(word (B,ys.length,c') ys _ ω _ ?_).mono ?_);(exact W.o.drew.alloc _);rintro e w' ⟨rfl,rfl⟩)
    | (go_at_call 169;(with_reducible refine(Word.add (wd xs j) (wd ys j) C (by assumption) (by assumption) (by assumption) _).mono ?_);rintro e w' ⟨rfl,rfl⟩))
  go_wp2;go_roundw
  case rel=>exact⟨j+1,_,_,by go_num,rfl,ω,l.o.next (by rw[r.o.len];exact D) f.o.2 g.o.2,(((r.o.alloc _).alloc _).store j _).drew⟩
  case measure=>simp[intOf];omega
 obtain rfl:j=n:=ω;have K:=l.o.done r.o.len.symm f.o.2 g.o.2 (by have:=q.o;omega) (by have:=q.o;omega);have I:=d.sw l.o.wds;have z:=d.bel;refine μ3 K I z λR Q k=>?_;clear K I z d;go_wp2_with fail
 refine(trim _ os _ Q.o).mono ?_;rintro e w2 ⟨A2,m2,c2,rfl,hs2,hb2⟩;have hk:=zad hb2 ((k.o.block (w.heap.size+1+1) ω).trans (zam σ));have hc:χ w2 (w.heap.size+1+1) 0 ():=zac hk 0;have hf:=zag hk 0;have O:=un hk;have h0:=k.o.size;simp at h0;clear hk;go_wp2;refine Zh (v:=.agg #[(A2,m2,c2)]) (by simp[results,results137,go_sem,hc]) rfl ?_;rw[R.o]at hs2;refine⟨_,_,_,rfl,hs2.setCell (p:=⟨w.heap.size+1+1,0,none⟩) O.o δ _,Xf ?_ (by simp;omega) _⟩;exact bstep ((((zae w _).alloc σ _).alloc (by simp;omega) _).trans (k.o.mono ω)) hb2 ω
end Nt
theorem znT{ops:Array Oper}{o:Oper}{a:Act}{K:Act->World->Prop}{Q:Exit->Act->World->Prop}{E:Prop}(hg:o.guard=none)
  (f:FuncId) {b:Func} {c:Code} (hf:prog.funcs[f]? = some b) (k:(b.name == "runtime.NumGoroutine")=false) (i:b.body=some c) (xs:List Operand) (n:Array TypeId) (l:o.op=.call { callee:=.value (.func f),args:=xs.toArray,argTypes:=n })
  (args:List Value) (g:xs.map a.eval=args) {R:Ending->World->Prop} (hc:Calls prog f args.toArray w R) (d:∀e w',R e w'->∃v,e=.returned v/\K (a.put o.dst v) w') :
  if Region.wanted o (yielded ops a.tmps)=true then Oper.wp prog o a w K Q else E:=by
 have hw:Region.wanted o (yielded ops a.tmps)=true:=by simp[Region.wanted,hg]
 rw[if_pos hw];have m:(execOp a.eval o).run prog w=.ok (.enter f args.toArray) w:=by
  unfold execOp;simp only[l];subst g;have j:¬b.name = "runtime.NumGoroutine":=by simpa using k
  simp[go_sem,resolve,invoke,callFunc,hf,j,i]
 unfold Oper.wp;rw[m,Oper.upon_enter];refine hc.mono ?_;grind
theorem zqA{ops:Array Oper}{o:Oper}{a:Act}{K:Act->World->Prop}{Q:Exit->Act->World->Prop}{E:Prop}(hg:o.guard=none)
  (s x:Operand) (f:o.op=.call { callee:=.builtin .append,args:=#[s,x],argTypes:=#[56,56] })
  {W0:World} {H:Nat} {ys xs:List Nat} (b:OutAt W0 w H n ys) (l:Wds ys) (g:a.eval s=(H,n,n)) {X:Value} (j:a.eval x=X) (q:SR w X xs) (L:n+xs.length<=LIM)
  (e:∀A m c w',SW w' (.slice A m c) (ys++xs)->Below H w w'->K (a.put o.dst (.slice A m c)) w') :
  if Region.wanted o (yielded ops a.tmps)=true then Oper.wp prog o a w K Q else E:=by
 have hw:Region.wanted o (yielded ops a.tmps)=true:=by simp[Region.wanted,hg]
 rw[if_pos hw];obtain⟨p,hi,D,F,G⟩:=info_parts zf7;obtain⟨A,c,rfl,M,J,B,v,r⟩:=q;rcases A with _ | ad;obtain⟨rfl,rfl⟩:=v rfl;have y:=run_append_owned_none (P:=prog) (w:=w) H 56 o.type 206 p 1 underlying56 hi _ n _ b.own;unfold Oper.wp;simp[execOp,f,resolve,invoke,builtin,g,j,y,Result.andThen];exact e _ _ _ _ (by rw[XS];exact b.sw l) (Zj _ _)
 refine wp_append_own w s x 56 f H 206 p (.int .u64 0) 1 8 underlying56 hi D F G rfl δ _ n _ g b.own ad xs.length c (wcells xs) j (by rw[zdA];omega) (r ad rfl) (zgf xs)
  (by unfold maxLen;have:=zaP;omega) (by have:=zaP;omega) (Xi b.lt) λN w' d t _=>?_
 rw[<-zia]at d;have u:n+xs.length=(ys++xs).length:=by rw[ZD,b.len]
 rw[u]at d;have i:=SW.of_own d (λz C=>(ZU.1 C).elim (l z) (B z));obtain⟨I,m',c',rfl⟩:=i.slice;exact e _ _ _ _ i ((Zj _ _).grown t (Xi b.lt) (λk hk=>by cases hk;grind))
theorem al2(h:Below a a w)(o:Obj):Below a a (w.alloc o):=h.alloc h.size o
theorem bdrew{B:Nat}(h:Below B a w):Below B a w.drew:=zhk h 1
theorem zc1(h:Below a a w)(b:Below w w w'):Below a a w':=bstep h b h.size
theorem set2{o:Nat}(h:Below a a w)(c:a.heap.size<=b):Below a a (w.setCell ⟨b,o,none⟩ u):=h.setCell c u
theorem zbD(W:World)(o:Obj)(cs:Array Value)(t:TypeId):θ ((W.alloc o).alloc (.cells cs t)) (W.heap.size+1) cs t:=zam σ
theorem zan{w1:World}{t:TypeId}(c:Below w w w1)(h:θ w b #[v] t) :
  θ w1 b #[v] t/\(χ w1 b 0 v/\w1.frozen? ⟨b,0,none⟩=false) /\
  ((∀o,χ (w1.alloc o) b 0 v)/\(∀o,(w1.alloc o).frozen? ⟨b,0,none⟩=false)) /\
  ((∀o a,χ ((w1.alloc o).alloc a) b 0 v)/\(∀o a,((w1.alloc o).alloc a).frozen? ⟨b,0,none⟩=false)) /\
  ((b≠w1.heap.size/\w1.heap.size≠b)/\(b≠w1.heap.size+1/\w1.heap.size+1≠b)):=by
 have h1:=zad c h;have d:b<w1.heap.size:=(ZS.1 h1).1;exact⟨h1,⟨zac h1 0,zag h1 0⟩,⟨λo=>zac (zak h1) 0,λo=>zag (zak h1) 0⟩,⟨λo a=>zac (zak (zak h1)) 0,λo a=>zag (zak (zak h1)) 0⟩,ω⟩
def Box (w:World) (b:Nat):Prop:=∃v,θ w b #[v] 58
theorem Box.of(h:θ w b #[v] 58):Box w b:=⟨v,h⟩
theorem Box.new(w:World)(v:Value):Box (w.alloc (.cells #[v] 58)) w.heap.size:=⟨v,zal _ _ _⟩
theorem Box.new1(w:World)(o:Obj)(v:Value):Box ((w.alloc o).alloc (.cells #[v] 58)) (w.heap.size+1):=⟨v,zbD _ _ _ _⟩
theorem Box.alloc{w:World}{b:Nat}{o:Obj}(h:Box w b):Box (w.alloc o) b:=⟨_,zak h.choose_spec⟩
theorem Box.below(h:Box w b)(a:Below w w w'):Box w' b:=⟨_,zad a h.choose_spec⟩
theorem Box.drew{w:World}{b:Nat}(h:Box w b):Box w.drew b:=⟨_,h.choose_spec⟩
theorem Box.set{a:Nat}(h:Box w b):Box (w.setCell ⟨a,0,none⟩ u) b:=by obtain⟨v,h⟩:=h;by_cases e:b=a;subst e;exact⟨u,one_setCell h⟩;exact⟨v,(ZE w ⟨a,0,none⟩ u b e).trans h⟩
theorem Box.cell{w:World}{b:Nat}{u:Value}(h:Box w b):χ (w.setCell ⟨b,0,none⟩ u) b 0 u:=by obtain⟨v,h⟩:=h;exact zac (one_setCell h) 0
theorem zas.setBox{s:Value}(h:zas w s n)(a:Box w b):zas (w.setCell ⟨b,0,none⟩ u) s n:=by obtain⟨v,a⟩:=a;exact h.setCell (p:=⟨b,0,none⟩) a δ u
theorem zeo(w:World)(v:Value)(t:TypeId):χ (w.alloc (.cells #[v] t)) w 0 v:=zax rfl rfl
theorem zfx(w:World)(o:Obj)(v:Value)(t:TypeId):χ ((w.alloc o).alloc (.cells #[v] t)) (w.heap.size+1) 0 v:=by simp_all
