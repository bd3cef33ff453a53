/- Contracts and lemmas: Nat3 Step Frame Lin0 Lu Lu2 Size. Conditions: as each says. -/
import Derived.Test.YtbhfhkcdfmmmiaaGreatDoorNat2Zd
import Derived.Deep.RegionLaw
import Derived.OneCell
set_option linter.all false
set_option maxHeartbeats 1000000
set_option maxRecDepth 100000
namespace Go.Proofs.YtbhfhkcdfmmmiaaGreatDoor
open Go.RowKit Am
open Lib (hid)
attribute [local go_sem ↓] Go.wp_at_zero Go.wp_at_succ
variable {b n:Nat}{u v:Value}{a w w':World}
namespace Nt
theorem words(A:OA)(m c:Nat)(xs:List Nat)(w:World)(h:SW w (A,m,c) xs)(d:xs.length≤LIM):Calls Tryz.prog 146 #[.agg #[(A,m,c)]] w (zCs w xs):=by
 have a:=(h.alloc (.cells #[(A,m,c)] 45)).reads;have f:=hid a;have g:=hid d;clear h a d;go_enter Tryz.func146,Tryz.ntmps146;go_wp2_with fail
 refine(clone _ xs _ f.out g.out).mono ?_;rintro e w1 ⟨A1,m1,c1,rfl,hs1,hb1⟩;go_wp2;go_ret
 exact⟨_,_,_,rfl,hs1,bstep (zae w _) hb1 (by simp)⟩

theorem add(A B:OA)(m c m' c' a b:Nat)(w:World)(E:zas w (A,m,c) a)(G:zas w (B,m',c') b)(ag:wlen a≤LIM)(ah:wlen b≤LIM) :
  Calls Tryz.prog 132 #[.agg #[(A,m,c)],.agg #[(B,m',c')]] w (zc0 w (a+b)):=by
 obtain⟨xs,R,ad,rfl,J,rfl⟩:=E.words;obtain⟨ys,S,ae,rfl,K,rfl⟩:=G.words;rw[←J]at ag;rw[←K]at ah;clear J K E G;obtain⟨n,L⟩:∃n,n=max xs.length ys.length+1:=⟨_,rfl⟩
 have y:n≤16*LIM:=by have:=zaP;omega
 have q:=hid L;have f:=hid R;have g:=hid S;clear R S ad ae;obtain⟨M,Z⟩:∃M,M=max xs.length ys.length:=⟨_,rfl⟩
 have Y:(if xs.length<ys.length then (ys.length:Int)else (xs.length:Int))=(M:Int):=by split<;>omega
 have D:wrap64 ((M:Int)+1)=(n:Int):=by
  have:=zaP;rw[show(M:Int)+1=(n:Int)by omega];unfold wrap64;omega
 clear Z;clear L;go_enter Tryz.func132,Tryz.ntmps132;go_wp2_with (at_make;go_must (refine zdz rfl _ _ rfl n _ rfl rfl D y (w.heap.size+1+1+1) (by simp) ?_))
 intro w1 N;have U:=hid N;clear N Y D y;go_wp2
 go_loopw [6,19] (fun X i wr=>∃(j C:Nat) (os:List Nat),i=.int .i64 j∧X=.int .u64 C∧j≤n∧AddInv xs ys os j C∧OutAt (((w.alloc (.cells #[(A,xs.length,c)] 45)).alloc (.cells #[(B,ys.length,c')] 45)).alloc (.cells #[()] 45)) wr (w.heap.size+1+1+1) n os)
  (fun _ i _=>n-(intOf i).toNat)
 case atStart=>exact⟨0,0,List.replicate n 0,rfl,rfl,Nat.zero_le _,AddInv.start xs ys n,U.out⟩
 case round =>
  obtain⟨j,C,os,rfl,rfl,hj,s,d⟩:=hrel;have l:=hid s;have r:=hid d;have hC:=s.one;have aa:=hid (d.keep (((f.out.alloc _).alloc _).alloc _) (by simp));have ab:=hid (d.keep (((g.out.alloc _).alloc _).alloc _) (by simp));have ak:=d.old (b:=w.heap.size) (o:=0) (v:=.slice A xs.length c) (by omega) (cell_al (cell_al (zax rfl rfl)));have al:=d.old (b:=w.heap.size+1) (o:=0) (v:=.slice B ys.length c') (by omega) (cell_al (zax (by simp) rfl));have aq:=zdM f.out.2 j;have ar:=zdM g.out.2 j;clear s
  by_cases I:j<n
  ·have ac:=d.cell I;have af:=d.fro j;have P:=d.lt;have ap:n≤9223372036854775807:=by have:=q.out;have:=zaP;omega
   have an:(0:Int)≤(j:Int):=Int.natCast_nonneg _;have ao:(j:Int)<(n:Int):=by omega
   clear d;go_wp2_with fail
   have q1:=cell_al (ob:=.cells #[(B,ys.length,c')] 45) (cell_al (ob:=.cells #[(A,xs.length,c)] 45) ac);have q2:=zd1 (ob:=.cells #[(B,ys.length,c')] 45) (zxk (ob:=.cells #[(A,xs.length,c)] 45) P) (zd1 (ob:=.cells #[(A,xs.length,c)] 45) P af)
   go_region_held3 (fun w'=>w'.cell? ⟨w.heap.size,0,none⟩=some (A,xs.length,c)∧w'.cell? ⟨w.heap.size+1,0,none⟩=some (B,ys.length,c'))
    (first | ((try go_split_ands);(try simp only[World.cell?_drew]);(repeat' apply And.intro)<;>(first | assumption | exact cell_al (by assumption) | exact cell_set (by omega) (by assumption))) | go_keep)
    (first
     | (go_at_call 145;(with_reducible refine(word (A,xs.length,c) xs _ (by omega) _ ?_).mono ?_);(exact aa.out.drew);rintro e w' ⟨rfl,rfl⟩)
     | (go_at_call 145;(with_reducible refine(word (B,ys.length,c') ys _ (by omega) _ ?_).mono ?_);(exact ab.out.drew.alloc _);rintro e w' ⟨rfl,rfl⟩)
     | (go_at_call 147;(with_reducible refine(Word.add (wd xs j) (wd ys j) C (by assumption) (by assumption) (by assumption) _).mono ?_);rintro e w' ⟨rfl,rfl⟩))
   go_wp2;go_roundw
   case rel=>exact⟨j+1,_,_,by go_num,rfl,by omega,l.out.next (by rw[r.out.len];exact I) f.out.2 g.out.2,(((r.out.alloc _).alloc _).store j _).drew⟩
   case measure=>simp[intOf];omega
  ·obtain rfl:j=n:=by omega
   have Q:=l.out.done r.out.len.symm f.out.2 g.out.2 (by have:=q.out;omega) (by have:=q.out;omega);have O:=d.sw l.out.wds;have H:=d.bel;have W:=hid Q;have V:=hid O;have k:=hid H;clear Q O H d;go_wp2_with fail
   refine(trim _ os _ V.out).mono ?_;rintro e w2 ⟨A2,m2,c2,rfl,hs2,hb2⟩;have hk:=zad hb2 ((k.out.block (w.heap.size+1+1) (by omega)).trans (zam (by simp)));have hc:w2.cell? ⟨w.heap.size+1+1,0,none⟩=some ():=zac hk 0;have hf:=zag hk 0;have T:=hid hk;have h0:=k.out.size;simp at h0;clear hk;go_wp2;refine bodyPost_ret (v:=.agg #[(A2,m2,c2)]) (by simp[results,Tryz.results132,go_sem,hc]) rfl ?_;rw[W.out]at hs2
   refine⟨_,_,_,rfl,hs2.setCell (p:=⟨w.heap.size+1+1,0,none⟩) T.out (by decide) _,Below.setCell ?_ (by simp;omega) _⟩;exact bstep ((((zae w _).alloc (by simp) _).alloc (by simp;omega) _).trans (k.out.mono (by omega))) hb2 (by omega)
end Nt
theorem znT{ops:Array Oper}{o:Oper}{a:Act}{K:Act→World→Prop}{Q:Exit→Act→World→Prop}{E:Prop}(hg:o.guard=none)
  (f:FuncId) {d:Func} {c:Code} (k:Tryz.prog.funcs[f]? = some d) (p:(d.name == "runtime.NumGoroutine")=false) (j:d.body=some c) (xs:List Operand) (s:Array TypeId) (q:o.op=.call { callee:=.value (.func f),args:=xs.toArray,argTypes:=s })
  (args:List Value) (i:xs.map a.eval=args) {R:Ending→World→Prop} (hc:Calls Tryz.prog f args.toArray w R) (g:∀e w',R e w'→∃v,e=.returned v∧K (a.put o.dst v) w') :
  if Region.wanted o (yielded ops a.tmps)=true then Oper.wp Tryz.prog o a w K Q else E:=by
 have hw:Region.wanted o (yielded ops a.tmps)=true:=by simp[Region.wanted,hg]
 rw[if_pos hw];have r:(execOp a.eval o).run Tryz.prog w=.ok (.enter f args.toArray) w:=by
  unfold execOp;simp only[q];subst i;have l:¬d.name = "runtime.NumGoroutine":=by simpa using p
  simp[go_sem,resolve,invoke,callFunc,k,l,j]
 unfold Oper.wp;rw[r,Oper.upon_enter];refine hc.mono ?_;intro e w' hr;obtain⟨v,rfl,h⟩:=g e w' hr;exact h
theorem zqA{ops:Array Oper}{o:Oper}{a:Act}{K:Act→World→Prop}{Q:Exit→Act→World→Prop}{E:Prop}(hg:o.guard=none)
  (s x:Operand) (i:o.op=.call { callee:=.builtin .append,args:=#[s,x],argTypes:=#[43,43] })
  {W0:World} {H:Nat} {ys xs:List Nat} (d:OutAt W0 w H n ys) (q:Wds ys) (j:a.eval s=(H,n,n)) {X:Value} (p:a.eval x=X) (v:SR w X xs) (T:n+xs.length≤LIM)
  (f:∀A m c w',SW w' (.slice A m c) (ys++xs)→Below H w w'→K (a.put o.dst (.slice A m c)) w') :
  if Region.wanted o (yielded ops a.tmps)=true then Oper.wp Tryz.prog o a w K Q else E:=by
 have hw:Region.wanted o (yielded ops a.tmps)=true:=by simp[Region.wanted,hg]
 rw[if_pos hw];obtain⟨r,g,L,N,O⟩:=info_parts zf7;obtain⟨A,c,rfl,U,S,I,D,y⟩:=v;rcases A with _ | ad
 ·obtain⟨rfl,rfl⟩:=D rfl;have G:=run_append_owned_none (P:=Tryz.prog) (w:=w) H 43 o.type 184 r 1 Tryz.underlying43 g _ n _ d.own;unfold Oper.wp;simp[execOp,i,resolve,invoke,builtin,j,p,G,Result.andThen];exact f _ _ _ _ (by rw[List.append_nil];exact d.sw q) (Below.refl _ _)
 ·refine wp_append_own w s x 43 i H 184 r (.int .u64 0) 1 8 Tryz.underlying43 g L N O rfl (by decide) _ n _ j d.own ad xs.length c (wcells xs) p (by rw[zdA];omega) (y ad rfl) (zgf xs)
   (by unfold maxLen;have:=zaP;omega) (by have:=zaP;omega) (Nat.le_of_lt d.lt) fun V w' e B _=>?_
  rw[←zia]at e;have C:n+xs.length=(ys++xs).length:=by rw[List.length_append,d.len]
  rw[C]at e;have l:=SW.of_own e (fun z J=>(List.mem_append.1 J).elim (q z) (I z));obtain⟨R,m',c',rfl⟩:=l.slice;exact f _ _ _ _ l ((Below.refl _ _).grown B (Nat.le_of_lt d.lt) (fun k hk=>by cases hk;exact Nat.le_refl _))
theorem al2(h:Below a.heap.size a w)(o:Obj):Below a.heap.size a (w.alloc o):=h.alloc h.size o
theorem bdrew{B:Nat}(h:Below B a w):Below B a w.drew:=zhk h 1
theorem zc1(h:Below a.heap.size a w)(d:Below w.heap.size w w'):Below a.heap.size a w':=bstep h d h.size
theorem set2{o:Nat}(h:Below a.heap.size a w)(d:a.heap.size≤b):Below a.heap.size a (w.setCell ⟨b,o,none⟩ u):=h.setCell d u
theorem zbD(W:World)(o:Obj)(cs:Array Value)(t:TypeId):((W.alloc o).alloc (.cells cs t)).heap[W.heap.size+1]? = some (.cells cs t (0,0)):=zam (by simp)
theorem zan{w1:World}{t:TypeId}(d:Below w.heap.size w w1)(h:w.heap[b]? = some (.cells #[v] t (0,0))) :
  w1.heap[b]? = some (.cells #[v] t (0,0))∧(w1.cell? ⟨b,0,none⟩=some v∧w1.frozen? ⟨b,0,none⟩=false) ∧
  ((∀o,(w1.alloc o).cell? ⟨b,0,none⟩=some v)∧(∀o,(w1.alloc o).frozen? ⟨b,0,none⟩=false)) ∧
  ((∀o a,((w1.alloc o).alloc a).cell? ⟨b,0,none⟩=some v)∧(∀o a,((w1.alloc o).alloc a).frozen? ⟨b,0,none⟩=false)) ∧
  ((b≠w1.heap.size∧w1.heap.size≠b)∧(b≠w1.heap.size+1∧w1.heap.size+1≠b)):=by
 have h1:=zad d h;have e:b<w1.heap.size:=(Array.getElem?_eq_some_iff.1 h1).1;exact⟨h1,⟨zac h1 0,zag h1 0⟩,⟨fun o=>zac (zak h1) 0,fun o=>zag (zak h1) 0⟩,⟨fun o a=>zac (zak (zak h1)) 0,fun o a=>zag (zak (zak h1)) 0⟩,by omega⟩
def Box (w:World) (b:Nat):Prop:=∃v,w.heap[b]? = some (.cells #[v] 45 (0,0))
theorem Box.of(h:w.heap[b]? = some (.cells #[v] 45 (0,0))):Box w b:=⟨v,h⟩
theorem Box.new(w:World)(v:Value):Box (w.alloc (.cells #[v] 45)) w.heap.size:=⟨v,zal _ _ _⟩
theorem Box.new1(w:World)(o:Obj)(v:Value):Box ((w.alloc o).alloc (.cells #[v] 45)) (w.heap.size+1):=⟨v,zbD _ _ _ _⟩
theorem Box.alloc{w:World}{b:Nat}{o:Obj}(h:Box w b):Box (w.alloc o) b:=⟨_,zak h.choose_spec⟩
theorem Box.below(h:Box w b)(a:Below w.heap.size w w'):Box w' b:=⟨_,zad a h.choose_spec⟩
theorem Box.drew{w:World}{b:Nat}(h:Box w b):Box w.drew b:=⟨_,h.choose_spec⟩
theorem Box.set{a:Nat}(h:Box w b):Box (w.setCell ⟨a,0,none⟩ u) b:=by
 obtain⟨v,h⟩:=h;by_cases e:b=a
 ·subst e;exact⟨u,one_setCell h⟩
 ·exact⟨v,(Below.heap_setCell w ⟨a,0,none⟩ u b e).trans h⟩
theorem Box.cell{w:World}{b:Nat}{u:Value}(h:Box w b):(w.setCell ⟨b,0,none⟩ u).cell? ⟨b,0,none⟩=some u:=by
 obtain⟨v,h⟩:=h;exact zac (one_setCell h) 0
theorem zas.setBox{s:Value}(h:zas w s n)(a:Box w b):zas (w.setCell ⟨b,0,none⟩ u) s n:=by
 obtain⟨v,a⟩:=a;exact h.setCell (p:=⟨b,0,none⟩) a (by decide) u
theorem zeo(w:World)(v:Value)(t:TypeId):(w.alloc (.cells #[v] t)).cell? ⟨w.heap.size,0,none⟩=some v:=zax rfl rfl
theorem zfx(w:World)(o:Obj)(v:Value)(t:TypeId):((w.alloc o).alloc (.cells #[v] t)).cell? ⟨w.heap.size+1,0,none⟩=some v:=zax (by simp) rfl
end Go.Proofs.YtbhfhkcdfmmmiaaGreatDoor
namespace Am
variable {xs:List Rat}{i j n:Nat}{M:Nat→Nat→Rat}{f y:Nat→Rat}{a:Rat}
def zai:Nat→(Nat→Rat)→Rat
  | 0,_=>0
  | n+1,f=>zai n f+f n
def el (xs:List Rat) (i:Nat):Rat:=xs.getD i 0
theorem znd(h:xs[i]? = some a):el xs i=a:=by unfold el;rw[List.getD_eq_getElem?_getD,h];rfl
theorem zaH(h:j<xs.length):xs[j]? = some (el xs j):=by
 rw[List.getElem?_eq_getElem h];unfold el;rw[List.getD_eq_getElem?_getD,List.getElem?_eq_getElem h];rfl
theorem zDb(h:xs.length≤j):el xs j=0:=by
 unfold el;rw[List.getD_eq_getElem?_getD,List.getElem?_eq_none h];rfl
theorem zrm(n j:Nat):el (List.replicate n (0:Rat)) j=0:=by
 unfold el;rw[List.getD_eq_getElem?_getD,List.getElem?_replicate];split<;>rfl
theorem ziZ(d:i<xs.length):el (xs.set i a) j=if i=j then a else el xs j:=by
 unfold el;rw[List.getD_eq_getElem?_getD,List.getD_eq_getElem?_getD,List.getElem?_set];split
 ·rename_i h;subst h;simp
 ·rfl
theorem zyn{ys:List Rat}(d:xs.length=ys.length)(h:∀i,i<xs.length→el xs i=el ys i):xs=ys:=by
 apply List.ext_getElem?;intro i;by_cases a:i<xs.length
 ·rw[zaH a,zaH (by omega),h i a]
 ·rw[List.getElem?_eq_none (by omega),List.getElem?_eq_none (by omega)]
theorem zaj{f g:Nat→Rat}:∀ {n:Nat},(∀i,i<n→f i=g i)→zai n f=zai n g
 | 0,_=>rfl
 | n+1,h=>by rw[zai,zai,zaj (fun i a=>h i (by omega)),h n (by omega)]
theorem zUD{f g:Nat→Rat}:∀ {n:Nat},(∀i,i<n→f i≤g i)→zai n f≤zai n g
 | 0,_=>Rat.le_refl
 | n+1,h=>by
  have h1:=zUD (n:=n) (fun i d=>h i (by omega));have a:=h n (by omega);rw[zai,zai];grind
theorem zgd:∀n:Nat,zai n (fun _=>0)=0
 | 0=>rfl
 | n+1=>by rw[zai,zgd n];grind
theorem zcn(h:∀i,i<n→f i=0):zai n f=0:=(zaj h).trans (zgd n)
theorem zcm(f g:Nat→Rat):∀n:Nat,zai n (fun i=>f i+g i)=zai n f+zai n g
 | 0=>by simp only[zai];grind
 | n+1=>by rw[zai,zai,zai,zcm f g n];grind
theorem za7(f:Nat→Rat)(c:Rat):∀n:Nat,zai n (fun i=>c*f i)=c*zai n f
 | 0=>by simp only[zai];grind
 | n+1=>by rw[zai,zai,za7 f c n];grind
theorem zb6(f:Nat→Rat)(c:Rat)(n:Nat):zai n (fun i=>f i*c)=zai n f*c:=by
 rw[Rat.mul_comm,←za7];exact zaj fun i _=>Rat.mul_comm _ _
theorem zbq(f:Nat→Nat→Rat)(m:Nat):∀n:Nat,zai n (fun i=>zai m (fun j=>f i j))=zai m (fun j=>zai n (fun i=>f i j))
 | 0=>by simp only[zai];rw[zgd]
 | n+1=>by rw[zai,zbq f m n,←zcm];rfl
theorem zbI{f:Nat→Rat}{k:Nat}:∀ {n:Nat},k<n→(∀i,i<n→i≠k→f i=0)→zai n f=f k
 | 0,h,_=>absurd h (Nat.not_lt_zero _)
 | n+1,h,hz=>by
  rw[zai];by_cases e:k=n
  ·subst e;rw[zcn fun i a=>hz i (by omega) (by omega)];grind
  ·rw[zbI (by omega) fun i a=>hz i (by omega),hz n (by omega) (by omega)];grind
theorem zh6{f:Nat→Rat}{m:Nat}:∀ {n:Nat},m≤n→(∀i,m≤i→i<n→f i=0)→zai n f=zai m f
 | 0,h,_=>by rw[Nat.le_zero.1 h]
 | n+1,h,hz=>by
  by_cases e:m=n+1
  ·rw[e]
  ·rw[zai,zh6 (n:=n) (by omega) fun i h1 a=>hz i h1 (by omega),hz n (by omega) (by omega)];grind
theorem zdJ{k:Nat}(h:k<n):zai n f=f k+zai n (fun i=>if i=k then 0 else f i):=by
 have e:zai n f=zai n (fun i=>(if i=k then f k else 0)+(if i=k then 0 else f i)):=zaj fun i _=>by
  by_cases e:i=k
  ·subst e;rw[if_pos rfl,if_pos rfl];grind
  ·rw[if_neg e,if_neg e];grind
 rw[e,zcm,zbI (k:=k) h fun i _ a=>if_neg a,if_pos rfl]
def en (L:List (List Rat)) (i j:Nat):Rat:=el (L.getD i []) j
theorem gset{α:Type}{L:List α}{a d:α}(e:i<L.length):(L.set i a).getD j d=if i=j then a else L.getD j d:=by
 rw[List.getD_eq_getElem?_getD,List.getD_eq_getElem?_getD,List.getElem?_set];split
 ·rename_i h;subst h;simp
 ·rfl
theorem zbU{α β:Type}(f:α→β)(l:List α)(h:i<l.length)(d:α)(e:β):(l.map f).getD i e=f (l.getD i d):=by
 rw[List.getD_eq_getElem?_getD,List.getD_eq_getElem?_getD,List.getElem?_map,List.getElem?_eq_getElem h];rfl
theorem zcA(h:i<n)(d:Nat):(List.range n).getD i d=i:=by rw[List.getD_eq_getElem?_getD,List.getElem?_range h];rfl
theorem zaO{α:Type}{L:List α}{d:α}(a:i<L.length):L[i]? = some (L.getD i d):=by
 rw[List.getElem?_eq_getElem a,List.getD_eq_getElem?_getD,List.getElem?_eq_getElem a];rfl
theorem getD_some{α:Type}{L:List α}{a d:α}(h:L[i]? = some a):L.getD i d=a:=by
 rw[List.getD_eq_getElem?_getD,h];rfl
def Reg (n:Nat) (M:Nat→Nat→Rat):Prop:=∀x:Nat→Rat,(∀i,i<n→zai n (fun j=>M i j*x j)=0)→∀j,j<n→x j=0
theorem Reg.unique(h:Reg n M){x:Nat→Rat}(e:∀i,i<n→zai n (fun j=>M i j*x j)=zai n (fun j=>M i j*y j)):∀j,j<n→x j=y j:=by
 intro j hj;have:=h (fun j=>x j+(-1)*y j) (fun i d=>by
  have a:zai n (fun j=>M i j*(x j+(-1)*y j))=zai n (fun j=>M i j*x j+(-1)*(M i j*y j)):=zaj fun j _=>by grind
  rw[a,zcm,za7,e i d];grind) j hj
 grind
theorem zqE(ex:∀v:Nat→Rat,∃x:Nat→Rat,∀i,i<n→zai n (fun j=>M i j*x j)=v i){z:Nat→Rat}
  (e:∀j,j<n→zai n (fun i=>y i*M i j)=zai n (fun i=>z i*M i j)):∀i,i<n→y i=z i:=by
 intro k hk;obtain⟨x,l⟩:=ex fun i=>if i=k then 1 else 0
 have d:∀y:Nat→Rat,zai n (fun j=>zai n (fun i=>y i*M i j)*x j)=y k:=by
  intro y;have f:zai n (fun j=>zai n (fun i=>y i*M i j)*x j)=zai n (fun j=>zai n (fun i=>y i*(M i j*x j))):=zaj fun j _=>by
   rw[←zb6];exact zaj fun i _=>by grind
  rw[f,zbq];have g:zai n (fun i=>zai n (fun j=>y i*(M i j*x j)))=zai n (fun i=>y i*(if i=k then 1 else 0)):=zaj fun i a=>by
   rw[za7,l i a]
  rw[g,zbI hk fun i _ a=>by rw[if_neg a];grind,if_pos rfl];grind
 rw[←d y,←d z];exact zaj fun j hj=>by rw[e j hj]
end Am
namespace Am
variable {L:List (List Rat)}{xs ys:List Rat}{c i j k n:Nat}{r:Rat}
structure LUv where
  lo:List (List Rat)
  up:List (List Rat)
  perm:List Nat
  odd:Bool
def zly (xs:List Rat) (r:Rat) (ys:List Rat):List Rat:=List.zipWith (fun a b=>a+r*b) xs ys
theorem zdt(h:xs.length=ys.length):(zly xs r ys).length=xs.length:=by simp[zly];omega
theorem zmR{a b:Rat}(d:xs[k]? = some a)(e:ys[k]? = some b):(zly xs r ys)[k]? = some (a+r*b):=by
 simp[zly,List.getElem?_zipWith,d,e]
theorem zuD(r:Rat)(h:xs.length=ys.length)(hk:k<xs.length):el (zly xs r ys) k=el xs k+r*el ys k :=
 znd (zmR (zaH hk) (zaH (by omega)))
def sw {α:Type} (L:List α) (i j:Nat) (d:α):List α:=(L.set i (L.getD j d)).set j (L.getD i d)
theorem zja{α:Type}(L:List α)(i j:Nat)(d:α):(sw L i j d).length=L.length:=by simp[sw]
def tw (i j k:Nat):Nat:=if k=j then i else if k=i then j else k
theorem zlp(a:i<n)(hj:j<n)(hk:k<n):tw i j k<n:=by unfold tw;grind
theorem zxO(i j k:Nat):tw i j (tw i j k)=k:=by unfold tw;grind
theorem zgp{α:Type}{L:List α}{d:α}(e:i<L.length)(hj:j<L.length)(k:Nat):(sw L i j d).getD k d=L.getD (tw i j k) d:=by
 unfold sw tw;rw[gset (by simpa using hj),gset e];by_cases h1:j=k
 ·rw[if_pos h1,if_pos h1.symm]
 ·rw[if_neg h1,if_neg (Ne.symm h1)];by_cases a:i=k
  ·rw[if_pos a,if_pos a.symm]
  ·rw[if_neg a,if_neg (Ne.symm a)]
def zaT (c:Nat) (lo up:List (List Rat)):Nat→List (List Rat) × List (List Rat)
  | 0=>(lo,up)
  | t + 1 => ((zaT c lo up t).1.set (c + 1 + t) (((zaT c lo up t).1.getD (c + 1 + t) []).set c (en (zaT c lo up t).2 (c + 1 + t) c / en (zaT c lo up t).2 c c)),
      (zaT c lo up t).2.set (c+1+t) (zly ((zaT c lo up t).2.getD (c+1+t) []) (-(en (zaT c lo up t).2 (c+1+t) c/en (zaT c lo up t).2 c c)) ((zaT c lo up t).2.getD c [])))
structure Sq (n:Nat) (F:LUv):Prop where
  ll:F.lo.length=n
  lr:∀i,i<n→(F.lo.getD i []).length=n
  ul:F.up.length=n
  ur:∀i,i<n→(F.up.getD i []).length=n
  pl:F.perm.length=n
def LUv.turn (F:LUv) (c k:Nat):LUv:=⟨(sw F.lo c k []).set c (((sw F.lo c k []).getD c []).set c 1),sw F.up c k [],sw F.perm c k 0,if c=k then F.odd else !F.odd⟩
def LUv.step (F:LUv) (c k:Nat):LUv:=let G:=F.turn c k;{ G with lo:=(zaT c G.lo G.up (F.up.length-(c+1))).1,up:=(zaT c G.lo G.up (F.up.length-(c+1))).2 }
structure LUinv (n:Nat) (M:Nat→Nat→Rat) (c:Nat) (F:LUv):Prop where
  sq:Sq n F
  pr:∀i,i<n→F.perm.getD i 0<n
  pi:∀i j,i<n→j<n→F.perm.getD i 0=F.perm.getD j 0→i=j
  sum:∀i,i<n→∀j,j<n→M (F.perm.getD i 0) j=zai c (fun t=>en F.lo i t*en F.up t j)+(if c≤i then en F.up i j else 0)
  one:∀i,i<c→en F.lo i i=1
  tri:∀i t,i<n→t<n→i<t∨c≤t→en F.lo i t=0
  zero:∀t i,t<c→i<n→t<i→en F.up i t=0
  piv:∀t,t<c→en F.up t t≠0
theorem zi2{r:List Rat}(a:i<L.length)(k j:Nat):en (L.set i r) k j=if i=k then el r j else en L k j:=by
 unfold en;rw[gset a];split<;>rfl
theorem zyp(n k i j:Nat):en (List.replicate n (List.replicate k (0:Rat))) i j=0:=by
 unfold en;rw[List.getD_eq_getElem?_getD,List.getElem?_replicate];split
 ·exact zrm _ _
 ·rfl
theorem zfU(c n:Nat)(lo up:List (List Rat))(h1:lo.length=n)(p:∀i,i<n→(lo.getD i []).length=n)(q:up.length=n)(r:∀i,i<n→(up.getD i []).length=n)(hc:c<n) :
  ∀t,c+1+t≤n →
   ((zaT c lo up t).1.length=n∧(∀i,i<n→((zaT c lo up t).1.getD i []).length=n)∧(zaT c lo up t).2.length=n∧(∀i,i<n→((zaT c lo up t).2.getD i []).length=n)) ∧
   (∀i,i<n→∀j,j<n→en (zaT c lo up t).2 i j=if c<i∧i<c+1+t then en up i j + -(en up i c/en up c c)*en up c j else en up i j) ∧
   (∀i,i<n→∀j,j<n→en (zaT c lo up t).1 i j=if (c<i∧i<c+1+t)∧j=c then en up i c/en up c c else en lo i j)
 | 0,_=>by
  refine⟨⟨h1,p,q,r⟩,fun i _ j _=>?_,fun i _ j _=>?_⟩
  ·rw[if_neg (by omega)];rfl
  ·rw[if_neg (by omega)];rfl
 | t+1,ht=>by
  obtain⟨⟨v,k,y,f⟩,g,s⟩:=zfU c n lo up h1 p q r hc t (by omega);have o:en (zaT c lo up t).2 (c+1+t) c=en up (c+1+t) c:=by rw[g _ (by omega) _ hc,if_neg (by omega)]
  have l:∀j,j<n→en (zaT c lo up t).2 c j=en up c j:=fun j hj=>by rw[g _ hc _ hj,if_neg (by omega)]
  refine⟨⟨by simp[zaT,v],fun i a=>?_,by simp[zaT,y],fun i a=>?_⟩,fun i a j hj=>?_,fun i a j hj=>?_⟩
  ·show(List.getD (List.set _ _ _) i []).length=n
   rw[gset (by omega)];split
   ·rw[List.length_set];exact k _ (by omega)
   ·exact k _ a
  ·show(List.getD (List.set _ _ _) i []).length=n
   rw[gset (by omega)];split
   ·rw[zdt (by rw[f _ (by omega),f _ hc])];exact f _ (by omega)
   ·exact f _ a
  ·show en (List.set _ _ _) i j=_
   rw[zi2 (by omega)];by_cases e:c+1+t=i
   ·subst e;rw[if_pos rfl,if_pos (by omega),zuD _ (by rw[f _ (by omega),f _ hc]) (by rw[f _ a];exact hj)];show en (zaT c lo up t).2 (c+1+t) j + -(en (zaT c lo up t).2 (c+1+t) c/en (zaT c lo up t).2 c c)*en (zaT c lo up t).2 c j=_
    rw[o,l _ hc,l _ hj,g _ a _ hj,if_neg (by omega)]
   ·rw[if_neg e,g _ a _ hj];by_cases d:c<i∧i<c+1+t
    ·rw[if_pos d,if_pos (by omega)]
    ·rw[if_neg d,if_neg (by omega)]
  ·show en (List.set _ _ _) i j=_
   rw[zi2 (by omega)];by_cases e:c+1+t=i
   ·subst e;rw[if_pos rfl,ziZ (by rw[k _ a];exact hc)];by_cases d:c=j
    ·rw[if_pos d,if_pos (by omega),o,l _ hc]
    ·rw[if_neg d,if_neg (by omega)];show en (zaT c lo up t).1 (c+1+t) j=_
     rw[s _ a _ hj,if_neg (by omega)]
   ·rw[if_neg e,s _ a _ hj];by_cases d:(c<i∧i<c+1+t)∧j=c
    ·rw[if_pos d,if_pos (by omega)]
    ·rw[if_neg d,if_neg (by omega)]
theorem LUinv.start(h:L.length=n)(hr:∀i,i<n→(L.getD i []).length=n):LUinv n (en L) 0 ⟨List.replicate n (List.replicate n 0),L,List.range n,false⟩:=by
 have hg:∀i,i<n→(List.range n).getD i 0=i:=fun i a=>by rw[List.getD_eq_getElem?_getD,List.getElem?_range a];rfl
 refine⟨⟨by simp,fun i a=>?_,h,hr,by simp⟩,fun i a=>by rw[hg i a];exact a,fun i j a hj e=>by rw[hg i a,hg j hj]at e;exact e,fun i a j _=>?_,fun i a=>absurd a (Nat.not_lt_zero _),fun i t _ _ _=>zyp _ _ _ _,fun t i a=>absurd a (Nat.not_lt_zero _),fun t a=>absurd a (Nat.not_lt_zero _)⟩
 ·rw[List.getD_eq_getElem?_getD,List.getElem?_replicate,if_pos a];simp
 ·rw[hg i a,if_pos (Nat.zero_le _)];simp only[zai];grind
theorem zvA{F:LUv}(s:Sq n F)(hc:c<n)(hk:k<n):∀i j,i<n→j<n→en (F.turn c k).lo i j=if i=c∧j=c then 1 else en F.lo (tw c k i) j:=by
 intro i j d hj;show en (List.set _ _ _) i j=_
 rw[zi2 (by rw[zja,s.ll];exact hc)];by_cases e:c=i
 ·subst e;rw[if_pos rfl,ziZ (by rw[zgp (by rw[s.ll];exact hc) (by rw[s.ll];exact hk),s.lr _ (zlp hc hk hc)];exact hc)];by_cases a:c=j
  ·rw[if_pos a,if_pos ⟨rfl,a.symm⟩]
  ·rw[if_neg a,if_neg (by omega),zgp (by rw[s.ll];exact hc) (by rw[s.ll];exact hk)];rfl
 ·rw[if_neg e,if_neg (by omega)];unfold en;rw[zgp (by rw[s.ll];exact hc) (by rw[s.ll];exact hk)]
theorem zlo{F:LUv}(s:Sq n F)(hc:c<n)(hk:k<n):∀i j,en (F.turn c k).up i j=en F.up (tw c k i) j:=by
 intro i j;show en (sw _ _ _ _) i j=_
 unfold en;rw[zgp (by rw[s.ul];exact hc) (by rw[s.ul];exact hk)]
theorem znV{F:LUv}(s:Sq n F)(hc:c<n)(hk:k<n):Sq n (F.turn c k):=by
 refine⟨?_,fun i a=>?_,?_,fun i a=>?_,?_⟩
 ·show(List.set _ _ _).length=n;rw[List.length_set,zja,s.ll]
 ·show(List.getD (List.set _ _ _) i []).length=n
  rw[gset (by rw[zja,s.ll];exact hc)];split
  ·rw[List.length_set,zgp (by rw[s.ll];exact hc) (by rw[s.ll];exact hk)];exact s.lr _ (zlp hc hk hc)
  ·rw[zgp (by rw[s.ll];exact hc) (by rw[s.ll];exact hk)];exact s.lr _ (zlp hc hk a)
 ·show(sw _ _ _ _).length=n;rw[zja,s.ul]
 ·show(List.getD (sw _ _ _ _) i []).length=n
  rw[zgp (by rw[s.ul];exact hc) (by rw[s.ul];exact hk)];exact s.ur _ (zlp hc hk a)
 ·show(sw _ _ _ _).length=n;rw[zja,s.pl]
theorem zvt{F:LUv}(s:Sq n F)(hc:c<n)(hk:k<n):∀i j,i<n→j<n→en (F.step c k).lo i j=if c<i∧j=c then en (F.turn c k).up i c/en (F.turn c k).up c c else en (F.turn c k).lo i j:=by
 have t:=znV s hc hk;obtain⟨_,_,d⟩:=zfU c n (F.turn c k).lo (F.turn c k).up t.ll t.lr t.ul t.ur hc (n-(c+1)) (by omega);intro i j a hj;show en (zaT c _ _ (F.up.length-(c+1))).1 i j=_
 rw[s.ul,d i a j hj];by_cases e:c<i∧j=c
 ·rw[if_pos e,if_pos (by omega)]
 ·rw[if_neg e,if_neg (by omega)]
theorem zvu{F:LUv}(s:Sq n F)(hc:c<n)(hk:k<n):∀i j,i<n→j<n→en (F.step c k).up i j=if c<i then en (F.turn c k).up i j + -(en (F.turn c k).up i c/en (F.turn c k).up c c)*en (F.turn c k).up c j else en (F.turn c k).up i j:=by
 have t:=znV s hc hk;obtain⟨_,d,_⟩:=zfU c n (F.turn c k).lo (F.turn c k).up t.ll t.lr t.ul t.ur hc (n-(c+1)) (by omega);intro i j a hj;show en (zaT c _ _ (F.up.length-(c+1))).2 i j=_
 rw[s.ul,d i a j hj];by_cases e:c<i
 ·rw[if_pos e,if_pos (by omega)]
 ·rw[if_neg e,if_neg (by omega)]
theorem zqB{F:LUv}(s:Sq n F)(hc:c<n)(hk:k<n):Sq n (F.step c k):=by
 have t:=znV s hc hk;obtain⟨⟨a,d,e,f⟩,_,_⟩:=zfU c n (F.turn c k).lo (F.turn c k).up t.ll t.lr t.ul t.ur hc (n-(c+1)) (by omega);refine⟨?_,?_,?_,?_,t.pl⟩
 ·show(zaT c _ _ (F.up.length-(c+1))).1.length=n;rw[s.ul];exact a
 ·show ∀i,i<n→(List.getD (zaT c _ _ (F.up.length-(c+1))).1 i []).length=n;rw[s.ul];exact d
 ·show(zaT c _ _ (F.up.length-(c+1))).2.length=n;rw[s.ul];exact e
 ·show ∀i,i<n→(List.getD (zaT c _ _ (F.up.length-(c+1))).2 i []).length=n;rw[s.ul];exact f
theorem LUinv.step{n:Nat}{M:Nat→Nat→Rat}{c k:Nat}{F:LUv}(h:LUinv n M c F)(hc:c<n)(I:c≤k)(hk:k<n)(E:en F.up k c≠0):LUinv n M (c+1) (F.step c k):=by
 have s:=h.sq;have p:=zvA s (k:=k) hc hk;have f:=zlo s (k:=k) hc hk;have r:∀i,(F.turn c k).perm.getD i 0=F.perm.getD (tw c k i) 0:=fun i=>zgp (by rw[s.pl];exact hc) (by rw[s.pl];exact hk) i
 have l:∀i,i<c→tw c k i=i:=fun i a=>by unfold tw;rw[if_neg (by omega),if_neg (by omega)]
 have y:∀i,c≤i→c≤tw c k i:=fun i a=>by unfold tw;grind
 have o:∀i,i<n→tw c k i<n:=fun i a=>zlp hc hk a
 have tc:tw c k c=k:=by unfold tw;by_cases e:c=k<;>simp[e]
 have G:en (F.turn c k).up c c≠0:=by rw[f,tc];exact E
 have v:=zvt s (k:=k) hc hk;have q:=zvu s (k:=k) hc hk;refine⟨zqB s hc hk,fun i a=>?_,fun i j a hj e=>?_,fun i a j hj=>?_,fun i a=>?_,fun i t a g hit=>?_,fun t i g a B=>?_,fun t g=>?_⟩
 ·show(F.turn c k).perm.getD i 0<n;rw[r];exact h.pr _ (o i a)
 ·have A:(F.turn c k).perm.getD i 0=(F.turn c k).perm.getD j 0:=e;rw[r,r]at A;have:=h.pi _ _ (o i a) (o j hj) A;rw[←zxO c k i,this,zxO]
 ·show M ((F.turn c k).perm.getD i 0) j=_
  rw[r,h.sum _ (o i a) j hj];have D:zai (c+1) (fun t=>en (F.step c k).lo i t*en (F.step c k).up t j)=zai c (fun t=>en F.lo (tw c k i) t*en F.up t j)+en (F.step c k).lo i c*en (F.step c k).up c j:=by
   rw[zai]
   congr 1
   refine zaj fun t g=>?_
   rw[v i t a (by omega),if_neg (by omega),p i t a (by omega),if_neg (by omega),q t j (by omega) hj,if_neg (by omega),f,l t g]
  rw[D,v i c a hc,q c j hc hj,if_neg (Nat.lt_irrefl c),q i j a hj];rcases Nat.lt_trichotomy i c with d | d | d
  ·rw[l i d,if_neg (by omega),if_neg (by omega),if_neg (by omega),p i c a hc,if_neg (by omega),l i d,h.tri i c a hc (by omega)];grind
  ·subst d;rw[if_pos (y i (Nat.le_refl _)),if_neg (by omega),if_neg (by omega),p i i a a,if_pos ⟨rfl,rfl⟩,f];grind
  ·rw[if_pos (y i (by omega)),if_pos ⟨d,rfl⟩,if_pos (by omega),if_pos d,←f i j];grind
 ·rw[v i i (by omega) (by omega),if_neg (by omega),p i i (by omega) (by omega)];by_cases e:i=c
  ·rw[if_pos ⟨e,e⟩]
  ·rw[if_neg (by omega),l i (by omega)];exact h.one i (by omega)
 ·rw[v i t a g,if_neg (by omega),p i t a g,if_neg (by omega)];refine h.tri _ _ (o i a) g ?_;by_cases e:c≤t
  ·exact .inr e
  ·rw[l i (by omega)];exact .inl (by omega)
 ·rw[q i t a (by omega)];by_cases e:t=c
  ·subst e;rw[if_pos B];grind
  ·have C:en (F.turn c k).up i t=0:=by
    rw[f];refine h.zero t _ (by omega) (o i a) ?_;by_cases d:i<c
    ·rw[l i d];exact B
    ·have:=y i (by omega);omega
   by_cases d:c<i
   ·have H:en (F.turn c k).up c t=0:=by
     rw[f,tc];exact h.zero t k (by omega) hk (by omega)
    rw[if_pos d,C,H];grind
   ·rw[if_neg d];exact C
 ·rw[q t t (by omega) (by omega),if_neg (by omega)];by_cases e:t=c
  ·subst e;exact G
  ·rw[f,l t (by omega)];exact h.piv t (by omega)
end Am
namespace Am
variable {xs:List Rat}{c i j n:Nat}{M:Nat→Nat→Rat}
def zeg (up:List (List Rat)) (c:Nat):Nat→Nat→Nat
  | 0,k=>k
  | f+1,k=>if en up k c=0 then zeg up c f (k+1)else k
theorem ziG(up:List (List Rat))(c:Nat):∀f k,k≤zeg up c f k∧zeg up c f k≤k+f∧(∀i,k≤i→i<zeg up c f k→en up i c=0)∧(zeg up c f k<k+f→en up (zeg up c f k) c≠0)
 | 0,k=>⟨Nat.le_refl _,Nat.le_refl _,fun i h1 g=>absurd g (by simp only[zeg];omega),fun h=>absurd h (by simp only[zeg];omega)⟩
 | f+1,k=>by
  unfold zeg;split
  ·rename_i h
   obtain⟨a,b,c',d⟩:=ziG up c f (k+1);refine⟨by omega,by omega,fun i h1 g=>?_,fun h1=>d (by omega)⟩;by_cases e:i=k
   ·rw[e];exact h
   ·exact c' i (by omega) g
  ·rename_i h
   exact⟨Nat.le_refl _,by omega,fun i h1 g=>absurd g (by omega),fun _=>h⟩
def zsD (n:Nat):Nat→Nat→LUv→Option LUv
  | 0,_,F=>some F
  | f+1,c,F=>if zeg F.up c (n-c) c=n then none else zsD n f (c+1) (F.step c (zeg F.up c (n-c) c))
def zg4 (n:Nat) (L:List (List Rat)):LUv:=⟨List.replicate n (List.replicate n 0),L,List.range n,false⟩
def zoN (n:Nat) (L:List (List Rat)):Option LUv:=zsD n n 0 (zg4 n L)
def zji (U:Nat→Nat→Rat) (n:Nat) (v:Nat→Rat):Nat→Nat→Rat
  | 0,_=>0
  | f+1,j=>if j=n-(f+1)then (v (n-(f+1))-zai n (fun t=>if n-(f+1)<t then U (n-(f+1)) t*zji U n v f t else 0))/U (n-(f+1)) (n-(f+1))else zji U n v f j
theorem ziL(U:Nat→Nat→Rat)(n:Nat)(v:Nat→Rat)(f j:Nat):zji U n v (f+1) j=if j=n-(f+1)then (v (n-(f+1))-zai n (fun t=>if n-(f+1)<t then U (n-(f+1)) t*zji U n v f t else 0))/U (n-(f+1)) (n-(f+1))else zji U n v f j:=rfl
theorem zjb(U:Nat→Nat→Rat)(n:Nat)(v:Nat→Rat)(o:∀t,t<n→U t t≠0)(j:∀t i,t<n→i<n→t<i→U i t=0) :
  ∀f,f≤n→∀i,n-f≤i→i<n→zai n (fun t=>U i t*zji U n v f t)=v i
 | 0,_=>fun i h1 d=>absurd h1 (by omega)
 | f+1,hf=>fun i h1 d=>by
  have hk:n-(f+1)<n:=by omega
  by_cases e:i=n-(f+1)
  ·rw[zdJ (k:=i) d];have p:zai n (fun t=>if t=i then 0 else U i t*zji U n v (f+1) t)=zai n (fun t=>if i<t then U i t*zji U n v f t else 0):=zaj fun t g=>by
    by_cases a:t=i
    ·rw[if_pos a,if_neg (by omega)]
    ·rw[if_neg a];by_cases l:i<t
     ·rw[if_pos l,ziL,if_neg (by omega)]
     ·rw[if_neg l,j t i g d (by omega)];grind
   rw[p];have a:zji U n v (f+1) i=(v i-zai n (fun t=>if i<t then U i t*zji U n v f t else 0))/U i i:=by
    rw[ziL,if_pos e,←e]
   rw[a];have:=o i d;grind
  ·have q:=zjb U n v o j f (by omega) i (by omega) d;rw[←q];refine zaj fun t g=>?_
   rw[ziL];by_cases a:t=n-(f+1)
   ·rw[if_pos a,j t i g d (by omega)];grind
   ·rw[if_neg a]
theorem zi9{F:LUv}(h:LUinv n M c F)(d:i<n)(x:Nat→Rat) :
  zai n (fun j=>M (F.perm.getD i 0) j*x j)=zai c (fun t=>en F.lo i t*zai n (fun j=>en F.up t j*x j))+(if c≤i then zai n (fun j=>en F.up i j*x j)else 0):=by
 have a:zai n (fun j=>M (F.perm.getD i 0) j*x j)=zai n (fun j=>zai c (fun t=>en F.lo i t*(en F.up t j*x j))+(if c≤i then en F.up i j*x j else 0)):=zaj fun j hj=>by
  rw[h.sum i d j hj];have:zai c (fun t=>en F.lo i t*(en F.up t j*x j))=zai c (fun t=>en F.lo i t*en F.up t j)*x j:=by
   rw[←zb6];exact zaj fun t _=>by grind
  rw[this];split<;>grind
 rw[a,zcm,zbq]
 congr 1
 ·exact zaj fun t _=>za7 _ _ _
 ·split
  ·rfl
  ·exact zgd n
theorem zh0{F:LUv}(h:LUinv n M c F):∀k,k<n→∃i,i<n∧F.perm.getD i 0=k:=by
 have v:∀(m:Nat) (p:Nat→Nat),(∀i,i<m→p i<m)→(∀i j,i<m→j<m→p i=p j→i=j)→∀k,k<m→∃i,i<m∧p i=k:=by
  intro m
  induction m with
  | zero=>intro p _ _ k hk;omega
  | succ m ih =>
   intro p h1 f k hk;by_cases o:p m=k
   ·exact⟨m,by omega,o⟩
   ·-- the place m is given away: what is sent to m goes where m goes
    have q:∀i,i<m→(if p i=m then p m else p i)<m:=by
     intro i l;have a:=h1 i (by omega);have b:=h1 m (by omega);split
     ·rename_i e
      have:p m≠m:=fun g=>by have:=f i m (by omega) (by omega) (by omega);omega
      omega
     ·omega
    have r:∀i j,i<m→j<m→(if p i=m then p m else p i)=(if p j=m then p m else p j)→i=j:=by
     intro i j l hj e;by_cases d:p i=m
     ·by_cases g:p j=m
      ·exact f i j (by omega) (by omega) (by omega)
      ·rw[if_pos d,if_neg g]at e;have:=f m j (by omega) (by omega) e;omega
     ·by_cases g:p j=m
      ·rw[if_neg d,if_pos g]at e;have:=f i m (by omega) (by omega) e;omega
      ·rw[if_neg d,if_neg g]at e;exact f i j (by omega) (by omega) e
    by_cases s:k=m
    ·subst s
     -- somebody is sent to m
     obtain⟨i,l,e⟩:=ih (fun i=>if p i=k then p k else p i) q r (p k) (by have:=h1 k (by omega);omega);refine⟨i,by omega,?_⟩;by_cases d:p i=k
     ·exact d
     ·simp only[if_neg d]at e;have:=f i k (by omega) (by omega) e;omega
    ·obtain⟨i,l,e⟩:=ih (fun i=>if p i=m then p m else p i) q r k (by omega);by_cases d:p i=m
     ·simp only[if_pos d]at e;exact absurd e o
     ·simp only[if_neg d]at e;exact⟨i,by omega,e⟩
 exact v n (fun i=>F.perm.getD i 0) h.pr h.pi
theorem LUinv.stuck{F:LUv}(h:LUinv n M c F)(hc:c<n)(o:∀i,c≤i→i<n→en F.up i c=0):¬Reg n M:=by
 intro hr
 -- x c = 1,nothing behind,and back from the triangle ahead of it
 let x:Nat→Rat:=fun j=>if j<c then zji (en F.up) c (fun i => - en F.up i c) c j else if j=c then 1 else 0
 have f:∀i,i<n→zai n (fun j=>en F.up i j*x j)=zai c (fun j=>en F.up i j*zji (en F.up) c (fun i => - en F.up i c) c j)+en F.up i c:=by
  intro i a;rw[zh6 (m:=c+1) (by omega) fun j h1 r=>by show en F.up i j*(if j<c then _ else if j=c then 1 else 0)=0;rw[if_neg (by omega),if_neg (by omega)];grind];rw[zai]
  congr 1
  ·exact zaj fun j hj=>by show en F.up i j*(if j<c then _ else if j=c then 1 else 0)=_;rw[if_pos hj]
  ·show en F.up i c*(if c<c then _ else if c=c then 1 else 0)=_;rw[if_neg (by omega),if_pos rfl];grind
 have q:∀i,i<c→zai n (fun j=>en F.up i j*x j)=0:=by
  intro i a;rw[f i (by omega),zjb (en F.up) c _ (fun t d=>h.piv t d) (fun t i d s l=>h.zero t i d (by omega) l) c (Nat.le_refl _) i (by omega) a];grind
 have p:∀i,c≤i→i<n→zai n (fun j=>en F.up i j*x j)=0:=by
  intro i a e;rw[f i e,o i a e,zcn fun j hj=>by rw[h.zero j i hj e (by omega)];grind];grind
 have g:∀k,k<n→zai n (fun j=>M k j*x j)=0:=by
  intro k hk;obtain⟨i,a,rfl⟩:=zh0 h k hk;rw[zi9 h a,zcn fun t d=>by rw[q t d];grind];split
  ·rw[p i (by assumption) a];grind
  ·grind
 have:=hr x g c hc;simp[x]at this
theorem zoM{n:Nat}{M:Nat→Nat→Rat}:∀f c F,c+f=n→LUinv n M c F→(∃G,zsD n f c F=some G∧LUinv n M n G)∨(zsD n f c F=none∧¬Reg n M)
 | 0,c,F,e,h=>.inl ⟨F,rfl,by obtain rfl:c=n:=(by omega);exact h⟩
 | f+1,c,F,e,h=>by
  obtain⟨a,b,j,g⟩:=ziG F.up c (n-c) c;unfold zsD;split
  ·rename_i h1
   exact .inr ⟨rfl,h.stuck (by omega) fun i d k=>j i d (by omega)⟩
  ·rename_i h1
   exact zoM f (c+1) _ (by omega) (h.step (by omega) a (by omega) (g (by omega)))
theorem zoO{L:List (List Rat)}(h:L.length=n)(hr:∀i,i<n→(L.getD i []).length=n):(∃G,zoN n L=some G∧LUinv n (en L) n G)∨(zoN n L=none∧¬Reg n (en L)) :=
 zoM n 0 _ (by omega) (LUinv.start h hr)
def fwd (F:LUv) (b:List Rat):Nat→List Rat
  | 0=>[]
  | k+1=>fwd F b k++[el b (F.perm.getD k 0)-zai k (fun c=>en F.lo k c*el (fwd F b k) c)]
theorem zcx(F:LUv)(b:List Rat):∀k,(fwd F b k).length=k
 | 0=>rfl
 | k+1=>by simp[fwd,zcx F b k]
theorem zkF{ys:List Rat}(h:i<xs.length):el (xs++ys) i=el xs i:=by
 unfold el;rw[List.getD_eq_getElem?_getD,List.getD_eq_getElem?_getD,List.getElem?_append_left h]
theorem zoz{a:Rat}:el (xs++[a]) xs.length=a:=by
 unfold el;rw[List.getD_eq_getElem?_getD,List.getElem?_append_right (Nat.le_refl _)];simp
theorem zoG(F:LUv)(b:List Rat){i:Nat}:∀ {k:Nat},i<k→el (fwd F b k) i=el b (F.perm.getD i 0)-zai i (fun c=>en F.lo i c*el (fwd F b i) c)
 | 0,h=>absurd h (Nat.not_lt_zero _)
 | k+1,h=>by
  by_cases e:i=k
  ·subst e
   conv=>lhs;unfold fwd
   have:=zoz (xs:=fwd F b i) (a:=el b (F.perm.getD i 0)-zai i (fun c=>en F.lo i c*el (fwd F b i) c));rw[zcx]at this;exact this
  ·conv=>lhs;unfold fwd
   rw[zkF (by rw[zcx];omega)];exact zoG F b (by omega)
theorem zrx(F:LUv)(b:List Rat):∀ {k:Nat},i<j→j≤k→el (fwd F b k) i=el (fwd F b j) i:=by
 intro k h1 a;rw[zoG F b (by omega),zoG F b h1]
def bwd (F:LUv) (n:Nat) (z:List Rat):Nat→List Rat
  | 0=>[]
  | f+1=>(el z (n-(f+1))-zai f (fun c=>en F.up (n-(f+1)) (n-f+c)*el (bwd F n z f) c))/en F.up (n-(f+1)) (n-(f+1))::bwd F n z f
theorem zpC(F:LUv)(n:Nat)(z:List Rat):∀f,(bwd F n z f).length=f
 | 0=>rfl
 | f+1=>by simp[bwd,zpC F n z f]
theorem zlL(F:LUv)(n:Nat)(z:List Rat):∀ {f j:Nat},j<f→∀i,el (bwd F n z f) (j+i)=el (bwd F n z (f-j)) i
 | 0,_,h,_=>absurd h (Nat.not_lt_zero _)
 | f+1,0,_,i=>by rw[Nat.zero_add];rfl
 | f+1,j+1,h,i=>by
  rw[show j+1+i=(j+i)+1 by omega,show f+1-(j+1)=f-j by omega];exact zlL F n z (by omega) i
def zaR (n:Nat) (F:LUv) (b:List Rat):List Rat:=bwd F n (fwd F b n) n
theorem zgc(g:Nat→Rat)(a:Nat):∀b,zai (a+b) g=zai a g+zai b (fun c=>g (a+c))
 | 0=>by simp only[zai,Nat.add_zero];grind
 | b+1=>by rw[show a+(b+1)=(a+b)+1 by omega,zai,zai,zgc g a b];grind
theorem zlb(n:Nat)(F:LUv)(b:List Rat):(zaR n F b).length=n:=zpC _ _ _ _
theorem zl5(n:Nat)(F:LUv)(b:List Rat)(h:i<n) :
  el (zaR n F b) i=(el (fwd F b n) i-zai (n-(i+1)) (fun c=>en F.up i (i+1+c)*el (zaR n F b) (i+1+c)))/en F.up i i:=by
 have a:=zlL F n (fwd F b n) (f:=n) (j:=i) h 0;unfold zaR;rw[Nat.add_zero]at a;rw[a,show n-i=(n-(i+1))+1 by omega];show(el (fwd F b n) (n-(n-(i+1)+1))-_)/_=_
 rw[show n-(n-(i+1)+1)=i by omega]
 congr 2
 refine zaj fun c hc=>?_
 rw[show n-(n-(i+1))=i+1 by omega]
 congr 1
 exact(zlL F n (fwd F b n) (f:=n) (j:=i+1) (by omega) c).symm
theorem zsm{F:LUv}(h:LUinv n M n F)(b:List Rat)(a:i<n):zai n (fun t=>en F.up i t*el (zaR n F b) t)=el (fwd F b n) i:=by
 have e:=zl5 n F b a;have g:=h.piv i a;have d:=zgc (fun t=>en F.up i t*el (zaR n F b) t) (i+1) (n-(i+1));rw[show i+1+(n-(i+1))=n by omega,zai,zcn (n:=i) (fun t f=>by rw[h.zero t i (by omega) a f];grind)]at d;rw[d];generalize zai (n-(i+1)) (fun c=>en F.up i (i+1+c)*el (zaR n F b) (i+1+c))=s at *
 grind
theorem zsl{F:LUv}(h:LUinv n M n F)(b:List Rat){k:Nat}(hk:k<n):zai n (fun j=>M k j*el (zaR n F b) j)=el b k:=by
 obtain⟨i,a,rfl⟩:=zh0 h k hk;rw[zi9 h a,if_neg (by omega)];have e:zai n (fun t=>en F.lo i t*zai n (fun j=>en F.up t j*el (zaR n F b) j))=zai n (fun t=>en F.lo i t*el (fwd F b n) t):=zaj fun t d=>by rw[zsm h b d]
 have g:=zh6 (f:=fun t=>en F.lo i t*el (fwd F b n) t) (m:=i+1) (n:=n) (by omega) fun t h1 o=>by rw[h.tri i t a o (by omega)];grind
 rw[e,g,zai,h.one i a,zoG F b a];have l:zai i (fun t=>en F.lo i t*el (fwd F b n) t)=zai i (fun t=>en F.lo i t*el (fwd F b i) t):=zaj fun t d=>by rw[zrx F b d (by omega)]
 rw[l];generalize zai i (fun t=>en F.lo i t*el (fwd F b i) t)=s;grind
theorem zsx{p:Nat→Nat}(g:Nat→Rat)(h1:∀i,i<n→p i<n)(f:∀i j,i<n→j<n→p i=p j→i=j)(l:∀k,k<n→∃i,i<n∧p i=k):zai n (fun k=>g (p k))=zai n g:=by
 have d:zai n (fun k=>g (p k))=zai n (fun k=>zai n (fun i=>if i=p k then g i else 0)):=zaj fun k hk=>by
  rw[zbI (k:=p k) (h1 k hk) fun i _ a=>if_neg a,if_pos rfl]
 rw[d,zbq];refine zaj fun i a=>?_
 obtain⟨k,hk,e⟩:=l i a;rw[zbI (k:=k) hk fun j hj o=>if_neg fun q=>o (f j k hj hk (by omega)),if_pos e.symm]
def zbX (F:LUv) (c:List Rat):Nat→List Rat
  | 0=>[]
  | k+1=>zbX F c k++[(el c k-zai k (fun r=>en F.up r k*el (zbX F c k) r))/en F.up k k]
theorem zbT(F:LUv)(c:List Rat):∀k,(zbX F c k).length=k
 | 0=>rfl
 | k+1=>by simp[zbX,zbT F c k]
theorem zk1(F:LUv)(b:List Rat){i:Nat}:∀ {k:Nat},i<k→el (zbX F b k) i=(el b i-zai i (fun c=>en F.up c i*el (zbX F b i) c))/en F.up i i
 | 0,h=>absurd h (Nat.not_lt_zero _)
 | k+1,h=>by
  by_cases e:i=k
  ·subst e
   conv=>lhs;unfold zbX
   have:=zoz (xs:=zbX F b i) (a:=(el b i-zai i (fun c=>en F.up c i*el (zbX F b i) c))/en F.up i i);rw[zbT]at this;exact this
  ·conv=>lhs;unfold zbX
   rw[zkF (by rw[zbT];omega)];exact zk1 F b (by omega)
theorem znE(F:LUv)(b:List Rat):∀ {k:Nat},i<j→j≤k→el (zbX F b k) i=el (zbX F b j) i:=by
 intro k h1 a;rw[zk1 F b (by omega),zk1 F b h1]
def zlK (F:LUv) (n:Nat) (z:List Rat):Nat→List Rat
  | 0=>[]
  | f+1=>(el z (n-(f+1))-zai f (fun c=>en F.lo (n-f+c) (n-(f+1))*el (zlK F n z f) c))::zlK F n z f
theorem zmU(F:LUv)(n:Nat)(z:List Rat):∀f,(zlK F n z f).length=f
 | 0=>rfl
 | f+1=>by simp[zlK,zmU F n z f]
theorem zka(F:LUv)(n:Nat)(z:List Rat):∀ {f j:Nat},j<f→∀i,el (zlK F n z f) (j+i)=el (zlK F n z (f-j)) i
 | 0,_,h,_=>absurd h (Nat.not_lt_zero _)
 | f+1,0,_,i=>by rw[Nat.zero_add];rfl
 | f+1,j+1,h,i=>by
  rw[show j+1+i=(j+i)+1 by omega,show f+1-(j+1)=f-j by omega];exact zka F n z (by omega) i
def luW (n:Nat) (F:LUv) (c:List Rat):List Rat:=zlK F n (zbX F c n) n
theorem zAY(n:Nat)(F:LUv)(b:List Rat):(luW n F b).length=n:=zmU _ _ _ _
theorem zyu(n:Nat)(F:LUv)(b:List Rat)(h:i<n) :
  el (luW n F b) i=el (zbX F b n) i-zai (n-(i+1)) (fun c=>en F.lo (i+1+c) i*el (luW n F b) (i+1+c)):=by
 have a:=zka F n (zbX F b n) (f:=n) (j:=i) h 0;unfold luW;rw[Nat.add_zero]at a;rw[a,show n-i=(n-(i+1))+1 by omega];show(el (zbX F b n) (n-(n-(i+1)+1))-_)=_
 rw[show n-(n-(i+1)+1)=i by omega]
 congr 1
 refine zaj fun c hc=>?_
 rw[show n-(n-(i+1))=i+1 by omega]
 congr 1
 exact(zka F n (zbX F b n) (f:=n) (j:=i+1) (by omega) c).symm
def back (p:List Nat) (w:List Rat):Nat→List Rat→List Rat
  | 0,y=>y
  | k+1,y=>(back p w k y).set (p.getD k 0) (el w k)
theorem zjk(p:List Nat)(w:List Rat)(y:List Rat):∀k,(back p w k y).length=y.length
 | 0=>rfl
 | k+1=>by simp[back,zjk p w y k]
theorem zpA{n:Nat}{p:List Nat}(w y:List Rat)(d:y.length=n)(h1:∀i,i<n→p.getD i 0<n)(a:∀i j,i<n→j<n→p.getD i 0=p.getD j 0→i=j):∀k,k≤n→∀i,i<k→el (back p w k y) (p.getD i 0)=el w i
 | 0,_,i,hi=>absurd hi (Nat.not_lt_zero _)
 | k+1,hk,i,hi=>by
  show el (List.set _ _ _) _=_
  rw[ziZ (by rw[zjk,d];exact h1 k (by omega))];by_cases e:p.getD k 0=p.getD i 0
  ·rw[if_pos e,a k i (by omega) (by omega) e]
  ·rw[if_neg e];exact zpA w y d h1 a k (by omega) i (by have:i≠k:=fun f=>e (by rw[f]);omega)
def zcq (n:Nat) (F:LUv) (c:List Rat):List Rat:=back F.perm (luW n F c) n (List.replicate n 0)
theorem zoP(n:Nat)(F:LUv)(c:List Rat):(zcq n F c).length=n:=by unfold zcq;rw[zjk];simp
theorem zla{F:LUv}(h:LUinv n M n F)(c:List Rat)(hj:j<n):zai n (fun i=>el (zcq n F c) i*M i j)=el c j:=by
 rw[←zsx (p:=fun i=>F.perm.getD i 0) _ h.pr h.pi (zh0 h)];have e:zai n (fun k=>el (zcq n F c) (F.perm.getD k 0)*M (F.perm.getD k 0) j)=zai n (fun k=>zai n (fun t=>el (luW n F c) k*(en F.lo k t*en F.up t j))):=zaj fun k hk=>by
  unfold zcq;rw[zpA _ _ (by simp) h.pr h.pi n (Nat.le_refl _) k hk,h.sum k hk j hj,if_neg (by omega),za7];grind
 rw[e,zbq];have g:∀t,t<n→zai n (fun k=>el (luW n F c) k*(en F.lo k t*en F.up t j))=el (zbX F c n) t*en F.up t j:=by
  intro t a;have l:zai n (fun k=>el (luW n F c) k*(en F.lo k t*en F.up t j))=zai n (fun k=>en F.lo k t*el (luW n F c) k)*en F.up t j:=by
   rw[←zb6];exact zaj fun k _=>by grind
  have d:=zgc (fun k=>en F.lo k t*el (luW n F c) k) (t+1) (n-(t+1));rw[show t+1+(n-(t+1))=n by omega,zai,h.one t a,zcn (n:=t) (fun k hk=>by rw[h.tri k t (by omega) a (by omega)];grind)]at d;rw[l,d,zyu n F c a];generalize zai (n-(t+1)) (fun x=>en F.lo (t+1+x) t*el (luW n F c) (t+1+x))=s;grind
 rw[zaj g];have o:=zh6 (f:=fun t=>el (zbX F c n) t*en F.up t j) (m:=j+1) (n:=n) (by omega) fun t h1 r=>by rw[h.zero j t hj r (by omega)];grind
 rw[o,zai,zk1 F c hj];have q:zai j (fun t=>el (zbX F c n) t*en F.up t j)=zai j (fun t=>en F.up t j*el (zbX F c j) t):=zaj fun t a=>by rw[znE F c a (by omega)];grind
 have v:=h.piv j hj;rw[q];generalize zai j (fun t=>en F.up t j*el (zbX F c j) t)=s;grind
theorem LUinv.reg{F:LUv}(h:LUinv n M n F):Reg n M:=by
 intro x f j hj
 -- by what makes the unit row j
 have g:∀c:List Rat,zai n (fun j=>el c j*x j)=0:=by
  intro c;have d:zai n (fun j=>el c j*x j)=zai n (fun j=>zai n (fun i=>el (zcq n F c) i*(M i j*x j))):=zaj fun j hj=>by
   rw[←zla h c hj,←zb6];exact zaj fun i _=>by grind
  rw[d,zbq];exact zcn fun i a=>by rw[za7,f i a];grind
 have:=g ((List.replicate n 0).set j 1);rw[zbI (k:=j) hj fun i a e=>by rw[ziZ (by simpa using hj),if_neg (Ne.symm e),zrm];grind,ziZ (by simpa using hj),if_pos rfl]at this;grind
end Am
namespace Am
variable {L:List (List Rat)}{i k n s:Nat}{M:Nat→Nat→Rat}
def cB (n S:Nat):Nat:=(S*(n+2)+n)*n+1
structure SzLaw (m:Rat→Nat):Prop where
  add:∀a b,m (a+b)≤m a+m b+1
  mul:∀a b,m (a*b)≤m a+m b
  neg:∀a,m (-a)=m a
  inv:∀a,m a⁻¹≤m a
  zero:m 0≤1
  one:m 1≤1
  cram:∀ {n S:Nat} {M:Nat→Nat→Rat} {b x:Nat→Rat},(∀y:Nat→Rat,(∀i,i<n→zai n (fun j=>M i j*y j)=0)→∀j,j<n→y j=0)→(∀i,i<n→∀j,j<n→m (M i j)≤S)→(∀i,i<n→m (b i)≤S)→(∀i,i<n→zai n (fun j=>M i j*x j)=b i)→∀j,j<n→m (x j)≤cB n S
namespace SzLaw
variable {m:Rat→Nat} (h:SzLaw m)
include h
theorem div(a b:Rat):m (a/b)≤m a+m b:=by
 rw[Rat.div_def];have:=h.mul a b⁻¹;have:=h.inv b;omega
theorem sub(a b:Rat):m (a-b)≤m a+m b+1:=by
 rw[Rat.sub_eq_add_neg];have:=h.add a (-b);rw[h.neg]at this;exact this
theorem subSum(a:Rat)(f:Nat→Rat)(s:Nat):∀k,(∀i,i<k→m (f i)≤s)→m (a-zai k f)≤m a+k*(s+1)
 | 0,_=>by rw[zai,show a-0=a by grind];omega
 | k+1,hs=>by
  have e:a-zai (k+1) f=(a-zai k f)-f k:=by rw[zai];grind
  rw[e,Nat.add_mul];have:=h.sub (a-zai k f) (f k);have:=subSum a f s k (fun i d=>hs i (by omega));have:=hs k (by omega);omega
end SzLaw
structure LUsz (m:Rat→Nat) (n u:Nat) (F:LUv):Prop where
  lo:∀i,i<n→∀j,j<n→m (en F.lo i j)≤u
  up:∀i,i<n→∀j,j<n→m (en F.up i j)≤u
def uB (n s:Nat):Nat:=s+n*(cB n s+s+1)+1
theorem ywl{a b t:Nat}(h:a≤b)(d:s≤t):cB a s≤cB b t:=by
 unfold cB;have:(s*(a+2)+a)*a≤(t*(b+2)+b)*b:=Nat.mul_le_mul (Nat.add_le_add (Nat.mul_le_mul d (by omega)) h) h;omega
def ywb (k:Nat) (L:List (List Rat)):List (List Rat):=(List.range k).map fun i=>(List.range k).map fun j=>en L i j
theorem yv7(L:List (List Rat))(a:i<k):(ywb k L).getD i []=(List.range k).map fun j=>en L i j:=by
 unfold ywb;rw[zbU _ _ (by simpa using a) 0,zcA a]
theorem yv1(L:List (List Rat)){j:Nat}(a:i<k)(hj:j<k):en (ywb k L) i j=en L i j:=by
 show el ((ywb k L).getD i []) j=_
 rw[yv7 L a];show((List.range k).map fun j=>en L i j).getD j 0=_
 rw[zbU _ _ (by simpa using hj) 0,zcA hj]
section
variable {n:Nat} {M:Nat→Nat→Rat} {c:Nat} {F:LUv} (h:LUinv n M c F) (hc:c≤n)
include h hc
theorem LUinv.top(hk:k≤c):LUinv k (fun i j=>M (F.perm.getD i 0) j) k ⟨ywb k F.lo,ywb k F.up,List.range k,false⟩ where
 sq:=⟨by simp[ywb],fun i a=>by show((ywb k F.lo).getD i []).length=k;rw[yv7 _ a];simp,by simp[ywb],fun i a=>by show((ywb k F.up).getD i []).length=k;rw[yv7 _ a];simp,by simp⟩
 pr:=fun i a=>by show(List.range k).getD i 0<k;rw[zcA a];exact a
 pi:=fun i j a hj e=>by
  have e:(List.range k).getD i 0=(List.range k).getD j 0:=e;rw[zcA a,zcA hj]at e;exact e
 sum:=fun i a j hj=>by
  show M (F.perm.getD ((List.range k).getD i 0) 0) j=zai k (fun t=>en (ywb k F.lo) i t*en (ywb k F.up) t j)+_
  rw[zcA a,if_neg (by omega),h.sum i (by omega) j (by omega),if_neg (by omega),zaj (n:=k) fun t d=>by rw[yv1 _ a d,yv1 _ d hj],
   zh6 hk fun t h1 g=>by rw[h.tri i t (by omega) (by omega) (by omega)];grind]
 one:=fun i a=>by show en (ywb k F.lo) i i=1;rw[yv1 _ a a];exact h.one i (by omega)
 tri:=fun i t a d l=>by
  show en (ywb k F.lo) i t=0
  rw[yv1 _ a d];exact h.tri i t (by omega) (by omega) (by omega)
 zero:=fun t i d a f=>by show en (ywb k F.up) i t=0;rw[yv1 _ a d];exact h.zero t i (by omega) (by omega) f
 piv:=fun t d=>by show en (ywb k F.up) t t≠0;rw[yv1 _ d d];exact h.piv t (by omega)
theorem LUinv.comb(f:Nat→Rat):∀k,k≤c→∃g:Nat→Rat,(∀j,j<n→zai k (fun s=>f s*en F.up s j)=zai k fun s=>g s*M (F.perm.getD s 0) j)∧(∀l,k=l+1→g l=f l)
 | 0,_=>⟨fun _=>0,fun _ _=>rfl,fun l i=>by omega⟩
 | k+1,hk=>by
  obtain⟨g,hg,_⟩:=LUinv.comb (fun s=>f s-f k*en F.lo k s) k (by omega);refine⟨fun s=>if s=k then f k else g s,fun j hj=>?_,fun l i=>?_⟩
  ·have e:=h.sum k (by omega) j hj;rw[if_neg (by omega),zh6 (m:=k+1) hk fun t h1 o=>by rw[h.tri k t (by omega) (by omega) (by omega)];grind,zai,h.one k (by omega)]at e;have d:zai k (fun s=>(if s=k then f k else g s)*M (F.perm.getD s 0) j)=zai k fun s=>(f s-f k*en F.lo k s)*en F.up s j:=by
    rw[hg j hj];exact zaj fun s p=>by rw[if_neg (by omega)]
   have a:zai k (fun s=>(f s-f k*en F.lo k s)*en F.up s j)=zai k (fun s=>f s*en F.up s j)+(-f k)*zai k fun t=>en F.lo k t*en F.up t j:=by
    rw[←za7,←zcm];exact zaj fun s _=>by grind
   rw[zai,zai,d,a];simp only[if_true];rw[e];grind
  ·obtain rfl:k=l:=by omega
   simp only[if_true]
end
theorem LUinv.regT{F:LUv}(h:LUinv n M n F)(y:Nat→Rat)(f:∀j,j<n→zai n (fun i=>M i j*y i)=0):∀i,i<n→y i=0:=fun i a=>by
 have e:∀k,k<n→zai n (fun j=>M k j*el (zaR n F ((List.replicate n 0).set i 1)) j)=if i=k then 1 else 0:=fun k hk=>by
  rw[zsl h _ hk,ziZ (by simpa using a),zrm]
 have s:zai n (fun k=>y k*zai n fun j=>M k j*el (zaR n F ((List.replicate n 0).set i 1)) j)=y i:=by
  rw[zbI (k:=i) a fun k hk d=>by rw[e k hk,if_neg (Ne.symm d)];grind,e i a,if_pos rfl];grind
 rw[←s,zaj fun k _=>(za7 _ _ _).symm,zbq];refine zcn fun j hj=>?_
 have:=f j hj;rw[zaj (g:=fun k=>M k j*y k*el (zaR n F ((List.replicate n 0).set i 1)) j) fun k _=>by grind,zb6,this];grind
theorem LUinv.size{m:Rat→Nat}(hm:SzLaw m){c:Nat}{F:LUv}(h:LUinv n M c F)(hc:c≤n)(v:∀i,i<n→∀j,j<n→m (M i j)≤s):LUsz m n (uB n s) F:=by
 have u1:1≤uB n s:=by unfold uB;omega
 -- what a row is taken together from
 have C:∀i k,i<n→k≤c→(∀j,j<k→zai k (fun t=>en F.lo i t*en F.up t j)=M (F.perm.getD i 0) j)→∃g:Nat→Rat,(∀j,j<n→zai k (fun t=>en F.lo i t*en F.up t j)=zai k fun t=>g t*M (F.perm.getD t 0) j)∧(∀t,t<k→m (g t)≤cB n s)∧∀l,k=l+1→g l=en F.lo i l:=fun i k f hk I=>by
  obtain⟨g,h1,o⟩:=h.comb hc (fun t=>en F.lo i t) k hk;refine⟨g,h1,fun t p=>?_,o⟩;refine Nat.le_trans (hm.cram (n:=k) (S:=s) (M:=fun j t=>M (F.perm.getD t 0) j) (b:=fun j=>M (F.perm.getD i 0) j) (x:=g) (fun y K=>(h.top hc hk).regT y fun j hj=>K j hj) (fun j hj t p=>v _ (h.pr t (by omega)) j (by omega)) (fun j hj=>v _ (h.pr i f) j (by omega)) (fun j hj=>?_) t p) (ywl (by omega) (Nat.le_refl _));rw[←I j hj,h1 j (by omega)];exact zaj fun t _=>by grind
 have cu:cB n s≤uB n s∨n=0:=by
  rcases Nat.eq_zero_or_pos n with h0 | h0
  ·exact .inr h0
  ·left;unfold uB;have:=Nat.mul_le_mul_right (cB n s+s+1) h0;omega
 refine⟨fun i f t p=>?_,fun i f j hj=>?_⟩
 ·by_cases h1:i<t∨c≤t
  ·rw[h.tri i t f p h1];exact Nat.le_trans hm.zero u1
  ·by_cases o:i=t
   ·subst o;rw[h.one i (by omega)];exact Nat.le_trans hm.one u1
   ·obtain⟨g,_,B,E⟩:=C i (t+1) f (by omega) fun j hj=>by
     have e:=h.sum i f j (by omega);rw[zh6 (m:=t+1) (by omega) fun r G H=>by rw[h.zero j r (by omega) (by omega) (by omega)];grind]at e;rw[e];split
     ·rw[h.zero j i (by omega) f (by omega)];grind
     ·grind
    rw[←E t rfl];have:=B t (by omega);omega
 ·obtain⟨k,hk,J,e⟩:∃k,k≤n∧k≤c∧∀j,j<n→M (F.perm.getD i 0) j=zai k (fun t=>en F.lo i t*en F.up t j)+en F.up i j∧(j<k→en F.up i j=0):=by
   by_cases h1:c≤i
   ·exact⟨c,hc,Nat.le_refl _,fun j hj=>⟨by rw[h.sum i f j hj,if_pos h1],fun o=>h.zero j i o f (by omega)⟩⟩
   ·refine⟨i,by omega,by omega,fun j hj=>⟨?_,fun o=>h.zero j i (by omega) f o⟩⟩;rw[h.sum i f j hj,if_neg h1,zh6 (m:=i+1) (by omega) fun r G H=>by rw[h.tri i r f (by omega) (by omega)];grind,zai,h.one i (by omega)];grind
  obtain⟨g,D,B,_⟩:=C i k f J fun j hj=>by
   obtain⟨q,A⟩:=e j (by omega);rw[A hj]at q;rw[q];grind
  have q:=(e j hj).1;rw[D j hj]at q;have A:en F.up i j=M (F.perm.getD i 0) j-zai k fun t=>g t*M (F.perm.getD t 0) j:=by rw[q];grind
  rw[A];have a:=hm.subSum (M (F.perm.getD i 0) j) (fun t=>g t*M (F.perm.getD t 0) j) (cB n s+s) k fun t p=>by
   have L:=hm.mul (g t) (M (F.perm.getD t 0) j);have N:=B t p;have O:=v _ (h.pr t (by omega)) j hj;omega
  have b:=v _ (h.pr i f) j hj;have d:=Nat.mul_le_mul_right (cB n s+s+1) hk;unfold uB;omega
theorem zl6(h:L.length=n)(hr:∀i,i<n→(L.getD i []).length=n):Sq n (zg4 n L):=(LUinv.start h hr).sq
theorem zk9{m:Rat→Nat}(h:SzLaw m){G:LUv}(f:L.length=n)(hr:∀i,i<n→(L.getD i []).length=n)(g:∀i,i<n→∀j,j<n→m (en L i j)≤s)(e:zoN n L=some G):LUsz m n (uB n s) G:=by
 rcases zoO f hr with ⟨k,a,d⟩ | ⟨a,_⟩
 ·rw[e]at a;injection a with a;subst a;exact d.size h (Nat.le_refl _) g
 ·rw[e]at a;cases a
def zB (n u x:Nat):Nat:=1+n*(u+x+1)
def xB (n u x t:Nat):Nat:=t+zB n u x+n*(u+zB n u x+1)
theorem SzLaw.sum{m:Rat→Nat}(h:SzLaw m)(f:Nat→Rat)(s k:Nat)(a:∀i,i<k→m (f i)≤s):m (zai k f)≤1+k*(s+1):=by
 have:=h.subSum 0 f s k a;rw[←h.neg]at this;rw[show -(0-zai k f)=zai k f by grind]at this;have:=h.zero;omega
theorem SzLaw.less{m:Rat→Nat}(h:SzLaw m){a:Rat}{f g:Nat→Rat}{A B C:Nat}(o:m a≤A)(hk:k≤n)(e:∀i,i<k→m (f i)≤B)(hg:∀i,i<k→m (g i)≤C):m (a-zai k fun i=>f i*g i)≤A+n*(B+C+1):=by
 have j:=h.subSum a (fun i=>f i*g i) (B+C) k fun i d=>by have:=h.mul (f i) (g i);have:=e i d;have:=hg i d;omega
 have l:=Nat.mul_le_mul_right (B+C+1) hk;omega
structure SolLe (m:Rat→Nat) (n:Nat) (F:LUv) (b:List Rat) (X:Nat):Prop where
  fw:∀i,i<n→m (el (fwd F b n) i)≤X∧∀k,k≤i→m (el b (F.perm.getD i 0)-zai k (fun c=>en F.lo i c*el (fwd F b n) c))≤2*X
  sv:∀i,i<n→m (el (zaR n F b) i)≤X∧∀k,k≤n-(i+1)→m (el (fwd F b n) i-zai k (fun c=>en F.up i (i+1+c)*el (zaR n F b) (i+1+c)))≤2*X
structure SolTLe (m:Rat→Nat) (n:Nat) (F:LUv) (b:List Rat) (X:Nat):Prop where
  fw:∀i,i<n→m (el (zbX F b n) i)≤X∧∀k,k≤i→m (el b i-zai k (fun c=>en F.up c i*el (zbX F b n) c))≤2*X
  sv:∀i,i<n→m (el (luW n F b) i)≤X∧∀k,k≤n-(i+1)→m (el (zbX F b n) i-zai k (fun c=>en F.lo (i+1+c) i*el (luW n F b) (i+1+c)))≤2*X
section
variable {m:Rat→Nat} (h:SzLaw m) {n u x t:Nat} {M:Nat→Nat→Rat} {F:LUv} {b:List Rat} (hF:LUinv n M n F) (z:LUsz m n u F)
include h hF z
theorem ywt(f:∀i,i<n→m (el b i)≤t)(e:∀i,i<n→m (el (zaR n F b) i)≤x):SolLe m n F b (xB n u x t):=by
 have d:∀i,i<n→m (el (fwd F b n) i)≤zB n u x:=fun i a=>by
  rw[←zsm hF b a];exact h.sum _ (u+x) n fun k hk=>by have:=h.mul (en F.up i k) (el (zaR n F b) k);have:=z.up i a k hk;have:=e k hk;omega
 have zx:zB n u x≤xB n u x t:=by unfold xB;omega
 refine⟨fun i a=>⟨Nat.le_trans (d i a) zx,fun k hk=>?_⟩,fun i a=>⟨?_,fun k hk=>?_⟩⟩
 ·have:=h.less (n:=n) (k:=k) (f _ (hF.pr i a)) (by omega) (fun c hc=>z.lo i a c (by omega)) (fun c hc=>d c (by omega));unfold xB;omega
 ·have:=e i a;have:=Nat.mul_le_mul_right (u+x+1) (show 1≤n by omega);unfold zB at zx;omega
 ·have:=h.less (n:=n) (k:=k) (d i a) (by omega) (fun c hc=>z.up i a (i+1+c) (by omega)) (fun c hc=>e (i+1+c) (by omega));unfold zB at this zx;omega
theorem ywo(l:∀i,i<n→m (el b i)≤t)(o:∀i,i<n→m (el (zcq n F b) i)≤x):SolTLe m n F b (xB n u x t):=by
 have d:∀i,i<n→m (el (luW n F b) i)≤x:=fun i a=>by
  have:=o _ (hF.pr i a);unfold zcq at this;rw[zpA _ _ (by simp) hF.pr hF.pi n (Nat.le_refl _) i a]at this;exact this
 have f:∀i,i<n→m (el (zbX F b n) i)≤zB n u x:=fun i a=>by
  have e:el (zbX F b n) i=el (luW n F b) i+zai (n-(i+1)) (fun c=>en F.lo (i+1+c) i*el (luW n F b) (i+1+c)):=by rw[zyu n F b a];grind
  rw[e];have r:=h.subSum 0 (fun c=>en F.lo (i+1+c) i*el (luW n F b) (i+1+c)) (u+x) (n-(i+1)) fun c hc=>by have:=h.mul (en F.lo (i+1+c) i) (el (luW n F b) (i+1+c));have:=z.lo (i+1+c) (by omega) i a;have:=d (i+1+c) (by omega);omega
  have g:=h.sub (el (luW n F b) i) (0-zai (n-(i+1)) (fun c=>en F.lo (i+1+c) i*el (luW n F b) (i+1+c)));rw[show ∀p q:Rat,p-(0-q)=p+q by intro p q;grind]at g;have s:=d i a;have v:=h.zero;have j:(n-(i+1)+1)*(u+x+1)≤n*(u+x+1):=Nat.mul_le_mul_right _ (by omega);rw[Nat.add_mul]at j;unfold zB;omega
 have zx:zB n u x≤xB n u x t:=by unfold xB;omega
 refine⟨fun i a=>⟨Nat.le_trans (f i a) zx,fun k hk=>?_⟩,fun i a=>⟨?_,fun k hk=>?_⟩⟩
 ·have:=h.less (n:=n) (k:=k) (l i a) (by omega) (fun c hc=>z.up c (by omega) i a) (fun c hc=>f c (by omega));unfold xB;omega
 ·have:=d i a;have:=Nat.mul_le_mul_right (u+x+1) (show 1≤n by omega);unfold zB at zx;omega
 ·have:=h.less (n:=n) (k:=k) (f i a) (by omega) (fun c hc=>z.lo (i+1+c) (by omega) i a) (fun c hc=>d (i+1+c) (by omega));unfold zB at this zx;omega
end
