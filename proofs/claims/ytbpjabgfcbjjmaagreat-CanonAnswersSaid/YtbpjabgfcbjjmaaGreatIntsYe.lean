/- Contracts and lemmas: Ints TbMem zjE Vec9 FacMem StdM Std Dshow. Conditions: as each says. -/
import Derived.Test.YtbpjabgfcbjjmaaGreatBasMemYe
import Derived.Test.YtbpjabgfcbjjmaaGreatMat4Ye
set_option linter.all false
set_option maxHeartbeats 8000000
set_option maxRecDepth 100000
namespace Go.Proofs.YtbpjabgfcbjjmaaGreat
open Go.RowKit Am Tryz
attribute [local go_sem ↓] Go.wp_at_zero Go.wp_at_succ
variable {x:Int}{L:List (List Rat)}{xs:List Nat}{rows:List PRow}{qs r:List Rat}{l ll ul:List Value}{H N a b c c' g i j k lc m n uc z:Nat}{A:OA}{v:Value}{w:World}
def zcells (xs:List Int):List Value:=xs.map λx=>.int .i64 x
theorem zmo(xs:List Int):(zcells xs).length=xs.length:=by simp[zcells]
theorem zsA(xs:List Int):∀u∈zcells xs,u.oneCell'=true:=by intro u a;simp only[zcells,ZH]at a;obtain⟨x,_,rfl⟩:=a;rfl
structure IntsZ (w:World) (H:Nat) (v:Value) (xs:List Int):Prop where
  own:w.ownsRow H 3 1 v xs.length (zcells xs)
theorem IntsS.toZ(h:IntsS w H v xs):IntsZ w H v (xs.map fun(x:Nat)=>(x:Int)):=⟨by have:=h.own;rw[ZK];unfold zcells;rw[List.map_map];exact this⟩
theorem IntsZ.toS(h:IntsZ w H v (xs.map fun(x:Nat)=>(x:Int))):IntsS w H v xs:=⟨by have:=h.own;rw[ZK]at this;unfold zcells at this;rw[List.map_map]at this;exact this⟩
namespace IntsZ
variable {w w':World} {H:Nat} {v:Value} {xs:List Int}
theorem keep(h:IntsZ w H v xs)(hk:∀k,v.ownBlock=some k->w'.heap[k]? = w.heap[k]?):IntsZ w' H v xs:=⟨zc9 h.own hk⟩
theorem below(h:IntsZ w H v xs)(a:Below w w w'):IntsZ w' H v xs:=h.keep λk hk=>a.block k (h.own.lt k hk).2
theorem alloc(h:IntsZ w H v xs)(o:Obj):IntsZ (w.alloc o) H v xs:=h.below (zae w o)
theorem drew(h:IntsZ w H v xs):IntsZ w.drew H v xs:=h.below (zap w 1)
theorem base(h:IntsZ w H v xs)(d:a<=H):IntsZ w a v xs:=⟨zbu h.own d⟩
theorem nil(w:World)(H:Nat):IntsZ w H () []:=⟨Xo _ _ _ _⟩
theorem tk{t:TypeId}(h:IntsZ w H v xs)(hk:TKeep t w w')(h1:3≠t):IntsZ w' H v xs :=
 h.keep λk a=>hk k (h.own.lt k a).2 λcs e=>za6 h.own e h1 a
theorem form(h:IntsZ w H (A,n,c) xs):n=xs.length/\n<=c/\c<=maxLen/\((A=none/\c=0/\xs=[])\/∃g,A=some ⟨g,0,none⟩/\H<=g/\g<w.heap.size):=by
 rcases h.own.2 with ⟨d,a⟩ | ⟨g,cap,cur,d,hg,e,a,hm,_⟩
 injection d with e1 e2 e3;subst e1 e2 e3;exact⟨a.symm,Za _,Zb _,.inl ⟨rfl,rfl,Xk.1 a⟩⟩;grind
theorem len(h:IntsZ w H (A,n,c) xs):n=xs.length:=h.form.1
theorem has(h:IntsZ w H (A,n,c) xs)(f:0<n):∃g,A=some ⟨g,0,none⟩/\H<=g/\g<w.heap.size:=by obtain⟨h1,d,e,a | a⟩:=h.form;omega;exact a
theorem slice(h:IntsZ w H v xs):∃A c,v=.slice A xs.length c:=by
 rcases h.own.2 with ⟨a,d⟩ | ⟨g,cap,cur,a,_⟩
 exact⟨_,_,by rw[a,d]⟩;grind
theorem fro(h:IntsZ w H (b,n,c) xs)(j:Nat):w.frozen? ⟨b,j,none⟩=false:=by have a:=h.len;subst a;exact h.own.frozenAt j
theorem at_(h:IntsZ w H (b,n,c) xs)(hk:xs[k]? = some x):χ w b k (.int .i64 x):=by have a:=h.len;subst a;have d:=(ZF.1 hk).1;rw[h.own.cellAt _ ω];simp[zcells,hk]
theorem cut(h:IntsZ w H (b,n,c) xs)(hk:k<=n):IntsZ w H (b,k,c) (xs.take k):=by
 have i:=h.len;subst i;have hl:(xs.take k).length=k:=by rw[ZG];omega
 refine⟨?_⟩;rw[hl];refine⟨by rw[zmo,hl];omega,?_⟩;rcases h.own.2 with ⟨a,_⟩ | ⟨g',l,cur,a,d,hg,o,f,g,j⟩
 simp at a;simp only[Value.slice.injEq,Option.some.injEq,Addr.mk.injEq,and_true,true_and]at a;obtain⟨rfl,rfl⟩:=a;refine .inr ⟨b,c,cur,rfl,d,hg,ω,f,g,?_⟩;have e:zcells (xs.take k)=(zcells xs).take k:=by simp[zcells]
 rw[e,<-j,YX,Xy,Xy,Xx hk]
end IntsZ
def zv3 (w:World) (xs:List Int) (e:Ending) (w':World):Prop:=∃(A:OA) (c:Nat),e=.returned (A,xs.length,c)/\IntsZ w' w (A,xs.length,c) xs/\Below w w w'
namespace Sl
theorem clone(A:OA)(n c:Nat)(xs:List Int)(H:Nat)(w:World)(h:IntsZ w H (A,n,c) xs)(f:n<=1000000):Calls prog 115 #[(A,n,c)] w (zv3 w xs):=by
 obtain⟨E,l,i,hf⟩:=h.form;subst E;rcases hf with ⟨rfl,rfl,rfl⟩ | ⟨g,rfl,hg,D⟩
 ·clear h l i f;have G:=fun(w:World)=>Yw (P:=prog) w 41 3 none 0 0 0 0 underlying41
  go_enter func115,ntmps115;go_wp2;go_ret;exact⟨_,_,rfl,IntsZ.nil _ _,Zj _ _⟩
 have d:=λj u a=>h.own.cells (g:=g) rfl j u a
 have G:=fun(w:World)=>Yw (P:=prog) w 41 3 (some ⟨g,0,none⟩) xs.length c 0 0 underlying41
 obtain⟨L,hi,I,J,K⟩:=info_parts znF;have p:=Vs (e:=3) (size:=1) (base:=w.heap.size) w #[] 0 (Za _) (by unfold maxLen;omega) rfl
 have o:∀j u,(zcells xs)[j]? = some u->(w.alloc (.cells #[] 3)).cell? ((⟨g,0,none⟩:Addr).add j)=some u:=λj u a =>
  (YE w _ _ (Yb w _ (d j u a))).trans (d j u a)
 refine μ4 p o (show 0+xs.length<=maxLen by unfold maxLen;omega) (show(0+xs.length)*8<=140737488355328 by omega) λB z x y=>?_;clear p o f d l i hg D h;go_enter func115,ntmps115;go_wp2_with (at_builtin;refine wpList_append_own _ rfl _ _ 41 rfl w.heap.size 3 L (.int .i64 0) 1 8 underlying41 hi I J K rfl δ _ _ _ rfl B.o ⟨g,0,none⟩ xs.length c (zcells xs) rfl (by rw[zmo];omega) z.o (zsA xs) x.o y.o σ ?_;intro M w1 r C O)
 go_ret;rw[Z6,XV]at r;have s:IntsZ w1 w M xs:=⟨r⟩
 obtain⟨t,c',rfl⟩:=s.slice;exact⟨t,c',rfl,s,(zae w _).trans ((Zj _ _).grown C σ (λk hk=>by cases hk;exact Za _))⟩
theorem index(A:OA)(n c:Nat)(xs:List Int)(x:Int)(H:Nat)(w:World)(h:IntsZ w H (A,n,c) xs) :
  Calls prog 174 #[(A,n,c),.int .i64 x] w λe w'=>(∃i:Int,e=.returned (.int .i64 i)/\((x∈xs/\0<=i)\/(x ∉ xs/\i = -1)))/\Below w w w':=by
 have o:=un h.len;have hf:=h.form;have z:=un h;have K:n<=9223372036854775807:=by have D:=hf.2.2.1;unfold maxLen at D;omega
 clear h hf;go_enter func174,ntmps174;go_wp2
 go_loopw [8] (λi wr=>∃k:Nat,i=.int .i64 k/\k<=n/\Below w w wr/\∀j,j<k->xs[j]? ≠ some x)
  (λi _=>n-(intOf i).toNat)
 case atStart=>exact⟨0,rfl,Zb _,Zj _ _,λj hj=>absurd hj (ZM _)⟩
 obtain⟨k,rfl,hk,a,d⟩:=hrel;have g:=un a;have u:=un d;by_cases s:k<n
 ·have r:=un (z.o.below a);obtain⟨b,rfl,G,I⟩:=r.o.has ω;have f:xs[k]? = some (xs[k]'(by rw[<-o.o];exact s)):=Ze _;generalize xs[k]'(by rw[<-o.o];exact s)=y at f;have L:=r.o.at_ f;have p:=un f;have E:(0:Int)<=(k:Int):=Zf _;have J:(k:Int)<(n:Int):=ω
  clear a d f;by_cases e:x=y
  ·subst e;have B:(x == x)=true:=σ
   have t:=un (Zz p.o);go_wp2;go_ret;exact⟨⟨_,rfl,.inl ⟨t.o,E⟩⟩,g.o⟩
  have B:(x == y)=false:=by simpa using e
  have l:=un (show ∀j,j<k+1->xs[j]? ≠ some x from λj hj=>by by_cases C:j=k;rw[C,p.o];intro h;injection h with h;exact e h.symm;exact u.o j ω);clear e;go_wp2;go_roundw
  case rel=>exact⟨k+1,by go_num,ω,g.o,l.o⟩
  case measure=>simp[intOf];omega
 obtain rfl:n=k:=ω;have l:=un (show x ∉ xs from λhm=>by obtain⟨j,hj⟩:=Xv.1 hm;exact d j (by rw[o.o];exact(ZF.1 hj).1) hj);clear a d;go_wp2;go_ret;exact⟨⟨_,rfl,.inr ⟨l.o,rfl⟩⟩,g.o⟩
theorem has(A:OA)(n c:Nat)(xs:List Int)(x:Int)(H:Nat)(w:World)(h:IntsZ w H (A,n,c) xs) :
  Calls prog 145 #[(A,n,c),.int .i64 x] w λe w'=>e=.returned (.bool (decide (x∈xs)))/\Below w w w':=by
 by_cases hm:x∈xs
 ·rw[ZT hm];have f:=un hm;clear hm;go_enter func145,ntmps145;go_wp2_with fail
  refine(index A n c xs x H _ h).mono ?_;rintro e w1 ⟨⟨i,rfl,hi | hi⟩,a⟩
  ·have d:=un a;have h0:=hi.2;clear a hi;go_wp2;go_ret
   exact⟨rfl,d.o⟩
  exact absurd f.o hi.1
 rw[Z3 hm];have f:=un hm;clear hm;go_enter func145,ntmps145;go_wp2_with fail
 refine(index A n c xs x H _ h).mono ?_;rintro e w1 ⟨⟨i,rfl,hi | hi⟩,a⟩;exact absurd hi.1 f.o;obtain⟨_,rfl⟩:=hi;have d:=un a;clear a;go_wp2;go_ret;exact⟨rfl,d.o⟩
end Sl
structure StdP (w:World) (rA:OA) (rc:Nat) (lA:List Value) (bA:OA) (bc_:Nat) (kA:OA) (kc:Nat) (eA:OA) (ec:Nat) (m N S:Nat) (A:List (List Rat)) (b c:List Rat) (left:List Int):Prop where
  rows:VecsL w 0 (rA,m,rc) lA A
  rl:∀r∈A,r.length=N
  B:VecS w 0 (bA,m,bc_) b
  C:VecS w 0 (kA,N,kc) c
  left:IntsZ w 0 (eA,m,ec) left
  hm:m<=64
  hN:N<=64
  zA:∀r∈A,∀q∈r,mw q<=S
  zb:∀q∈b,mw q<=S
  zc:∀q∈c,mw q<=S
  hS:1<=S
namespace StdP
variable {w w':World} {rA:OA} {rc:Nat} {lA:List Value} {bA:OA} {bc_:Nat} {kA:OA} {kc:Nat} {eA:OA} {ec m N S:Nat} {A:List (List Rat)} {b c:List Rat} {left:List Int}
theorem below(h:StdP w rA rc lA bA bc_ kA kc eA ec m N S A b c left)(a:Below w w w'):StdP w' rA rc lA bA bc_ kA kc eA ec m N S A b c left :=
 ⟨h.rows.below a,h.rl,h.B.below a,h.C.below a,h.left.below a,h.hm,h.hN,h.zA,h.zb,h.zc,h.hS⟩
theorem alloc(h:StdP w rA rc lA bA bc_ kA kc eA ec m N S A b c left)(o:Obj):StdP (w.alloc o) rA rc lA bA bc_ kA kc eA ec m N S A b c left:=h.below (zae w o)
theorem drew(h:StdP w rA rc lA bA bc_ kA kc eA ec m N S A b c left):StdP w.drew rA rc lA bA bc_ kA kc eA ec m N S A b c left:=h.below (zap w 1)
theorem rect(h:StdP w rA rc lA bA bc_ kA kc eA ec m N S A b c left):Rect m N A :=
 ⟨h.rows.nlen.symm,λi hi=>h.rl _ (Zz (zaO (by rw[<-h.rows.nlen];exact hi)))⟩
theorem blen(h:StdP w rA rc lA bA bc_ kA kc eA ec m N S A b c left):b.length=m:=h.B.len.symm
theorem clen(h:StdP w rA rc lA bA bc_ kA kc eA ec m N S A b c left):c.length=N:=h.C.len.symm
theorem zen(h:StdP w rA rc lA bA bc_ kA kc eA ec m N S A b c left)(hi:i<m)(hj:j<N):mw (en A i j)<=S:=by have e:=zaO (L:=A) (i:=i) (d:=[]) (by rw[<-h.rows.nlen];exact hi);have hm:=Zz e;have a:=h.rl _ hm;exact h.zA _ hm _ (Zz (zaH (by rw[a];exact hj)))
theorem zcol(h:StdP w rA rc lA bA bc_ kA kc eA ec m N S A b c left)(hj:j<N):∀q∈zb4 A j,mw q<=S:=λq a=>by obtain⟨r,hr,rfl⟩:=ZH.1 a;exact h.zA r hr _ (Zz (zaH (by rw[h.rl r hr];exact hj)))
end StdP
structure TabP (W0 w:World) (H q:Nat) (rA:OA) (rc:Nat) (lA:List Value) (bA:OA) (bc_:Nat) (kA:OA) (kc:Nat) (eA:OA) (ec m N S own:Nat) (A:List (List Rat)) (b c:List Rat) (left:List Int)
    (tA:OA) (tc qb:Nat) (xA:OA) (xc:Nat) (cols:List Nat):Prop where
  blk:θ w q #[(rA,m,rc),(N:Int),(bA,m,bc_),(kA,N,kc),(own:Int),(eA,m,ec),(tA,m,tc),.pointer (some ⟨qb,0,none⟩),(xA,m,xc)] 202
  std:StdP W0 rA rc lA bA bc_ kA kc eA ec m N S A b c left
  bel:Below W0 W0 w
  base:W0.heap.size<=H
  colsI:IntsS w H (tA,m,tc) cols
  basO:zhf w H qb m S (bc A cols) (Value.slice tA m tc).ownBlock
  x:VecS w H (xA,m,xc) (za5 A b cols)
  basis:Basis m N A cols
  own_:H<=q
def zhi (W0 w:World) (H q:Nat) (rA:OA) (rc:Nat) (lA:List Value) (bA:OA) (bc_:Nat) (kA:OA) (kc:Nat) (eA:OA) (ec m N S own:Nat) (A:List (List Rat)) (b c:List Rat) (left:List Int)
    (tA:OA) (tc:Nat) (cols:List Nat):Prop:=∃qb xA xc,TabP W0 w H q rA rc lA bA bc_ kA kc eA ec m N S own A b c left tA tc qb xA xc cols
section
variable {W0 w w':World} {H q:Nat} {rA:OA} {rc:Nat} {lA:List Value} {bA:OA} {bc_:Nat} {kA:OA} {kc:Nat} {eA:OA} {ec m N S own:Nat} {A:List (List Rat)} {b c:List Rat} {left:List Int}
  {tA:OA} {tc qb:Nat} {xA:OA} {xc:Nat} {cols:List Nat}
namespace TabP
theorem below(h:TabP W0 w H q rA rc lA bA bc_ kA kc eA ec m N S own A b c left tA tc qb xA xc cols)(a:Below w w w'):TabP W0 w' H q rA rc lA bA bc_ kA kc eA ec m N S own A b c left tA tc qb xA xc cols :=
 ⟨zad a h.blk,h.std,h.bel.trans (a.mono h.bel.size),h.base,h.colsI.below a,h.basO.below a,h.x.below a,h.basis,h.own_⟩
theorem alloc(h:TabP W0 w H q rA rc lA bA bc_ kA kc eA ec m N S own A b c left tA tc qb xA xc cols)(o:Obj):TabP W0 (w.alloc o) H q rA rc lA bA bc_ kA kc eA ec m N S own A b c left tA tc qb xA xc cols:=h.below (zae w o)
theorem drew(h:TabP W0 w H q rA rc lA bA bc_ kA kc eA ec m N S own A b c left tA tc qb xA xc cols):TabP W0 w.drew H q rA rc lA bA bc_ kA kc eA ec m N S own A b c left tA tc qb xA xc cols:=h.below (zap w 1)
theorem bas(h:TabP W0 w H q rA rc lA bA bc_ kA kc eA ec m N S own A b c left tA tc qb xA xc cols):zjE w H qb m S (bc A cols):=h.basO.toS
theorem stdN(h:TabP W0 w H q rA rc lA bA bc_ kA kc eA ec m N S own A b c left tA tc qb xA xc cols):StdP w rA rc lA bA bc_ kA kc eA ec m N S A b c left:=h.std.below h.bel
theorem hle(h:TabP W0 w H q rA rc lA bA bc_ kA kc eA ec m N S own A b c left tA tc qb xA xc cols):H<=w.heap.size:=h.bas.hle
theorem toS(h:TabP W0 w H q rA rc lA bA bc_ kA kc eA ec m N S own A b c left tA tc qb xA xc cols):zhi W0 w H q rA rc lA bA bc_ kA kc eA ec m N S own A b c left tA tc cols:=⟨qb,xA,xc,h⟩
end TabP
namespace zhi
theorem below(h:zhi W0 w H q rA rc lA bA bc_ kA kc eA ec m N S own A b c left tA tc cols)(a:Below w w w'):zhi W0 w' H q rA rc lA bA bc_ kA kc eA ec m N S own A b c left tA tc cols:=by obtain⟨qb,xA,xc,h⟩:=h;exact⟨qb,xA,xc,h.below a⟩
theorem alloc(h:zhi W0 w H q rA rc lA bA bc_ kA kc eA ec m N S own A b c left tA tc cols)(o:Obj):zhi W0 (w.alloc o) H q rA rc lA bA bc_ kA kc eA ec m N S own A b c left tA tc cols:=h.below (zae w o)
theorem drew(h:zhi W0 w H q rA rc lA bA bc_ kA kc eA ec m N S own A b c left tA tc cols):zhi W0 w.drew H q rA rc lA bA bc_ kA kc eA ec m N S own A b c left tA tc cols:=h.below (zap w 1)
theorem hle(h:zhi W0 w H q rA rc lA bA bc_ kA kc eA ec m N S own A b c left tA tc cols):H<=w.heap.size:=by obtain⟨qb,xA,xc,h⟩:=h;exact h.hle
theorem basis(h:zhi W0 w H q rA rc lA bA bc_ kA kc eA ec m N S own A b c left tA tc cols):Basis m N A cols:=by obtain⟨qb,xA,xc,h⟩:=h;exact h.basis
theorem std(h:zhi W0 w H q rA rc lA bA bc_ kA kc eA ec m N S own A b c left tA tc cols):StdP W0 rA rc lA bA bc_ kA kc eA ec m N S A b c left:=by obtain⟨qb,xA,xc,h⟩:=h;exact h.std
end zhi
end
theorem zpB{o:Obj}(h:w.heap[a]? = some o)(d:a≠b)(u v x:Value):(((w.setCell ⟨b,i,none⟩ u).setCell ⟨b,j,none⟩ v).setCell ⟨b,k,none⟩ x).heap[a]? = some o:=by rw[ZE _ _ _ _ d,ZE _ _ _ _ d,ZE _ _ _ _ d];exact h
namespace Bs
theorem solve(H q n S T:Nat)(C:List (List Rat))(A:OA)(cA:Nat)(v:List Rat)(H':Nat)(w:World)(l:zjE w H q n S C)(f:VecS w H' (A,n,cA) v)(u:n<=64)(zv:∀x∈v,mw x<=T)(hT:1<=T)(bm:zpS n S T<=LIM) :
  Calls prog 147 #[.pointer (some ⟨q,0,none⟩),(A,n,cA)] w (zcd w (zes n C v) true):=by
 obtain⟨b9,cc,lc,K,ql,F,D,eA,ec,le,es,r⟩:=l;have aQ:=zoC r.right.base.1 r.right.base.2.1 r.right.base.2.2 r.fac;refine μ5 u aQ zv hT bm λHN HF dI dH aG=>?_;have dQ:es.length<=9223372036854775807:=by have:=r.few;omega
 have dX:n<=9223372036854775807:=ω;refine μ3 r f (Zj w.heap.size w) λI bT BB=>?_;obtain⟨k0,_,k1,_,k2,d0⟩:=bc3 r.blk;refine μ4 (zvq r.right v) (λt (ht:t<=es.length)=>zsc (t:=t) zo5 r.right (v:=v) (T:=T) (λi hi=>zrz zv (by rw[<-f.len];exact hi)) ht) (ywm zo5 aQ.1 (yv8 r.right.base.1 r.right.base.2.2) (λi (hi:i<n)=>zrz zv (by rw[<-f.len];exact hi))) (λt e (E:es[t]? = some e)=>zrn zo5 r.right E) λbR bS bQ bE=>?_;clear r f u aQ zv hT bm;go_enter func147,ntmps147;go_wp2_with fail
 with_reducible refine(Lu.solve K ql n (uB n S) (sB n S T) F A cA v H' _ I.o.lu bT.o HN.o HF.o.1.pr HF.o.2 HF.o.1.piv bQ.o (zHx aG.o)).mono ?_
 rintro e w1 ⟨B,n1,c1,rfl,hv1,hb⟩;have HX:=un (hv1);have cP:=un (BB.o.trans ((hb).mono BB.o.size));have cR:=zab hb k2;have d1:=zaa cR;clear hv1 hb;obtain rfl:n=n1:=by rw[HX.o.len,zlb]
 have bX:=un (show VecS w1 w (B,n,c1) (zix n (es.take 0) (zes n D v))by rw[zxE I.o.fac];exact HX.o);go_wp2
 go_loopw [27] (λi wr=>∃t:Nat,i=.int .i64 t/\t<=es.length/\VecS wr w (B,n,c1) (zix n (es.take t) (zes n D v))/\Below w w wr)
  (λi _=>es.length-(intOf i).toNat)
 case atStart=>exact⟨0,rfl,Zb _,bX.o,cP.o⟩
 obtain⟨t,rfl,ht,f,l⟩:=hrel;by_cases ci:t<es.length
 ·obtain⟨⟨k,a⟩,E⟩:∃e,es[t]? = some e:=⟨es[t],Ze ci⟩
  obtain⟨hk,M,aS,aV⟩:=bE.o t _ E
  dsimp only at hk M aS aV
  have aX:=bS.o t ht;have ao:=zsd (n:=n) E (zes n D v)
  dsimp only at ao
  have aW:(zix n (es.take t) (zes n D v)).length=n:=f.len.symm;obtain⟨X,hX⟩:∃X,X=zix n (es.take t) (zes n D v):=⟨_,rfl⟩
  rw[<-hX]at f aX ao aW;refine μ6 ao aW aX aV M aS λbI bY aN aM bV bJ=>?_;obtain⟨be,rfl,_,_⟩:=I.o.etas.has ω;obtain⟨Ae,p,y0,y1,z⟩:=(I.o.etas.below l).at_ E
  dsimp only at y0 y1 z
  rw[M]at y1 z;obtain⟨d,rfl,dN,dO⟩:=z.has ω;obtain⟨bC,cd,_,aC,L⟩:=I.o.etas.at_ E
  dsimp only at aC L
  rw[M]at aC L;have bp:Value.slice bC n cd=.slice (some ⟨d,0,none⟩) n p:=by have h1:=zab l aC;rw[y1]at h1;injection h1 with h1;exact h1.symm
  rw[bp]at L;have bW:=un L;clear bp L aC;obtain⟨g,rfl,bl,dP⟩:=f.has ω;have bn:=zaH (xs:=a) (j:=k) ω;have bo:=zaH (xs:=X) (j:=k) ω;obtain⟨ga,O,ma,ca,U,av,ad,a0,a1,a2,bc⟩:=f.at_ bo;obtain⟨gb,P,mb,cb,V,aw,ae,b0,b1,b2,bd⟩:=z.at_ bn;refine μ4 (f) (show RatS wr ga (O,ma,ca) (U,av,ad) (el X k)from bc) (show RatS wr gb (P,mb,cb) (V,aw,ae) (el a k)from bd) (Bel.mk l) λHV bK bL HW=>?_;have cQ:=zab l k0;have cT:χ wr be (t*2) (.int .i64 (k:Int)):=y0;have cU:χ wr be (t*2+1) (d,n,p):=y1;have cV:χ wr g (k*3) (.bool ga):=a0;have cZ:χ wr g (k*3+1) (O,ma,ca):=a1;have c3:=a2;have c6:=b0;have df:χ wr d (k*3+1) (P,mb,cb):=b1;have dq:χ wr d (k*3+2) (V,aw,ae):=b2;refine μ3 (show 4*(mw (el X k)+mw (el a k))+8<=LIM by have h1:=aN.o k hk;have h2:=aM.o k hk;have h3:=zyh aG.o;omega) (show ∀j,j<n->4*(mw (el a j)+mw (el X k/el a k))+8<=LIM/\4*(mw (el X j)+mw (el a j*(el X k/el a k)))+8<=LIM from λj hj=>by have h1:=aN.o k hk;have h2:=aM.o k hk;have h3:=zyh aG.o;have h4:=zo5.div (el X k) (el a k);have h5:=aN.o j hj;have h6:=aM.o j hj;have h7:=zdI (el a j) (el X k/el a k);omega) (zuG (k:=k) (w:=a) bY.o) λL1 L2 bZ=>?_;clear f l E M aS aV aX ao aW hX z bn bo bc bd y0 y1 a0 a1 a2 b0 b1 b2;have dR:(0:Int)<=(t:Int):=Zf _;have dS:(t:Int)<(es.length:Int):=ω;have dT:(0:Int)<=(k:Int):=Zf _;have dU:(k:Int)<(n:Int):=ω;have bk:g≠wr.heap.size:=ω;go_wp2_with fail
  have s:=zae wr (.cells #[(k:Int),(d,n,p)] 248);refine μ4 (HV.o.below s) (bK.o.below s) (bL.o.below s) (HW.o.below s) λdt dE dF dr=>?_;have cS:=zab s cQ;have co:=zaa cS;have cW:=zab s cT;have cs:=zaa cW;have cY:=zab s cU;have cu:=zaa cY;have cX:=zab s cV;have cx:=zaa cX;have c0:=zab s cZ;have cz:=zaa c0;have c5:=zab s c3;have cC:=zaa c5;have c7:=zab s c6;have cE:=zaa c7;have c8:=zab s df;have cG:=zaa c8;have c9:=zab s dq;have cI:=zaa c9;have dg:χ (wr.alloc (.cells #[(k:Int),(d,n,p)] 248)) wr.heap.size 0 (.int .i64 (k:Int)):=zac (zal _ _ _) 0;have cK:=zaa dg;have db:χ (wr.alloc (.cells #[(k:Int),(d,n,p)] 248)) wr.heap.size 1 (d,n,p):=zac (zal _ _ _) 1;have cq:=zaa db;have KE:=un (zal wr #[(k:Int),(d,n,p)] 248);go_cut[] (λwy=>VecS wy w (g,n,c1) (zoA n k a X 0)/\θ wy wr.heap.size #[(k:Int),(d,n,p)] 248/\Below w w wy)
  case first =>
   refine za2 (S:=λw'=>χ w' q 0 (b9,n,cc)/\χ w' be (t*2) (.int .i64 (k:Int))/\χ w' be (t*2+1) (d,n,p)/\χ w' g (k*3) (.bool ga)/\χ w' g (k*3+1) (O,ma,ca)/\χ w' g (k*3+2) (U,av,ad)/\χ w' d (k*3) (.bool gb)/\χ w' d (k*3+1) (P,mb,cb)/\χ w' d (k*3+2) (V,aw,ae)/\χ w' wr.heap.size 0 (.int .i64 (k:Int))/\χ w' wr.heap.size 1 (d,n,p)) 19 (h:=λhHeld=>?_);refine zaw [0,1,2,3,4,5,6,7,8,9,10,11,12,13] ?_;repeat refine tkE (hS:=hHeld) (h:=?_)
   refine zao ?_;refine zaN 14 (h:=λK o=>?_);go_simp;(go_at_call 159;(with_reducible refine(Rt.div ga O ma ca U av ad (el X k) gb P mb cb V aw ae (el a k) _ dE.o.drew dF.o.drew bJ.o L1.o).mono ?_);rintro e u1 ⟨g2,A2,m2,c2,D2,md2,cd2,rfl,u,hb⟩;refine μ3 (dt.o.drew.below hb) (dr.o.drew.below hb) (u) λaD c4 HS=>?_;have ed:=zab hb co;have ee:=zab hb cs;have ef:=zab hb cu;have eg:=zab hb cx;have eh:=zab hb cz;have ej:=zab hb cC;have ek:=zab hb cE;have em:=zab hb cG;have en:=zab hb cI;have eo:=zab hb cK;have ei:=zab hb cq;have b4:=un (zad hb KE.o);have cm:=aD.o.fro (k*3);have of1:=aD.o.fro (k*3+1);have cn:=aD.o.fro (k*3+2);clear u hb);(try go_wp2_with fail);refine shutOn o λhHeld=>?_;clear o K;refine zaw [15,16] ?_;repeat refine tkE (hS:=hHeld) (h:=?_)
   refine zao ?_;refine zfQ (i:=17) (v:=?_) rfl ξ (λ_ _ _ h=>h) (Or.inl ⟨by rfl,?_⟩) ?_
   rotate_left
   ·((intro w ch;(try dsimp only at ch);go_simp);(try with_reducible rfl))
   try simp only[Act.put,pu1,pu2,pu3,pu4,pu5,pu6]
   refine zaw [18] ?_;repeat refine tkE (hS:=hHeld) (h:=?_)
   refine zao ?_;refine zba (h:=λK o=>?_);go_simp;refine shutOff o ?_;clear o K;refine za1 (h:=?_);go_wp2;go_meet
   case rel=>exact⟨by rw[<-bZ.o];exact aD.o.store k HS.o,zpB b4.o (Z4 bk) _ _ _,(Bel.set3 c4.o bl _ _ _).b⟩
  rename World=>wy
  obtain⟨f,y,l⟩:=hcut;refine μ3 f y l λbU bF bD=>?_;clear f y l;go_wp2
  go_loopw [52] (λi aY=>∃j:Nat,i=.int .i64 j/\j<=n/\VecS aY w (g,n,c1) (zoA n k a X j)/\θ aY wr.heap.size #[(k:Int),(d,n,p)] 248/\Below w w aY)
   (λi _=>n-(intOf i).toNat)
  case atStart=>exact⟨0,rfl,Zb _,bU.o,bF.o,bD.o⟩
  rename World=>wz
  obtain⟨j,rfl,hj,f,y,l⟩:=hrel;by_cases aR:j<n
  ·have z:=bW.o.below l;have aT:=zaH (xs:=a) (j:=j) (by have:=bV.o;omega);have ap:(zoA n k a X j)[j]? = some (if j=k then el X k/el a k else if j<j then el X j-el a j*(el X k/el a k)else el X j):=zkJ aR;have aq:(zoA n k a X j)[k]? = some (if k=k then el X k/el a k else if k<j then el X k-el a k*(el X k/el a k)else el X k):=zkJ hk;rw[if_pos rfl]at aq;have e0:=zac y 0;have e1:=zac y 1;simp only[Xa,Z9,XH]at e0 e1
   have dV:(0:Int)<=(j:Int):=Zf _;have dW:(j:Int)<(n:Int):=ω;by_cases an:j=k
   ·obtain rfl:k=j:=an.symm;refine μ3 f y l λJ aI G=>?_;clear f y l ap aq aT z;go_wp2;go_roundw
    case rel=>exact⟨k+1,by go_num,ω,by rw[<-zuF];exact J.o,aI.o,G.o⟩
    case measure=>simp[intOf];omega
   rw[if_neg an,if_neg (XW j)]at ap;obtain⟨gj,Q,mj,cj,W,ax,af,p0,p1,p2,bf⟩:=f.at_ ap;obtain⟨gk,R,mk,ck,Y,ay,ag,r0,r1,r2,bg⟩:=f.at_ aq;obtain⟨gv,Av,mv,cv,Z,az,ah,s0,s1,s2,bh⟩:=z.at_ aT;have bP:=un (zwI (n:=n) (k:=k) (w:=a) (x:=X) an aR);have a4:=un (L2.o j aR);have dY:((j:Int) == (k:Int))=false:=by simp;omega
   refine μ5 (f) (show RatS wz gj (Q,mj,cj) (W,ax,af) (el X j)from bf) (show RatS wz gk (R,mk,ck) (Y,ay,ag) (el X k/el a k)from bg) (show RatS wz gv (Av,mv,cv) (Z,az,ah) (el a j)from bh) (Bel.mk l) λHV bM bN bO HW=>?_;have da:χ wz wr.heap.size 0 (.int .i64 (k:Int)):=e0;have cp:=zaa da;have dc:χ wz wr.heap.size 1 (d,n,p):=e1;have ct:=zaa dc;have dv:χ wz g (j*3) (.bool gj):=p0;have cw:=zaa dv;have dw:χ wz g (j*3+1) (Q,mj,cj):=p1;have cy:=zaa dw;have dx:χ wz g (j*3+2) (W,ax,af):=p2;have cB:=zaa dx;have dy:χ wz g (k*3) (.bool gk):=r0;have cD:=zaa dy;have dz:χ wz g (k*3+1) (R,mk,ck):=r1;have cF:=zaa dz;have dA:χ wz g (k*3+2) (Y,ay,ag):=r2;have cH:=zaa dA;have cN:χ wz d (j*3) (.bool gv):=s0;have cJ:=zaa cN;have cO:χ wz d (j*3+1) (Av,mv,cv):=s1;have cL:=zaa cO;have du:χ wz d (j*3+2) (Z,az,ah):=s2;have cr:=zaa du;have aI:=un y;clear f y l ap aq aT z bf bg bh e0 e1 p0 p1 p2 r0 r1 r2 s0 s1 s2 an;go_wp2_with fail
   refine za2 (S:=λw'=>χ w' wr.heap.size 0 (.int .i64 (k:Int))/\χ w' wr.heap.size 1 (d,n,p)/\χ w' g (j*3) (.bool gj)/\χ w' g (j*3+1) (Q,mj,cj)/\χ w' g (j*3+2) (W,ax,af)/\χ w' g (k*3) (.bool gk)/\χ w' g (k*3+1) (R,mk,ck)/\χ w' g (k*3+2) (Y,ay,ag)/\χ w' d (j*3) (.bool gv)/\χ w' d (j*3+1) (Av,mv,cv)/\χ w' d (j*3+2) (Z,az,ah)) 19 (h:=λhHeld=>?_);refine zaw [0,1,2,3,4,5,6,7,8,9,10,11,12,13,14,15] ?_;repeat refine tkE (hS:=hHeld) (h:=?_)
   refine zao ?_;refine zaN 16 (h:=λK o=>?_);go_simp;(go_at_call 29;(with_reducible refine(Rt.mul gv Av mv cv Z az ah (el a j) gk R mk ck Y ay ag (el X k/el a k) _ bO.o.drew bN.o.drew a4.o.1).mono ?_);rintro e u1 ⟨g1,A1,m1,c1_,D1,md1,cd1,rfl,u,hb⟩;refine μ4 (HV.o.drew.below hb) (bM.o.drew.below hb) (HW.o.drew.below hb) (u) λdd cM ds HM=>?_;have dh:=zab hb cp;have di:=zab hb ct;have dj:=zab hb cw;have dk:=zab hb cy;have dl:=zab hb cB;have dm:=zab hb cD;have dn:=zab hb cF;have dp:=zab hb cH;have dB:=zab hb cJ;have dC:=zab hb cL;have de:=zab hb cr;have b5:=un (zad hb (show wz.drew.heap[wr.heap.size]? = _ from aI.o));clear u hb);(try go_wp2_with fail);refine shutOn o λhHeld=>?_;clear o K;refine zaN 17 (h:=λK o=>?_);go_simp;(go_at_call 31;(with_reducible refine(Rt.sub gj Q mj cj W ax af (el X j) g1 A1 m1 c1_ D1 md1 cd1 (el a j*(el X k/el a k)) _ cM.o HM.o a4.o.2).mono ?_);rintro e u2 ⟨g2,A2,m2,c2,D2,md2,cd2,rfl,u,hb⟩;refine μ3 (dd.o.below hb) (ds.o.below hb) (u) λaE dD HS=>?_;have d8:=zab hb dh;have d9:=zab hb di;have ea:=zab hb dj;have eb:=zab hb dk;have d2:=zab hb dl;have d3:=zab hb dm;have d4:=zab hb dn;have d5:=zab hb dp;have d6:=zab hb dB;have d7:=zab hb dC;have ep:=zab hb de;have b6:=un (zad hb b5.o);have cm:=aE.o.fro (j*3);have of1:=aE.o.fro (j*3+1);have cn:=aE.o.fro (j*3+2);clear u hb);(try go_wp2_with fail);refine shutOn o λhHeld=>?_;clear o K;refine zaw [18] ?_;repeat refine tkE (hS:=hHeld) (h:=?_)
   refine zao ?_;refine zba (h:=λK o=>?_);go_simp;refine shutOff o ?_;clear o K;refine za1 (h:=?_);go_wp2;go_roundw
   case rel=>exact⟨j+1,by go_num,ω,by rw[<-bP.o];exact aE.o.store j HS.o,zpB b6.o (Z4 bk) _ _ _,(Bel.set3 dD.o bl _ _ _).b⟩
   case measure=>simp[intOf];omega
  obtain rfl:n=j:=ω;have J:=un f;have G:=un l;clear f y l;go_wp2;go_roundw
  case rel=>exact⟨t+1,by go_num,ω,by rw[bI.o,<-zuE];exact J.o,G.o⟩
  case measure=>simp[intOf];omega
 obtain rfl:es.length=t:=ω;have J:=un f;have G:=un l;clear f l;go_wp2;refine Zh (v:=.tuple #[(B,n,c1),true]) (by simp[results,results147,go_sem]) rfl ?_;exact⟨_,_,_,rfl,by have h:=J.o;rw[XK,bR.o]at h;exact h,G.o⟩
end Bs
namespace Vc
theorem nought(n:Nat)(d:n<=64)(w:World):Calls prog 156 #[(n:Int)] w (zcd w (List.replicate n 0) true):=by
 have h1:decide ((n:Int)<0)=false:=σ;have j:decide ((64:Int)<(n:Int))=false:=by simp;omega
 have g:=un d;clear d;go_enter func156,ntmps156;go_wp2_with (at_make;go_must (refine zdv rfl _ _ rfl n _ rfl rfl rfl (by have:=g.o;omega) w.heap.size rfl ?_;intro w1 e a;have i:=un e;have f:=un a;clear e a))
 refine Zh (v:=.tuple #[(w.heap.size,n,n),true]) (by simp[results,results156,go_sem]) rfl ?_;exact⟨_,_,_,rfl,i.o,f.o⟩
theorem unit(n k:Nat)(g:n<=64)(hk:k<n)(w:World):Calls prog 114 #[(n:Int),(k:Int)] w (zcd w (zdL n k) true):=by
 have h1:decide ((k:Int)<0)=false:=σ;have z:decide ((n:Int)<=(k:Int))=false:=by simp;omega
 have l:=un g;have C:(0:Int)<=(k:Int):=Zf _;have D:(k:Int)<(n:Int):=ω;clear g;have f:=un (Zj w.heap.size w);go_enter func114,ntmps114;go_wp2_with fail
 with_reducible refine(nought n l.o _).mono ?_
 rintro e w1 ⟨A,n1,c1,rfl,hv,hb⟩;have o:=un (hv);have i:=un (f.o.trans ((hb).mono f.o.size));clear hb;have r:n1=n:=by have:=hv.len;rw[ZO]at this;exact this
 subst r;obtain⟨b,rfl,d,B⟩:=hv.has ω;clear hv;go_wp2_with fail
 with_reducible refine(Rt.int 1 δ δ _).mono ?_
 rintro e s ⟨g2,A2,m2,c2,D2,md2,cd2,rfl,hn2,hb⟩;refine μ3 (o.o.below hb) (hn2) (i.o.trans ((hb).mono i.o.size)) λa j t=>?_;clear hn2 hb;obtain⟨go,u,G,co,x,E,y,I,J,K,_⟩:=a.o.at_ (k:=k) (q:=0) (by rw[Z8,if_pos hk]);have L:=a.o.fro (k*3);have of1:=a.o.fro (k*3+1);have M:=a.o.fro (k*3+2);go_wp2;refine Zh (v:=.tuple #[(b,n1,c1),true]) (by simp[results,results114,go_sem]) rfl ?_;exact⟨_,_,_,rfl,by unfold zdL;exact a.o.store k j.o,(Xf (Xf (Xf t.o (p:=⟨b,k*3,none⟩) d _) (p:=⟨b,k*3+1,none⟩) d _) (p:=⟨b,k*3+2,none⟩) d _)⟩
end Vc
theorem zrM{kl ku:Nat}{U:List (List Rat)}(h1:VecsL w H (b,kl,lc) ll L)(f:VecsL w H (b,ku,uc) ul U)(y:0<kl)(k2:0<ku)
  (hr:∀r∈L,0<r.length) (rows:∀a∈ll,∀b∈ul,∀g,a.ownBlock=some g->b.ownBlock≠some g):False:=by
 have t:=h1.nlen;have x:=f.nlen;obtain⟨r,i⟩:∃r,L[0]? = some r:=⟨L[0]' ω,Ze _⟩
 obtain⟨u,s⟩:∃u,U[0]? = some u:=⟨U[0]' ω,Ze _⟩
 obtain⟨A,c,j,l,o⟩:=h1.at_ i;obtain⟨B,d,p,e,_⟩:=f.at_ s;rw[l]at e;injection e with e;obtain⟨g,rfl,_,_⟩:=o.has (hr r (Zz i));exact rows _ (Zz j) _ (Zz p) g rfl (by rw[<-e];rfl)
theorem zgr{o:Oper}{a:Act}{K:Act->World->Prop}{Q:Exit->Act->World->Prop}(s x:Operand)
  (G:o.op=.call { callee:=.builtin .append,args:=#[s,x],argTypes:=#[110,110] })     (J:a.eval s=v) (g:VecsL w H v l L)  (M:a.eval x=.slice (some ⟨b,0,none⟩) 1 1)
  {i:Value}  (B:θ w b #[i] 30) (hr:VecS w H i r)  (D:L.length=n) (U:n+1<=1000000) (t:H<=w.heap.size)
  (z:∀d c' w',VecsL w' H (.slice d (n+1) c') (l++[i]) (L++[r])->TKeep 30 w w'->Below H w w'->(∀j,j<w.heap.size->v.ownBlock≠some j->w'.heap[j]? = w.heap[j]?)->K (a.put o.dst (.slice d (n+1) c')) w') :
  Oper.wp prog o a w K Q:=by
 subst D;obtain⟨T,hi,O,P,R⟩:=info_parts zrA
 refine wp_append_own w s x 110 G H 30 T _ 1 24 underlying110 hi O P R rfl δ v L.length l J g.own ⟨b,0,none⟩ 1 1 [i] M rfl (zrj B)
  (by intro u y;simp at y;subst y;exact hr.one) (by unfold maxLen;omega) ω t ?_
 intro V w' I f _;have p:=g.append hr I f;obtain⟨d,c',rfl⟩:=p.slice;rw[ZD]at p;have C:=z d c' w' p (TKeep.grown g.own f) ((Zj _ _).grown f t (λk hk=>(g.own.lt k hk).1)) (λj hj E=>f.block j hj (λe=>E e.symm));grind
theorem zbW{ops:Array Oper}{rest:List Oper}{o:Oper}{a:Act}{Q:Exit->Act->World->Prop}(z:o.guard=none)(s x:Operand)
  (D:o.op=.call { callee:=.builtin .append,args:=#[s,x],argTypes:=#[110,110] })     (E:a.eval s=v) (G:VecsL w H v l L)  (I:a.eval x=.slice (some ⟨b,0,none⟩) 1 1)
  {e:Value}  (y:θ w b #[e] 30) (hr:VecS w H e r)  (C:L.length=n) (B:n+1<=1000000) (p:H<=w.heap.size)
  (t:∀d c' w',VecsL w' H (.slice d (n+1) c') (l++[e]) (L++[r])->TKeep 30 w w'->Below H w w'->(∀j,j<w.heap.size->v.ownBlock≠some j->w'.heap[j]? = w.heap[j]?)->wpList prog ops Q rest (a.put o.dst (.slice d (n+1) c')) w') :
  wpList prog ops Q (o::rest) a w :=
 by grind[wpList_plain,zgr]
theorem zet{ops:Array Oper}{o:Oper}{a:Act}{K:Act->World->Prop}{Q:Exit->Act->World->Prop}{E:Prop}(hg:o.guard=none)(s x:Operand)
  (u:o.op=.call { callee:=.builtin .append,args:=#[s,x],argTypes:=#[110,110] })     (y:a.eval s=v) (z:VecsL w H v l L)  (B:a.eval x=.slice (some ⟨b,0,none⟩) 1 1)
  {d:Value}  (i:θ w b #[d] 30) (hr:VecS w H d r)  (t:L.length=n) (p:n+1<=1000000) (f:H<=w.heap.size)
  (g:∀e c' w',VecsL w' H (.slice e (n+1) c') (l++[d]) (L++[r])->TKeep 30 w w'->Below H w w'->(∀j,j<w.heap.size->v.ownBlock≠some j->w'.heap[j]? = w.heap[j]?)->K (a.put o.dst (.slice e (n+1) c')) w') :
  if Region.wanted o (yielded ops a.tmps)=true then Oper.wp prog o a w K Q else E:=by
 have hw:Region.wanted o (yielded ops a.tmps)=true:=by simp[Region.wanted,hg]
 rw[if_pos hw];grind[zgr]
theorem ziP{ops:Array Oper}{rest:List Oper}{o:Oper}{a:Act}{Q:Exit->Act->World->Prop}(e:o.guard=none)(s x:Operand)
  (u:o.op=.call { callee:=.builtin .append,args:=#[s,x],argTypes:=#[41,41] })    (y:a.eval s=v) (B:IntsS w H v xs)  (C:a.eval x=.slice (some ⟨b,0,none⟩) 1 1)
   (p:θ w b #[(z:Int)] 3)  (t:xs.length=n) (r:n+1<=1000000) (i:H<=w.heap.size)
  (j:∀d c' w',IntsS w' H (.slice d (n+1) c') (xs++[z])->TKeep 3 w w'->Below H w w'->wpList prog ops Q rest (a.put o.dst (.slice d (n+1) c')) w') :
  wpList prog ops Q (o::rest) a w:=by
 refine wpList_plain e λK l=>?_;have h:=zll (ops:=ops) (K:=K) (Q:=Q) (E:=True) e s x u y B C p t r i λd c' w' h1 f g=>l _ _ (j d c' w' h1 f g)
 have hw:Region.wanted o (yielded ops a.tmps)=true:=by simp[Region.wanted,e]
 rw[if_pos hw]at h;exact h
structure LuG (w:World) (H q n kl ku kp:Nat) (lA:OA) (lc:Nat) (ll:List Value) (uA:OA) (uc:Nat) (ul:List Value) (pA:OA) (pc:Nat) (F:LUv):Prop where
  blk:θ w q #[(lA,kl,lc),(uA,ku,uc),(pA,kp,pc),.bool F.odd] 265
  lo:VecsL w H (lA,kl,lc) ll F.lo
  la:zbG ll
  up:VecsL w H (uA,ku,uc) ul F.up
  ua:zbG ul
  rows:∀a∈ll,∀b∈ul,∀g,a.ownBlock=some g->b.ownBlock≠some g
  perm:IntsS w H (pA,kp,pc) F.perm
  own:H<=q
  l0:kl=0->lA=none
  lr:∀r∈F.lo,r.length=n
  ur:∀r∈F.up,r.length=n
  sep:∀g,(Value.slice lA kl lc).ownBlock=some g->(Value.slice uA ku uc).ownBlock≠some g
theorem zxu(h:(Value.slice A n c).ownBlock=some g)(a:A=none\/A=some ⟨b,0,none⟩):A=some ⟨g,0,none⟩:=by
 rcases a with rfl | rfl;cases h;have:b=g:=by injection h
 rw[this]
namespace LuG
variable {w w':World} {H q n kl ku kp:Nat} {lA:OA} {lc:Nat} {ll:List Value} {uA:OA} {uc:Nat} {ul:List Value} {pA:OA} {pc:Nat} {F:LUv}
theorem below(h:LuG w H q n kl ku kp lA lc ll uA uc ul pA pc F)(a:Below w w w'):LuG w' H q n kl ku kp lA lc ll uA uc ul pA pc F :=
 ⟨by rw[a.block q (ZS.1 h.blk).1];exact h.blk,h.lo.below a,h.la,h.up.below a,h.ua,h.rows,h.perm.below a,h.own,h.l0,h.lr,h.ur,h.sep⟩
theorem alloc(h:LuG w H q n kl ku kp lA lc ll uA uc ul pA pc F)(o:Obj):LuG (w.alloc o) H q n kl ku kp lA lc ll uA uc ul pA pc F:=h.below (zae w o)
theorem drew(h:LuG w H q n kl ku kp lA lc ll uA uc ul pA pc F):LuG w.drew H q n kl ku kp lA lc ll uA uc ul pA pc F:=h.below (zap w 1)
theorem qlt(h:LuG w H q n kl ku kp lA lc ll uA uc ul pA pc F):q<w.heap.size:=(ZS.1 h.blk).1
theorem addr{H:Nat}(h:VecsL w H v l L)(e:v=(A,k,c)):A=none\/∃b,A=some ⟨b,0,none⟩:=by subst e;obtain⟨_,_,_,h1 | ⟨g,h1,_⟩⟩:=h.form;exact .inl h1.1;grind
theorem shape{H:Nat}(h:VecsL w H (A,k,c) l L)(e:(Value.slice A k c).ownBlock=some g):A=some ⟨g,0,none⟩:=by grind[addr,zxu]
theorem pushU(h:LuG w H q n kl ku kp lA lc ll uA uc ul pA pc F)(E:0<n){f:OA}{p:Value}(i:VecsL w' H (f,ku+1,c') (ul++[p]) (F.up++[r]))(hk:TKeep 30 w w')
  (C:∀j,j<w.heap.size->(Value.slice uA ku uc).ownBlock≠some j->w'.heap[j]? = w.heap[j]?) (hr:r.length=n) (t:∀g,p.ownBlock=some g->(∀a∈ll,a.ownBlock≠some g)/\∀a∈ul,a.ownBlock≠some g) :
  LuG (w'.setCell ⟨q,1,none⟩ (f,ku+1,c')) H q n kl (ku+1) kp lA lc ll f c' (ul++[p]) pA pc { F with up:=F.up++[r] }:=by
 have x:=hk.blk h.blk δ;have s:TKeep 265 w' (w'.setCell ⟨q,1,none⟩ (f,ku+1,c')):=TKeep.set x _;have l:=h.lo.keepAll (λj hj=>C j (h.lo.own.lt j hj).2 (h.sep j hj)) λ_ _ _ v=>v.tk hk δ δ
 have y:∀a∈ll,∀b∈ul++[p],∀g,a.ownBlock=some g->b.ownBlock≠some g:=λa u b d g hg=>by rcases ZU.1 d with d | d;exact h.rows a u b d g hg;grind
 refine⟨?_,l.tk s δ δ δ,h.la,i.tk s δ δ δ,h.ua.push λg b hg d=>(t g hg).2 b d,y,(h.perm.tk hk δ).tk s δ,h.own,h.l0,h.lr,λr' G=>?_,λg h1 D=>?_⟩;have:=zar (o:=1) (f,ku+1,c') x;grind;rcases ZU.1 G with h1 | h1;exact h.ur r' h1;grind;have z:=shape l h1;have B:=shape i D;by_cases I:kl=0;rw[h.l0 I]at h1;cases h1;rw[z]at l;rw[B]at i;exact zrM l i ω ω (λr hr=>by rw[h.lr r hr];exact E) y
theorem pushL(h:LuG w H q n kl ku kp lA lc ll uA uc ul pA pc F)(I:0<n)(G:0<ku){d:OA}{s:Value}(i:VecsL w' H (d,kl+1,c') (ll++[s]) (F.lo++[r]))(hk:TKeep 30 w w')
  (D:∀j,j<w.heap.size->(Value.slice lA kl lc).ownBlock≠some j->w'.heap[j]? = w.heap[j]?) (hr:r.length=n) (u:∀g,s.ownBlock=some g->(∀a∈ll,a.ownBlock≠some g)/\∀a∈ul,a.ownBlock≠some g) :
  LuG (w'.setCell ⟨q,0,none⟩ (d,kl+1,c')) H q n (kl+1) ku kp d c' (ll++[s]) uA uc ul pA pc { F with lo:=F.lo++[r] }:=by
 have x:=hk.blk h.blk δ;have t:TKeep 265 w' (w'.setCell ⟨q,0,none⟩ (d,kl+1,c')):=TKeep.set x _;have p:=h.up.keepAll (λj hj=>D j (h.up.own.lt j hj).2 (λe=>h.sep j e hj)) λ_ _ _ v=>v.tk hk δ δ
 have z:∀a∈ll++[s],∀b∈ul,∀g,a.ownBlock=some g->b.ownBlock≠some g:=λa f b l g hg=>by rcases ZU.1 f with f | f;exact h.rows a f b l g hg;grind
 have y:∀r'∈F.lo++[r],r'.length=n:=λr' J=>by rcases ZU.1 J with h1 | h1;exact h.lr r' h1;grind
 refine⟨?_,i.tk t δ δ δ,h.la.push λg b hg l=>(u g hg).1 b l,p.tk t δ δ δ,h.ua,z,(h.perm.tk hk δ).tk t δ,h.own,λe=>absurd e ω,y,h.ur,λg h1 E=>?_⟩;have:=zar (o:=0) (d,kl+1,c') x;grind;have B:=shape i h1;have C:=shape p E;rw[B]at i;rw[C]at p;grind[zrM]
theorem pushP(h:LuG w H q n kl ku kp lA lc ll uA uc ul pA pc F){a:OA}(f:IntsS w' H (a,kp+1,c') (F.perm++[z]))(hk:TKeep 3 w w') :
  LuG (w'.setCell ⟨q,2,none⟩ (a,kp+1,c')) H q n kl ku (kp+1) lA lc ll uA uc ul a c' { F with perm:=F.perm++[z] }:=by
 have e:=hk.blk h.blk δ;have d:TKeep 265 w' (w'.setCell ⟨q,2,none⟩ (a,kp+1,c')):=TKeep.set e _;refine⟨?_,(h.lo.tk hk δ δ δ).tk d δ δ δ,h.la,(h.up.tk hk δ δ δ).tk d δ δ δ,h.ua,h.rows,f.tk d δ,h.own,h.l0,h.lr,h.ur,h.sep⟩;have:=zar (o:=2) (a,kp+1,c') e;grind
theorem toS(h:LuG w H q n n n n lA lc ll uA uc ul pA pc F)(a:Sq n F):LuS w H q n F :=
 ⟨⟨lA,lc,ll,uA,uc,ul,pA,pc,h.blk,h.lo,h.la,h.up,h.ua,h.rows,h.perm⟩,h.own,a⟩
theorem toQ(h:LuG w H q n n n n lA lc ll uA uc ul pA pc F)(a:0<n):LuQ w H q n F:=by obtain⟨lb,rfl,_,_⟩:=h.lo.has a;obtain⟨ub,rfl,_,_⟩:=h.up.has a;obtain⟨pb,rfl,_,_⟩:=h.perm.has a;exact⟨lb,lc,ll,ub,uc,ul,pb,pc,h.blk,h.lo,h.la,h.up,h.ua,h.rows,λe=>h.sep lb rfl (by rw[e];rfl),h.perm,h.own⟩
end LuG
def laid (n:Nat) (L:List (List Rat)) (k:Nat):LUv:=⟨List.replicate k (List.replicate n 0),L.take k,List.range k,false⟩
theorem zuY(h:L[k]? = some r):(⟨(laid n L k).lo++[List.replicate n 0],(laid n L k).up++[r],(laid n L k).perm++[k],false⟩:LUv)=laid n L (k+1):=by unfold laid;rw[Xb,h,Yd,Yg];rfl
theorem LuG.start(w:World)(n:Nat)(L:List (List Rat)):LuG (w.alloc (.cells #[(),(),(),false] 265)) w.heap.size w.heap.size n 0 0 0 none 0 [] none 0 [] none 0 (laid n L 0):=by
 refine⟨zal _ _ _,VecsL.nil _ _,zbG.nil,?_,zbG.nil,λa d=>(List.not_mem_nil d).elim,IntsS.nil _ _,Za _,λ_=>rfl,λr hr=>?_,λr hr=>?_,λg h=>by cases h⟩;show VecsL _ _ _ _ (L.take 0);rw[Vf];simp[VecsL.nil]
 exact(List.not_mem_nil hr).elim;have:r∈L.take 0:=hr;rw[Vf]at this;grind
def LuW (w:World) (H q n:Nat) (F:LUv):Prop:=(0<n->LuQ w H q n F)/\(n=0->LuS w H q n F)
theorem LuG.toW{q:Nat}{lA:OA}{uA:OA}{pA:OA}{pc:Nat}{F:LUv}(h:LuG w H q n n n n lA lc ll uA uc ul pA pc F)(d:Sq n F):LuW w H q n F :=
 ⟨λa=>h.toQ a,λ_=>h.toS d⟩
theorem LuW.toS{w:World}{H q n:Nat}{F:LUv}(h:LuW w H q n F)(a:Sq n F):LuS w H q n F:=by by_cases e:n=0;exact h.2 e;exact(h.1 ω).toS a
theorem zrB(h:L.length=n):laid n L n=zg4 n L:=by unfold laid zg4;rw[<-h,XK]
theorem IntsZ.push{w':World}{a:Value}{xs:List Int}(d:w'.ownsRow H 3 1 a (xs.length+1) (zcells xs++[.int .i64 x])):IntsZ w' H a (xs++[x]):=by refine⟨?_⟩;rw[ZD];simpa[zcells]using d
theorem zfS{ops:Array Oper}{rest:List Oper}{o:Oper}{a:Act}{Q:Exit->Act->World->Prop}(t:o.guard=none)(s x:Operand)
  (C:o.op=.call { callee:=.builtin .append,args:=#[s,x],argTypes:=#[41,41] })   {xs:List Int} (E:a.eval s=v) (f:IntsZ w H v xs)  (G:a.eval x=.slice (some ⟨b,0,none⟩) 1 1)
  {z:Int} (r:θ w b #[.int .i64 z] 3)  (B:xs.length=n) (O:n+1<=1000000) (g:H<=w.heap.size)
  (l:∀d c' w',IntsZ w' H (.slice d (n+1) c') (xs++[z])->TKeep 3 w w'->Below H w w'->wpList prog ops Q rest (a.put o.dst (.slice d (n+1) c')) w'):wpList prog ops Q (o::rest) a w:=by
 subst B;obtain⟨M,hi,I,J,L⟩:=info_parts znF;refine wpList_plain t λK p=>?_
 refine wp_append_own w s x 41 C H 3 M _ 1 8 underlying41 hi I J L rfl δ v xs.length (zcells xs) E f.own ⟨b,0,none⟩ 1 1 [.int .i64 z] G rfl (zrj r)
  (by intro u j;simp at j;subst j;rfl) (by unfold maxLen;omega) ω g ?_
 intro P w' D i _;have e:=IntsZ.push D;obtain⟨d,c',rfl⟩:=e.slice;rw[ZD]at e;have y:=l d c' w' e (TKeep.grown f.own i) ((Zj _ _).grown i g (λk hk=>(f.own.lt k hk).1));grind
theorem zfR{ops:Array Oper}{rest:List Oper}{o:Oper}{a:Act}{Q:Exit->Act->World->Prop}(E:o.guard=none)(s x:Operand)
  (G:o.op=.call { callee:=.builtin .append,args:=#[s,x],argTypes:=#[30,30] })    (L:a.eval s=v) (M:VecS w H v qs)  (O:a.eval x=.slice (some ⟨b,0,none⟩) 1 1)
  {g:Bool}   {D:OA} {p f:Nat} {q:Rat} (C:θ w b #[g,(A,m,c),(D,p,f)] 62) (J:RatS w g (A,m,c) (D,p,f) q)  (hN:qs.length=N) (V:N+1<=1000000) (r:H<=w.heap.size)
  (z:∀d c' w',VecS w' H (.slice d (N+1) c') (qs++[q])->TKeep 62 w w'->Below H w w'->wpList prog ops Q rest (a.put o.dst (.slice d (N+1) c')) w'):wpList prog ops Q (o::rest) a w:=by
 subst hN;obtain⟨U,hi,P,R,T⟩:=info_parts ze0;obtain⟨l,h1,y,e⟩:=M.row;refine wpList_plain E λK B=>?_
 refine wp_append_own w s x 30 G H 62 U _ 3 56 underlying30 hi P R T rfl δ v qs.length (rcells l) L e ⟨b,0,none⟩ 1 1 [.bool g,.slice A m c,.slice D p f] O rfl (zC6 C)
  (by intro u t;simp at t;rcases t with rfl | rfl | rfl<;>rfl) (by unfold maxLen;omega) ω r ?_
 intro X w' I j _;have i:=VecS.append h1 y e J I j;obtain⟨d,W,c',rfl⟩:=i.slice;have hl:=i.len;rw[ZD]at hl;simp only[YB,YM,Z6]at hl;subst hl;exact B _ _ (z d c' w' i (TKeep.grown e j) ((Zj _ _).grown j r (λk hk=>(e.lt k hk).1)))
theorem zmp(n:Nat):(Builtin.zeroCells (Value.agg #[false,(),()]).cells n).toList=rcells (List.replicate n (false,.slice none 0 0,.slice none 0 0)):=by
 apply Xc;intro j;have g:(Value.agg #[false,(),()]).cells=#[.bool false,.slice none 0 0,.slice none 0 0]:=rfl;rw[g];by_cases hj:j<n*3;have h1:(Builtin.zeroCells #[false,(),()] n).toList[j]? = some (#[Value.bool false,(),()][j%3]!):=by simp[Builtin.zeroCells,hj]
 have hk:(List.replicate n ((false,.slice none 0 0,.slice none 0 0):RV))[j/3]? = some (false,.slice none 0 0,.slice none 0 0):=by rw[Z8,if_pos ω]
 obtain⟨a,d,f⟩:=ziI _ _ _ hk;rw[h1];grind;rw[Xe (by simp[Builtin.zeroCells];omega),Xe (by rw[zcC];simp;omega)]
theorem zb3{ops:Array Oper}{rest:List Oper}{o:Oper}{a:Act}{Q:Exit->Act->World->Prop}(C:o.guard=none)(s x:Operand)
  (E:o.op=.call { callee:=.builtin .append,args:=#[s,x],argTypes:=#[30,3] })    (I:a.eval s=v) (J:VecS w H v qs)  {M:Int} (L:a.eval x=.int .i64 M) (B:M=(n:Int))
   (hN:qs.length+n=N) (W:N<=1000000) (p:H<=w.heap.size)
  (y:∀f c' w',VecS w' H (.slice f N c') (qs++List.replicate n 0)->TKeep 62 w w'->Below H w w'->wpList prog ops Q rest (a.put o.dst (.slice f N c')) w'):wpList prog ops Q (o::rest) a w:=by
 subst hN;subst B;obtain⟨U,hi,O,R,T⟩:=info_parts ze0;obtain⟨l,h1,u,g⟩:=J.row;refine wpList_plain C λK z=>?_
 obtain⟨V,w',G,t,j⟩:=zgk (P:=prog) w H 30 3 o.type 62 U _ 3 56 .i64 underlying30 underlying3 hi O R T rfl δ v qs.length (rcells l) g n
  (by rw[zmp];exact ziJ _ λr hr=>by obtain⟨_,rfl⟩:=YC.1 hr;exact⟨rfl,rfl⟩) (by unfold maxLen;omega) ω p
 rw[zmp]at t;have hk:=zh3 g j;have i:VecS w' H V (qs++List.replicate n 0):=by
  refine⟨l++List.replicate n (false,.slice none 0 0,.slice none 0 0),by simp[h1],λk r q d e=>?_,by rw[ZD,zh4,ZO];exact t⟩;by_cases D:k<l.length;rw[Z1 D]at d;rw[Z1 ω]at e;exact(u k r q d e).keepT hk;rw[ZJ ω,Z8]at d;rw[ZJ ω,Z8]at e;split at d
  injection d with d;rw[if_pos ω]at e;grind[RatS.zero];cases d
 obtain⟨f,X,c',rfl⟩:=i.slice;have hl:=i.len;rw[ZD,ZO]at hl;subst hl;exact Lib.wp_append_run w s x 30 3 E v _ I L _ w' G (z _ _ (y f c' w' i (TKeep.grown g j) ((Zj _ _).grown j p (λk hk=>(g.lt k hk).1))))
def cnt (rows:List PRow):Nat->Nat
  | 0=>0
  | k+1=>cnt rows k+if (rows.getD k default).kind=3 then 0 else 1
theorem zyi(rows:List PRow)(h:j<=k):cnt rows j<=cnt rows k:=by
 induction k with
 | zero=>rw[Nat.le_zero.1 h];omega
 | succ k ih =>
  by_cases e:j=k+1;rw[e];omega;exact Zl (ih ω) (show cnt rows k<=cnt rows k+_ from Yu _ _)
def zfI (k:Int):Int:=if k=1 then 1 else -1
def zch (rows:List PRow) (k:Nat):List Rat:=(List.range (cnt rows rows.length)).map λt=>if (rows.getD k default).kind≠3/\t=cnt rows k then ((zfI (rows.getD k default).kind:Int):Rat)else 0
def zc3 (rows:List PRow):List (List Rat):=(List.range rows.length).map λk=>(rows.getD k default).coef++zch rows k
def zg8 (rows:List PRow):List Rat:=rows.map λr=>r.rhs
def zjD (cost:List Rat) (rows:List PRow):List Rat:=cost++List.replicate (cnt rows rows.length) 0
def zli (n m:Nat):List Nat:=(List.range m).map λk=>n+k
theorem zrT(h:k<rows.length):(zc3 rows).getD k []=(rows.getD k default).coef++zch rows k:=by unfold zc3;rw[zbU _ _ ψ 0,zcA h]
theorem zql(rows:List PRow)(k:Nat):(zch rows k).length=cnt rows rows.length:=by simp[zch]
theorem zlk(h:∀k,k<rows.length->(rows.getD k default).coef.length=n):Rect rows.length (n+cnt rows rows.length) (zc3 rows) :=
 ⟨by simp[zc3],λi hi=>by rw[zrT hi,ZD,h i hi,zql]⟩
theorem zvs(h:∀k,k<rows.length->(rows.getD k default).coef.length=n){t:Nat}(hk:k<rows.length)(a:t<cnt rows rows.length) :
  en (zc3 rows) k (n+t)=if (rows.getD k default).kind≠3/\t=cnt rows k then ((zfI (rows.getD k default).kind:Int):Rat)else 0:=by
 unfold en;rw[zrT hk];unfold el;rw[Zg,ZJ (by rw[h k hk];omega),h k hk,show n+t-n=t by omega];unfold zch;rw[Z2,XC a];rfl
theorem zpU{rows:List PRow}(h:∀k,k<rows.length->(rows.getD k default).kind≠3):∀k,k<=rows.length->cnt rows k=k
 | 0,_=>rfl
 | k+1,hk=>by rw[cnt,zpU h k ω,if_neg (h k ω)]
theorem zmd(n m:Nat):(zli n m).length=m:=by simp[zli]
theorem zgb(h:k<m):(zli n m).getD k 0=n+k:=by unfold zli;rw[zbU _ _ (by simpa using h) 0,zcA h]
section
variable {n:Nat} {rows:List PRow} (hl:∀k,k<rows.length->(rows.getD k default).coef.length=n) (hk:∀k,k<rows.length->(rows.getD k default).kind≠3)
include hl hk
theorem zrP(hi:i<rows.length)(hj:j<rows.length):en (bc (zc3 rows) (zli n rows.length)) j i=if i=j then ((zfI (rows.getD i default).kind:Int):Rat)else 0:=by have hc:=zpU hk;rw[ztZ (by rw[zmd];exact hj) (by rw[(zlk hl).len];exact hi),zgb hj,zvs hl hi (by rw[hc _ (Za _)];exact hj),hc i ω];by_cases e:i=j;rw[if_pos ⟨hk i hi,e.symm⟩,if_pos e];rw[if_neg (λh=>e h.2.symm),if_neg e]
omit hl hk in
theorem zBi(k:Int):((zfI k:Int):Rat)≠0:=by unfold zfI;split<;>decide
theorem zqz:Basis rows.length (n+rows.length) (zc3 rows) (zli n rows.length):=by have hc:=zpU hk rows.length (Za _);refine⟨by have:=zlk hl;rw[hc]at this;exact this,zmd _ _,λk hk=>by rw[zgb hk];omega,λk l hk hl e=>by rw[zgb hk,zgb hl]at e;omega,λx d j hj=>?_⟩;have:zai rows.length (λi=>en (bc (zc3 rows) (zli n rows.length)) i j*x i)=0:=d j hj;rw[zbI (k:=j) hj λi hi a=>by rw[zrP hl hk hj hi,if_neg (Z4 a)];grind,zrP hl hk hj hj,if_pos rfl]at this;rcases Yq.1 this with h | h;exact absurd h (zBi _);exact h
end
def zh1 (N:Nat) (cols:List Nat) (xs:List Rat):List Rat:=(List.range N).map λj=>pt cols.length (λk=>cols.getD k 0) (el xs) j
theorem zl8(N:Nat)(cols:List Nat)(xs:List Rat):(zh1 N cols xs).length=N:=by simp[zh1]
theorem zvg{cols:List Nat}{xs:List Rat}(h:j<N):el (zh1 N cols xs) j=pt cols.length (λk=>cols.getD k 0) (el xs) j:=by
 unfold zh1
 conv=>lhs;unfold el
 rw[zbU _ _ ψ 0,zcA h];rfl
section
variable {n:Nat} {rows:List PRow} (hl:∀k,k<rows.length->(rows.getD k default).coef.length=n) (hk:∀k,k<rows.length->(rows.getD k default).kind≠3)
include hl
include hk
omit hl hk in
theorem zKf(h:i<rows.length):el (zg8 rows) i=(rows.getD i default).rhs:=by unfold zg8 el;rw[zbU _ _ h default]
end
