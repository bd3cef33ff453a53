/- Contracts and lemmas: Int4 Int5 Rat1. Conditions: as each says. -/
import Derived.Test.YtbpjabgfcbjjmaaGreatQuot7Ye
set_option linter.all false
set_option maxHeartbeats 1000000
set_option maxRecDepth 100000
namespace Go.Proofs.YtbpjabgfcbjjmaaGreat
open Go.RowKit Am Tryz
attribute [local go_sem ↓] Go.wp_at_zero Go.wp_at_succ
variable {g g':Bool}{x y:Int}{c c' m m':Nat}{A B:OA}{w wr:World}
namespace It
theorem zA2(g g':Bool)(x y:Int)(h:g=decide (x<0))(a:g'=decide (y<0)):(if (!(g == g'))=true then -((x.natAbs*y.natAbs:Nat):Int)else ((x.natAbs*y.natAbs:Nat):Int))=x*y:=by
 have e:((x.natAbs*y.natAbs:Nat):Int)=(x*y).natAbs:=by rw[XZ]
 rw[e];rcases Yn x 0 with hx | hx | hx<;>rcases Yn y 0 with hy | hy | hy
 all_goals first
  | (subst hx;simp;done)
  | (subst hy;simp;done)
  | skip
 have:=Int.mul_pos_of_neg_of_neg hx hy;rw[h,a,ZT hx,ZT hy];simp;omega;have:=Int.mul_neg_of_neg_of_pos hx hy;rw[h,a,ZT hx,Z3 ω];simp;omega;have:=Int.mul_neg_of_pos_of_neg hx hy;rw[h,a,Z3 ω,ZT hy];simp;omega;grind
theorem bdrew0'{w1:World}(h:Below w.drew.heap.size w.drew w1):Below w w w1:=⟨h.os,h.tape,h.output,h.size,h.block⟩
theorem mul(g:Bool)(A:OA)(m c:Nat)(x:Int)(g':Bool)(B:OA)(m' c':Nat)(y:Int)(w:World)(h:IntS w g (A,m,c) x)(d:IntS w g' (B,m',c') y)(n:4*wlen x.natAbs<=LIM)(o:4*wlen y.natAbs<=LIM) :
  Calls prog 86 #[.agg #[g,(A,m,c)],.agg #[g',(B,m',c')]] w (zfg w (x*y)):=by
 refine μ3 (zA2 g g' x y h.neg d.neg) n o λG D E=>?_;obtain⟨W,a⟩:∃W,W=((w.alloc (.cells #[g,(A,m,c)] 60)).alloc (.cells #[g',(B,m',c')] 60)).alloc (.cells #[false,()] 60):=⟨_,rfl⟩
 have s:Hid (zas W.drew (A,m,c) x.natAbs):=un (by rw[a];exact(((h.abs.alloc _).alloc _).alloc _).drew);have t:Hid (zas W.drew (B,m',c') y.natAbs):=un (by rw[a];exact(((d.abs.alloc _).alloc _).alloc _).drew);have f:θ W w.heap.size #[g,(A,m,c)] 60:=by rw[a];exact zak (zak (zam rfl))
 have i:θ W (w.heap.size+1) #[g',(B,m',c')] 60:=by rw[a];exact zak (zam σ)
 have hr:θ W (w.heap.size+1+1) #[false,()] 60:=by rw[a];exact zam σ
 have l:Below w w W:=by rw[a];exact((zae w _).alloc σ _).alloc (by simp;omega) _
 have H:χ W.drew w 0 (.bool g):=zac f 0;have M:χ W.drew w 1 (A,m,c):=zac f 1;have I:χ W.drew (w.heap.size+1) 0 (.bool g'):=zac i 0;have N:χ W.drew (w.heap.size+1) 1 (B,m',c'):=zac i 1;have C:=un hr;have k:=un l;clear h d n o f i hr l;go_enter func86,ntmps86;go_wp2_with fail
 rw[<-a];clear a
 go_region_with (first
  | (go_at_call 90;(with_reducible refine(Pr.mul A B m c m' c' x.natAbs y.natAbs _ s.o t.o D.o E.o).mono ?_);rintro e r ⟨A2,m2,c2,rfl,hn,hb2⟩;have F:=un hn;have b:=un hb2;have u0:χ r w 0 (.bool g):=zab hb2 H;have u1:χ r (w.heap.size+1) 0 (.bool g'):=zab hb2 I;clear hn hb2)
  | (go_at_call 89;(with_reducible refine(new (!(g == g')) A2 m2 c2 (x.natAbs*y.natAbs) _ F.o).mono ?_);rintro e j ⟨g3,A3,m3,c3,rfl,hi,hb3⟩;refine μ3 hi hb3 (zad hb3 (zad b.o (show θ W.drew (w.heap.size+1+1) #[false,()] 60from C.o))) λz u kr=>?_;have K:χ j (w.heap.size+1+1) 0 (.bool false):=zac kr.o 0;have L:χ j (w.heap.size+1+1) 1 ():=zac kr.o 1;have O:=zag kr.o 0;have P:=zag kr.o 1;clear hi hb3))
 all_goals
  go_wp2;refine Zh (v:=.agg #[g3,(A3,m3,c3)]) (by simp[results,results86,go_sem,K,L]) rfl ?_;have hi:=z.o;rw[G.o]at hi;have q:w.heap.size<=W.heap.size:=k.o.size;have J:Below w w j:=(k.o.trans ((bdrew0' b.o).mono q)).trans (u.o.mono (Zl q (bdrew0' b.o).size));exact⟨g3,A3,m3,c3,rfl,⟨zlh hi.abs kr.o,hi.neg⟩,bsc (bsc J)⟩
end It
namespace It
structure AS (w wr:World) (g:Bool) (A:OA) (m c:Nat) (x:Int) (g':Bool) (B:OA) (m' c':Nat) (y:Int):Prop where
  ka:θ wr w.heap.size #[g,(A,m,c)] 60
  kb:θ wr (w.heap.size+1) #[g',(B,m',c')] 60
  kr:θ wr (w.heap.size+1+1) #[false,()] 60
  x:zas wr (A,m,c) x.natAbs
  y:zas wr (B,m',c') y.natAbs
  bel:Below w w wr
theorem AS.step{w':World}(h:AS w wr g A m c x g' B m' c' y)(a:Below wr wr w'):AS w w' g A m c x g' B m' c' y :=
 ⟨zad a h.ka,zad a h.kb,zad a h.kr,h.x.below a,h.y.below a,h.bel.trans (a.mono h.bel.size)⟩
theorem AS.start(h:IntS w g (A,m,c) x)(a:IntS w g' (B,m',c') y) :
  AS w (((w.alloc (.cells #[g,(A,m,c)] 60)).alloc (.cells #[g',(B,m',c')] 60)).alloc (.cells #[false,()] 60)) g A m c x g' B m' c' y :=
 ⟨zak (zak (zam rfl)),zak (zam σ),zam σ,((h.abs.alloc _).alloc _).alloc _,((a.abs.alloc _).alloc _).alloc _,((zae w _).alloc σ _).alloc (by simp;omega) _⟩
theorem AS.fin(h:AS w wr g A m c x g' B m' c' y){d:Bool}{a:OA}{e b:Nat}{z:Int}(hi:IntS wr d (a,e,b) z) :
  zfg w z (.returned (.agg #[d,(a,e,b)])) ((wr.setCell ⟨w.heap.size+1+1,0,none⟩ d).setCell ⟨w.heap.size+1+1,1,none⟩ (a,e,b)) :=
 ⟨d,a,e,b,rfl,⟨zlh hi.abs h.kr,hi.neg⟩,bsc (bsc h.bel)⟩
theorem zv8(g:Bool)(A:OA)(m c:Nat)(x:Int)(B:OA)(m' c':Nat)(y:Int)(w:World)(h:IntS w g (A,m,c) x)(d:IntS w g (B,m',c') y)(j:wlen x.natAbs<=LIM)(k:wlen y.natAbs<=LIM) :
  Calls prog 88 #[.agg #[g,(A,m,c)],.agg #[g,(B,m',c')]] w (zfg w (x+y)):=by
 refine μ3 (show(if g=true then -((x.natAbs+y.natAbs:Nat):Int)else ((x.natAbs+y.natAbs:Nat):Int))=x+y by have h1:=h.neg;have i:=d.neg;cases g;have:=Vu h1.symm;have:=Vu i.symm;simp;omega;have:=XP h1.symm;have:=XP i.symm;simp;omega) j k λs p q=>?_;have hS:=AS.start h d;generalize hW:((w.alloc (.cells #[g,(A,m,c)] 60)).alloc (.cells #[g,(B,m',c')] 60)).alloc (.cells #[false,()] 60)=W at hS;have b:Hid (AS w W g A m c x g B m' c' y):=un hS;have f:χ W.drew w 0 (.bool g):=zac hS.ka 0;have D:χ W.drew w 1 (A,m,c):=zac hS.ka 1;have F:χ W.drew (w.heap.size+1) 1 (B,m',c'):=zac hS.kb 1;have C:χ W w 0 (.bool g):=f;have E:χ W (w.heap.size+1) 0 (.bool g):=zac hS.kb 0;clear h d j k hS;go_enter func88,ntmps88;go_wp2_with fail
 clear hW
 go_region_with (first
  | (go_at_call 137;(with_reducible refine(Nt.add A B m c m' c' x.natAbs y.natAbs _ b.o.x.drew b.o.y.drew p.o q.o).mono ?_);rintro e z ⟨A2,m2,c2,rfl,hn,hb2⟩;have r:=un hn;have n:=un hb2;have u0:χ z w 0 (.bool g):=zab hb2 f;clear hn hb2)
  | (go_at_call 89;(with_reducible refine(new g A2 m2 c2 (x.natAbs+y.natAbs) _ r.o).mono ?_);rintro e l ⟨g3,A3,m3,c3,rfl,hi,hb3⟩;have o:=un hi;have a:=un ((b.o.step (bdrew0' n.o)).step hb3);have t:χ l (w.heap.size+1+1) 0 (.bool false):=zac a.o.kr 0;have u:χ l (w.heap.size+1+1) 1 ():=zac a.o.kr 1;have G:=zag a.o.kr 0;have H:=zag a.o.kr 1;clear hi hb3))
 all_goals
  go_wp2;refine Zh (v:=.agg #[g3,(A3,m3,c3)]) (by simp[results,results88,go_sem,t,u]) rfl ?_;have hi:=o.o;rw[s.o]at hi;exact a.o.fin hi
theorem zov(g:Bool)(x y:Int)(h:g=decide (x<0))(hle:y.natAbs<=x.natAbs)(c:decide (x<0)≠decide (y<0)):(if g=true then -((x.natAbs-y.natAbs:Nat):Int)else ((x.natAbs-y.natAbs:Nat):Int))=x+y:=by rw[h];grind
theorem zwG(g:Bool)(x y:Int)(h:g=decide (x<0))(a:y.natAbs<x.natAbs)(b:decide (x<0)≠decide (y<0)):(if g=true then -((x.natAbs-y.natAbs:Nat):Int)else ((x.natAbs-y.natAbs:Nat):Int))=x+y:=ψ
theorem zv7(g g':Bool)(A:OA)(m c:Nat)(x:Int)(B:OA)(m' c':Nat)(y:Int)(w:World)(F:g≠g')(h:IntS w g (A,m,c) x)(r:IntS w g' (B,m',c') y)(D:wlen x.natAbs<=LIM)(E:wlen y.natAbs<=LIM) :
  Calls prog 88 #[.agg #[g,(A,m,c)],.agg #[g',(B,m',c')]] w (zfg w (x+y)):=by
 refine μ5 h.neg r.neg F D E λo p C G H=>?_;have hS:=AS.start h r;generalize hW:((w.alloc (.cells #[g,(A,m,c)] 60)).alloc (.cells #[g',(B,m',c')] 60)).alloc (.cells #[false,()] 60)=W at hS;have f:Hid (AS w W g A m c x g' B m' c' y):=un hS;have U:(g == g')=false:=by simpa using F
 have O:χ W w 0 (.bool g):=zac hS.ka 0;have R:χ W (w.heap.size+1) 0 (.bool g'):=zac hS.kb 0;have Q:χ W w 1 (A,m,c):=zac hS.ka 1;have T:χ W (w.heap.size+1) 1 (B,m',c'):=zac hS.kb 1;clear h r D E hS;rcases ZI x.natAbs y.natAbs with hlt | hle
 ·have z:=un hlt;go_enter func88,ntmps88;go_wp2_with fail
  clear hW;with_reducible refine(Nt.sub_no A B m c m' c' x.natAbs y.natAbs _ f.o.x f.o.y hlt).mono ?_
  rintro e d ⟨A2,m2,c2,rfl,hn,hb2⟩;have b:=(f.o.step hb2).step (zae d (.cells #[(A2,m2,c2)] 58));have i:=un b;have K:χ (d.alloc (.cells #[(A2,m2,c2)] 58)) w 1 (A,m,c):=zac b.ka 1;have L:χ (d.alloc (.cells #[(A2,m2,c2)] 58)) (w.heap.size+1) 1 (B,m',c'):=zac b.kb 1;clear hn hb2 b;go_wp2_with fail
  with_reducible refine(Nt.sub_ok B A m' c' m c y.natAbs x.natAbs _ i.o.y i.o.x (Xi z.o) H.o).mono ?_
  rintro e k ⟨A3,m3,c3,rfl,hn,hb3⟩;have s:=(i.o.step hb3).step (zae k (.cells #[(A3,m3,c3)] 58));have J:=un s;have n:=un (hn.alloc (.cells #[(A3,m3,c3)] 58));have P:χ (k.alloc (.cells #[(A3,m3,c3)] 58)) (w.heap.size+1) 0 (.bool g'):=zac s.kb 0;have S:χ (k.alloc (.cells #[(A3,m3,c3)] 58)) k 0 (A3,m3,c3):=zac (zal _ _ _) 0;clear hn hb3 s;go_wp2_with fail
  with_reducible refine(new g' A3 m3 c3 (y.natAbs-x.natAbs) _ n.o).mono ?_
  rintro e j ⟨g4,A4,m4,c4,rfl,hi,hb4⟩;have a:=J.o.step hb4;have q:=un a;have l:=un hi;have t:χ j (w.heap.size+1+1) 0 (.bool false):=zac a.kr 0;have u:χ j (w.heap.size+1+1) 1 ():=zac a.kr 1;have M:=zag a.kr 0;have N:=zag a.kr 1;clear hi hb4 a;go_wp2;refine Zh (v:=.agg #[g4,(A4,m4,c4)]) (by simp[results,results88,go_sem,t,u]) rfl ?_;have hi:=l.o;rw[zwG g' y x p.o z.o (by rw[<-o.o,<-p.o];exact λe=>C.o e.symm),Int.add_comm]at hi;exact q.o.fin hi
 have I:=un hle;go_enter func88,ntmps88;go_wp2_with fail
 clear hW;with_reducible refine(Nt.sub_ok A B m c m' c' x.natAbs y.natAbs _ f.o.x f.o.y hle G.o).mono ?_
 rintro e d ⟨A2,m2,c2,rfl,hn,hb2⟩;have b:=(f.o.step hb2).step (zae d (.cells #[(A2,m2,c2)] 58));have i:=un b;have n:=un (hn.alloc (.cells #[(A2,m2,c2)] 58));have K:χ (d.alloc (.cells #[(A2,m2,c2)] 58)) w 0 (.bool g):=zac b.ka 0;have L:χ (d.alloc (.cells #[(A2,m2,c2)] 58)) d 0 (A2,m2,c2):=zac (zal _ _ _) 0;clear hn hb2 b;go_wp2_with fail
 with_reducible refine(new g A2 m2 c2 (x.natAbs-y.natAbs) _ n.o).mono ?_
 rintro e j ⟨g4,A4,m4,c4,rfl,hi,hb4⟩;have a:=i.o.step hb4;have q:=un a;have l:=un hi;have t:χ j (w.heap.size+1+1) 0 (.bool false):=zac a.kr 0;have u:χ j (w.heap.size+1+1) 1 ():=zac a.kr 1;have M:=zag a.kr 0;have N:=zag a.kr 1;clear hi hb4 a;go_wp2;refine Zh (v:=.agg #[g4,(A4,m4,c4)]) (by simp[results,results88,go_sem,t,u]) rfl ?_;have hi:=l.o;rw[zov g x y o.o I.o (by rw[<-o.o,<-p.o];exact C.o)]at hi;exact q.o.fin hi
theorem add(g g':Bool)(A:OA)(m c:Nat)(x:Int)(B:OA)(m' c':Nat)(y:Int)(w:World)(h:IntS w g (A,m,c) x)(a:IntS w g' (B,m',c') y)(b:wlen x.natAbs<=LIM)(d:wlen y.natAbs<=LIM) :
  Calls prog 88 #[.agg #[g,(A,m,c)],.agg #[g',(B,m',c')]] w (zfg w (x+y)):=by grind[zv8,zv7]
end It
end Go.Proofs.YtbpjabgfcbjjmaaGreat
namespace Go.Proofs.YtbpjabgfcbjjmaaGreat
open Go.RowKit Am Tryz
attribute [local go_sem ↓] Go.wp_at_zero Go.wp_at_succ
variable {cs:Array Value}{g:Bool}{b o:Nat}{q:Rat}{t:TypeId}{s:Value}{w:World}
def dn (q:Rat):Nat:=if q.den=1 then 0 else q.den
structure RatS (w:World) (g:Bool) (s d:Value) (q:Rat):Prop where
  num:IntS w g s q.num
  den:zas w d (dn q)
theorem IntS.drew{w:World}{g:Bool}{s:Value}{z:Int}(h:IntS w g s z):IntS w.drew g s z:=⟨h.abs.drew,h.neg⟩
theorem RatS.below{w w':World}{g:Bool}{s d:Value}{q:Rat}(h:RatS w g s d q)(a:Below w w w'):RatS w' g s d q:=⟨h.num.below a,h.den.below a⟩
theorem RatS.alloc{w:World}{g:Bool}{s d:Value}{q:Rat}(h:RatS w g s d q)(o:Obj):RatS (w.alloc o) g s d q:=⟨h.num.alloc o,h.den.alloc o⟩
theorem RatS.drew{w:World}{g:Bool}{s d:Value}{q:Rat}(h:RatS w g s d q):RatS w.drew g s d q:=⟨h.num.drew,h.den.drew⟩
def zr (q:Rat):Bool:=decide (q=0)
theorem zIY(q:Rat):(q.num.sign == 0)=zr q:=by
 unfold zr;rw[show(q.num.sign == 0)=decide (q.num.sign=0)from rfl]
 congr 1
 rw[VD,Rat.num_eq_zero]
def ze4 (w:World) (q:Rat) (e:Ending) (w':World):Prop:=∃(g:Bool) (A:OA) (m c:Nat) (D:OA) (md cd:Nat),e=.returned (.agg #[g,(A,m,c),(D,md,cd)])/\RatS w' g (A,m,c) (D,md,cd) q/\Below w w w'
def zii (w:World) (q:Rat) (b:Bool) (e:Ending) (w':World):Prop:=∃(g:Bool) (A:OA) (m c:Nat) (D:OA) (md cd:Nat),e=.returned (.tuple #[.agg #[g,(A,m,c),(D,md,cd)],b])/\RatS w' g (A,m,c) (D,md,cd) q/\Below w w w'
theorem zyk(h:q.den=1):dn q=0:=by unfold dn;rw[if_pos h]
theorem zp0(h:q.den≠1):dn q=q.den:=by unfold dn;rw[if_neg h]
theorem zas.setIn{n:Nat}(h:zas w s n)(a:θ w b cs t)(c:206≠t)(u:Value):zas (w.setCell ⟨b,o,none⟩ u) s n:=h.setCell (p:=⟨b,o,none⟩) a c u
theorem zar(u:Value)(a:θ w b cs t):θ (w.setCell ⟨b,o,none⟩ u) b (cs.setIfInBounds o u) t:=by grind[heap_setCell_same]
theorem RatS.set3{d:Value}(h:RatS w g s d q)(a:θ w b cs t)(c:206≠t)(u v x:Value) :
  RatS (((w.setCell ⟨b,0,none⟩ u).setCell ⟨b,1,none⟩ v).setCell ⟨b,2,none⟩ x) g s d q :=
 ⟨⟨((h.num.abs.setIn a c u).setIn (zar u a) c v).setIn (zar v (zar u a)) c x,h.num.neg⟩,((h.den.setIn a c u).setIn (zar u a) c v).setIn (zar v (zar u a)) c x⟩
theorem IntS.set2{z:Int}(h:IntS w g s z)(a:θ w b cs t)(c:206≠t)(u v:Value) :
  IntS ((w.setCell ⟨b,0,none⟩ u).setCell ⟨b,1,none⟩ v) g s z :=
 ⟨(h.abs.setIn a c u).setIn (zar u a) c v,h.neg⟩
theorem Nt.zero'(s:Value)(n:Nat)(w:World)(a:zas w s n):Calls prog 129 #[.agg #[s]] w λe w'=>e=.returned (.bool (isZ n))/\Below w w w' :=
 (Nt.zero s n w a).mono (by simp[zae])
theorem Nt.of1(x:Nat)(K:Int)(f:K=(x:Int))(i:x<B64)(w:World):Calls prog 130 #[.slice (some ⟨w,0,none⟩) 1 1] (w.alloc (.cells #[.int .u64 K] 206)) (zc0 w x):=by
 subst f;have h:SR (w.alloc (.cells #[.int .u64 (x:Int)] 206)) (.slice (some ⟨w,0,none⟩) 1 1) [x]:=by
  refine⟨some ⟨w,0,none⟩,1,rfl,Za _,δ,?_,(λh=>by cases h),?_⟩;intro y b;rw[XE]at b;omega;intro k g j u a;obtain rfl:=Option.some.inj g;cases j with
  | zero=>simp only[wcells,List.map,Z9]at a;rw[<-a];exact zax rfl rfl
  | succ j=>simp[wcells]at a
 refine(Nt.of _ _ _ h (by rw[zaP];simp)).mono ?_;rintro e w' ⟨A,m,c,rfl,hn,hb⟩;have d:nval [x]=x:=by simp[nval]
 rw[d]at hn;exact⟨A,m,c,rfl,hn,(zae w _).trans (hb.mono σ)⟩
namespace It
theorem zBs(x:Int)(h0:x<0)(h1 : -9223372036854775808<=x):IntKind.u64.wrap (-IntKind.u64.wrap x)=(x.natAbs:Int):=by unfold IntKind.wrap IntKind.signed IntKind.bits;simp;omega
theorem zIb(x:Int)(h0:0<=x)(h1:x<=9223372036854775807)(w:World):Calls prog 82 #[.int .i64 x] w (zfg w x):=by
 have t:decide (x<0)=false:=Z3 ω;have c:=un (show x=(x.natAbs:Int)by omega);have i:=un (show x.natAbs<B64 by unfold B64;omega);obtain⟨W,a⟩:∃W,(w.alloc (.cells #[false,()] 60))=W:=⟨_,rfl⟩
 have l:=un (show θ W w.heap.size #[false,()] 60by rw[<-a];exact zam σ);have b:=un (show Below w w W by rw[<-a];exact zae w _);go_enter func82,ntmps82;go_wp2_with fail
 clear a;refine(Nt.of1 x.natAbs x c.o i.o _).mono ?_;rintro e w1 ⟨A2,m2,c2,rfl,hn,hb⟩;refine μ3 (zad hb l.o) (hn) (b.o.trans ((hb).mono b.o.size)) λr k g=>?_;clear hn hb;go_wp2_with fail
 refine(new false A2 m2 c2 x.natAbs _ k.o).mono ?_;rintro e d ⟨g3,A3,m3,c3,rfl,hn,hb⟩;refine μ3 (zad hb r.o) (hn) (g.o.trans ((hb).mono g.o.size)) λf j s=>?_;obtain⟨o,m,u,_,q,n,y,_⟩:=bf2 f.o;clear hn hb;go_wp2;refine Zh (v:=.agg #[g3,(A3,m3,c3)]) (by simp[results,results82,go_sem,o,m,q,n]) rfl ?_;have hi:IntS d g3 (A3,m3,c3) x:=by have h:=j.o;rwa [if_neg δ,<-c.o]at h
 exact⟨g3,A3,m3,c3,rfl,hi.set2 f.o δ _ _,bsc (bsc s.o)⟩
theorem zH9(x:Int)(h0:x<0)(h1 : -9223372036854775808<=x)(w:World):Calls prog 82 #[.int .i64 x] w (zfg w x):=by
 refine μ3 (zBs x h0 h1) (show -(x.natAbs:Int)=x by omega) (show x.natAbs<B64 by unfold B64;omega) λk l g=>?_;obtain⟨W,a⟩:∃W,(w.alloc (.cells #[false,()] 60))=W:=⟨_,rfl⟩
 have m:=un (show θ W w.heap.size #[false,()] 60by rw[<-a];exact zam σ);have b:=un (show Below w w W by rw[<-a];exact zae w _);go_enter func82,ntmps82;go_wp2_with fail
 clear a;refine(Nt.of1 x.natAbs _ k.o g.o _).mono ?_;rintro e w1 ⟨A2,m2,c2,rfl,hn,hb⟩;refine μ3 (zad hb m.o) (hn) (b.o.trans ((hb).mono b.o.size)) λs j f=>?_;clear hn hb;go_wp2_with fail
 refine(new true A2 m2 c2 x.natAbs _ j.o).mono ?_;rintro e c ⟨g3,A3,m3,c3,rfl,hn,hb⟩;refine μ3 (zad hb s.o) (hn) (f.o.trans ((hb).mono f.o.size)) λd i t=>?_;obtain⟨q,n,u,_,r,o,y,_⟩:=bf2 d.o;clear hn hb;go_wp2;refine Zh (v:=.agg #[g3,(A3,m3,c3)]) (by simp[results,results82,go_sem,q,n,r,o]) rfl ?_;have hi:IntS c g3 (A3,m3,c3) x:=by have h:=i.o;rwa [if_pos trivial,l.o]at h
 exact⟨g3,A3,m3,c3,rfl,hi.set2 d.o δ _ _,bsc (bsc t.o)⟩
theorem of(x:Int)(h0 : -9223372036854775808<=x)(h1:x<=9223372036854775807)(w:World):Calls prog 82 #[.int .i64 x] w (zfg w x):=by grind[zH9,zIb]
end It
namespace Rt
theorem num(g:Bool)(A:OA)(m c:Nat)(D:OA)(d a:Nat)(q:Rat)(w:World)(h:RatS w g (A,m,c) (D,d,a) q) :
  Calls prog 65 #[.agg #[g,(A,m,c),(D,d,a)]] w λe w'=>e=.returned (.agg #[g,(A,m,c)])/\Below w w w':=by
 obtain⟨W,b⟩:∃W,((w.alloc (.cells #[g,(A,m,c),(D,d,a)] 62)).alloc (.cells #[false,()] 60))=W:=⟨_,rfl⟩
 refine μ3 (show θ W w.heap.size #[g,(A,m,c),(D,d,a)] 62by rw[<-b];exact zak (zam σ)) (show θ W (w.heap.size+1) #[false,()] 60by rw[<-b];exact zam σ) (show Below w w W by rw[<-b];exact(zae w _).alloc σ _) λf i j=>?_;obtain⟨r,_,s,_⟩:=bc3 f.o;obtain⟨n,l,u,_,k,o,t,_⟩:=bf2 i.o;clear h f i;go_enter func65,ntmps65;go_wp2_with fail
 clear b;go_wp2;refine Zh (v:=.agg #[g,(A,m,c)]) (by simp[results,results65,go_sem,n,l,k,o]) rfl ?_;exact⟨rfl,bsc (bsc j.o)⟩
theorem zz7(g:Bool)(A:OA)(m c:Nat)(D:OA)(b a:Nat)(q:Rat)(w:World)(h:RatS w g (A,m,c) (D,b,a) q)(f:q.den=1) :
  Calls prog 67 #[.agg #[g,(A,m,c),(D,b,a)]] w (zc0 w q.den):=by
 rw[f];have j:zas w (D,b,a) 0:=by have:=h.den;rwa [zyk f]at this
 have t:isZ 0=true:=rfl;clear h f;obtain⟨W,d⟩:∃W,((w.alloc (.cells #[g,(A,m,c),(D,b,a)] 62)).alloc (.cells #[()] 58))=W:=⟨_,rfl⟩
 refine μ4 (show θ W w.heap.size #[g,(A,m,c),(D,b,a)] 62by rw[<-d];exact zak (zam σ)) (show θ W (w.heap.size+1) #[()] 58by rw[<-d];exact zam σ) (show Below w w W by rw[<-d];exact(zae w _).alloc σ _) (show zas W (D,b,a) 0 by rw[<-d];exact((j).alloc _).alloc _) λr s i o=>?_;obtain⟨_,_,_,_,E,_⟩:=bc3 r.o;clear j;go_enter func67,ntmps67;go_wp2_with fail
 clear d;refine(Nt.zero' (D,b,a) 0 _ o.o).mono ?_;rintro e w1 ⟨rfl,hb⟩;have x:=un (zad hb s.o);have k:=un (i.o.trans ((hb).mono i.o.size));clear hb;rw[t];go_wp2_with fail
 refine(Nt.of1 1 1 rfl δ _).mono ?_;rintro e u ⟨A2,m2,c2,rfl,hn,hb⟩;refine μ3 (zad hb x.o) (hn) (k.o.trans ((hb).mono k.o.size)) λl n B=>?_;obtain⟨z,y,C,_⟩:=bf1 l.o;clear hn hb;go_wp2;refine Zh (v:=.agg #[(A2,m2,c2)]) (by simp[results,results67,go_sem,z,y]) rfl ?_;exact⟨A2,m2,c2,rfl,zas.setIn n.o l.o δ _,bsc B.o⟩
theorem zwF(g:Bool)(A:OA)(m c:Nat)(D:OA)(b a:Nat)(q:Rat)(w:World)(h:RatS w g (A,m,c) (D,b,a) q)(l:q.den≠1) :
  Calls prog 67 #[.agg #[g,(A,m,c),(D,b,a)]] w (zc0 w q.den):=by
 have k:zas w (D,b,a) q.den:=by have:=h.den;rwa [zp0 l]at this
 have r:=zk4 q.den_pos;clear h l;obtain⟨W,d⟩:∃W,((w.alloc (.cells #[g,(A,m,c),(D,b,a)] 62)).alloc (.cells #[()] 58))=W:=⟨_,rfl⟩
 refine μ4 (show θ W w.heap.size #[g,(A,m,c),(D,b,a)] 62by rw[<-d];exact zak (zam σ)) (show θ W (w.heap.size+1) #[()] 58by rw[<-d];exact zam σ) (show Below w w W by rw[<-d];exact(zae w _).alloc σ _) (show zas W (D,b,a) q.den by rw[<-d];exact((k).alloc _).alloc _) λj o f i=>?_;obtain⟨_,_,_,_,B,_⟩:=bc3 j.o;clear k;go_enter func67,ntmps67;go_wp2_with fail
 clear d;refine(Nt.zero' (D,b,a) q.den _ i.o).mono ?_;rintro e w1 ⟨rfl,hb⟩;refine μ4 (zad hb j.o) (zad hb o.o) (i.o.below hb) (f.o.trans ((hb).mono f.o.size)) λu n y s=>?_;obtain⟨_,_,_,_,z,_⟩:=bc3 u.o;obtain⟨x,t,C,_⟩:=bf1 n.o;clear hb;rw[r];go_wp2;refine Zh (v:=.agg #[(D,b,a)]) (by simp[results,results67,go_sem,x,t]) rfl ?_;exact⟨D,b,a,rfl,zas.setIn y.o n.o δ _,bsc s.o⟩
theorem den(g:Bool)(A:OA)(m c:Nat)(D:OA)(b a:Nat)(q:Rat)(w:World)(h:RatS w g (A,m,c) (D,b,a) q):Calls prog 67 #[.agg #[g,(A,m,c),(D,b,a)]] w (zc0 w q.den):=by grind[zz7,zwF]
theorem below(g:Bool)(A:OA)(m c:Nat)(D:OA)(b a:Nat)(q:Rat)(w:World)(h:RatS w g (A,m,c) (D,b,a) q):Calls prog 87 #[.agg #[g,(A,m,c),(D,b,a)]] w (zfg w (q.den:Int)):=by
 obtain⟨W,d⟩:∃W,((w.alloc (.cells #[g,(A,m,c),(D,b,a)] 62)).alloc (.cells #[false,()] 60))=W:=⟨_,rfl⟩
 refine μ4 (show θ W w.heap.size #[g,(A,m,c),(D,b,a)] 62by rw[<-d];exact zak (zam σ)) (show θ W (w.heap.size+1) #[false,()] 60by rw[<-d];exact zam σ) (show Below w w W by rw[<-d];exact(zae w _).alloc σ _) (show RatS W g (A,m,c) (D,b,a) q by rw[<-d];exact((h).alloc _).alloc _) λr s f o=>?_;obtain⟨C,_,E,_,G,_⟩:=bc3 r.o;clear h;go_enter func87,ntmps87;go_wp2_with fail
 clear d;refine(den g A m c D b a q _ o.o).mono ?_;rintro e w1 ⟨A2,m2,c2,rfl,hn,hb⟩;refine μ3 (zad hb s.o) (hn) (f.o.trans ((hb).mono f.o.size)) λt n j=>?_;clear hn hb;go_wp2_with fail
 refine(It.new false A2 m2 c2 q.den _ n.o).mono ?_;rintro e i ⟨g3,A3,m3,c3,rfl,hn,hb⟩;refine μ3 (zad hb t.o) (hn) (j.o.trans ((hb).mono j.o.size)) λk l z=>?_;obtain⟨y,x,F,_,B,u,H,_⟩:=bf2 k.o;clear hn hb;go_wp2;refine Zh (v:=.agg #[g3,(A3,m3,c3)]) (by simp[results,results87,go_sem,y,x,B,u]) rfl ?_;have hi:IntS i g3 (A3,m3,c3) (q.den:Int):=by have h:=l.o;rwa [if_neg δ]at h
 exact⟨g3,A3,m3,c3,rfl,hi.set2 k.o δ _ _,bsc (bsc z.o)⟩
theorem sign(g:Bool)(A:OA)(m c:Nat)(D:OA)(b a:Nat)(q:Rat)(w:World)(h:RatS w g (A,m,c) (D,b,a) q):Calls prog 61 #[.agg #[g,(A,m,c),(D,b,a)]] w λe w'=>e=.returned (.int .i64 q.num.sign)/\Below w w w':=by
 obtain⟨W,d⟩:∃W,(w.alloc (.cells #[g,(A,m,c),(D,b,a)] 62))=W:=⟨_,rfl⟩
 refine μ3 (show θ W w.heap.size #[g,(A,m,c),(D,b,a)] 62by rw[<-d];exact zam σ) (show Below w w W by rw[<-d];exact zae w _) (show RatS W g (A,m,c) (D,b,a) q by rw[<-d];exact(h).alloc _) λj f i=>?_;obtain⟨l,_,n,_⟩:=bc3 j.o;clear h;go_enter func61,ntmps61;go_wp2_with fail
 clear d;refine(It.sign g A m c q.num _ i.o.num).mono ?_;rintro e w1 ⟨rfl,hb⟩;have k:=un (f.o.trans ((hb).mono f.o.size));clear hb;go_wp2;go_ret;exact⟨rfl,k.o⟩
theorem zero(g:Bool)(A:OA)(m c:Nat)(D:OA)(b a:Nat)(q:Rat)(w:World)(h:RatS w g (A,m,c) (D,b,a) q):Calls prog 74 #[.agg #[g,(A,m,c),(D,b,a)]] w λe w'=>e=.returned (.bool (zr q))/\Below w w w':=by
 obtain⟨W,d⟩:∃W,(w.alloc (.cells #[g,(A,m,c),(D,b,a)] 62))=W:=⟨_,rfl⟩
 refine μ3 (show θ W w.heap.size #[g,(A,m,c),(D,b,a)] 62by rw[<-d];exact zam σ) (show Below w w W by rw[<-d];exact zae w _) (show RatS W g (A,m,c) (D,b,a) q by rw[<-d];exact(h).alloc _) λj f i=>?_;obtain⟨l,_,n,_⟩:=bc3 j.o;clear h;go_enter func74,ntmps74;go_wp2_with fail
 clear d;refine(It.sign g A m c q.num _ i.o.num).mono ?_;rintro e w1 ⟨rfl,hb⟩;have k:=un (f.o.trans ((hb).mono f.o.size));clear hb;go_wp2;go_ret;exact⟨by show Ending.returned (.bool (q.num.sign == 0))=.returned (.bool (zr q));rw[zIY],k.o⟩
theorem neg(g:Bool)(A:OA)(m c:Nat)(D:OA)(b a:Nat)(q:Rat)(w:World)(h:RatS w g (A,m,c) (D,b,a) q):Calls prog 91 #[.agg #[g,(A,m,c),(D,b,a)]] w (ze4 w (-q)):=by
 obtain⟨W,d⟩:∃W,((w.alloc (.cells #[g,(A,m,c),(D,b,a)] 62)).alloc (.cells #[false,(),()] 62))=W:=⟨_,rfl⟩
 refine μ4 (show θ W w.heap.size #[g,(A,m,c),(D,b,a)] 62by rw[<-d];exact zak (zam σ)) (show θ W (w.heap.size+1) #[false,(),()] 62by rw[<-d];exact zam σ) (show Below w w W by rw[<-d];exact(zae w _).alloc σ _) (show RatS W g (A,m,c) (D,b,a) q by rw[<-d];exact((h).alloc _).alloc _) λj n f i=>?_;obtain⟨_,E,_,C,_,G⟩:=bc3 j.o;clear h;go_enter func91,ntmps91;go_wp2_with fail
 clear d
 go_region_with (first
  | (go_at_call 143;(refine(It.neg g A m c q.num _ i.o.drew.num).mono ?_);rintro e w1 ⟨g3,A3,m3,c3,rfl,hn,hb⟩;refine μ5 (zad hb j.o) (zad hb n.o) (i.o.drew.below hb) (hn) (f.o.trans ((It.bdrew0' hb).mono f.o.size)) λt k B l r=>?_;obtain⟨_,_,_,_,F,_⟩:=bc3 t.o;obtain⟨x,s,I,_,y,o,H,_,u,z,J,_⟩:=bf3 k.o;clear hn hb))
 all_goals
  go_wp2;refine Zh (v:=.agg #[g3,(A3,m3,c3),(D,b,a)]) (by simp[results,results91,go_sem,x,s,y,o,u,z]) rfl ?_;have hi:RatS w1 g3 (A3,m3,c3) (D,b,a) (-q):=⟨l.o,B.o.den⟩
  exact⟨g3,A3,m3,c3,D,b,a,rfl,hi.set3 k.o δ _ _ _,bsc (bsc (bsc r.o))⟩
theorem int(x:Int)(h0 : -9223372036854775808<=x)(h1:x<=9223372036854775807)(w:World):Calls prog 30 #[.int .i64 x] w (ze4 w (x:Rat)):=by
 obtain⟨W,a⟩:∃W,(w.alloc (.cells #[false,(),()] 62))=W:=⟨_,rfl⟩
 have f:=un (show θ W w.heap.size #[false,(),()] 62by rw[<-a];exact zam σ);have b:=un (show Below w w W by rw[<-a];exact zae w _);go_enter func30,ntmps30;go_wp2_with fail
 clear a;refine(It.of x h0 h1 _).mono ?_;rintro e w1 ⟨g3,A3,m3,c3,rfl,hn,hb⟩;refine μ3 (zad hb f.o) (hn) (b.o.trans ((hb).mono b.o.size)) λc d j=>?_;obtain⟨g,k,o,_,i,l,q,_,m,n,r,_⟩:=bf3 c.o;clear hn hb;go_wp2;refine Zh (v:=.agg #[g3,(A3,m3,c3),()]) (by simp[results,results30,go_sem,g,k,i,l,m,n]) rfl ?_;have hi:RatS w1 g3 (A3,m3,c3) () (x:Rat):=⟨d.o,zas.zero _⟩
 exact⟨g3,A3,m3,c3,none,0,0,rfl,hi.set3 c.o δ _ _ _,bsc (bsc (bsc j.o))⟩
