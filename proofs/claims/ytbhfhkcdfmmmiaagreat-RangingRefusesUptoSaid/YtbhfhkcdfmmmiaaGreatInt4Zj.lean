/- Contracts and lemmas: Int4 Int5. Conditions: as each says. -/
import Derived.Test.YtbhfhkcdfmmmiaaGreatQuot10Zj
set_option linter.all false
set_option maxHeartbeats 1000000
set_option maxRecDepth 100000
namespace Go.Proofs.YtbhfhkcdfmmmiaaGreat
open Go.RowKit Am Tryz
attribute [local go_sem ↓] Go.wp_at_zero Go.wp_at_succ
variable {g g':Bool}{x y:Int}{c c' m m':Nat}{A B:OA}{w wr:World}
namespace It
theorem zA2(g g':Bool)(x y:Int)(h:g=decide (x<0))(a:g'=decide (y<0)):(if (!(g == g'))=true then -((x.natAbs*y.natAbs:Nat):Int)else ((x.natAbs*y.natAbs:Nat):Int))=x*y:=by
 have e:((x.natAbs*y.natAbs:Nat):Int)=(x*y).natAbs:=by rw[YX]
 rw[e];rcases XP x 0 with hx | hx | hx<;>rcases XP y 0 with hy | hy | hy
 all_goals first
  | (subst hx;simp;done)
  | (subst hy;simp;done)
  | skip
 ·have:=Int.mul_pos_of_neg_of_neg hx hy;rw[h,a,Zs hx,Zs hy];simp;omega
 ·have:=Int.mul_neg_of_neg_of_pos hx hy;rw[h,a,Zs hx,Zu (by omega)];simp;omega
 ·have:=Int.mul_neg_of_pos_of_neg hx hy;rw[h,a,Zu (by omega),Zs hy];simp;omega
 grind
theorem bdrew0'{w1:World}(h:Below w.drew.heap.size w.drew w1):Below w w w1:=⟨h.os,h.tape,h.output,h.size,h.block⟩
theorem mul(g:Bool)(A:OA)(m c:Nat)(x:Int)(g':Bool)(B:OA)(m' c':Nat)(y:Int)(w:World)(h:IntS w g (A,m,c) x)(d:IntS w g' (B,m',c') y)(n:4*wlen x.natAbs≤LIM)(o:4*wlen y.natAbs≤LIM) :
  Calls prog 48 #[.agg #[g,(A,m,c)],.agg #[g',(B,m',c')]] w (zfg w (x*y)):=by
 have G:=un (zA2 g g' x y h.neg d.neg);have D:=un n;have E:=un o;obtain⟨W,a⟩:∃W,W=((w.alloc (.cells #[g,(A,m,c)] 39)).alloc (.cells #[g',(B,m',c')] 39)).alloc (.cells #[false,()] 39):=⟨_,rfl⟩
 have s:Hid (zas W.drew (A,m,c) x.natAbs):=un (by rw[a];exact(((h.abs.alloc _).alloc _).alloc _).drew);have t:Hid (zas W.drew (B,m',c') y.natAbs):=un (by rw[a];exact(((d.abs.alloc _).alloc _).alloc _).drew);have f:W.heap[w.heap.size]? = some (.cells #[g,(A,m,c)] 39 (0,0)):=by rw[a];exact zak (zak (zam rfl))
 have i:W.heap[w.heap.size+1]? = some (.cells #[g',(B,m',c')] 39 (0,0)):=by rw[a];exact zak (zam (by simp))
 have hr:W.heap[w.heap.size+1+1]? = some (.cells #[false,()] 39 (0,0)):=by rw[a];exact zam (by simp)
 have l:Below w w W:=by rw[a];exact((zae w _).alloc (by simp) _).alloc (by simp;omega) _
 have H:W.drew.cell? ⟨w,0,none⟩=some (.bool g):=zac f 0;have M:W.drew.cell? ⟨w,1,none⟩=some (A,m,c):=zac f 1;have I:W.drew.cell? ⟨w.heap.size+1,0,none⟩=some (.bool g'):=zac i 0;have N:W.drew.cell? ⟨w.heap.size+1,1,none⟩=some (B,m',c'):=zac i 1;have C:=un hr;have k:=un l;clear h d n o f i hr l;go_enter func48,ntmps48;go_wp2_with fail
 rw[←a];clear a
 go_region_with (first
  | (go_at_call 50;(with_reducible refine(Pr.mul A B m c m' c' x.natAbs y.natAbs _ s.o t.o D.o E.o).mono ?_);rintro e r ⟨A2,m2,c2,rfl,hn,hb2⟩;have F:=un hn;have b:=un hb2;have u0:r.cell? ⟨w,0,none⟩=some (.bool g):=zab hb2 H;have u1:r.cell? ⟨w.heap.size+1,0,none⟩=some (.bool g'):=zab hb2 I;clear hn hb2)
  | (go_at_call 49;(with_reducible refine(new (!(g == g')) A2 m2 c2 (x.natAbs*y.natAbs) _ F.o).mono ?_);rintro e j ⟨g3,A3,m3,c3,rfl,hi,hb3⟩;have z:=un hi;have u:=un hb3;have kr:=un (zad hb3 (zad b.o (show W.drew.heap[w.heap.size+1+1]? = some (.cells #[false,()] 39 (0,0))from C.o)));have K:j.cell? ⟨w.heap.size+1+1,0,none⟩=some (.bool false):=zac kr.o 0;have L:j.cell? ⟨w.heap.size+1+1,1,none⟩=some ():=zac kr.o 1;have O:=zag kr.o 0;have P:=zag kr.o 1;clear hi hb3))
 all_goals
  go_wp2;refine Zd (v:=.agg #[g3,(A3,m3,c3)]) (by simp[results,results48,go_sem,K,L]) rfl ?_;have hi:=z.o;rw[G.o]at hi;have q:w.heap.size≤W.heap.size:=k.o.size;have J:Below w w j:=(k.o.trans ((bdrew0' b.o).mono q)).trans (u.o.mono (Zc q (bdrew0' b.o).size));exact⟨g3,A3,m3,c3,rfl,⟨zlh hi.abs kr.o,hi.neg⟩,bsc (bsc J)⟩
end It
namespace It
structure AS (w wr:World) (g:Bool) (A:OA) (m c:Nat) (x:Int) (g':Bool) (B:OA) (m' c':Nat) (y:Int):Prop where
  ka:wr.heap[w.heap.size]? = some (.cells #[g,(A,m,c)] 39 (0,0))
  kb:wr.heap[w.heap.size+1]? = some (.cells #[g',(B,m',c')] 39 (0,0))
  kr:wr.heap[w.heap.size+1+1]? = some (.cells #[false,()] 39 (0,0))
  x:zas wr (A,m,c) x.natAbs
  y:zas wr (B,m',c') y.natAbs
  bel:Below w w wr
theorem AS.step{w':World}(h:AS w wr g A m c x g' B m' c' y)(a:Below wr wr w'):AS w w' g A m c x g' B m' c' y :=
 ⟨zad a h.ka,zad a h.kb,zad a h.kr,h.x.below a,h.y.below a,h.bel.trans (a.mono h.bel.size)⟩
theorem AS.start(h:IntS w g (A,m,c) x)(a:IntS w g' (B,m',c') y) :
  AS w (((w.alloc (.cells #[g,(A,m,c)] 39)).alloc (.cells #[g',(B,m',c')] 39)).alloc (.cells #[false,()] 39)) g A m c x g' B m' c' y :=
 ⟨zak (zak (zam rfl)),zak (zam (by simp)),zam (by simp),((h.abs.alloc _).alloc _).alloc _,((a.abs.alloc _).alloc _).alloc _,((zae w _).alloc (by simp) _).alloc (by simp;omega) _⟩
theorem AS.fin(h:AS w wr g A m c x g' B m' c' y){d:Bool}{a:OA}{e b:Nat}{z:Int}(hi:IntS wr d (a,e,b) z) :
  zfg w z (.returned (.agg #[d,(a,e,b)])) ((wr.setCell ⟨w.heap.size+1+1,0,none⟩ d).setCell ⟨w.heap.size+1+1,1,none⟩ (a,e,b)) :=
 ⟨d,a,e,b,rfl,⟨zlh hi.abs h.kr,hi.neg⟩,bsc (bsc h.bel)⟩
theorem zv8(g:Bool)(A:OA)(m c:Nat)(x:Int)(B:OA)(m' c':Nat)(y:Int)(w:World)(h:IntS w g (A,m,c) x)(d:IntS w g (B,m',c') y)(j:wlen x.natAbs≤LIM)(k:wlen y.natAbs≤LIM) :
  Calls prog 61 #[.agg #[g,(A,m,c)],.agg #[g,(B,m',c')]] w (zfg w (x+y)):=by
 have s:=un (show(if g=true then -((x.natAbs+y.natAbs:Nat):Int)else ((x.natAbs+y.natAbs:Nat):Int))=x+y by
  have h1:=h.neg;have i:=d.neg;cases g
  ·have:=YW h1.symm;have:=YW i.symm;simp;omega
  ·have:=Xs h1.symm;have:=Xs i.symm;simp;omega)
 have p:=un j;have q:=un k;have hS:=AS.start h d;generalize hW:((w.alloc (.cells #[g,(A,m,c)] 39)).alloc (.cells #[g,(B,m',c')] 39)).alloc (.cells #[false,()] 39)=W at hS;have b:Hid (AS w W g A m c x g B m' c' y):=un hS;have f:W.drew.cell? ⟨w,0,none⟩=some (.bool g):=zac hS.ka 0;have D:W.drew.cell? ⟨w,1,none⟩=some (A,m,c):=zac hS.ka 1;have F:W.drew.cell? ⟨w.heap.size+1,1,none⟩=some (B,m',c'):=zac hS.kb 1
 have C:W.cell? ⟨w,0,none⟩=some (.bool g):=f;have E:W.cell? ⟨w.heap.size+1,0,none⟩=some (.bool g):=zac hS.kb 0;clear h d j k hS;go_enter func61,ntmps61;go_wp2_with fail
 clear hW
 go_region_with (first
  | (go_at_call 98;(with_reducible refine(Nt.add A B m c m' c' x.natAbs y.natAbs _ b.o.x.drew b.o.y.drew p.o q.o).mono ?_);rintro e z ⟨A2,m2,c2,rfl,hn,hb2⟩;have r:=un hn;have n:=un hb2;have u0:z.cell? ⟨w,0,none⟩=some (.bool g):=zab hb2 f;clear hn hb2)
  | (go_at_call 49;(with_reducible refine(new g A2 m2 c2 (x.natAbs+y.natAbs) _ r.o).mono ?_);rintro e l ⟨g3,A3,m3,c3,rfl,hi,hb3⟩;have o:=un hi;have a:=un ((b.o.step (bdrew0' n.o)).step hb3);have t:l.cell? ⟨w.heap.size+1+1,0,none⟩=some (.bool false):=zac a.o.kr 0;have u:l.cell? ⟨w.heap.size+1+1,1,none⟩=some ():=zac a.o.kr 1;have G:=zag a.o.kr 0;have H:=zag a.o.kr 1;clear hi hb3))
 all_goals
  go_wp2;refine Zd (v:=.agg #[g3,(A3,m3,c3)]) (by simp[results,results61,go_sem,t,u]) rfl ?_;have hi:=o.o;rw[s.o]at hi;exact a.o.fin hi
theorem zov(g:Bool)(x y:Int)(h:g=decide (x<0))(hle:y.natAbs≤x.natAbs)(c:decide (x<0)≠decide (y<0)):(if g=true then -((x.natAbs-y.natAbs:Nat):Int)else ((x.natAbs-y.natAbs:Nat):Int))=x+y:=by
 rw[h];grind
theorem zwG(g:Bool)(x y:Int)(h:g=decide (x<0))(a:y.natAbs<x.natAbs)(b:decide (x<0)≠decide (y<0)):(if g=true then -((x.natAbs-y.natAbs:Nat):Int)else ((x.natAbs-y.natAbs:Nat):Int))=x+y:=by grind
theorem zv7(g g':Bool)(A:OA)(m c:Nat)(x:Int)(B:OA)(m' c':Nat)(y:Int)(w:World)(F:g≠g')(h:IntS w g (A,m,c) x)(r:IntS w g' (B,m',c') y)(D:wlen x.natAbs≤LIM)(E:wlen y.natAbs≤LIM) :
  Calls prog 61 #[.agg #[g,(A,m,c)],.agg #[g',(B,m',c')]] w (zfg w (x+y)):=by
 have o:=un h.neg;have p:=un r.neg;have C:=un F;have G:=un D;have H:=un E;have hS:=AS.start h r;generalize hW:((w.alloc (.cells #[g,(A,m,c)] 39)).alloc (.cells #[g',(B,m',c')] 39)).alloc (.cells #[false,()] 39)=W at hS;have f:Hid (AS w W g A m c x g' B m' c' y):=un hS;have U:(g == g')=false:=by simpa using F
 have O:W.cell? ⟨w,0,none⟩=some (.bool g):=zac hS.ka 0;have R:W.cell? ⟨w.heap.size+1,0,none⟩=some (.bool g'):=zac hS.kb 0;have Q:W.cell? ⟨w,1,none⟩=some (A,m,c):=zac hS.ka 1;have T:W.cell? ⟨w.heap.size+1,1,none⟩=some (B,m',c'):=zac hS.kb 1;clear h r D E hS;rcases ZV x.natAbs y.natAbs with hlt | hle
 ·have z:=un hlt;go_enter func61,ntmps61;go_wp2_with fail
  clear hW;with_reducible refine(Nt.sub_no A B m c m' c' x.natAbs y.natAbs _ f.o.x f.o.y hlt).mono ?_
  rintro e d ⟨A2,m2,c2,rfl,hn,hb2⟩;have b:=(f.o.step hb2).step (zae d (.cells #[(A2,m2,c2)] 37));have i:=un b;have K:(d.alloc (.cells #[(A2,m2,c2)] 37)).cell? ⟨w,1,none⟩=some (A,m,c):=zac b.ka 1;have L:(d.alloc (.cells #[(A2,m2,c2)] 37)).cell? ⟨w.heap.size+1,1,none⟩=some (B,m',c'):=zac b.kb 1;clear hn hb2 b;go_wp2_with fail
  with_reducible refine(Nt.sub_ok B A m' c' m c y.natAbs x.natAbs _ i.o.y i.o.x (ZW z.o) H.o).mono ?_
  rintro e k ⟨A3,m3,c3,rfl,hn,hb3⟩;have s:=(i.o.step hb3).step (zae k (.cells #[(A3,m3,c3)] 37));have J:=un s;have n:=un (hn.alloc (.cells #[(A3,m3,c3)] 37));have P:(k.alloc (.cells #[(A3,m3,c3)] 37)).cell? ⟨w.heap.size+1,0,none⟩=some (.bool g'):=zac s.kb 0;have S:(k.alloc (.cells #[(A3,m3,c3)] 37)).cell? ⟨k,0,none⟩=some (A3,m3,c3):=zac (zal _ _ _) 0;clear hn hb3 s;go_wp2_with fail
  with_reducible refine(new g' A3 m3 c3 (y.natAbs-x.natAbs) _ n.o).mono ?_
  rintro e j ⟨g4,A4,m4,c4,rfl,hi,hb4⟩;have a:=J.o.step hb4;have q:=un a;have l:=un hi;have t:j.cell? ⟨w.heap.size+1+1,0,none⟩=some (.bool false):=zac a.kr 0;have u:j.cell? ⟨w.heap.size+1+1,1,none⟩=some ():=zac a.kr 1;have M:=zag a.kr 0;have N:=zag a.kr 1;clear hi hb4 a;go_wp2;refine Zd (v:=.agg #[g4,(A4,m4,c4)]) (by simp[results,results61,go_sem,t,u]) rfl ?_;have hi:=l.o
  rw[zwG g' y x p.o z.o (by rw[←o.o,←p.o];exact fun e=>C.o e.symm),Int.add_comm]at hi;exact q.o.fin hi
 ·have I:=un hle;go_enter func61,ntmps61;go_wp2_with fail
  clear hW;with_reducible refine(Nt.sub_ok A B m c m' c' x.natAbs y.natAbs _ f.o.x f.o.y hle G.o).mono ?_
  rintro e d ⟨A2,m2,c2,rfl,hn,hb2⟩;have b:=(f.o.step hb2).step (zae d (.cells #[(A2,m2,c2)] 37));have i:=un b;have n:=un (hn.alloc (.cells #[(A2,m2,c2)] 37));have K:(d.alloc (.cells #[(A2,m2,c2)] 37)).cell? ⟨w,0,none⟩=some (.bool g):=zac b.ka 0;have L:(d.alloc (.cells #[(A2,m2,c2)] 37)).cell? ⟨d,0,none⟩=some (A2,m2,c2):=zac (zal _ _ _) 0;clear hn hb2 b;go_wp2_with fail
  with_reducible refine(new g A2 m2 c2 (x.natAbs-y.natAbs) _ n.o).mono ?_
  rintro e j ⟨g4,A4,m4,c4,rfl,hi,hb4⟩;have a:=i.o.step hb4;have q:=un a;have l:=un hi;have t:j.cell? ⟨w.heap.size+1+1,0,none⟩=some (.bool false):=zac a.kr 0;have u:j.cell? ⟨w.heap.size+1+1,1,none⟩=some ():=zac a.kr 1;have M:=zag a.kr 0;have N:=zag a.kr 1;clear hi hb4 a;go_wp2;refine Zd (v:=.agg #[g4,(A4,m4,c4)]) (by simp[results,results61,go_sem,t,u]) rfl ?_;have hi:=l.o;rw[zov g x y o.o I.o (by rw[←o.o,←p.o];exact C.o)]at hi
  exact q.o.fin hi
theorem add(g g':Bool)(A:OA)(m c:Nat)(x:Int)(B:OA)(m' c':Nat)(y:Int)(w:World)(h:IntS w g (A,m,c) x)(a:IntS w g' (B,m',c') y)(b:wlen x.natAbs≤LIM)(d:wlen y.natAbs≤LIM) :
  Calls prog 61 #[.agg #[g,(A,m,c)],.agg #[g',(B,m',c')]] w (zfg w (x+y)):=by grind[zv8,zv7]
