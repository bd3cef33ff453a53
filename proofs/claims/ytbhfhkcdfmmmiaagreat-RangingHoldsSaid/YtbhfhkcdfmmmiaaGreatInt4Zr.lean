/- Contracts and lemmas: Int4 Int5. Conditions: as each says. -/
import Derived.Test.YtbhfhkcdfmmmiaaGreatQuot10Zr
set_option linter.all false
set_option maxHeartbeats 1000000
set_option maxRecDepth 100000
namespace Go.Proofs.YtbhfhkcdfmmmiaaGreat
open Go.RowKit Am Tryz
attribute [local go_sem ↓] Go.wp_at_zero Go.wp_at_succ
variable {g g':Bool}{x y:Int}{c c' m m':Nat}{A B:OA}{w wr:World}
namespace It
theorem zA2(g g':Bool)(x y:Int)(h:g=decide (x<0))(a:g'=decide (y<0)):(if (!(g == g'))=true then -((x.natAbs*y.natAbs:Nat):Int)else ((x.natAbs*y.natAbs:Nat):Int))=x*y:=by
 have e:((x.natAbs*y.natAbs:Nat):Int)=(x*y).natAbs:=by rw[Int.natAbs_mul]
 rw[e];rcases Int.lt_trichotomy x 0 with hx | hx | hx<;>rcases Int.lt_trichotomy y 0 with hy | hy | hy
 all_goals first
  | (subst hx;simp;done)
  | (subst hy;simp;done)
  | skip
 ·have:=Int.mul_pos_of_neg_of_neg hx hy;rw[h,a,decide_eq_true hx,decide_eq_true hy];simp;omega
 ·have:=Int.mul_neg_of_neg_of_pos hx hy;rw[h,a,decide_eq_true hx,decide_eq_false (by omega)];simp;omega
 ·have:=Int.mul_neg_of_pos_of_neg hx hy;rw[h,a,decide_eq_false (by omega),decide_eq_true hy];simp;omega
 ·have:=Int.mul_pos hx hy;rw[h,a,decide_eq_false (by omega),decide_eq_false (by omega)];simp;omega
theorem bdrew0'{w1:World}(h:Below w.drew.heap.size w.drew w1):Below w w w1:=⟨h.os,h.tape,h.output,h.size,h.block⟩
theorem mul(g:Bool)(A:OA)(m c:Nat)(x:Int)(g':Bool)(B:OA)(m' c':Nat)(y:Int)(w:World)(h:IntS w g (A,m,c) x)(f:IntS w g' (B,m',c') y)(o:4*wlen x.natAbs≤LIM)(q:4*wlen y.natAbs≤LIM) :
  Calls prog 48 #[.agg #[g,(A,m,c)],.agg #[g',(B,m',c')]] w (zfg w (x*y)):=by
 have H:=un (zA2 g g' x y h.neg f.neg);have E:=un o;have F:=un q;obtain⟨W,a⟩:∃W,W=((w.alloc (.cells #[g,(A,m,c)] 39)).alloc (.cells #[g',(B,m',c')] 39)).alloc (.cells #[false,()] 39):=⟨_,rfl⟩
 have t:Hid (zas W.drew (A,m,c) x.natAbs):=un (by rw[a];exact(((h.abs.alloc _).alloc _).alloc _).drew);have u:Hid (zas W.drew (B,m',c') y.natAbs):=un (by rw[a];exact(((f.abs.alloc _).alloc _).alloc _).drew);have i:W.heap[w.heap.size]? = some (.cells #[g,(A,m,c)] 39 (0,0)):=by rw[a];exact zak (zak (zam rfl))
 have j:W.heap[w.heap.size+1]? = some (.cells #[g',(B,m',c')] 39 (0,0)):=by rw[a];exact zak (zam (by simp))
 have hr:W.heap[w.heap.size+1+1]? = some (.cells #[false,()] 39 (0,0)):=by rw[a];exact zam (by simp)
 have n:Below w w W:=by rw[a];exact((zae w _).alloc (by simp) _).alloc (by simp;omega) _
 have I:W.drew.cell? ⟨w,0,none⟩=some (.bool g):=zac i 0;have N:W.drew.cell? ⟨w,1,none⟩=some (A,m,c):=zac i 1;have J:W.drew.cell? ⟨w.heap.size+1,0,none⟩=some (.bool g'):=zac j 0;have O:W.drew.cell? ⟨w.heap.size+1,1,none⟩=some (B,m',c'):=zac j 1;have D:=un hr;have l:=un n;clear h f o q i j hr n;go_enter func48,ntmps48;go_wp2_with fail
 rw[←a];clear a
 go_region_with (first
  | (go_at_call 50;(with_reducible refine(Pr.mul A B m c m' c' x.natAbs y.natAbs _ t.o u.o E.o F.o).mono ?_);rintro e s ⟨A2,m2,c2,rfl,hn,hb2⟩;have G:=un hn;have d:=un hb2;have u0:=zab hb2 I;have u1:=zab hb2 J;clear hn hb2)
  | (go_at_call 49;(with_reducible refine(new (!(g == g')) A2 m2 c2 (x.natAbs*y.natAbs) _ G.o).mono ?_);rintro e k ⟨g3,A3,m3,c3,rfl,b,hb3⟩;have C:=un b;have z:=un hb3;have kr:=un (zad hb3 (zad d.o (show W.drew.heap[w.heap.size+1+1]? = some (.cells #[false,()] 39 (0,0))from D.o)));have L:k.cell? ⟨w.heap.size+1+1,0,none⟩=some (.bool false):=zac kr.o 0;have M:k.cell? ⟨w.heap.size+1+1,1,none⟩=some ():=zac kr.o 1;have P:=zag kr.o 0;have Q:=zag kr.o 1;clear b hb3))
 all_goals
  go_wp2;refine bodyPost_ret (v:=.agg #[g3,(A3,m3,c3)]) (by simp[results,results48,go_sem,L,M]) rfl ?_;have b:=C.o;rw[H.o]at b;have r:=l.o.size;have K:=(l.o.trans ((bdrew0' d.o).mono r)).trans (z.o.mono (Nat.le_trans r (bdrew0' d.o).size));exact⟨g3,A3,m3,c3,rfl,⟨zlh b.abs kr.o,b.neg⟩,bsc (bsc K)⟩
end It
namespace It
structure AS (w wr:World) (g:Bool) (A:OA) (m c:Nat) (x:Int) (g':Bool) (B:OA) (m' c':Nat) (y:Int):Prop where
  ka:wr.heap[w.heap.size]? = some (.cells #[g,(A,m,c)] 39 (0,0))
  kb:wr.heap[w.heap.size+1]? = some (.cells #[g',(B,m',c')] 39 (0,0))
  kr:wr.heap[w.heap.size+1+1]? = some (.cells #[false,()] 39 (0,0))
  x:zas wr (A,m,c) x.natAbs
  y:zas wr (B,m',c') y.natAbs
  bel:Below w w wr
theorem AS.step{w':World}(h:AS w wr g A m c x g' B m' c' y)(a:Below wr wr w'):AS w w' g A m c x g' B m' c' y :=
 ⟨zad a h.ka,zad a h.kb,zad a h.kr,h.x.below a,h.y.below a,h.bel.trans (a.mono h.bel.size)⟩
theorem AS.start(h:IntS w g (A,m,c) x)(a:IntS w g' (B,m',c') y) :
  AS w (((w.alloc (.cells #[g,(A,m,c)] 39)).alloc (.cells #[g',(B,m',c')] 39)).alloc (.cells #[false,()] 39)) g A m c x g' B m' c' y :=
 ⟨zak (zak (zam rfl)),zak (zam (by simp)),zam (by simp),((h.abs.alloc _).alloc _).alloc _,((a.abs.alloc _).alloc _).alloc _,((zae w _).alloc (by simp) _).alloc (by simp;omega) _⟩
theorem AS.fin(h:AS w wr g A m c x g' B m' c' y){d:Bool}{a:OA}{e b:Nat}{z:Int}(f:IntS wr d (a,e,b) z) :
  zfg w z (.returned (.agg #[d,(a,e,b)])) ((wr.setCell ⟨w.heap.size+1+1,0,none⟩ d).setCell ⟨w.heap.size+1+1,1,none⟩ (a,e,b)) :=
 ⟨d,a,e,b,rfl,⟨zlh f.abs h.kr,f.neg⟩,bsc (bsc h.bel)⟩
theorem zv8(g:Bool)(A:OA)(m c:Nat)(x:Int)(B:OA)(m' c':Nat)(y:Int)(w:World)(h:IntS w g (A,m,c) x)(f:IntS w g (B,m',c') y)(k:wlen x.natAbs≤LIM)(l:wlen y.natAbs≤LIM) :
  Calls prog 61 #[.agg #[g,(A,m,c)],.agg #[g,(B,m',c')]] w (zfg w (x+y)):=by
 have t:=un (show(if g=true then -((x.natAbs+y.natAbs:Nat):Int)else ((x.natAbs+y.natAbs:Nat):Int))=x+y by
  have h1:=h.neg;have j:=f.neg;cases g
  ·have:=of_decide_eq_false h1.symm;have:=of_decide_eq_false j.symm;simp;omega
  ·have:=of_decide_eq_true h1.symm;have:=of_decide_eq_true j.symm;simp;omega)
 have q:=un k;have r:=un l;have hS:=AS.start h f;generalize hW:((w.alloc (.cells #[g,(A,m,c)] 39)).alloc (.cells #[g,(B,m',c')] 39)).alloc (.cells #[false,()] 39)=W at hS;have d:=un hS;have i:W.drew.cell? ⟨w,0,none⟩=some (.bool g):=zac hS.ka 0;have E:W.drew.cell? ⟨w,1,none⟩=some (A,m,c):=zac hS.ka 1;have G:W.drew.cell? ⟨w.heap.size+1,1,none⟩=some (B,m',c'):=zac hS.kb 1
 have D:W.cell? ⟨w,0,none⟩=some (.bool g):=i;have F:W.cell? ⟨w.heap.size+1,0,none⟩=some (.bool g):=zac hS.kb 0;clear h f k l hS;go_enter func61,ntmps61;go_wp2_with fail
 clear hW
 go_region_with (first
  | (go_at_call 98;(with_reducible refine(Nt.add A B m c m' c' x.natAbs y.natAbs _ d.o.x.drew d.o.y.drew q.o r.o).mono ?_);rintro e C ⟨A2,m2,c2,rfl,hn,hb2⟩;have s:=un hn;have o:=un hb2;have u0:=zab hb2 i;clear hn hb2)
  | (go_at_call 49;(with_reducible refine(new g A2 m2 c2 (x.natAbs+y.natAbs) _ s.o).mono ?_);rintro e n ⟨g3,A3,m3,c3,rfl,b,hb3⟩;have p:=un b;have a:=un ((d.o.step (bdrew0' o.o)).step hb3);have u:n.cell? ⟨w.heap.size+1+1,0,none⟩=some (.bool false):=zac a.o.kr 0;have z:n.cell? ⟨w.heap.size+1+1,1,none⟩=some ():=zac a.o.kr 1;have H:=zag a.o.kr 0;have I:=zag a.o.kr 1;clear b hb3))
 all_goals
  go_wp2;refine bodyPost_ret (v:=.agg #[g3,(A3,m3,c3)]) (by simp[results,results61,go_sem,u,z]) rfl ?_;have b:=p.o;rw[t.o]at b;exact a.o.fin b
theorem zov(g:Bool)(x y:Int)(h:g=decide (x<0))(hle:y.natAbs≤x.natAbs)(c:decide (x<0)≠decide (y<0)):(if g=true then -((x.natAbs-y.natAbs:Nat):Int)else ((x.natAbs-y.natAbs:Nat):Int))=x+y:=by
 rw[h];by_cases b:x<0
 ·have a:¬y<0:=fun a=>c (by rw[decide_eq_true b,decide_eq_true a])
  rw[decide_eq_true b];simp;omega
 ·have a:=Decidable.byContradiction fun a=>c (by rw[decide_eq_false b,decide_eq_false a])
  rw[decide_eq_false b];simp;omega
theorem zwG(g:Bool)(x y:Int)(h:g=decide (x<0))(a:y.natAbs<x.natAbs)(b:decide (x<0)≠decide (y<0)):(if g=true then -((x.natAbs-y.natAbs:Nat):Int)else ((x.natAbs-y.natAbs:Nat):Int))=x+y:=zov g x y h (Nat.le_of_lt a) b
theorem zv7(g g':Bool)(A:OA)(m c:Nat)(x:Int)(B:OA)(m' c':Nat)(y:Int)(w:World)(G:g≠g')(h:IntS w g (A,m,c) x)(s:IntS w g' (B,m',c') y)(E:wlen x.natAbs≤LIM)(F:wlen y.natAbs≤LIM) :
  Calls prog 61 #[.agg #[g,(A,m,c)],.agg #[g',(B,m',c')]] w (zfg w (x+y)):=by
 have p:=un h.neg;have q:=un s.neg;have D:=un G;have H:=un E;have I:=un F;have hS:=AS.start h s;generalize hW:((w.alloc (.cells #[g,(A,m,c)] 39)).alloc (.cells #[g',(B,m',c')] 39)).alloc (.cells #[false,()] 39)=W at hS;have i:=un hS;have V:(g == g')=false:=by simpa using G
 have P:W.cell? ⟨w,0,none⟩=some (.bool g):=zac hS.ka 0;have S:W.cell? ⟨w.heap.size+1,0,none⟩=some (.bool g'):=zac hS.kb 0;have R:W.cell? ⟨w,1,none⟩=some (A,m,c):=zac hS.ka 1;have U:W.cell? ⟨w.heap.size+1,1,none⟩=some (B,m',c'):=zac hS.kb 1;clear h s E F hS;rcases Nat.lt_or_ge x.natAbs y.natAbs with hlt | hle
 ·have C:=un hlt;go_enter func61,ntmps61;go_wp2_with fail
  clear hW;with_reducible refine(Nt.sub_no A B m c m' c' x.natAbs y.natAbs _ i.o.x i.o.y hlt).mono ?_
  rintro e f ⟨A2,m2,c2,rfl,hn,hb2⟩;have d:=(i.o.step hb2).step (zae f (.cells #[(A2,m2,c2)] 37));have j:=un d;have L:(f.alloc (.cells #[(A2,m2,c2)] 37)).cell? ⟨w,1,none⟩=some (A,m,c):=zac d.ka 1;have M:(f.alloc (.cells #[(A2,m2,c2)] 37)).cell? ⟨w.heap.size+1,1,none⟩=some (B,m',c'):=zac d.kb 1;clear hn hb2 d;go_wp2_with fail
  with_reducible refine(Nt.sub_ok B A m' c' m c y.natAbs x.natAbs _ j.o.y j.o.x (Nat.le_of_lt C.o) I.o).mono ?_
  rintro e l ⟨A3,m3,c3,rfl,hn,hb3⟩;have t:=(j.o.step hb3).step (zae l (.cells #[(A3,m3,c3)] 37));have K:=un t;have o:=un (hn.alloc (.cells #[(A3,m3,c3)] 37));have Q:(l.alloc (.cells #[(A3,m3,c3)] 37)).cell? ⟨w.heap.size+1,0,none⟩=some (.bool g'):=zac t.kb 0;have T:(l.alloc (.cells #[(A3,m3,c3)] 37)).cell? ⟨l,0,none⟩=some (A3,m3,c3):=zac (zal _ _ _) 0;clear hn hb3 t;go_wp2_with fail
  with_reducible refine(new g' A3 m3 c3 (y.natAbs-x.natAbs) _ o.o).mono ?_
  rintro e k ⟨g4,A4,m4,c4,rfl,b,hb4⟩;have a:=K.o.step hb4;have r:=un a;have n:=un b;have u:k.cell? ⟨w.heap.size+1+1,0,none⟩=some (.bool false):=zac a.kr 0;have z:k.cell? ⟨w.heap.size+1+1,1,none⟩=some ():=zac a.kr 1;have N:=zag a.kr 0;have O:=zag a.kr 1;clear b hb4 a;go_wp2;refine bodyPost_ret (v:=.agg #[g4,(A4,m4,c4)]) (by simp[results,results61,go_sem,u,z]) rfl ?_;have b:=n.o
  rw[zwG g' y x q.o C.o (by rw[←p.o,←q.o];exact fun e=>D.o e.symm),Int.add_comm]at b;exact r.o.fin b
 ·have J:=un hle;go_enter func61,ntmps61;go_wp2_with fail
  clear hW;with_reducible refine(Nt.sub_ok A B m c m' c' x.natAbs y.natAbs _ i.o.x i.o.y hle H.o).mono ?_
  rintro e f ⟨A2,m2,c2,rfl,hn,hb2⟩;have d:=(i.o.step hb2).step (zae f (.cells #[(A2,m2,c2)] 37));have j:=un d;have o:=un (hn.alloc (.cells #[(A2,m2,c2)] 37));have L:(f.alloc (.cells #[(A2,m2,c2)] 37)).cell? ⟨w,0,none⟩=some (.bool g):=zac d.ka 0;have M:(f.alloc (.cells #[(A2,m2,c2)] 37)).cell? ⟨f,0,none⟩=some (A2,m2,c2):=zac (zal _ _ _) 0;clear hn hb2 d;go_wp2_with fail
  with_reducible refine(new g A2 m2 c2 (x.natAbs-y.natAbs) _ o.o).mono ?_
  rintro e k ⟨g4,A4,m4,c4,rfl,b,hb4⟩;have a:=j.o.step hb4;have r:=un a;have n:=un b;have u:k.cell? ⟨w.heap.size+1+1,0,none⟩=some (.bool false):=zac a.kr 0;have z:k.cell? ⟨w.heap.size+1+1,1,none⟩=some ():=zac a.kr 1;have N:=zag a.kr 0;have O:=zag a.kr 1;clear b hb4 a;go_wp2;refine bodyPost_ret (v:=.agg #[g4,(A4,m4,c4)]) (by simp[results,results61,go_sem,u,z]) rfl ?_;have b:=n.o;rw[zov g x y p.o J.o (by rw[←p.o,←q.o];exact D.o)]at b;exact r.o.fin b
theorem add(g g':Bool)(A:OA)(m c:Nat)(x:Int)(B:OA)(m' c':Nat)(y:Int)(w:World)(h:IntS w g (A,m,c) x)(a:IntS w g' (B,m',c') y)(b:wlen x.natAbs≤LIM)(d:wlen y.natAbs≤LIM) :
  Calls prog 61 #[.agg #[g,(A,m,c)],.agg #[g',(B,m',c')]] w (zfg w (x+y)):=by
 by_cases e:g=g'
 ·subst e;exact zv8 g A m c x B m' c' y w h a b d
 ·exact zv7 g g' A m c x B m' c' y w e h a b d
