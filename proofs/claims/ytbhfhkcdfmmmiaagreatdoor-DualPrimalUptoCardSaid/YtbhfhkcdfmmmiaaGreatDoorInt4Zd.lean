/- Contracts and lemmas: Int4. Conditions: as each says. -/
import Derived.Test.YtbhfhkcdfmmmiaaGreatDoorInt2Zd
set_option linter.all false
set_option maxHeartbeats 1000000
set_option maxRecDepth 100000
namespace Go.Proofs.YtbhfhkcdfmmmiaaGreatDoor
open Go.RowKit Am
attribute [local go_sem ↓] Go.wp_at_zero Go.wp_at_succ
namespace It
theorem zA2(g g':Bool)(x y:Int)(h:g=decide (x<0))(a:g'=decide (y<0)):(if (!(g == g'))=true then -((x.natAbs*y.natAbs:Nat):Int)else ((x.natAbs*y.natAbs:Nat):Int))=x*y:=by
 have e:((x.natAbs*y.natAbs:Nat):Int)=(x*y).natAbs:=by rw[Int.natAbs_mul]
 rw[e];rcases Int.lt_trichotomy x 0 with hx | hx | hx<;>rcases Int.lt_trichotomy y 0 with hy | hy | hy
 all_goals first
  | (subst hx;simp;done)
  | (subst hy;simp;done)
  | skip
 ·have:=Int.mul_pos_of_neg_of_neg hx hy;rw[h,a,decide_eq_true hx,decide_eq_true hy];simp;omega
 ·have:=Int.mul_neg_of_neg_of_pos hx hy;rw[h,a,decide_eq_true hx,decide_eq_false (by omega)];simp;omega
 ·have:=Int.mul_neg_of_pos_of_neg hx hy;rw[h,a,decide_eq_false (by omega),decide_eq_true hy];simp;omega
 ·have:=Int.mul_pos hx hy;rw[h,a,decide_eq_false (by omega),decide_eq_false (by omega)];simp;omega
theorem bdrew0'{w w1:World}(h:Below w.drew.heap.size w.drew w1):Below w.heap.size w w1:=⟨h.os,h.tape,h.output,h.size,h.block⟩
theorem mul(g:Bool)(A:OA)(m c:Nat)(x:Int)(g':Bool)(B:OA)(m' c':Nat)(y:Int)(w:World)(h:IntS w g (A,m,c) x)(f:IntS w g' (B,m',c') y)(o:4*wlen x.natAbs≤LIM)(q:4*wlen y.natAbs≤LIM) :
  Calls Tryz.prog 86 #[.agg #[g,(A,m,c)],.agg #[g',(B,m',c')]] w (zfg w (x*y)):=by
 have H:=Lib.hid (zA2 g g' x y h.neg f.neg);have E:=Lib.hid o;have F:=Lib.hid q;obtain⟨W,a⟩:∃W,W=((w.alloc (.cells #[g,(A,m,c)] 47)).alloc (.cells #[g',(B,m',c')] 47)).alloc (.cells #[false,()] 47):=⟨_,rfl⟩
 have t:Hid (zas W.drew (A,m,c) x.natAbs):=Lib.hid (by rw[a];exact(((h.abs.alloc _).alloc _).alloc _).drew);have u:Hid (zas W.drew (B,m',c') y.natAbs):=Lib.hid (by rw[a];exact(((f.abs.alloc _).alloc _).alloc _).drew);have i:W.heap[w.heap.size]? = some (.cells #[g,(A,m,c)] 47 (0,0)):=by rw[a];exact zak (zak (zam rfl))
 have j:W.heap[w.heap.size+1]? = some (.cells #[g',(B,m',c')] 47 (0,0)):=by rw[a];exact zak (zam (by simp))
 have hr:W.heap[w.heap.size+1+1]? = some (.cells #[false,()] 47 (0,0)):=by rw[a];exact zam (by simp)
 have n:Below w.heap.size w W:=by rw[a];exact((zae w _).alloc (by simp) _).alloc (by simp;omega) _
 have I:W.drew.cell? ⟨w.heap.size,0,none⟩=some (.bool g):=zac i 0;have N:W.drew.cell? ⟨w.heap.size,1,none⟩=some (A,m,c):=zac i 1;have J:W.drew.cell? ⟨w.heap.size+1,0,none⟩=some (.bool g'):=zac j 0;have O:W.drew.cell? ⟨w.heap.size+1,1,none⟩=some (B,m',c'):=zac j 1;have D:=Lib.hid hr;have l:=Lib.hid n;clear h f o q i j hr n;go_enter Tryz.func86,Tryz.ntmps86;go_wp2_with fail
 rw[←a];clear a
 go_region_with (first
  | (go_at_call 111;(with_reducible refine(Pr.mul A B m c m' c' x.natAbs y.natAbs _ t.out u.out E.out F.out).mono ?_);rintro e s ⟨A2,m2,c2,rfl,hn,hb2⟩;have G:=Lib.hid hn;have d:=Lib.hid hb2;have u0:=zab hb2 I;have u1:=zab hb2 J;clear hn hb2)
  | (go_at_call 52;(with_reducible refine(new (!(g == g')) A2 m2 c2 (x.natAbs*y.natAbs) _ G.out).mono ?_);rintro e k ⟨g3,A3,m3,c3,rfl,b,hb3⟩;have C:=Lib.hid b;have z:=Lib.hid hb3;have kr:=Lib.hid (zad hb3 (zad d.out (show W.drew.heap[w.heap.size+1+1]? = some (.cells #[false,()] 47 (0,0))from D.out)));have L:k.cell? ⟨w.heap.size+1+1,0,none⟩=some (.bool false):=zac kr.out 0;have M:k.cell? ⟨w.heap.size+1+1,1,none⟩=some ():=zac kr.out 1;have P:=zag kr.out 0;have Q:=zag kr.out 1;clear b hb3))
 all_goals
  go_wp2;refine bodyPost_ret (v:=.agg #[g3,(A3,m3,c3)]) (by simp[results,Tryz.results86,go_sem,L,M]) rfl ?_;have b:=C.out;rw[H.out]at b;have r:=l.out.size;have K:=(l.out.trans ((bdrew0' d.out).mono r)).trans (z.out.mono (Nat.le_trans r (bdrew0' d.out).size));exact⟨g3,A3,m3,c3,rfl,⟨zlh b.abs kr.out,b.neg⟩,bsc (bsc K)⟩
