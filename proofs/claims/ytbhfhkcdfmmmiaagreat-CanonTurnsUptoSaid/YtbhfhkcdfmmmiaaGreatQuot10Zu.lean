/- Contracts and lemmas: Quot10 Gcd1 Gcd2 Int1 Int2 Int3. Conditions: as each says. -/
import Derived.Test.YtbhfhkcdfmmmiaaGreatQuot7Zu
import Derived.Deep.LoopGhost
set_option linter.all false
set_option maxHeartbeats 1000000
set_option maxRecDepth 100000
namespace Go.Proofs.YtbhfhkcdfmmmiaaGreat
open Go.RowKit Am
open Lib (hid)
attribute [local go_sem ↓] Go.wp_at_zero Go.wp_at_succ
variable {b c c' m m' x y:Nat}{A B:OA}{v:Value}{w w' wr:World}
namespace Qt
theorem zyj(A B:OA)(m c m' c' a b:Nat)(w:World)(d:zas w (A,m,c) a)(e:zas w (B,m',c') b)(f:0<b)(g:wlen a+1≤LIM) :
  Calls Tryz.prog 157 #[.agg #[(A,m,c)],.agg #[(B,m',c')]] w (zv4 w (a/b) (a%b) true):=by
 by_cases h1:wlen b≤1
 ·exact zr5 A B m c m' c' a b w d e f h1 (by omega)
 ·rcases Nat.lt_or_ge a b with h | h
  ·exact zpY A B m c m' c' a b w d e h1 h
  ·exact zr4 A B m c m' c' a b w d e h1 h g
theorem div(A B:OA)(m c m' c' a b:Nat)(w:World)(i:zas w (A,m,c) a)(d:zas w (B,m',c') b)(j:0<b)(k:wlen a+1≤LIM) :
  Calls Tryz.prog 135 #[.agg #[(A,m,c)],.agg #[(B,m',c')]] w (zjL w (a/b) true):=by
 have n:=hid i;have o:=hid d;have s:=hid k;have q:=hid j;clear i d k j;go_enter Tryz.func135,Tryz.ntmps135;go_wp2_with fail
 refine(zyj A B m c m' c' a b _ (((n.out.alloc _).alloc _).alloc _) (((o.out.alloc _).alloc _).alloc _) q.out s.out).mono ?_;rintro e l ⟨A1,m1,c1,A2,m2,c2,rfl,hq,hr,hb2⟩;have y:=hid ((hb2.block (w.heap.size+1+1) (by simp)).trans (zam (cs:=#[.slice none 0 0]) (t:=37) (by simp)));have x:=hb2.size;simp at x;have u:=hid hq;have r:=hid hb2;clear hq hr hb2
 have f:=hid (show((l.alloc (.cells #[(A1,m1,c1)] 37)).alloc (.cells #[(A2,m2,c2)] 37)).heap[w.heap.size+1+1]? = some (.cells #[()] 37 (0,0))from zak (zak y.out));have g:=zac f.out 0;have z:=zag f.out 0;simp only[List.getElem?_toArray,List.getElem?_cons_zero]at g;go_wp2;refine bodyPost_ret (v:=.tuple #[.agg #[(A1,m1,c1)],true]) (by simp[results,Tryz.results135,go_sem,g]) rfl ?_
 have d:Below w.heap.size w ((l.alloc (.cells #[(A1,m1,c1)] 37)).alloc (.cells #[(A2,m2,c2)] 37)):=(((((zae w _).alloc (by simp) _).alloc (by simp;omega) _).trans (r.out.mono (by simp;omega))).alloc (by omega) _).alloc (by simp;omega) _;exact⟨_,_,_,rfl,zas.setBox ((u.out.alloc _).alloc _) (Box.of f.out),bsc d⟩
theorem mod(A B:OA)(m c m' c' a b:Nat)(w:World)(i:zas w (A,m,c) a)(d:zas w (B,m',c') b)(j:0<b)(k:wlen a+1≤LIM) :
  Calls Tryz.prog 156 #[.agg #[(A,m,c)],.agg #[(B,m',c')]] w (zjL w (a%b) true):=by
 have n:=hid i;have o:=hid d;have s:=hid k;have q:=hid j;clear i d k j;go_enter Tryz.func156,Tryz.ntmps156;go_wp2_with fail
 refine(zyj A B m c m' c' a b _ (((n.out.alloc _).alloc _).alloc _) (((o.out.alloc _).alloc _).alloc _) q.out s.out).mono ?_;rintro e l ⟨A1,m1,c1,A2,m2,c2,rfl,hq,hr,hb2⟩;have y:=hid ((hb2.block (w.heap.size+1+1) (by simp)).trans (zam (cs:=#[.slice none 0 0]) (t:=37) (by simp)));have x:=hb2.size;simp at x;have u:=hid hr;have r:=hid hb2;clear hq hr hb2
 have f:=hid (show((l.alloc (.cells #[(A1,m1,c1)] 37)).alloc (.cells #[(A2,m2,c2)] 37)).heap[w.heap.size+1+1]? = some (.cells #[()] 37 (0,0))from zak (zak y.out));have g:=zac f.out 0;have z:=zag f.out 0;simp only[List.getElem?_toArray,List.getElem?_cons_zero]at g;go_wp2;refine bodyPost_ret (v:=.tuple #[.agg #[(A2,m2,c2)],true]) (by simp[results,Tryz.results156,go_sem,g]) rfl ?_
 have d:Below w.heap.size w ((l.alloc (.cells #[(A1,m1,c1)] 37)).alloc (.cells #[(A2,m2,c2)] 37)):=(((((zae w _).alloc (by simp) _).alloc (by simp;omega) _).trans (r.out.mono (by simp;omega))).alloc (by omega) _).alloc (by simp;omega) _;exact⟨_,_,_,rfl,zas.setBox ((u.out.alloc _).alloc _) (Box.of f.out),bsc d⟩
end Qt
namespace Gc
structure GS (w wr:World) (A:OA) (m c:Nat) (B:OA) (m' c' x y:Nat):Prop where
  ka:wr.heap[w.heap.size]? = some (.cells #[(A,m,c)] 37 (0,0))
  kb:wr.heap[w.heap.size+1]? = some (.cells #[(B,m',c')] 37 (0,0))
  kr:wr.heap[w.heap.size+1+1]? = some (.cells #[()] 37 (0,0))
  x:zas wr (A,m,c) x
  y:zas wr (B,m',c') y
  bel:Below w.heap.size w wr
theorem GS.step(h:GS w wr A m c B m' c' x y)(a:Below wr.heap.size wr w'):GS w w' A m c B m' c' x y :=
 ⟨zad a h.ka,zad a h.kb,zad a h.kr,h.x.below a,h.y.below a,h.bel.trans (a.mono h.bel.size)⟩
theorem GS.turn(h:GS w wr A m c B m' c' x y){C:OA}{a z:Nat}(f:zas wr (C,b,a) z) :
  GS w ((wr.setCell ⟨w.heap.size,0,none⟩ (B,m',c')).setCell ⟨w.heap.size+1,0,none⟩ (C,b,a)) B m' c' C b a y z:=by
 have d:=Box.of h.ka;have e:Box (wr.setCell ⟨w.heap.size,0,none⟩ (B,m',c')) (w.heap.size+1):=Box.set (Box.of h.kb);have k2:=(Below.heap_setCell wr ⟨w.heap.size,0,none⟩ (B,m',c') (w.heap.size+1) (by simp)).trans h.kb;refine⟨?_,one_setCell k2,?_,zas.setBox (zas.setBox h.y d) e,zas.setBox (zas.setBox f d) e,bsc (Below.setCell h.bel (p:=⟨w.heap.size,0,none⟩) (Nat.le_refl _) _)⟩
 ·exact(Below.heap_setCell _ ⟨w.heap.size+1,0,none⟩ _ w.heap.size (by simp)).trans (one_setCell h.ka)
 ·exact(Below.heap_setCell _ ⟨w.heap.size+1,0,none⟩ _ (w.heap.size+1+1) (by simp)).trans ((Below.heap_setCell _ ⟨w.heap.size,0,none⟩ _ (w.heap.size+1+1) (by simp;omega)).trans h.kr)
theorem of(A B:OA)(m c m' c' a b:Nat)(w:World)(D:zas w (A,m,c) a)(E:zas w (B,m',c') b)(G:wlen a+1≤LIM)(H:wlen b+1≤LIM) :
  Calls Tryz.prog 134 #[.agg #[(A,m,c)],.agg #[(B,m',c')]] w (zc0 w (Nat.gcd a b)):=by
 have Q:=hid D;have R:=hid E;have S:=hid G;have T:=hid H;clear D E G H;go_enter Tryz.func134,Tryz.ntmps134;go_wp2_with fail
 have X:=hid (show GS w (((w.alloc (.cells #[(A,m,c)] 37)).alloc (.cells #[(B,m',c')] 37)).alloc (.cells #[()] 37)) A m c B m' c' a b from
  ⟨zak (zak (zam rfl)),zak (zam (by simp)),zam (by simp),((Q.out.alloc _).alloc _).alloc _,((R.out.alloc _).alloc _).alloc _,((zae w _).alloc (by simp) _).alloc (by simp;omega) _⟩)
 generalize ((w.alloc (.cells #[(A,m,c)] 37)).alloc (.cells #[(B,m',c')] 37)).alloc (.cells #[()] 37)=w1 at *
 go_loopg [] b (fun Z wr=>∃(k:OA) (q o:Nat) (f:OA) (i g x y:Nat),GS w wr k q o f i g x y∧Nat.gcd x y=Nat.gcd a b∧wlen x+1≤LIM∧wlen y+1≤LIM∧y≤Z)
 case atStart=>exact⟨A,m,c,B,m',c',a,b,X.out,rfl,S.out,T.out,Nat.le_refl _⟩
 case round =>
  obtain⟨k,q,o,f,i,g,x,y,t,F,I,J,L⟩:=hrel;have r:=hid t;have z:=hid F;have U:=hid I;have C:=hid J;have Y:=hid L;have kb:=zac t.kb 0;simp only[List.getElem?_toArray,List.getElem?_cons_zero]at kb;clear t F I J L;rcases Nat.eq_zero_or_pos y with hy0 | hy0
  ·have M:isZ y=true:=by rw[hy0];rfl
   have n:=hid hy0;have d:=hid (r.out.step (zae wr (.cells #[(f,i,g)] 37)));have s:=zac d.out.ka 0;have P:=zac d.out.kr 0;have af:=zag d.out.kr 0;simp only[List.getElem?_toArray,List.getElem?_cons_zero]at s P;clear hy0;go_wp2_with (go_at_call 94;(with_reducible refine(Nt.zero (f,i,g) y _ r.out.y).mono ?_);rintro e w2 ⟨rfl,rfl⟩)
   refine bodyPost_ret (v:=.agg #[(k,q,o)]) (by simp[results,Tryz.results134,go_sem,P]) rfl ?_;have K:=d.out.x;have hg:=z.out;rw[n.out,Nat.gcd_zero_right]at hg;rw[hg]at K;exact⟨_,_,_,rfl,zas.setBox K (Box.of d.out.kr),bsc d.out.bel⟩
  ·have M:=zk4 hy0;have n:=hid hy0;have d:=hid (r.out.step (zae wr (.cells #[(f,i,g)] 37)));have s:=zac d.out.ka 0;have N:=zac d.out.kb 0;simp only[List.getElem?_toArray,List.getElem?_cons_zero]at s N;clear hy0
   go_wp2_with (first
    | (go_at_call 94;(with_reducible refine(Nt.zero (f,i,g) y _ r.out.y).mono ?_);rintro e w2 ⟨rfl,rfl⟩)
    | (go_at_call 156;(with_reducible refine(Qt.mod k f q o i g x y _ d.out.x d.out.y n.out U.out).mono ?_);rintro e j ⟨A3,m3,c3,rfl,hr,hb3⟩;have u:=hid (d.out.step hb3);have V:=hid hr;clear hr hb3))
   have l:Hid (GS w (j.alloc (.cells #[(A3,m3,c3)] 37)).drew k q o f i g x y):=hid (u.out.step ((zae j _).drew));have W:Hid (zas (j.alloc (.cells #[(A3,m3,c3)] 37)).drew (A3,m3,c3) (x%y)):=hid ((V.out.alloc _).drew);have ai:(j.alloc (.cells #[(A3,m3,c3)] 37)).drew.cell? ⟨j.heap.size,0,none⟩=some (A3,m3,c3):=zax rfl rfl;have ad:w.heap.size+3≤j.heap.size:=by
    have:=(Array.getElem?_eq_some_iff.1 u.out.kr).1;omega
   have aa:=zac l.out.ka 0;have ag:=zag l.out.ka 0;have O:=zac l.out.kb 0;have ab:=zag l.out.kb 0;simp only[List.getElem?_toArray,List.getElem?_cons_zero]at aa O;have aj:((j.alloc (.cells #[(A3,m3,c3)] 37)).setCell ⟨w.heap.size,0,none⟩ (f,i,g)).drew.cell? ⟨j.heap.size,0,none⟩=some (A3,m3,c3):=cell_set (by omega) (zax rfl rfl);have ae:(j.alloc (.cells #[(A3,m3,c3)] 37)).cell? ⟨w.heap.size+1,0,none⟩=some (f,i,g):=O
   have ah:(j.alloc (.cells #[(A3,m3,c3)] 37)).frozen? ⟨w.heap.size+1,0,none⟩=false:=ab;clear s N kb M;go_region
   all_goals
    go_wp2;go_roundg (x%y)
    case measure=>have:=Nat.mod_lt x n.out;have:=Y.out;omega
    case rel =>
     refine⟨f,i,g,A3,m3,c3,y,x%y,l.out.turn W.out,?_,C.out,?_,Nat.le_refl _⟩
     ·rw[←z.out,Nat.gcd_comm y,←Nat.gcd_rec,Nat.gcd_comm]
     ·have:=zco (Nat.le_of_lt (Nat.mod_lt x n.out));have:=C.out;omega
end Gc
namespace Gc
structure RS (w wr:World) (A:OA) (m c:Nat) (B:OA) (m' c' x y:Nat):Prop where
  ka:wr.heap[w.heap.size]? = some (.cells #[(A,m,c)] 37 (0,0))
  kb:wr.heap[w.heap.size+1]? = some (.cells #[(B,m',c')] 37 (0,0))
  k2:wr.heap[w.heap.size+1+1]? = some (.cells #[()] 37 (0,0))
  k3:wr.heap[w.heap.size+1+1+1]? = some (.cells #[()] 37 (0,0))
  x:zas wr (A,m,c) x
  y:zas wr (B,m',c') y
  bel:Below w.heap.size w wr
theorem RS.step(h:RS w wr A m c B m' c' x y)(a:Below wr.heap.size wr w'):RS w w' A m c B m' c' x y :=
 ⟨zad a h.ka,zad a h.kb,zad a h.k2,zad a h.k3,h.x.below a,h.y.below a,h.bel.trans (a.mono h.bel.size)⟩
theorem zx8(h:w.heap[b]? = some (.cells #[v] 37 (0,0))):w.cell? ⟨b,0,none⟩=some v:=zac h 0
theorem reduce(A B:OA)(m c m' c' a b:Nat)(w:World)(C:zas w (A,m,c) a)(D:zas w (B,m',c') b)(E:0<b)(F:wlen a+1≤LIM)(G:wlen b+1≤LIM) :
  Calls Tryz.prog 90 #[.agg #[(A,m,c)],.agg #[(B,m',c')]] w (zpo w (a/Nat.gcd a b) (b/Nat.gcd a b)):=by
 have J:=hid C;have K:=hid D;have o:=hid F;have q:=hid G;have j:=hid (Nat.gcd_pos_of_pos_right a E);clear C D F G E;go_enter Tryz.func90,Tryz.ntmps90;go_wp2_with fail
 have k:=hid (show RS w ((((w.alloc (.cells #[(A,m,c)] 37)).alloc (.cells #[(B,m',c')] 37)).alloc (.cells #[()] 37)).alloc (.cells #[()] 37)) A m c B m' c' a b from
  ⟨zak (zak (zak (zam rfl))),zak (zak (zam (by simp))),zak (zam (by simp)),zam (by simp),(((J.out.alloc _).alloc _).alloc _).alloc _,(((K.out.alloc _).alloc _).alloc _).alloc _,(((zae w _).alloc (by simp) _).alloc (by simp;omega) _).alloc (by simp;omega) _⟩)
 generalize (((w.alloc (.cells #[(A,m,c)] 37)).alloc (.cells #[(B,m',c')] 37)).alloc (.cells #[()] 37)).alloc (.cells #[()] 37)=W0 at *
 refine(of A B m c m' c' a b _ k.out.x k.out.y o.out q.out).mono ?_;rintro e w1 ⟨G1,mg,cg,rfl,hg1,hb1⟩;have M:=hid ((k.out.step hb1).step (zae w1 (.cells #[(G1,mg,cg)] 37)));have r:=hid (hg1.alloc (.cells #[(G1,mg,cg)] 37));have n:(w1.alloc (.cells #[(G1,mg,cg)] 37)).heap[w1.heap.size]? = some (.cells #[(G1,mg,cg)] 37 (0,0)):=zam rfl;have Q:=hid n;have aa:=zx8 n;clear hg1 hb1 n;have H:=zk4 j.out;go_wp2_with fail
 generalize w1.alloc (.cells #[(G1,mg,cg)] 37)=W1 at *
 generalize w1.heap.size=gb at *
 refine(Nt.zero (G1,mg,cg) (Nat.gcd a b) _ r.out).mono ?_;rintro e w' ⟨rfl,rfl⟩;rw[H];have l:=hid (M.out.step (zae W1 (.cells #[(G1,mg,cg)] 37)));have s:=hid (r.out.alloc (.cells #[(G1,mg,cg)] 37));have t:=hid (zad (zae W1 (.cells #[(G1,mg,cg)] 37)) Q.out);have Y:=zx8 t.out;have W:=zx8 l.out.ka;clear aa H;generalize W1.alloc (.cells #[(G1,mg,cg)] 37)=W2 at *
 go_wp2_with fail
 refine(Qt.div A G1 m c mg cg a (Nat.gcd a b) _ l.out.x s.out j.out o.out).mono ?_;rintro e g ⟨X3,m3,c3,rfl,hx3,hb3⟩;have i:=hid ((l.out.step hb3).step (zae g (.cells #[(X3,m3,c3)] 37)));have L:=hid ((s.out.below hb3).alloc (.cells #[(X3,m3,c3)] 37));have N:=hid (hx3.alloc (.cells #[(X3,m3,c3)] 37));have R:=hid (zad (zae g (.cells #[(X3,m3,c3)] 37)) (zad hb3 t.out))
 have I:(g.alloc (.cells #[(X3,m3,c3)] 37)).heap[g.heap.size]? = some (.cells #[(X3,m3,c3)] 37 (0,0)):=zam rfl;have S:=hid I;have Z:=zx8 R.out;have X:=zx8 i.out.kb;clear Y W I hx3 hb3;go_wp2_with fail
 generalize g.alloc (.cells #[(X3,m3,c3)] 37)=W3 at *
 generalize g.heap.size=xb at *
 refine(Qt.div B G1 m' c' mg cg b (Nat.gcd a b) _ i.out.y L.out j.out q.out).mono ?_;rintro e d ⟨Y4,m4,c4,rfl,hy4,hb4⟩;have f:Hid (RS w (d.alloc (.cells #[(Y4,m4,c4)] 37)).drew A m c B m' c' a b):=hid ((i.out.step hb4).step ((zae d _).drew));have O:Hid (zas (d.alloc (.cells #[(Y4,m4,c4)] 37)).drew (X3,m3,c3) (a/Nat.gcd a b)):=hid (((N.out.below hb4).alloc _).drew)
 have P:Hid (zas (d.alloc (.cells #[(Y4,m4,c4)] 37)).drew (Y4,m4,c4) (b/Nat.gcd a b)):=hid ((hy4.alloc _).drew);have ae:(d.alloc (.cells #[(Y4,m4,c4)] 37)).drew.cell? ⟨xb,0,none⟩=some (X3,m3,c3):=cell_al (zx8 (zad hb4 S.out));have af:(d.alloc (.cells #[(Y4,m4,c4)] 37)).drew.cell? ⟨d.heap.size,0,none⟩=some (Y4,m4,c4):=zax rfl rfl;have ad:w.heap.size+4≤d.heap.size:=by have:=(Array.getElem?_eq_some_iff.1 (zad hb4 i.out.k3)).1;omega
 have u:=zx8 f.out.k2;have g4:=zag f.out.k2 0;have z:=zx8 f.out.k3;have V:=zag f.out.k3 0;have T:(d.alloc (.cells #[(Y4,m4,c4)] 37)).cell? ⟨w.heap.size+1+1,0,none⟩=some ():=u;have U:(d.alloc (.cells #[(Y4,m4,c4)] 37)).cell? ⟨w.heap.size+1+1+1,0,none⟩=some ():=z;have ac:(d.alloc (.cells #[(Y4,m4,c4)] 37)).frozen? ⟨w.heap.size+1+1+1,0,none⟩=false:=V
 have ag:((d.alloc (.cells #[(Y4,m4,c4)] 37)).setCell ⟨w.heap.size+1+1,0,none⟩ (X3,m3,c3)).drew.cell? ⟨d.heap.size,0,none⟩=some (Y4,m4,c4):=cell_set (by omega) (zax rfl rfl);clear Z X hy4 hb4;go_wp2_with fail
 go_region
 all_goals
  go_wp2;refine bodyPost_ret (v:=.tuple #[.agg #[(X3,m3,c3)],.agg #[(Y4,m4,c4)]]) (by simp[results,Tryz.results90,go_sem,u,z,T,U]) rfl ?_;exact⟨_,_,_,_,_,_,rfl,zas.setBox (zas.setBox O.out (Box.of f.out.k2)) (Box.set (Box.of f.out.k3)),zas.setBox (zas.setBox P.out (Box.of f.out.k2)) (Box.set (Box.of f.out.k3)),bsc (bsc f.out.bel)⟩
end Gc
structure IntS (w:World) (g:Bool) (s:Value) (z:Int):Prop where
  abs:zas w s z.natAbs
  neg:g=decide (z<0)
theorem IntS.below{w w':World}{g:Bool}{s:Value}{z:Int}(h:IntS w g s z)(a:Below w.heap.size w w'):IntS w' g s z:=⟨h.abs.below a,h.neg⟩
theorem IntS.alloc{w:World}{g:Bool}{s:Value}{z:Int}(h:IntS w g s z)(o:Obj):IntS (w.alloc o) g s z:=⟨h.abs.alloc o,h.neg⟩
def zfg (w:World) (z:Int) (e:Ending) (w':World):Prop:=∃(g:Bool) (A:OA) (m c:Nat),e=.returned (.agg #[g,(A,m,c)])∧IntS w' g (A,m,c) z∧Below w.heap.size w w'
namespace It
theorem zBc(g:Bool)(n:Nat):(g && !isZ n)=decide ((if g then -(n:Int)else (n:Int))<0):=by
 unfold isZ;cases g
 ·simp
 ·by_cases h:n=0
  ·simp[h]
  ·simp[h];omega
theorem zlh{u:Value}{s:Value}{n:Nat}(h:zas w s n)(a:w.heap[b]? = some (.cells #[false,()] 39 (0,0))):zas ((w.setCell ⟨b,0,none⟩ u).setCell ⟨b,1,none⟩ v) s n:=by
 have h1:=heap_setCell_same w b 0 _ 39 u a;exact(h.setCell (p:=⟨b,0,none⟩) a (by decide) u).setCell (p:=⟨b,1,none⟩) h1 (by decide) v
theorem new(g:Bool)(A:OA)(m c n:Nat)(w:World)(k:zas w (A,m,c) n) :
  Calls Tryz.prog 49 #[g,.agg #[(A,m,c)]] w (zfg w (if g then -(n:Int)else (n:Int))):=by
 have q:=hid (zBc g n);obtain⟨W,a⟩:∃W,W=(w.alloc (.cells #[(A,m,c)] 37)).alloc (.cells #[false,()] 39):=⟨_,rfl⟩
 have i:=hid (show zas W (A,m,c) n by rw[a];exact(k.alloc _).alloc _);have o:=hid i.out.drew;have j:=hid (show W.heap[w.heap.size]? = some (.cells #[(A,m,c)] 37 (0,0))by rw[a];exact zak (zam rfl));have b:=hid (show W.heap[w.heap.size+1]? = some (.cells #[false,()] 39 (0,0))by rw[a];exact zam (by simp));have f:=hid (show Below w.heap.size w W by rw[a];exact(zae w _).alloc (by simp) _)
 have x:W.drew.cell? ⟨w.heap.size,0,none⟩=some (A,m,c):=zac j.out 0;have y:(W.alloc (.cells #[(A,m,c)] 37)).drew.cell? ⟨w.heap.size,0,none⟩=some (A,m,c):=cell_al (zac j.out 0);have d:Hid ((W.alloc (.cells #[(A,m,c)] 37)).heap[w.heap.size+1]? = some (.cells #[false,()] 39 (0,0))):=hid (zak b.out);have t:W.cell? ⟨w.heap.size+1,0,none⟩=some (.bool false):=zac b.out 0;have u:W.cell? ⟨w.heap.size+1,1,none⟩=some ():=zac b.out 1
 have C:=zag b.out 0;have D:=zag b.out 1;have r:(W.alloc (.cells #[(A,m,c)] 37)).cell? ⟨w.heap.size+1,0,none⟩=some (.bool false):=zac d.out 0;have s:(W.alloc (.cells #[(A,m,c)] 37)).cell? ⟨w.heap.size+1,1,none⟩=some ():=zac d.out 1;have z:=zag d.out 0;have B:=zag d.out 1;clear k;have l:Hid (zas (W.alloc (.cells #[(A,m,c)] 37)) (A,m,c) n):=hid (i.out.alloc _);cases g
 case false =>
  go_enter Tryz.func49,Tryz.ntmps49;go_wp2_with fail
  rw[←a];clear a;go_region_with fail
  all_goals
   go_wp2;refine bodyPost_ret (v:=.agg #[false,(A,m,c)]) (by simp[results,Tryz.results49,go_sem,t,u]) rfl ?_;exact⟨false,A,m,c,rfl,⟨by simpa using(zlh i.out b.out).drew,by simp⟩,(bsc (bsc f.out)).drew⟩
 case true =>
  go_enter Tryz.func49,Tryz.ntmps49;go_wp2_with fail
  rw[←a];clear a;go_region_with (go_at_call 94;(with_reducible refine(Nt.zero (A,m,c) n _ o.out).mono ?_);rintro e E ⟨rfl,rfl⟩)
  all_goals
   go_wp2;refine bodyPost_ret (v:=.agg #[.bool (!isZ n),(A,m,c)]) (by simp[results,Tryz.results49,go_sem,r,s]) rfl ?_;exact⟨!isZ n,A,m,c,rfl,⟨by simpa using(zlh l.out d.out).drew,by have:=q.out;simpa using this⟩,(bsc (bsc (f.out.alloc f.out.size _))).drew⟩
end It
namespace It
theorem abs(g:Bool)(A:OA)(m c:Nat)(w:World):Calls Tryz.prog 91 #[.agg #[g,(A,m,c)]] w fun e w'=>e=.returned (.agg #[(A,m,c)])∧Below w.heap.size w w':=by
 go_enter Tryz.func91,Tryz.ntmps91;go_wp2;exact bodyPost_ret (v:=.agg #[(A,m,c)]) (by simp[results,Tryz.results91,go_sem]) rfl ⟨rfl,(zae w _).alloc (by simp) _⟩
theorem isBelow(g:Bool)(A:OA)(m c:Nat)(w:World):Calls Tryz.prog 93 #[.agg #[g,(A,m,c)]] w fun e w'=>e=.returned g∧Below w.heap.size w w':=by
 go_enter Tryz.func93,Tryz.ntmps93;go_wp2;go_ret
 exact⟨rfl,zae w _⟩
theorem signed(g:Bool)(z:Int)(h:g=decide (z<0)):(if (!g)=true then -((z.natAbs:Nat):Int)else ((z.natAbs:Nat):Int)) = -z:=by
 by_cases a:z<0
 ·rw[h,decide_eq_true a];simp;omega
 ·rw[h,decide_eq_false a];simp;omega
theorem neg(g:Bool)(A:OA)(m c:Nat)(z:Int)(w:World)(h:IntS w g (A,m,c) z):Calls Tryz.prog 81 #[.agg #[g,(A,m,c)]] w (zfg w (-z)):=by
 have f:=hid (signed g z h.neg);have j:=hid (new (!g) A m c z.natAbs _ ((h.abs.alloc (.cells #[g,(A,m,c)] 39)).alloc (.cells #[false,()] 39)));clear h;go_enter Tryz.func81,Tryz.ntmps81;go_wp2_with fail
 refine j.out.mono ?_;rintro e b ⟨g2,A2,m2,c2,rfl,a,hb⟩;have kr:=hid (zad hb (show((w.alloc (.cells #[g,(A,m,c)] 39)).alloc (.cells #[false,()] 39)).heap[w.heap.size+1]? = some (.cells #[false,()] 39 (0,0))from zam (by simp)));have l:b.cell? ⟨w.heap.size+1,0,none⟩=some (.bool false):=zac kr.out 0;have n:b.cell? ⟨w.heap.size+1,1,none⟩=some ():=zac kr.out 1;have o:=zag kr.out 0;have q:=zag kr.out 1;have i:=hid a;have d:=hid hb
 clear a hb;go_wp2;refine bodyPost_ret (v:=.agg #[g2,(A2,m2,c2)]) (by simp[results,Tryz.results81,go_sem,l,n]) rfl ?_;have a:=i.out;rw[f.out]at a;have k:=((zae w _).alloc (by simp) _).trans (d.out.mono (by simp;omega));exact⟨g2,A2,m2,c2,rfl,⟨zlh a.abs kr.out,a.neg⟩,bsc (bsc k)⟩
theorem sign(g:Bool)(A:OA)(m c:Nat)(z:Int)(w:World)(h:IntS w g (A,m,c) z):Calls Tryz.prog 82 #[.agg #[g,(A,m,c)]] w fun e w'=>e=.returned (.int .i64 z.sign)∧Below w.heap.size w w':=by
 have f:=hid (h.abs.alloc (.cells #[g,(A,m,c)] 39));have hg:=h.neg;clear h;rcases Int.lt_trichotomy z 0 with hz | hz | hz
 ·rw[decide_eq_true hz]at hg;have a:=hid (Int.sign_eq_neg_one_of_neg hz);subst hg;clear hz;go_enter Tryz.func82,Tryz.ntmps82;go_wp2;go_ret
  exact⟨by rw[a.out];rfl,zae w _⟩
 ·subst hz;have b:g=false:=hg;subst b;have d:isZ (Int.natAbs 0)=true:=rfl;clear hg;go_enter Tryz.func82,Tryz.ntmps82;go_wp2_with (go_at_call 94;(with_reducible refine(Nt.zero (A,m,c) (Int.natAbs 0) _ f.out).mono ?_);rintro e i ⟨rfl,rfl⟩;rw[d])
  go_ret
  exact⟨rfl,(zae w _).alloc (by simp) _⟩
 ·have b:g=false:=by rw[hg,decide_eq_false (by omega)]
  have a:=hid (Int.sign_eq_one_of_pos hz);have d:isZ z.natAbs=false:=zk4 (by omega);subst b;clear hg hz;go_enter Tryz.func82,Tryz.ntmps82;go_wp2_with (go_at_call 94;(with_reducible refine(Nt.zero (A,m,c) z.natAbs _ f.out).mono ?_);rintro e i ⟨rfl,rfl⟩;rw[d])
  go_ret
  exact⟨by rw[a.out];rfl,(zae w _).alloc (by simp) _⟩
end It
namespace It
theorem cmp(g:Bool)(A:OA)(m c:Nat)(x:Int)(g':Bool)(B:OA)(m' c':Nat)(y:Int)(w:World)(h:IntS w g (A,m,c) x)(j:IntS w g' (B,m',c') y) :
  Calls Tryz.prog 63 #[.agg #[g,(A,m,c)],.agg #[g',(B,m',c')]] w fun e w'=>e=.returned (.int .i64 (ze9 x y))∧Below w.heap.size w w':=by
 have k:=hid ((h.abs.alloc (.cells #[g,(A,m,c)] 39)).alloc (.cells #[g',(B,m',c')] 39));have l:=hid ((j.abs.alloc (.cells #[g,(A,m,c)] 39)).alloc (.cells #[g',(B,m',c')] 39));have f:=hid h.neg;have i:=hid j.neg;have d:=hid ((zae w (.cells #[g,(A,m,c)] 39)).alloc (by simp) (.cells #[g',(B,m',c')] 39));clear h j;have a:∀ {p:Prop} [Decidable p],true=decide p→p:=fun h=>of_decide_eq_true h.symm
 have b:∀ {p:Prop} [Decidable p],false=decide p→¬p:=fun h=>of_decide_eq_false h.symm
 cases g<;>cases g'
 ·have h1:=hid (show ze9 ((x.natAbs:Nat):Int) ((y.natAbs:Nat):Int)=ze9 x y by
   have:=b f.out;have:=b i.out;rw[show((x.natAbs:Nat):Int)=x by omega,show((y.natAbs:Nat):Int)=y by omega])
  clear a b;go_enter Tryz.func63,Tryz.ntmps63;go_wp2_with (go_at_call 88;(with_reducible refine(Nt.cmp A B m c m' c' x.natAbs y.natAbs _ k.out l.out).mono ?_);rintro e n ⟨rfl,hb⟩;rw[h1.out])
  go_ret
  exact⟨rfl,d.out.trans (hb.mono d.out.size)⟩
 ·have h1:=hid (show ze9 x y=1 from zea (by have:=b f.out;have:=a i.out;omega));clear a b;go_enter Tryz.func63,Tryz.ntmps63;go_wp2;go_ret
  exact⟨by rw[h1.out];rfl,d.out⟩
 ·have h1:=hid (show ze9 x y = -1 from zeb (by have:=a f.out;have:=b i.out;omega));clear a b;go_enter Tryz.func63,Tryz.ntmps63;go_wp2;go_ret
  exact⟨by rw[h1.out];rfl,d.out⟩
 ·have h1:=hid (show ze9 ((y.natAbs:Nat):Int) ((x.natAbs:Nat):Int)=ze9 x y by
   have:=a f.out;have:=a i.out;unfold ze9;rcases Int.lt_trichotomy x y with h | h | h
   ·rw[if_pos (by omega),if_pos h]
   ·rw[if_neg (by omega),if_neg (by omega),if_neg (by omega),if_neg (by omega)]
   ·rw[if_neg (by omega),if_pos (by omega),if_neg (by omega),if_pos h])
  clear a b;go_enter Tryz.func63,Tryz.ntmps63;go_wp2_with (go_at_call 88;(with_reducible refine(Nt.cmp B A m' c' m c y.natAbs x.natAbs _ l.out k.out).mono ?_);rintro e n ⟨rfl,hb⟩;rw[h1.out])
  go_ret
  exact⟨rfl,d.out.trans (hb.mono d.out.size)⟩
