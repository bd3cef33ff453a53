/- Contracts and lemmas: Quot10 Gcd1 Gcd2 Int1 Int2 Int3. Conditions: as each says. -/
import Derived.Test.YtbhfhkcdfmmmiaaGreatQuot7Zj
import Derived.Deep.LoopGhost
set_option linter.all false
set_option maxHeartbeats 1000000
set_option maxRecDepth 100000
namespace Go.Proofs.YtbhfhkcdfmmmiaaGreat
open Go.RowKit Am Tryz
attribute [local go_sem ↓] Go.wp_at_zero Go.wp_at_succ
variable {b c c' m m' x y:Nat}{A B:OA}{v:Value}{w w' wr:World}
namespace Qt
theorem zyj(A B:OA)(m c m' c' a b:Nat)(w:World)(d:zas w (A,m,c) a)(e:zas w (B,m',c') b)(f:0<b)(g:wlen a+1≤LIM) :
  Calls prog 157 #[.agg #[(A,m,c)],.agg #[(B,m',c')]] w (zv4 w (a/b) (a%b) true):=by grind[zr5,Nat.lt_or_ge,zpY,zr4]
theorem div(A B:OA)(m c m' c' a b:Nat)(w:World)(i:zas w (A,m,c) a)(d:zas w (B,m',c') b)(j:0<b)(k:wlen a+1≤LIM) :
  Calls prog 135 #[.agg #[(A,m,c)],.agg #[(B,m',c')]] w (zjL w (a/b) true):=by
 have n:=un i;have o:=un d;have s:=un k;have q:=un j;clear i d k j;go_enter func135,ntmps135;go_wp2_with fail
 refine(zyj A B m c m' c' a b _ (((n.o.alloc _).alloc _).alloc _) (((o.o.alloc _).alloc _).alloc _) q.o s.o).mono ?_;rintro e l ⟨A1,m1,c1,A2,m2,c2,rfl,hq,hr,hb2⟩;have y:=un ((hb2.block (w.heap.size+1+1) (by simp)).trans (zam (cs:=#[.slice none 0 0]) (t:=37) (by simp)));have x:=hb2.size;simp at x;have u:=un hq;have r:=un hb2;clear hq hr hb2
 have f:=un (show((l.alloc (.cells #[(A1,m1,c1)] 37)).alloc (.cells #[(A2,m2,c2)] 37)).heap[w.heap.size+1+1]? = some (.cells #[()] 37 (0,0))from zak (zak y.o));have g:=zac f.o 0;have z:=zag f.o 0;simp only[ZF,Zz]at g;go_wp2;refine Zd (v:=.tuple #[.agg #[(A1,m1,c1)],true]) (by simp[results,results135,go_sem,g]) rfl ?_
 have d:Below w w ((l.alloc (.cells #[(A1,m1,c1)] 37)).alloc (.cells #[(A2,m2,c2)] 37)):=(((((zae w _).alloc (by simp) _).alloc (by simp;omega) _).trans (r.o.mono (by simp;omega))).alloc (by omega) _).alloc (by simp;omega) _;exact⟨_,_,_,rfl,zas.setBox ((u.o.alloc _).alloc _) (Box.of f.o),bsc d⟩
theorem mod(A B:OA)(m c m' c' a b:Nat)(w:World)(i:zas w (A,m,c) a)(d:zas w (B,m',c') b)(j:0<b)(k:wlen a+1≤LIM) :
  Calls prog 156 #[.agg #[(A,m,c)],.agg #[(B,m',c')]] w (zjL w (a%b) true):=by
 have n:=un i;have o:=un d;have s:=un k;have q:=un j;clear i d k j;go_enter func156,ntmps156;go_wp2_with fail
 refine(zyj A B m c m' c' a b _ (((n.o.alloc _).alloc _).alloc _) (((o.o.alloc _).alloc _).alloc _) q.o s.o).mono ?_;rintro e l ⟨A1,m1,c1,A2,m2,c2,rfl,hq,hr,hb2⟩;have y:=un ((hb2.block (w.heap.size+1+1) (by simp)).trans (zam (cs:=#[.slice none 0 0]) (t:=37) (by simp)));have x:=hb2.size;simp at x;have u:=un hr;have r:=un hb2;clear hq hr hb2
 have f:=un (show((l.alloc (.cells #[(A1,m1,c1)] 37)).alloc (.cells #[(A2,m2,c2)] 37)).heap[w.heap.size+1+1]? = some (.cells #[()] 37 (0,0))from zak (zak y.o));have g:=zac f.o 0;have z:=zag f.o 0;simp only[ZF,Zz]at g;go_wp2;refine Zd (v:=.tuple #[.agg #[(A2,m2,c2)],true]) (by simp[results,results156,go_sem,g]) rfl ?_
 have d:Below w w ((l.alloc (.cells #[(A1,m1,c1)] 37)).alloc (.cells #[(A2,m2,c2)] 37)):=(((((zae w _).alloc (by simp) _).alloc (by simp;omega) _).trans (r.o.mono (by simp;omega))).alloc (by omega) _).alloc (by simp;omega) _;exact⟨_,_,_,rfl,zas.setBox ((u.o.alloc _).alloc _) (Box.of f.o),bsc d⟩
end Qt
namespace Gc
structure GS (w wr:World) (A:OA) (m c:Nat) (B:OA) (m' c' x y:Nat):Prop where
  ka:wr.heap[w.heap.size]? = some (.cells #[(A,m,c)] 37 (0,0))
  kb:wr.heap[w.heap.size+1]? = some (.cells #[(B,m',c')] 37 (0,0))
  kr:wr.heap[w.heap.size+1+1]? = some (.cells #[()] 37 (0,0))
  x:zas wr (A,m,c) x
  y:zas wr (B,m',c') y
  bel:Below w w wr
theorem GS.step(h:GS w wr A m c B m' c' x y)(a:Below wr wr w'):GS w w' A m c B m' c' x y :=
 ⟨zad a h.ka,zad a h.kb,zad a h.kr,h.x.below a,h.y.below a,h.bel.trans (a.mono h.bel.size)⟩
theorem GS.turn(h:GS w wr A m c B m' c' x y){C:OA}{a z:Nat}(f:zas wr (C,b,a) z) :
  GS w ((wr.setCell ⟨w,0,none⟩ (B,m',c')).setCell ⟨w.heap.size+1,0,none⟩ (C,b,a)) B m' c' C b a y z:=by
 have d:=Box.of h.ka;have e:Box (wr.setCell ⟨w,0,none⟩ (B,m',c')) (w.heap.size+1):=Box.set (Box.of h.kb);have k2:=(Zk wr ⟨w,0,none⟩ (B,m',c') (w.heap.size+1) (by simp)).trans h.kb;refine⟨?_,one_setCell k2,?_,zas.setBox (zas.setBox h.y d) e,zas.setBox (zas.setBox f d) e,bsc (ZQ h.bel (p:=⟨w,0,none⟩) (Za _) _)⟩
 ·exact(Zk _ ⟨w.heap.size+1,0,none⟩ _ w.heap.size (by simp)).trans (one_setCell h.ka)
 ·exact(Zk _ ⟨w.heap.size+1,0,none⟩ _ (w.heap.size+1+1) (by simp)).trans ((Zk _ ⟨w,0,none⟩ _ (w.heap.size+1+1) (by simp;omega)).trans h.kr)
theorem of(A B:OA)(m c m' c' a b:Nat)(w:World)(D:zas w (A,m,c) a)(E:zas w (B,m',c') b)(G:wlen a+1≤LIM)(H:wlen b+1≤LIM) :
  Calls prog 134 #[.agg #[(A,m,c)],.agg #[(B,m',c')]] w (zc0 w (Nat.gcd a b)):=by
 have Q:=un D;have R:=un E;have S:=un G;have T:=un H;clear D E G H;go_enter func134,ntmps134;go_wp2_with fail
 have X:=un (show GS w (((w.alloc (.cells #[(A,m,c)] 37)).alloc (.cells #[(B,m',c')] 37)).alloc (.cells #[()] 37)) A m c B m' c' a b from
  ⟨zak (zak (zam rfl)),zak (zam (by simp)),zam (by simp),((Q.o.alloc _).alloc _).alloc _,((R.o.alloc _).alloc _).alloc _,((zae w _).alloc (by simp) _).alloc (by simp;omega) _⟩)
 generalize ((w.alloc (.cells #[(A,m,c)] 37)).alloc (.cells #[(B,m',c')] 37)).alloc (.cells #[()] 37)=w1 at *
 go_loopg [] b (fun Z wr=>∃(k:OA) (q o:Nat) (f:OA) (i g x y:Nat),GS w wr k q o f i g x y∧Nat.gcd x y=Nat.gcd a b∧wlen x+1≤LIM∧wlen y+1≤LIM∧y≤Z)
 case atStart=>exact⟨A,m,c,B,m',c',a,b,X.o,rfl,S.o,T.o,Za _⟩
 case round =>
  obtain⟨k,q,o,f,i,g,x,y,t,F,I,J,L⟩:=hrel;have r:=un t;have z:=un F;have U:=un I;have C:=un J;have Y:=un L;have kb:=zac t.kb 0;simp only[ZF,Zz]at kb;clear t F I J L;rcases XF y with hy0 | hy0
  ·have M:isZ y=true:=by rw[hy0];rfl
   have n:=un hy0;have d:=un (r.o.step (zae wr (.cells #[(f,i,g)] 37)));have s:=zac d.o.ka 0;have P:=zac d.o.kr 0;have af:=zag d.o.kr 0;simp only[ZF,Zz]at s P;clear hy0;go_wp2_with (go_at_call 94;(with_reducible refine(Nt.zero (f,i,g) y _ r.o.y).mono ?_);rintro e w2 ⟨rfl,rfl⟩)
   refine Zd (v:=.agg #[(k,q,o)]) (by simp[results,results134,go_sem,P]) rfl ?_;have K:=d.o.x;have hg:=z.o;rw[n.o,Nat.gcd_zero_right]at hg;rw[hg]at K;exact⟨_,_,_,rfl,zas.setBox K (Box.of d.o.kr),bsc d.o.bel⟩
  ·have M:=zk4 hy0;have n:=un hy0;have d:=un (r.o.step (zae wr (.cells #[(f,i,g)] 37)));have s:=zac d.o.ka 0;have N:=zac d.o.kb 0;simp only[ZF,Zz]at s N;clear hy0
   go_wp2_with (first
    | (go_at_call 94;(with_reducible refine(Nt.zero (f,i,g) y _ r.o.y).mono ?_);rintro e w2 ⟨rfl,rfl⟩)
    | (go_at_call 156;(with_reducible refine(Qt.mod k f q o i g x y _ d.o.x d.o.y n.o U.o).mono ?_);rintro e j ⟨A3,m3,c3,rfl,hr,hb3⟩;have u:=un (d.o.step hb3);have V:=un hr;clear hr hb3))
   have l:Hid (GS w (j.alloc (.cells #[(A3,m3,c3)] 37)).drew k q o f i g x y):=un (u.o.step ((zae j _).drew));have W:Hid (zas (j.alloc (.cells #[(A3,m3,c3)] 37)).drew (A3,m3,c3) (x%y)):=un ((V.o.alloc _).drew);have ai:(j.alloc (.cells #[(A3,m3,c3)] 37)).drew.cell? ⟨j,0,none⟩=some (A3,m3,c3):=zax rfl rfl;have ad:w.heap.size+3≤j.heap.size:=by
    have:=(ZI.1 u.o.kr).1;omega
   have aa:=zac l.o.ka 0;have ag:=zag l.o.ka 0;have O:=zac l.o.kb 0;have ab:=zag l.o.kb 0;simp only[ZF,Zz]at aa O;have aj:((j.alloc (.cells #[(A3,m3,c3)] 37)).setCell ⟨w,0,none⟩ (f,i,g)).drew.cell? ⟨j,0,none⟩=some (A3,m3,c3):=cell_set (by omega) (zax rfl rfl);have ae:(j.alloc (.cells #[(A3,m3,c3)] 37)).cell? ⟨w.heap.size+1,0,none⟩=some (f,i,g):=O
   have ah:(j.alloc (.cells #[(A3,m3,c3)] 37)).frozen? ⟨w.heap.size+1,0,none⟩=false:=ab;clear s N kb M;go_region
   all_goals
    go_wp2;go_roundg (x%y)
    case measure=>have:=Zv x n.o;have:=Y.o;omega
    case rel =>
     refine⟨f,i,g,A3,m3,c3,y,x%y,l.o.turn W.o,?_,C.o,?_,Za _⟩
     ·rw[←z.o,Nat.gcd_comm y,←Nat.gcd_rec,Nat.gcd_comm]
     ·have:=zco (ZW (Zv x n.o));have:=C.o;omega
end Gc
namespace Gc
structure RS (w wr:World) (A:OA) (m c:Nat) (B:OA) (m' c' x y:Nat):Prop where
  ka:wr.heap[w.heap.size]? = some (.cells #[(A,m,c)] 37 (0,0))
  kb:wr.heap[w.heap.size+1]? = some (.cells #[(B,m',c')] 37 (0,0))
  k2:wr.heap[w.heap.size+1+1]? = some (.cells #[()] 37 (0,0))
  k3:wr.heap[w.heap.size+1+1+1]? = some (.cells #[()] 37 (0,0))
  x:zas wr (A,m,c) x
  y:zas wr (B,m',c') y
  bel:Below w w wr
theorem RS.step(h:RS w wr A m c B m' c' x y)(a:Below wr wr w'):RS w w' A m c B m' c' x y :=
 ⟨zad a h.ka,zad a h.kb,zad a h.k2,zad a h.k3,h.x.below a,h.y.below a,h.bel.trans (a.mono h.bel.size)⟩
theorem zx8(h:w.heap[b]? = some (.cells #[v] 37 (0,0))):w.cell? ⟨b,0,none⟩=some v:=zac h 0
theorem reduce(A B:OA)(m c m' c' a b:Nat)(w:World)(C:zas w (A,m,c) a)(D:zas w (B,m',c') b)(E:0<b)(F:wlen a+1≤LIM)(G:wlen b+1≤LIM) :
  Calls prog 90 #[.agg #[(A,m,c)],.agg #[(B,m',c')]] w (zpo w (a/Nat.gcd a b) (b/Nat.gcd a b)):=by
 have J:=un C;have K:=un D;have o:=un F;have q:=un G;have j:=un (Nat.gcd_pos_of_pos_right a E);clear C D F G E;go_enter func90,ntmps90;go_wp2_with fail
 have k:=un (show RS w ((((w.alloc (.cells #[(A,m,c)] 37)).alloc (.cells #[(B,m',c')] 37)).alloc (.cells #[()] 37)).alloc (.cells #[()] 37)) A m c B m' c' a b from
  ⟨zak (zak (zak (zam rfl))),zak (zak (zam (by simp))),zak (zam (by simp)),zam (by simp),(((J.o.alloc _).alloc _).alloc _).alloc _,(((K.o.alloc _).alloc _).alloc _).alloc _,(((zae w _).alloc (by simp) _).alloc (by simp;omega) _).alloc (by simp;omega) _⟩)
 generalize (((w.alloc (.cells #[(A,m,c)] 37)).alloc (.cells #[(B,m',c')] 37)).alloc (.cells #[()] 37)).alloc (.cells #[()] 37)=W0 at *
 refine(of A B m c m' c' a b _ k.o.x k.o.y o.o q.o).mono ?_;rintro e w1 ⟨G1,mg,cg,rfl,hg1,hb1⟩;have M:=un ((k.o.step hb1).step (zae w1 (.cells #[(G1,mg,cg)] 37)));have r:=un (hg1.alloc (.cells #[(G1,mg,cg)] 37));have n:(w1.alloc (.cells #[(G1,mg,cg)] 37)).heap[w1.heap.size]? = some (.cells #[(G1,mg,cg)] 37 (0,0)):=zam rfl;have Q:=un n;have aa:=zx8 n;clear hg1 hb1 n;have H:=zk4 j.o;go_wp2_with fail
 generalize w1.alloc (.cells #[(G1,mg,cg)] 37)=W1 at *
 generalize w1.heap.size=gb at *
 refine(Nt.zero (G1,mg,cg) (Nat.gcd a b) _ r.o).mono ?_;rintro e w' ⟨rfl,rfl⟩;rw[H];have l:=un (M.o.step (zae W1 (.cells #[(G1,mg,cg)] 37)));have s:=un (r.o.alloc (.cells #[(G1,mg,cg)] 37));have t:=un (zad (zae W1 (.cells #[(G1,mg,cg)] 37)) Q.o);have Y:=zx8 t.o;have W:=zx8 l.o.ka;clear aa H;generalize W1.alloc (.cells #[(G1,mg,cg)] 37)=W2 at *
 go_wp2_with fail
 refine(Qt.div A G1 m c mg cg a (Nat.gcd a b) _ l.o.x s.o j.o o.o).mono ?_;rintro e g ⟨X3,m3,c3,rfl,hx3,hb3⟩;have i:=un ((l.o.step hb3).step (zae g (.cells #[(X3,m3,c3)] 37)));have L:=un ((s.o.below hb3).alloc (.cells #[(X3,m3,c3)] 37));have N:=un (hx3.alloc (.cells #[(X3,m3,c3)] 37));have R:=un (zad (zae g (.cells #[(X3,m3,c3)] 37)) (zad hb3 t.o))
 have I:(g.alloc (.cells #[(X3,m3,c3)] 37)).heap[g.heap.size]? = some (.cells #[(X3,m3,c3)] 37 (0,0)):=zam rfl;have S:=un I;have Z:=zx8 R.o;have X:=zx8 i.o.kb;clear Y W I hx3 hb3;go_wp2_with fail
 generalize g.alloc (.cells #[(X3,m3,c3)] 37)=W3 at *
 generalize g.heap.size=xb at *
 refine(Qt.div B G1 m' c' mg cg b (Nat.gcd a b) _ i.o.y L.o j.o q.o).mono ?_;rintro e d ⟨Y4,m4,c4,rfl,hy4,hb4⟩;have f:Hid (RS w (d.alloc (.cells #[(Y4,m4,c4)] 37)).drew A m c B m' c' a b):=un ((i.o.step hb4).step ((zae d _).drew));have O:Hid (zas (d.alloc (.cells #[(Y4,m4,c4)] 37)).drew (X3,m3,c3) (a/Nat.gcd a b)):=un (((N.o.below hb4).alloc _).drew)
 have P:Hid (zas (d.alloc (.cells #[(Y4,m4,c4)] 37)).drew (Y4,m4,c4) (b/Nat.gcd a b)):=un ((hy4.alloc _).drew);have ae:(d.alloc (.cells #[(Y4,m4,c4)] 37)).drew.cell? ⟨xb,0,none⟩=some (X3,m3,c3):=cell_al (zx8 (zad hb4 S.o));have af:(d.alloc (.cells #[(Y4,m4,c4)] 37)).drew.cell? ⟨d,0,none⟩=some (Y4,m4,c4):=zax rfl rfl;have ad:w.heap.size+4≤d.heap.size:=by have:=(ZI.1 (zad hb4 i.o.k3)).1;omega
 have u:=zx8 f.o.k2;have g4:=zag f.o.k2 0;have z:=zx8 f.o.k3;have V:=zag f.o.k3 0;have T:(d.alloc (.cells #[(Y4,m4,c4)] 37)).cell? ⟨w.heap.size+1+1,0,none⟩=some ():=u;have U:(d.alloc (.cells #[(Y4,m4,c4)] 37)).cell? ⟨w.heap.size+1+1+1,0,none⟩=some ():=z;have ac:(d.alloc (.cells #[(Y4,m4,c4)] 37)).frozen? ⟨w.heap.size+1+1+1,0,none⟩=false:=V
 have ag:((d.alloc (.cells #[(Y4,m4,c4)] 37)).setCell ⟨w.heap.size+1+1,0,none⟩ (X3,m3,c3)).drew.cell? ⟨d,0,none⟩=some (Y4,m4,c4):=cell_set (by omega) (zax rfl rfl);clear Z X hy4 hb4;go_wp2_with fail
 go_region
 all_goals
  go_wp2;refine Zd (v:=.tuple #[.agg #[(X3,m3,c3)],.agg #[(Y4,m4,c4)]]) (by simp[results,results90,go_sem,u,z,T,U]) rfl ?_;exact⟨_,_,_,_,_,_,rfl,zas.setBox (zas.setBox O.o (Box.of f.o.k2)) (Box.set (Box.of f.o.k3)),zas.setBox (zas.setBox P.o (Box.of f.o.k2)) (Box.set (Box.of f.o.k3)),bsc (bsc f.o.bel)⟩
end Gc
structure IntS (w:World) (g:Bool) (s:Value) (z:Int):Prop where
  abs:zas w s z.natAbs
  neg:g=decide (z<0)
theorem IntS.below{w w':World}{g:Bool}{s:Value}{z:Int}(h:IntS w g s z)(a:Below w w w'):IntS w' g s z:=⟨h.abs.below a,h.neg⟩
theorem IntS.alloc{w:World}{g:Bool}{s:Value}{z:Int}(h:IntS w g s z)(o:Obj):IntS (w.alloc o) g s z:=⟨h.abs.alloc o,h.neg⟩
def zfg (w:World) (z:Int) (e:Ending) (w':World):Prop:=∃(g:Bool) (A:OA) (m c:Nat),e=.returned (.agg #[g,(A,m,c)])∧IntS w' g (A,m,c) z∧Below w w w'
namespace It
theorem zBc(g:Bool)(n:Nat):(g && !isZ n)=decide ((if g then -(n:Int)else (n:Int))<0):=by
 unfold isZ;grind
theorem zlh{u:Value}{s:Value}{n:Nat}(h:zas w s n)(a:w.heap[b]? = some (.cells #[false,()] 39 (0,0))):zas ((w.setCell ⟨b,0,none⟩ u).setCell ⟨b,1,none⟩ v) s n:=by
 have h1:=heap_setCell_same w b 0 _ 39 u a;exact(h.setCell (p:=⟨b,0,none⟩) a (by decide) u).setCell (p:=⟨b,1,none⟩) h1 (by decide) v
theorem new(g:Bool)(A:OA)(m c n:Nat)(w:World)(k:zas w (A,m,c) n) :
  Calls prog 49 #[g,.agg #[(A,m,c)]] w (zfg w (if g then -(n:Int)else (n:Int))):=by
 have q:=un (zBc g n);obtain⟨W,a⟩:∃W,W=(w.alloc (.cells #[(A,m,c)] 37)).alloc (.cells #[false,()] 39):=⟨_,rfl⟩
 have i:=un (show zas W (A,m,c) n by rw[a];exact(k.alloc _).alloc _);have o:=un i.o.drew;have j:=un (show W.heap[w.heap.size]? = some (.cells #[(A,m,c)] 37 (0,0))by rw[a];exact zak (zam rfl));have b:=un (show W.heap[w.heap.size+1]? = some (.cells #[false,()] 39 (0,0))by rw[a];exact zam (by simp));have f:=un (show Below w w W by rw[a];exact(zae w _).alloc (by simp) _)
 have x:W.drew.cell? ⟨w,0,none⟩=some (A,m,c):=zac j.o 0;have y:(W.alloc (.cells #[(A,m,c)] 37)).drew.cell? ⟨w,0,none⟩=some (A,m,c):=cell_al (zac j.o 0);have d:Hid ((W.alloc (.cells #[(A,m,c)] 37)).heap[w.heap.size+1]? = some (.cells #[false,()] 39 (0,0))):=un (zak b.o);have t:W.cell? ⟨w.heap.size+1,0,none⟩=some (.bool false):=zac b.o 0;have u:W.cell? ⟨w.heap.size+1,1,none⟩=some ():=zac b.o 1
 have C:=zag b.o 0;have D:=zag b.o 1;have r:(W.alloc (.cells #[(A,m,c)] 37)).cell? ⟨w.heap.size+1,0,none⟩=some (.bool false):=zac d.o 0;have s:(W.alloc (.cells #[(A,m,c)] 37)).cell? ⟨w.heap.size+1,1,none⟩=some ():=zac d.o 1;have z:=zag d.o 0;have B:=zag d.o 1;clear k;have l:Hid (zas (W.alloc (.cells #[(A,m,c)] 37)) (A,m,c) n):=un (i.o.alloc _);cases g
 case false =>
  go_enter func49,ntmps49;go_wp2_with fail
  rw[←a];clear a;go_region_with fail
  all_goals
   go_wp2;refine Zd (v:=.agg #[false,(A,m,c)]) (by simp[results,results49,go_sem,t,u]) rfl ?_;exact⟨false,A,m,c,rfl,⟨by simpa using(zlh i.o b.o).drew,by simp⟩,(bsc (bsc f.o)).drew⟩
 case true =>
  go_enter func49,ntmps49;go_wp2_with fail
  rw[←a];clear a;go_region_with (go_at_call 94;(with_reducible refine(Nt.zero (A,m,c) n _ o.o).mono ?_);rintro e E ⟨rfl,rfl⟩)
  all_goals
   go_wp2;refine Zd (v:=.agg #[.bool (!isZ n),(A,m,c)]) (by simp[results,results49,go_sem,r,s]) rfl ?_;exact⟨!isZ n,A,m,c,rfl,⟨by simpa using(zlh l.o d.o).drew,by have:=q.o;simpa using this⟩,(bsc (bsc (f.o.alloc f.o.size _))).drew⟩
end It
namespace It
theorem abs(g:Bool)(A:OA)(m c:Nat)(w:World):Calls prog 91 #[.agg #[g,(A,m,c)]] w fun e w'=>e=.returned (.agg #[(A,m,c)])∧Below w w w':=by
 go_enter func91,ntmps91;go_wp2;exact Zd (v:=.agg #[(A,m,c)]) (by simp[results,results91,go_sem]) rfl ⟨rfl,(zae w _).alloc (by simp) _⟩
theorem isBelow(g:Bool)(A:OA)(m c:Nat)(w:World):Calls prog 93 #[.agg #[g,(A,m,c)]] w fun e w'=>e=.returned g∧Below w w w':=by
 go_enter func93,ntmps93;go_wp2;go_ret
 exact⟨rfl,zae w _⟩
theorem signed(g:Bool)(z:Int)(h:g=decide (z<0)):(if (!g)=true then -((z.natAbs:Nat):Int)else ((z.natAbs:Nat):Int)) = -z:=by grind
theorem neg(g:Bool)(A:OA)(m c:Nat)(z:Int)(w:World)(h:IntS w g (A,m,c) z):Calls prog 81 #[.agg #[g,(A,m,c)]] w (zfg w (-z)):=by
 have d:=un (signed g z h.neg);have i:=un (new (!g) A m c z.natAbs _ ((h.abs.alloc (.cells #[g,(A,m,c)] 39)).alloc (.cells #[false,()] 39)));clear h;go_enter func81,ntmps81;go_wp2_with fail
 refine i.o.mono ?_;rintro e a ⟨g2,A2,m2,c2,rfl,hi,hb⟩;have kr:=un (zad hb (show((w.alloc (.cells #[g,(A,m,c)] 39)).alloc (.cells #[false,()] 39)).heap[w.heap.size+1]? = some (.cells #[false,()] 39 (0,0))from zam (by simp)));have k:a.cell? ⟨w.heap.size+1,0,none⟩=some (.bool false):=zac kr.o 0;have l:a.cell? ⟨w.heap.size+1,1,none⟩=some ():=zac kr.o 1;have n:=zag kr.o 0;have o:=zag kr.o 1;have f:=un hi;have b:=un hb
 clear hi hb;go_wp2;refine Zd (v:=.agg #[g2,(A2,m2,c2)]) (by simp[results,results81,go_sem,k,l]) rfl ?_;have hi:=f.o;rw[d.o]at hi;have j:Below w w a:=((zae w _).alloc (by simp) _).trans (b.o.mono (by simp;omega));exact⟨g2,A2,m2,c2,rfl,⟨zlh hi.abs kr.o,hi.neg⟩,bsc (bsc j)⟩
theorem sign(g:Bool)(A:OA)(m c:Nat)(z:Int)(w:World)(h:IntS w g (A,m,c) z):Calls prog 82 #[.agg #[g,(A,m,c)]] w fun e w'=>e=.returned (.int .i64 z.sign)∧Below w w w':=by
 have f:=un (h.abs.alloc (.cells #[g,(A,m,c)] 39));have hg:=h.neg;clear h;rcases XP z 0 with hz | hz | hz
 ·rw[Zs hz]at hg;have a:=un (YU hz);subst hg;clear hz;go_enter func82,ntmps82;go_wp2;go_ret
  exact⟨by rw[a.o];rfl,zae w _⟩
 ·subst hz;have b:g=false:=hg;subst b;have d:isZ (Int.natAbs 0)=true:=rfl;clear hg;go_enter func82,ntmps82;go_wp2_with (go_at_call 94;(with_reducible refine(Nt.zero (A,m,c) (Int.natAbs 0) _ f.o).mono ?_);rintro e i ⟨rfl,rfl⟩;rw[d])
  go_ret
  exact⟨rfl,(zae w _).alloc (by simp) _⟩
 ·have b:g=false:=by rw[hg,Zu (by omega)]
  have a:=un (YV hz);have d:isZ z.natAbs=false:=zk4 (by omega);subst b;clear hg hz;go_enter func82,ntmps82;go_wp2_with (go_at_call 94;(with_reducible refine(Nt.zero (A,m,c) z.natAbs _ f.o).mono ?_);rintro e i ⟨rfl,rfl⟩;rw[d])
  go_ret
  exact⟨by rw[a.o];rfl,(zae w _).alloc (by simp) _⟩
end It
namespace It
theorem cmp(g:Bool)(A:OA)(m c:Nat)(x:Int)(g':Bool)(B:OA)(m' c':Nat)(y:Int)(w:World)(h:IntS w g (A,m,c) x)(j:IntS w g' (B,m',c') y) :
  Calls prog 63 #[.agg #[g,(A,m,c)],.agg #[g',(B,m',c')]] w fun e w'=>e=.returned (.int .i64 (ze9 x y))∧Below w w w':=by
 have k:=un ((h.abs.alloc (.cells #[g,(A,m,c)] 39)).alloc (.cells #[g',(B,m',c')] 39));have l:=un ((j.abs.alloc (.cells #[g,(A,m,c)] 39)).alloc (.cells #[g',(B,m',c')] 39));have f:=un h.neg;have i:=un j.neg;have d:=un ((zae w (.cells #[g,(A,m,c)] 39)).alloc (by simp) (.cells #[g',(B,m',c')] 39));clear h j;have a:∀ {p:Prop} [Decidable p],true=decide p→p:=fun h=>Xs h.symm
 have b:∀ {p:Prop} [Decidable p],false=decide p→¬p:=fun h=>YW h.symm
 cases g<;>cases g'
 ·have h1:=un (show ze9 ((x.natAbs:Nat):Int) ((y.natAbs:Nat):Int)=ze9 x y by
   have:=b f.o;have:=b i.o;rw[show((x.natAbs:Nat):Int)=x by omega,show((y.natAbs:Nat):Int)=y by omega])
  clear a b;go_enter func63,ntmps63;go_wp2_with (go_at_call 88;(with_reducible refine(Nt.cmp A B m c m' c' x.natAbs y.natAbs _ k.o l.o).mono ?_);rintro e n ⟨rfl,hb⟩;rw[h1.o])
  go_ret
  exact⟨rfl,d.o.trans (hb.mono d.o.size)⟩
 ·have h1:=un (show ze9 x y=1 from zea (by have:=b f.o;have:=a i.o;omega));clear a b;go_enter func63,ntmps63;go_wp2;go_ret
  exact⟨by rw[h1.o];rfl,d.o⟩
 ·have h1:=un (show ze9 x y = -1 from zeb (by have:=a f.o;have:=b i.o;omega));clear a b;go_enter func63,ntmps63;go_wp2;go_ret
  exact⟨by rw[h1.o];rfl,d.o⟩
 ·have h1:=un (show ze9 ((y.natAbs:Nat):Int) ((x.natAbs:Nat):Int)=ze9 x y by
   have:=a f.o;have:=a i.o;unfold ze9;rcases XP x y with h | h | h
   ·rw[if_pos (by omega),if_pos h]
   ·rw[if_neg (by omega),if_neg (by omega),if_neg (by omega),if_neg (by omega)]
   ·rw[if_neg (by omega),if_pos (by omega),if_neg (by omega),if_pos h])
  clear a b;go_enter func63,ntmps63;go_wp2_with (go_at_call 88;(with_reducible refine(Nt.cmp B A m' c' m c y.natAbs x.natAbs _ l.o k.o).mono ?_);rintro e n ⟨rfl,hb⟩;rw[h1.o])
  go_ret
  exact⟨rfl,d.o.trans (hb.mono d.o.size)⟩
