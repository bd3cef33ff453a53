/- Contracts and lemmas: RgH RgX RgA. Conditions: as each says. -/
import Derived.Test.YtbhfhkcdfmmmiaaGreatRgDZj
set_option linter.all false
set_option maxHeartbeats 4000000
set_option maxRecDepth 100000
namespace Go.Proofs.YtbhfhkcdfmmmiaaGreat
open Go.RowKit Am Go.Proofs.Tryz
attribute [local go_sem ↓] Go.wp_at_zero Go.wp_at_succ
variable {w:World}
def yJO (s t:Bool) (lo hi x:Rat):Bool := !(s&&decide (x<lo)) && !(t&&decide (hi<x))
theorem yNp(a b:Rat):zlX a b<0↔a<b:=by
 unfold zlX;grind
theorem yKt(a b:Rat):0<zlX a b↔b<a:=by
 unfold zlX;grind
namespace Ra
theorem holds(g:Bool)(A:OA)(m c:Nat)(D:OA)(z v:Nat)(g':Bool)(n:OA)(m' c':Nat)(o:OA)(r p:Nat)(s t:Bool)(j:Bool)(b:OA)(l i:Nat)(d:OA)(k f:Nat)(lo hi x:Rat)(w:World)(O:RatS w g (A,m,c) (D,z,v) lo)(N:RatS w g' (n,m',c') (o,r,p) hi)(P:RatS w j (b,l,i) (d,k,f) x)(Q:4*(mw x+mw lo)+8≤LIM)(S:4*(mw x+mw hi)+8≤LIM) :
  Calls prog 22 #[.agg #[g,(A,m,c),(D,z,v),g',(n,m',c'),(o,r,p),s,t],.agg #[j,(b,l,i),(d,k,f)]] w fun e w'=>e=.returned (.bool (yJO s t lo hi x))∧Below w w w':=by
 have Y:=un Q;have M:=un S;clear Q S;obtain⟨W,q⟩:∃W,((w.alloc (.cells #[g,(A,m,c),(D,z,v),g',(n,m',c'),(o,r,p),s,t] 62)).alloc (.cells #[j,(b,l,i),(d,k,f)] 41))=W:=⟨_,rfl⟩
 have J:=un (show W.heap[w.heap.size]? = some (.cells #[g,(A,m,c),(D,z,v),g',(n,m',c'),(o,r,p),s,t] 62 (0,0))by rw[←q];exact zak (zam (by simp)));have K:=un (show W.heap[w.heap.size+1]? = some (.cells #[j,(b,l,i),(d,k,f)] 41 (0,0))by rw[←q];exact zam (by simp));have B:=un (show Below w w W by rw[←q];exact(zae w _).alloc (by simp) _)
 have I:=un (show RatS W g (A,m,c) (D,z,v) lo by rw[←q];exact((O).alloc _).alloc _);have H:=un (show RatS W g' (n,m',c') (o,r,p) hi by rw[←q];exact((N).alloc _).alloc _);have E:=un (show RatS W j (b,l,i) (d,k,f) x by rw[←q];exact((P).alloc _).alloc _);obtain⟨aT,_,aU,_,a0,_,bj,_,bk,_,aF,_,aL,aJ,aH,aK⟩:=bc8 J.o;obtain⟨a5,_,a1,_,a9,_⟩:=bc3 K.o;clear O N P;go_enter func22,ntmps22;go_upto_region 1 with fail
 clear q;cases s
 ·skip
  cases t
  ·skip
   go_wp2;go_ret
   exact⟨by simp[yJO],B.o⟩
  ·skip
   go_wp2_with fail
   refine(Rt.cmpr j b l i d k f x g' n m' c' o r p hi _ E.o H.o M.o).mono ?_
   rintro e aB ⟨rfl,hb⟩;have G:=un (zad hb J.o);have F:=un (zad hb K.o);have T:=un (H.o.below hb);have V:=un (E.o.below hb);have u:=un (B.o.trans ((hb).mono B.o.size));obtain⟨_,_,_,_,_,_,az,_,aA,_,ab,_,_,_,af,ad⟩:=bc8 G.o;obtain⟨aq,_,au,_,an,_⟩:=bc3 F.o;clear hb;by_cases a:hi<x
   ·have L:decide (0<zlX x hi)=true:=Zs ((yKt _ _).2 a);go_wp2;go_ret
    exact⟨by simp[yJO,a],u.o⟩
   ·have L:decide (0<zlX x hi)=false:=Zu fun e=>a ((yKt _ _).1 e)
    go_wp2;go_ret
    exact⟨by simp[yJO,a],u.o⟩
 ·skip
  go_wp2_with fail
  refine(Rt.cmpr j b l i d k f x g A m c D z v lo _ E.o I.o Y.o).mono ?_
  rintro e v1 ⟨rfl,hb⟩;have G:=un (zad hb J.o);have F:=un (zad hb K.o);have T:=un (H.o.below hb);have V:=un (E.o.below hb);have u:=un (B.o.trans ((hb).mono B.o.size));obtain⟨_,_,_,_,_,_,az,_,aA,_,ab,_,_,_,af,ad⟩:=bc8 G.o;obtain⟨aq,_,au,_,an,_⟩:=bc3 F.o;clear hb;by_cases y:x<lo
  ·have Z:decide (zlX x lo<0)=true:=Zs ((yNp _ _).2 y);go_wp2;go_ret
   exact⟨by simp[yJO,y],u.o⟩
  ·have Z:decide (zlX x lo<0)=false:=Zu fun e=>y ((yNp _ _).1 e)
   cases t
   ·skip
    go_wp2;go_ret
    exact⟨by simp[yJO,y],u.o⟩
   ·skip
    go_wp2_with fail
    refine(Rt.cmpr j b l i d k f x g' n m' c' o r p hi _ V.o T.o M.o).mono ?_
    rintro e aC ⟨rfl,hb⟩;have U:=un (u.o.trans ((hb).mono u.o.size));clear hb;by_cases a:hi<x
    ·have L:decide (0<zlX x hi)=true:=Zs ((yKt _ _).2 a);go_wp2;go_ret
     exact⟨by simp[yJO,a,y],U.o⟩
    ·have L:decide (0<zlX x hi)=false:=Zu fun e=>a ((yKt _ _).1 e)
     go_wp2;go_ret
     exact⟨by simp[yJO,a,y],U.o⟩
end Ra
open Lw (z6u)
def yJ1:List Rat:=rats [1,1]
def yJQ:List PRow:=[⟨rats [1,2],2,((4:Int):Rat)⟩,⟨rats [3,1],1,((9:Int):Rat)⟩]
def rX:List Rat:=rats [0,2]
def yLS (o:RangeO) (a b:Option Rat):Bool:=match o with | .ends x y=>decide (x=a)&&decide (y=b) | _=>false
theorem yKN{o:RangeO}{a b:Option Rat}(h:yLS o a b=true):o=.ends a b:=by
 unfold yLS at h;grind
def yK4 (nC m:Nat) (cost:List Rat) (rows:List PRow):Bool:=decide (nC≤5)&&decide (m≤4)&&cost.all (fun q=>decide (mw q≤1))&&rows.all fun p=>decide (p.coef.length=nC)&&p.coef.all (fun q=>decide (mw q≤1))&&decide (mw p.rhs≤1)&&decide (1≤p.kind)&&decide (p.kind≤3)
theorem yJ0{nC m:Nat}{cost:List Rat}{rows:List PRow}(h:yK4 nC m cost rows=true):Good1 nC m cost rows:=by
 unfold yK4 at h;simp only[Xc,Xx,decide_eq_true_eq]at h;obtain⟨⟨⟨h1,c⟩,d⟩,b⟩:=h;exact⟨h1,c,d,fun p a=>⟨(b p a).1.1.1.1,(b p a).1.1.1.2,(b p a).1.1.2⟩,fun p a=>⟨(b p a).1.2,(b p a).2⟩⟩
theorem yNC:yK4 2 2 yJ1 yJQ=true:=by rfl
theorem yPF:znD yJ1 yJQ rX=true:=by decide +kernel
theorem yYa:Sm rX:=fun q a=>Zc ((show ∀q∈rX,mw q≤1 by decide +kernel) q a) (by decide)
theorem yYA:yLS (yOd 2 yJ1 yJQ rX 0 100) (some (Rat.divInt 1 2)) none=true:=by decide +kernel
theorem yYC:yK4 ((yKS yJQ rX).length+2) 2 (yJG (yKS yJQ rX)) (yJK (yKS yJQ rX) yJQ yJ1 rX 0)=true:=by decide +kernel
theorem yYB:yLS (yOd 2 yJ1 yJQ rX 1 100) (some 0) (some (Rat.divInt 2 1))=true:=by decide +kernel
theorem yYD:yK4 ((yKS yJQ rX).length+2) 2 (yJG (yKS yJQ rX)) (yJK (yKS yJQ rX) yJQ yJ1 rX 1)=true:=by decide +kernel
def yMc (o:RhsO) (a b:Option Rat):Bool:=match o with | .range r=>yLS r a b | _=>false
theorem yMT{o:RhsO}{a b:Option Rat}(h:yMc o a b=true):o=.range (.ends a b):=by
 unfold yMc at h;grind[yKN]
theorem yYF:yMc (yWU 2 yJ1 yJQ 0 100) (some (Rat.divInt 1 2)) (some (Rat.divInt 1 2))=true:=by decide +kernel
def yXm (o:Out) (f:List Nat→Bool):Bool:=match o with | .best cols _=>f cols | _=>true
theorem yYE:yXm (zSA (2+cnt yJQ 2) 2 (zc3 yJQ) (zg8 yJQ) (zjD yJ1 yJQ) 100) (fun cols=>yK4 (yLD yJQ).length 3 (yJH (yLD yJQ) 0) (yJL (yLD yJQ) yJQ yJ1++[yJI (yLD yJQ) yJQ (dot yJ1 (yJA 2 yJQ cols))]))=true:=by decide +kernel
def yuz (w:World) (a b:Option Rat) (e:Ending) (w':World):Prop:=∃(g:Bool) (A:OA) (m c:Nat) (D:OA) (md cd:Nat) (g':Bool) (A':OA) (m' c':Nat) (D':OA) (md' cd':Nat),
  e=.returned (.tuple #[.agg #[g,(A,m,c),(D,md,cd),g',(A',m',c'),(D',md',cd'),.bool a.isSome,.bool b.isSome],.nilIface])∧RatS w' g (A,m,c) (D,md,cd) (a.getD 0)∧RatS w' g' (A',m',c') (D',md',cd') (b.getD 0)∧Below w w w'
theorem yJX.x{B:Nat}{o:RangeO}{a b:Option Rat}(p:o=.ends a b)(e:Ending)(w':World)(h:yJX w B o e w'):yuz w a b e w':=by
 subst p;obtain⟨l,g,A,m,c,D,q,i,g',d,m',c',f,r,j,n,h1,k⟩:=h;exact⟨g,A,m,c,D,q,i,g',d,m',c',f,r,j,n,h1,k,l⟩
namespace Lw
section
variable (C:OA) (cC:Nat) (R:OA) (cR:Nat) (X:OA) (cX:Nat) (w:World)
theorem yPC(hc:VecS w 0 (.slice C 2 cC) yJ1)(hr:RowsS w 0 (.slice R 2 cR) yJQ)(a:VecS w 0 (.slice X 2 cX) rX):Calls prog 25 #[.agg #[.slice C 2 cC,.slice R 2 cR],.slice X 2 cX,.int .i64 0,.int .i64 100] w (yuz w (some (Rat.divInt 1 2)) none) :=
 (Ra.cost 1 C 2 cC R 2 cR yJ1 yJQ X 2 cX rX w hc hr a (yJ0 yNC).toS yYa 0 100 1 (by decide) yPF (by decide) (yJ0 yYC).toS).mono (yJX.x (yKN yYA))
theorem yPD(hc:VecS w 0 (.slice C 2 cC) yJ1)(hr:RowsS w 0 (.slice R 2 cR) yJQ)(a:VecS w 0 (.slice X 2 cX) rX):Calls prog 25 #[.agg #[.slice C 2 cC,.slice R 2 cR],.slice X 2 cX,.int .i64 1,.int .i64 100] w (yuz w (some 0) (some (Rat.divInt 2 1))) :=
 (Ra.cost 1 C 2 cC R 2 cR yJ1 yJQ X 2 cX rX w hc hr a (yJ0 yNC).toS yYa 1 100 1 (by decide) yPF (by decide) (yJ0 yYD).toS).mono (yJX.x (yKN yYB))
theorem yVT(hc:VecS w 0 (.slice C 2 cC) yJ1)(hr:RowsS w 0 (.slice R 2 cR) yJQ):Calls prog 28 #[.agg #[.slice C 2 cC,.slice R 2 cR],.int .i64 0,.int .i64 100] w (yuz w (some (Rat.divInt 1 2)) (some (Rat.divInt 1 2))) :=
 (Ra.rhs 1 C 2 cC R 2 cR yJ1 yJQ w hc hr (yJ0 yNC).toS 0 100 1 (by decide) (by decide) fun cols nn h=>(yJ0 (by have g:=yYE;rw[h]at g;exact g)).toS).mono fun e w' h=>by
  rw[yMT yYF]at h;exact yJX.x (B:=100) rfl e w' h
end
theorem yVS(p q:Int)(f:q≠0)(d:I64 p)(i:I64 q)(hm:mw (Rat.divInt p q)≤1000000)(g:Bool)(A:OA)(m c:Nat)(D:OA)(b a:Nat)(w:World)(h:RatS w g (A,m,c) (D,b,a) (Rat.divInt p q)) :
  Calls prog 41 #[.agg #[g,(A,m,c),(D,b,a)],.int .i64 p,.int .i64 q] w fun e w'=>e=.returned true∧Below w w w' :=
 by grind[z6u]
end Lw
open Lw (yPC yPD yVT yVS)
theorem RowsS.setX{H:Nat}{v:Value}{ps:List PRow}(h:RowsS w H v ps){a:Addr}{t:TypeId}{cs:Array Value}(hg:w.heap[a.block]? = some (.cells cs t (0,0)))(h1:165≠t)(e:41≠t)(f:43≠t)(u:Value):RowsS (w.setCell a u) H v ps:=by
 obtain⟨l,b,c,d⟩:=h.row;exact(RowsL.setT (l:=l) ⟨b,c,d⟩ hg h1 e f u).toS
namespace Lw
theorem yKJ(w:World):Calls prog 60 #[] w fun e w'=>∃(C:OA) (cC:Nat) (R:OA) (cR:Nat),e=.returned (.agg #[.slice C 2 cC,.slice R 2 cR])∧VecS w' 0 (.slice C 2 cC) yJ1∧RowsS w' 0 (.slice R 2 cR) yJQ∧Below w w w':=by
 obtain⟨W,f⟩:∃W,(w.alloc (.cells #[(),()] 31))=W:=⟨_,rfl⟩
 have l:=un (show W.heap[w.heap.size]? = some (.cells #[(),()] 31 (0,0))by rw[←f];exact zam (by simp));have k:=un (show Below w w W by rw[←f];exact zae w _);go_enter func60,ntmps60;go_wp2_with fail
 clear f;have m:=zae W (.cells #[.int .i64 1,.int .i64 1] 3);have o:=un (zad m l.o);have g:=un (k.o.trans ((m).mono k.o.size));refine(Vc.of W.heap.size 2 2 [1,1] _ rfl (zqg W (1) (1)) (by decide) (by decide) (by decide)).mono ?_
 rintro e w1 ⟨S1,ns1,cs1,rfl,hv,hb⟩;have n:=un (show(w1.alloc (.cells #[.int .i64 1,.int .i64 2] 3)).heap[w.heap.size]? = some (.cells #[(),()] 31 (0,0))from zak (zad hb o.o));have G:=un (show VecS (w1.alloc (.cells #[.int .i64 1,.int .i64 2] 3)) 0 (S1,ns1,cs1) (rats [1,1])from((hv.base (Zb _))).alloc _)
 have q:=un (show Below w w (w1.alloc (.cells #[.int .i64 1,.int .i64 2] 3))from((g.o.trans ((hb).mono g.o.size))).alloc ((g.o.trans ((hb).mono g.o.size))).size _);clear hv hb;go_wp2_with fail
 refine(Vc.of w1.heap.size 2 2 [1,2] _ rfl (zqg w1 (1) (2)) (by decide) (by decide) (by decide)).mono ?_
 rintro e L ⟨S2,ns2,cs2,rfl,hv,hb⟩;have s:=un (zad hb n.o);have ad:=un (G.o.below hb);have H:=un (show VecS L 0 (S2,ns2,cs2) (rats [1,2])from(hv.base (Zb _)));have i:=un (q.o.trans ((hb).mono q.o.size));clear hv hb;go_wp2_with fail
 refine(Rt.int 4 (by decide) (by decide) _).mono ?_
 rintro e b ⟨g3,A3,m3,c3,D3,md3,cd3,rfl,hn,hb⟩;have t:=un (show(b.alloc (.cells #[.int .i64 3,.int .i64 1] 3)).heap[w.heap.size]? = some (.cells #[(),()] 31 (0,0))from zak (zad hb s.o));have ae:=un (show VecS (b.alloc (.cells #[.int .i64 3,.int .i64 1] 3)) 0 (S1,ns1,cs1) (rats [1,1])from(ad.o.below hb).alloc _);have V:=un (show VecS (b.alloc (.cells #[.int .i64 3,.int .i64 1] 3)) 0 (S2,ns2,cs2) (rats [1,2])from(H.o.below hb).alloc _)
 have D:=un (show RatS (b.alloc (.cells #[.int .i64 3,.int .i64 1] 3)) g3 (A3,m3,c3) (D3,md3,cd3) ((4:Int):Rat)from(hn).alloc _);have y:=un (show Below w w (b.alloc (.cells #[.int .i64 3,.int .i64 1] 3))from((i.o.trans ((hb).mono i.o.size))).alloc ((i.o.trans ((hb).mono i.o.size))).size _)
 clear hn hb;go_wp2_with fail
 refine(Vc.of b.heap.size 2 2 [3,1] _ rfl (zqg b (3) (1)) (by decide) (by decide) (by decide)).mono ?_
 rintro e M ⟨S4,ns4,cs4,rfl,hv,hb⟩;have u:=un (zad hb t.o);have af:=un (ae.o.below hb);have Y:=un (V.o.below hb);have ab:=un (D.o.below hb);have I:=un (show VecS M 0 (S4,ns4,cs4) (rats [3,1])from(hv.base (Zb _)));have z:=un (y.o.trans ((hb).mono y.o.size));clear hv hb;go_wp2_with fail
 refine(Rt.int 9 (by decide) (by decide) _).mono ?_
 rintro e c ⟨g5,A5,m5,c5,D5,md5,cd5,rfl,hn,hb⟩;have x:=un (zad hb u.o);have B:=un (af.o.below hb);have Z:=un (Y.o.below hb);have ac:=un (ab.o.below hb);have aa:=un (I.o.below hb);have E:=un (show RatS c g5 (A5,m5,c5) (D5,md5,cd5) ((9:Int):Rat)from hn);have A:=un (z.o.trans ((hb).mono z.o.size));clear hn hb;obtain rfl:2=ns1:=B.o.len.symm
 have j:=zae c (.cells #[(S2,ns2,cs2),.int .i64 2,g3,(A3,m3,c3),(D3,md3,cd3),(S4,ns4,cs4),.int .i64 1,g5,(A5,m5,c5),(D5,md5,cd5)] 43);have d:=un (zad j x.o);have ag:=un (B.o.below j)
 have F:=un (show RowsS (c.alloc (.cells #[(S2,ns2,cs2),.int .i64 2,g3,(A3,m3,c3),(D3,md3,cd3),(S4,ns4,cs4),.int .i64 1,g5,(A5,m5,c5),(D5,md5,cd5)] 43)) 0 (.slice (some ⟨c,0,none⟩) 2 2) yJQ from(zoX rfl (r:=⟨.slice S2 ns2 cs2,2,g3,.slice A3 m3 c3,.slice D3 md3 cd3⟩) (r':=⟨.slice S4 ns4 cs4,1,g5,.slice A5 m5 c5,.slice D5 md5 cd5⟩) (p:=⟨rats [1,2],2,((4:Int):Rat)⟩) (p':=⟨rats [3,1],1,((9:Int):Rat)⟩) ⟨Z.o,rfl,ac.o⟩ ⟨aa.o,rfl,E.o⟩))
 have U:=un (A.o.trans ((j).mono A.o.size));obtain⟨S,P,bo,_,T,Q,bp,_⟩:=bf2 d.o;go_wp2;refine Zd (v:=.agg #[.slice S1 2 cs1,.slice (some ⟨c,0,none⟩) 2 2]) (by simp[results,results60,go_sem,S,P,T,Q]) rfl ?_;have h1:=(ag.o.setT (p:=⟨w,0,none⟩) d.o (by decide) (by decide) (.slice S1 2 cs1)).setT (p:=⟨w,1,none⟩) (zar _ d.o) (by decide) (by decide) (.slice (some ⟨c,0,none⟩) 2 2)
 have K:=(F.o.setX (a:=⟨w,0,none⟩) d.o (by decide) (by decide) (by decide) (.slice S1 2 cs1)).setX (a:=⟨w,1,none⟩) (zar _ d.o) (by decide) (by decide) (by decide) (.slice (some ⟨c,0,none⟩) 2 2);exact⟨S1,cs1,some ⟨c,0,none⟩,2,rfl,h1,K,bsc (bsc U.o)⟩
theorem yM7(w:World):Calls prog 18 #[] w fun e w'=>e=.returned true∧Below w w w':=by
 have l:=un (Zg w.heap.size w);go_enter func18,ntmps18;go_wp2_with fail
 refine(yKJ _).mono ?_
 rintro e u1 ⟨C1,cC1,R1,cR1,rfl,hc,hr,hb⟩;have b:=un (show VecS u1 0 (.slice C1 2 cC1) yJ1 from hc);have c:=un (show RowsS u1 0 (.slice R1 2 cR1) yJQ from hr);have Y:=un (l.o.trans ((hb).mono l.o.size));clear hc hr hb;go_wp2_with fail
 have k:=zae u1 (.cells #[.int .i64 0,.int .i64 2] 3);have aZ:=un (b.o.below k);have a7:=un (c.o.below k);have Z:=un (Y.o.trans ((k).mono Y.o.size));refine(Vc.of u1.heap.size 2 2 [0,2] _ rfl (zqg u1 (0) (2)) (by decide) (by decide) (by decide)).mono ?_
 rintro e x1 ⟨X1,nX1,cX1,rfl,hv,hb⟩;have a0:=un (aZ.o.below hb);have aY:=un (a7.o.below hb);have d:=un (show VecS x1 0 (X1,nX1,cX1) rX from(hv.base (Zb _)));have aa:=un (Z.o.trans ((hb).mono Z.o.size));clear hv hb;obtain rfl:2=nX1:=d.o.len.symm;go_wp2_with fail
 refine(yPC C1 cC1 R1 cR1 X1 cX1 _ a0.o aY.o d.o).mono ?_
 rintro e v1 ⟨g1,A1,m1,c1,D1,md1,cd1,h1,B1,n1,e1,E1,ne1,ce1,rfl,hq,hp,hb⟩;have al:=un (show RatS v1 g1 (A1,m1,c1) (D1,md1,cd1) (Rat.divInt 1 2)from hq);have ac:=un (aa.o.trans ((hb).mono aa.o.size));clear hq hp hb;have p:=zae v1 (.cells #[g1,(A1,m1,c1),(D1,md1,cd1),h1,(B1,n1,e1),(E1,ne1,ce1),true,false] 62);have aR:=un (al.o.below p);have ad:=un (ac.o.trans ((p).mono ac.o.size))
 have m:=un (zal v1 #[g1,(A1,m1,c1),(D1,md1,cd1),h1,(B1,n1,e1),(E1,ne1,ce1),true,false] 62);obtain⟨_,_,_,_,_,_,_,_,_,_,_,_,_,_,hV,_⟩:=bc8 m.o;go_wp2_with fail
 refine(yKJ _).mono ?_
 rintro e u2 ⟨C2,cC2,R2,cR2,rfl,hc,hr,hb⟩;have ab:=un (zad hb m.o);have aS:=un (aR.o.below hb);have b:=un (show VecS u2 0 (.slice C2 2 cC2) yJ1 from hc);have c:=un (show RowsS u2 0 (.slice R2 2 cR2) yJQ from hr);have af:=un (ad.o.trans ((hb).mono ad.o.size));clear hc hr hb;go_wp2_with fail
 have g:=zae u2 (.cells #[.int .i64 0,.int .i64 2] 3);have ae:=un (zad g ab.o);have aT:=un (aS.o.below g);have a4:=un (b.o.below g);have a1:=un (c.o.below g);have ai:=un (af.o.trans ((g).mono af.o.size));refine(Vc.of u2.heap.size 2 2 [0,2] _ rfl (zqg u2 (0) (2)) (by decide) (by decide) (by decide)).mono ?_
 rintro e x2 ⟨X2,nX2,cX2,rfl,hv,hb⟩;have ag:=un (zad hb ae.o);have aU:=un (aT.o.below hb);have a2:=un (a4.o.below hb);have a3:=un (a1.o.below hb);have d:=un (show VecS x2 0 (X2,nX2,cX2) rX from(hv.base (Zb _)));have y:=un (ai.o.trans ((hb).mono ai.o.size));clear hv hb;obtain rfl:2=nX2:=d.o.len.symm;go_wp2_with fail
 refine(yPD C2 cC2 R2 cR2 X2 cX2 _ a2.o a3.o d.o).mono ?_
 rintro e i ⟨g2,A2,m2,c2,D2,md2,cd2,h2,B2,n2,e2,E2,ne2,ce2,rfl,hq,hp,hb⟩;have x:=un (zad hb ag.o);have aV:=un (aU.o.below hb);have am:=un (show RatS i g2 (A2,m2,c2) (D2,md2,cd2) (0)from hq);have aj:=un (show RatS i h2 (B2,n2,e2) (E2,ne2,ce2) (Rat.divInt 2 1)from hp);have D:=un (y.o.trans ((hb).mono y.o.size));clear hq hp hb
 have f:=zae i (.cells #[g2,(A2,m2,c2),(D2,md2,cd2),h2,(B2,n2,e2),(E2,ne2,ce2),true,true] 62);have W:=un (zad f x.o);have aM:=un (aV.o.below f);have aQ:=un (am.o.below f);have aB:=un (aj.o.below f);have V:=un (D.o.trans ((f).mono D.o.size))
 have n:=un (zal i #[g2,(A2,m2,c2),(D2,md2,cd2),h2,(B2,n2,e2),(E2,ne2,ce2),true,true] 62);go_wp2_with fail
 refine(yKJ _).mono ?_
 rintro e q ⟨C3,cC3,R3,cR3,rfl,hc,hr,hb⟩;have O:=un (zad hb W.o);have P:=un (zad hb n.o);have aN:=un (aM.o.below hb);have ar:=un (aQ.o.below hb);have aC:=un (aB.o.below hb);have b:=un (show VecS q 0 (.slice C3 2 cC3) yJ1 from hc);have c:=un (show RowsS q 0 (.slice R3 2 cR3) yJQ from hr);have G:=un (V.o.trans ((hb).mono V.o.size))
 clear hc hr hb;go_wp2_with fail
 refine(yVT C3 cC3 R3 cR3 _ b.o c.o).mono ?_
 rintro e j ⟨g3,A3,m3,c3,D3,md3,cd3,h3,B3,n3,e3,E3,ne3,ce3,rfl,hq,hp,hb⟩;have A:=un (zad hb O.o);have B:=un (zad hb P.o);have aO:=un (aN.o.below hb);have au:=un (ar.o.below hb);have aD:=un (aC.o.below hb);have an:=un (show RatS j g3 (A3,m3,c3) (D3,md3,cd3) (Rat.divInt 1 2)from hq);have ak:=un (show RatS j h3 (B3,n3,e3) (E3,ne3,ce3) (Rat.divInt 1 2)from hp);have M:=un (G.o.trans ((hb).mono G.o.size))
 clear hq hp hb;have a:=zae j (.cells #[g3,(A3,m3,c3),(D3,md3,cd3),h3,(B3,n3,e3),(E3,ne3,ce3),true,true] 62);have E:=un (zad a A.o);have z:=un (zad a B.o);have aP:=un (aO.o.below a);have av:=un (au.o.below a);have aE:=un (aD.o.below a);have ax:=un (an.o.below a);have aH:=un (ak.o.below a)
 have N:=un (M.o.trans ((a).mono M.o.size));obtain⟨f3,_,f4,_,eU,_,_,_,_,_,_,_,bK,_⟩:=bc8 E.o;obtain⟨_,_,_,_,_,_,_,_,_,_,_,_,_,_,_,cs⟩:=bc8 z.o;have o:=un (zal j #[g3,(A3,m3,c3),(D3,md3,cd3),h3,(B3,n3,e3),(E3,ne3,ce3),true,true] 62);go_wp2_with fail
 refine(yVS 1 2 (by decide) (by constructor<;>decide) (by constructor<;>decide) (by decide +kernel) g1 A1 m1 c1 D1 md1 cd1 _ aP.o).mono ?_
 rintro e y1 ⟨rfl,hb⟩;have r:=un (zad hb E.o);have t:=un (zad hb z.o);have u:=un (zad hb o.o);have aw:=un (av.o.below hb);have aF:=un (aE.o.below hb);have ay:=un (ax.o.below hb);have aI:=un (aH.o.below hb);have H:=un (N.o.trans ((hb).mono N.o.size));obtain⟨_,_,_,_,_,_,_,_,_,_,_,_,_,_,bS,_⟩:=bc8 r.o;obtain⟨fA,_,fB,_,fC,_,_,_,_,_,_,_,co,_,cp,_⟩:=bc8 t.o;obtain⟨_,_,_,_,_,_,_,_,_,_,_,_,_,_,_,cd⟩:=bc8 u.o;clear hb
 go_wp2_with fail
 refine(Rt.zero g2 A2 m2 c2 D2 md2 cd2 0 _ aw.o).mono ?_
 rintro e y2 ⟨rfl,hb⟩;have ah:=un (zad hb t.o);have K:=un (zad hb u.o);have aG:=un (aF.o.below hb);have az:=un (ay.o.below hb);have aJ:=un (aI.o.below hb);have v:=un (H.o.trans ((hb).mono H.o.size));obtain⟨_,_,_,_,_,_,i2,_,i3,_,i4,_⟩:=bc8 ah.o;clear hb;rw[show zr 0=true from rfl]
 go_wp2_with fail
 refine(yVS 2 1 (by decide) (by constructor<;>decide) (by constructor<;>decide) (by decide +kernel) h2 B2 n2 e2 E2 ne2 ce2 _ aG.o).mono ?_
 rintro e y3 ⟨rfl,hb⟩;have L:=un (zad hb K.o);have aA:=un (az.o.below hb);have aK:=un (aJ.o.below hb);have F:=un (v.o.trans ((hb).mono v.o.size));obtain⟨ge,_,gh,_,hf,_,_,_,_,_,_,_,bC,_,bF,_⟩:=bc8 L.o;clear hb;go_wp2_with fail
 refine(yVS 1 2 (by decide) (by constructor<;>decide) (by constructor<;>decide) (by decide +kernel) g3 A3 m3 c3 D3 md3 cd3 _ aA.o).mono ?_
 rintro e y4 ⟨rfl,hb⟩;have U:=un (zad hb L.o);have aL:=un (aK.o.below hb);have Q:=un (F.o.trans ((hb).mono F.o.size));obtain⟨_,_,_,_,_,_,hj,_,hm,_,hs,_⟩:=bc8 U.o;clear hb;go_wp2_with fail
 refine(yVS 1 2 (by decide) (by constructor<;>decide) (by constructor<;>decide) (by decide +kernel) h3 B3 n3 e3 E3 ne3 ce3 _ aL.o).mono ?_
 rintro e y5 ⟨rfl,hb⟩;have aX:=un (Q.o.trans ((hb).mono Q.o.size));clear hb;go_wp2;go_ret
 exact⟨rfl,aX.o⟩
