/- Contracts and lemmas: Rat3. Conditions: as each says. -/
import Derived.Test.YtbhfhkcdfmmmiaaGreatDoorRat2Zd
set_option linter.all false
set_option maxHeartbeats 20000000
set_option maxRecDepth 100000
namespace Go.Proofs.YtbhfhkcdfmmmiaaGreatDoor
open Go.RowKit Am
open Lib (hid)
attribute [local go_sem ↓] Go.wp_at_zero Go.wp_at_succ
namespace Rt
theorem newd(g:Bool)(A:OA)(m c:Nat)(x:Int)(g':Bool)(B:OA)(m' c':Nat)(y:Int)(w:World)(h:IntS w g (A,m,c) x)(T:IntS w g' (B,m',c') y)(O:y≠0)(U:wlen x.natAbs+1≤LIM)(V:wlen y.natAbs+1≤LIM) :
  Calls Tryz.prog 110 #[.agg #[g,(A,m,c)],.agg #[g',(B,m',c')]] w (zii w (Rat.divInt x y) true):=by
 have dq:(y.sign == 0)=false:=by rw[show(y.sign == 0)=decide (y.sign=0)from rfl,decide_eq_false];rw[Int.sign_eq_zero_iff_zero];exact O
 have N:=hid O;have cx:=hid U;have cy:=hid V;clear O U V;obtain⟨W,n⟩:∃W,(((w.alloc (.cells #[g,(A,m,c)] 47)).alloc (.cells #[g',(B,m',c')] 47)).alloc (.cells #[false,(),()] 49))=W:=⟨_,rfl⟩
 have cD:=hid (show W.heap[w.heap.size]? = some (.cells #[g,(A,m,c)] 47 (0,0))by rw[←n];exact zak (zak (zam (by simp))));have S:=hid (show W.heap[w.heap.size+1]? = some (.cells #[g',(B,m',c')] 47 (0,0))by rw[←n];exact zak (zam (by simp)));have cE:=hid (show W.heap[w.heap.size+1+1]? = some (.cells #[false,(),()] 49 (0,0))by rw[←n];exact zam (by simp))
 have P:=hid (show Below w.heap.size w W by rw[←n];exact((zae w _).alloc (by simp) _).alloc (by simp;omega) _);have HZ:=hid (show w.heap.size+3≤W.heap.size by rw[←n];simp);have HX:=hid (show IntS W g (A,m,c) x by rw[←n];exact(((h).alloc _).alloc _).alloc _);have R:=hid (show IntS W g' (B,m',c') y by rw[←n];exact(((T).alloc _).alloc _).alloc _);obtain⟨dB,_,dy,_⟩:=bc2 S.out;clear h T;go_enter Tryz.func110,Tryz.ntmps110;go_wp2_with fail
 clear n;with_reducible refine(It.sign g' B m' c' y _ R.out).mono ?_
 rintro e w1 ⟨rfl,hb⟩;have ae:=hid (zad hb cD.out);have ab:=hid (zad hb S.out);have am:=hid (zad hb cE.out);have aE:=hid (HX.out.below hb);have cs:=hid (R.out.below hb);have ad:=hid (P.out.trans ((hb).mono P.out.size));obtain⟨cU,_,cV,_⟩:=bc2 ae.out;obtain⟨cW,_,cX,_⟩:=bc2 ab.out;clear hb;go_wp2_with fail
 have Q:=hid (show ∀w',Below w1.heap.size w1 w'→((w'.cell? ⟨w.heap.size,0,none⟩=some (.bool g)∧w'.cell? ⟨w.heap.size,1,none⟩=some (A,m,c)∧w'.cell? ⟨w.heap.size+1,0,none⟩=some (.bool g')∧w'.cell? ⟨w.heap.size+1,1,none⟩=some (B,m',c'))∧Below w1.heap.size w1 w')from fun w' h=>⟨⟨zab h cU,zab h cV,zab h cW,zab h cX⟩,h⟩)
 go_cut[6,7] (fun s6 s7 wr=>∃(D E:Nat) (d:OA) (k i:Nat) (f:OA) (l j:Nat),s6=.pointer (some ⟨D,0,none⟩)∧s7=.pointer (some ⟨E,0,none⟩)∧Below w1.heap.size w1 wr∧wr.cell? ⟨D,0,none⟩=some (d,k,i)∧wr.cell? ⟨E,0,none⟩=some (f,l,j)∧zas wr (d,k,i) (x.natAbs/Nat.gcd x.natAbs y.natAbs)∧zas wr (f,l,j) (y.natAbs/Nat.gcd x.natAbs y.natAbs)∧w1.heap.size≤D∧w1.heap.size≤E)
 case first =>
  go_region_held3 (fun w'=>((w'.cell? ⟨w.heap.size,0,none⟩=some (.bool g)∧w'.cell? ⟨w.heap.size,1,none⟩=some (A,m,c)∧w'.cell? ⟨w.heap.size+1,0,none⟩=some (.bool g')∧w'.cell? ⟨w.heap.size+1,1,none⟩=some (B,m',c'))∧Below w1.heap.size w1 w'))
   ((refine Q.out _ ?_;repeat(first | exact Below.refl _ _ | exact(by assumption:_∧Below _ _ _).2 | with_reducible refine bdrew ?_ | with_reducible refine al2 ?_ _ | with_reducible refine set2 ?_ (by omega) | with_reducible refine zc1 ?_ (by assumption))))
   (first
    | (go_at_call 53;(with_reducible refine(It.abs g A m c _).mono ?_);rintro e u1 ⟨rfl,hb1⟩;have cF:=hb1.size;(try simp at cF);have ds:w1.heap.size≤u1.heap.size:=(by omega);(try((first | (have a:=zan (b:=w1.heap.size) (v:=.slice none 0 0) (t:=45) hb1 (zal _ _ _);obtain⟨o,⟨aN,aQ⟩,⟨aO,aR⟩,⟨aP,aS⟩,⟨aT,aU⟩,aV,aW⟩:=a) | (have a:=zan (b:=w1.heap.size) (v:=.slice none 0 0) (t:=45) hb1 (zak (zal _ _ _));obtain⟨o,⟨aN,aQ⟩,⟨aO,aR⟩,⟨aP,aS⟩,⟨aT,aU⟩,aV,aW⟩:=a) | (have a:=zan (b:=w1.heap.size) (v:=.slice none 0 0) (t:=45) hb1 (zbD _ _ _ _);obtain⟨o,⟨aN,aQ⟩,⟨aO,aR⟩,⟨aP,aS⟩,⟨aT,aU⟩,aV,aW⟩:=a));have o:=hid o));(try((first | (have a:=zan (b:=w1.heap.size+1) (v:=.slice none 0 0) (t:=45) hb1 (zal _ _ _);obtain⟨z,⟨bE,bH⟩,⟨bF,bI⟩,⟨bG,bJ⟩,⟨bK,bL⟩,bt,bu⟩:=a) | (have a:=zan (b:=w1.heap.size+1) (v:=.slice none 0 0) (t:=45) hb1 (zak (zal _ _ _));obtain⟨z,⟨bE,bH⟩,⟨bF,bI⟩,⟨bG,bJ⟩,⟨bK,bL⟩,bt,bu⟩:=a) | (have a:=zan (b:=w1.heap.size+1) (v:=.slice none 0 0) (t:=45) hb1 (zbD _ _ _ _);obtain⟨z,⟨bE,bH⟩,⟨bF,bI⟩,⟨bG,bJ⟩,⟨bK,bL⟩,bt,bu⟩:=a));have z:=hid z)))
    | (go_at_call 53;(with_reducible refine(It.abs g' B m' c' _).mono ?_);rintro e u2 ⟨rfl,hb2⟩;have cG:=hb2.size;(try simp at cG);have dt:w1.heap.size≤u2.heap.size:=(by omega);(try((first | (have a:=zan (b:=w1.heap.size) (v:=.slice none 0 0) (t:=45) hb2 (o.out);obtain⟨r,⟨ar,aw⟩,⟨au,ax⟩,⟨av,ay⟩,⟨az,aA⟩,aB,aC⟩:=a) | (have a:=zan (b:=w1.heap.size) (v:=.slice none 0 0) (t:=45) hb2 (zak o.out);obtain⟨r,⟨ar,aw⟩,⟨au,ax⟩,⟨av,ay⟩,⟨az,aA⟩,aB,aC⟩:=a) | (have a:=zan (b:=w1.heap.size) (v:=.slice none 0 0) (t:=45) hb2 (zak (zak o.out));obtain⟨r,⟨ar,aw⟩,⟨au,ax⟩,⟨av,ay⟩,⟨az,aA⟩,aB,aC⟩:=a));have r:=hid r));(try((first | (have a:=zan (b:=w1.heap.size+1) (v:=.slice none 0 0) (t:=45) hb2 (z.out);obtain⟨C,⟨bv,bz⟩,⟨bw,bA⟩,⟨bx,bB⟩,⟨bC,bD⟩,b2,b3⟩:=a) | (have a:=zan (b:=w1.heap.size+1) (v:=.slice none 0 0) (t:=45) hb2 (zak z.out);obtain⟨C,⟨bv,bz⟩,⟨bw,bA⟩,⟨bx,bB⟩,⟨bC,bD⟩,b2,b3⟩:=a) | (have a:=zan (b:=w1.heap.size+1) (v:=.slice none 0 0) (t:=45) hb2 (zak (zak z.out));obtain⟨C,⟨bv,bz⟩,⟨bw,bA⟩,⟨bx,bB⟩,⟨bC,bD⟩,b2,b3⟩:=a));have C:=hid C));(try((first | (have a:=zan (b:=u1.heap.size) (v:=.slice none 0 0) (t:=45) hb2 (zal _ _ _);obtain⟨s,⟨aX,aG⟩,⟨aY,aH⟩,⟨aF,aI⟩,⟨aJ,aK⟩,aL,aM⟩:=a) | (have a:=zan (b:=u1.heap.size) (v:=.slice none 0 0) (t:=45) hb2 (zak (zal _ _ _));obtain⟨s,⟨aX,aG⟩,⟨aY,aH⟩,⟨aF,aI⟩,⟨aJ,aK⟩,aL,aM⟩:=a) | (have a:=zan (b:=u1.heap.size) (v:=.slice none 0 0) (t:=45) hb2 (zbD _ _ _ _);obtain⟨s,⟨aX,aG⟩,⟨aY,aH⟩,⟨aF,aI⟩,⟨aJ,aK⟩,aL,aM⟩:=a));have s:=hid s));(try((first | (have a:=zan (b:=u1.heap.size+1) (v:=.slice none 0 0) (t:=45) hb2 (zal _ _ _);obtain⟨u,⟨b4,b7⟩,⟨b5,b8⟩,⟨b6,b9⟩,⟨ca,cb⟩,cc,cd⟩:=a) | (have a:=zan (b:=u1.heap.size+1) (v:=.slice none 0 0) (t:=45) hb2 (zak (zal _ _ _));obtain⟨u,⟨b4,b7⟩,⟨b5,b8⟩,⟨b6,b9⟩,⟨ca,cb⟩,cc,cd⟩:=a) | (have a:=zan (b:=u1.heap.size+1) (v:=.slice none 0 0) (t:=45) hb2 (zbD _ _ _ _);obtain⟨u,⟨b4,b7⟩,⟨b5,b8⟩,⟨b6,b9⟩,⟨ca,cb⟩,cc,cd⟩:=a));have u:=hid u)))
    | (go_at_call 126;(with_reducible refine(Gc.reduce A B m c m' c' x.natAbs y.natAbs _ (by have h:=(aE.out.below (by assumption:_∧Below _ _ _).2);exact h.abs) (by have h:=(cs.out.below (by assumption:_∧Below _ _ _).2);exact h.abs) (Int.natAbs_pos.2 N.out) cx.out cy.out).mono ?_);rintro e u3 ⟨d,k,i,f,l,j,rfl,hn,hn2,hb3⟩;have cH:=hb3.size;(try simp at cH);have du:w1.heap.size≤u3.heap.size:=(by omega);(try((first | (have a:=zan (b:=w1.heap.size) (v:=.slice none 0 0) (t:=45) hb3 (r.out);obtain⟨G,⟨bf,bi⟩,⟨bg,aZ⟩,⟨bh,a0⟩,⟨a1,a2⟩,a3,a4⟩:=a) | (have a:=zan (b:=w1.heap.size) (v:=.slice none 0 0) (t:=45) hb3 (zak r.out);obtain⟨G,⟨bf,bi⟩,⟨bg,aZ⟩,⟨bh,a0⟩,⟨a1,a2⟩,a3,a4⟩:=a) | (have a:=zan (b:=w1.heap.size) (v:=.slice none 0 0) (t:=45) hb3 (zak (zak r.out));obtain⟨G,⟨bf,bi⟩,⟨bg,aZ⟩,⟨bh,a0⟩,⟨a1,a2⟩,a3,a4⟩:=a));have G:=hid G));(try((first | (have a:=zan (b:=w1.heap.size+1) (v:=.slice none 0 0) (t:=45) hb3 (C.out);obtain⟨J,⟨ce,ch⟩,⟨cf,ci⟩,⟨cg,cj⟩,⟨ck,cl⟩,cm,cn⟩:=a) | (have a:=zan (b:=w1.heap.size+1) (v:=.slice none 0 0) (t:=45) hb3 (zak C.out);obtain⟨J,⟨ce,ch⟩,⟨cf,ci⟩,⟨cg,cj⟩,⟨ck,cl⟩,cm,cn⟩:=a) | (have a:=zan (b:=w1.heap.size+1) (v:=.slice none 0 0) (t:=45) hb3 (zak (zak C.out));obtain⟨J,⟨ce,ch⟩,⟨cf,ci⟩,⟨cg,cj⟩,⟨ck,cl⟩,cm,cn⟩:=a));have J:=hid J));(try((first | (have a:=zan (b:=u1.heap.size) (v:=.slice none 0 0) (t:=45) hb3 (s.out);obtain⟨H,⟨a5,a8⟩,⟨a6,a9⟩,⟨a7,ba⟩,⟨bb,bc⟩,bd,be⟩:=a) | (have a:=zan (b:=u1.heap.size) (v:=.slice none 0 0) (t:=45) hb3 (zak s.out);obtain⟨H,⟨a5,a8⟩,⟨a6,a9⟩,⟨a7,ba⟩,⟨bb,bc⟩,bd,be⟩:=a) | (have a:=zan (b:=u1.heap.size) (v:=.slice none 0 0) (t:=45) hb3 (zak (zak s.out));obtain⟨H,⟨a5,a8⟩,⟨a6,a9⟩,⟨a7,ba⟩,⟨bb,bc⟩,bd,be⟩:=a));have H:=hid H));(try((first | (have a:=zan (b:=u1.heap.size+1) (v:=.slice none 0 0) (t:=45) hb3 (u.out);obtain⟨K,⟨co,cr⟩,⟨cp,bM⟩,⟨cq,bN⟩,⟨bO,bP⟩,bQ,bR⟩:=a) | (have a:=zan (b:=u1.heap.size+1) (v:=.slice none 0 0) (t:=45) hb3 (zak u.out);obtain⟨K,⟨co,cr⟩,⟨cp,bM⟩,⟨cq,bN⟩,⟨bO,bP⟩,bQ,bR⟩:=a) | (have a:=zan (b:=u1.heap.size+1) (v:=.slice none 0 0) (t:=45) hb3 (zak (zak u.out));obtain⟨K,⟨co,cr⟩,⟨cp,bM⟩,⟨cq,bN⟩,⟨bO,bP⟩,bQ,bR⟩:=a));have K:=hid K));(try((first | (have a:=zan (b:=u2.heap.size) (v:=.slice none 0 0) (t:=45) hb3 (zal _ _ _);obtain⟨I,⟨bj,bm⟩,⟨bk,bn⟩,⟨bl,bo⟩,⟨bp,bq⟩,br,bs⟩:=a) | (have a:=zan (b:=u2.heap.size) (v:=.slice none 0 0) (t:=45) hb3 (zak (zal _ _ _));obtain⟨I,⟨bj,bm⟩,⟨bk,bn⟩,⟨bl,bo⟩,⟨bp,bq⟩,br,bs⟩:=a) | (have a:=zan (b:=u2.heap.size) (v:=.slice none 0 0) (t:=45) hb3 (zbD _ _ _ _);obtain⟨I,⟨bj,bm⟩,⟨bk,bn⟩,⟨bl,bo⟩,⟨bp,bq⟩,br,bs⟩:=a));have I:=hid I));(try((first | (have a:=zan (b:=u2.heap.size+1) (v:=.slice none 0 0) (t:=45) hb3 (zal _ _ _);obtain⟨L,⟨bS,bV⟩,⟨bT,bW⟩,⟨bU,bX⟩,⟨bY,bZ⟩,b0,b1⟩:=a) | (have a:=zan (b:=u2.heap.size+1) (v:=.slice none 0 0) (t:=45) hb3 (zak (zal _ _ _));obtain⟨L,⟨bS,bV⟩,⟨bT,bW⟩,⟨bU,bX⟩,⟨bY,bZ⟩,b0,b1⟩:=a) | (have a:=zan (b:=u2.heap.size+1) (v:=.slice none 0 0) (t:=45) hb3 (zbD _ _ _ _);obtain⟨L,⟨bS,bV⟩,⟨bT,bW⟩,⟨bU,bX⟩,⟨bY,bZ⟩,b0,b1⟩:=a));have L:=hid L));have M:=hid hn;have cz:=hid hn2;clear hn hn2)
    | fail)
  all_goals
   go_wp2;go_meet
   case rel =>
    refine⟨_,_,d,k,i,f,l,j,rfl,rfl,(by assumption:_∧Below w1.heap.size w1 _).2,?_,?_,?_,?_,?_,?_⟩
    all_goals
     repeat' (first
      | with_reducible exact M.out
      | with_reducible exact cz.out
      | with_reducible assumption
      | with_reducible exact zeo _ _ _
      | with_reducible exact zfx _ _ _ _
      | with_reducible refine cell_al ?_
      | with_reducible refine Box.cell ?_
      | with_reducible refine cell_set ?_ ?_
      | with_reducible exact Box.new _ _
      | with_reducible exact Box.new1 _ _ _
      | with_reducible refine Box.alloc ?_
      | with_reducible refine Box.set ?_
      | exact Box.of G.out
      | exact Box.of J.out
      | exact Box.of H.out
      | exact Box.of K.out
      | exact Box.of I.out
      | exact Box.of L.out
      | with_reducible refine zas.alloc ?_ _
      | with_reducible refine zas.setBox ?_ ?_
      | with_reducible refine zas.drew ?_
      | omega)
 case rest =>
  obtain⟨D,E,d,k,i,f,l,j,rfl,rfl,F,Z,k7,X,Y,dn,dp⟩:=hcut;have dr:w.heap.size+1+1+1≤w1.heap.size:=by have:=HZ.out;have:=(Array.getElem?_eq_some_iff.1 am.out).1;omega
  have HE:=hid (div_den x y N.out);have ac:=hid (zad F ae.out);have af:=hid (zad F ab.out);have dd:=hid (zad F am.out);have M:=hid (show zas wc (d,k,i) (x.natAbs/Nat.gcd x.natAbs y.natAbs)from X);have HD:=hid (show zas wc (f,l,j) (Rat.divInt x y).den from(HE.out▸Y));have ag:=hid (ad.out.trans ((F).mono ad.out.size));obtain⟨dw,_,dx,_⟩:=bc2 ac.out;obtain⟨dz,_,dA,_⟩:=bc2 af.out;have cY:wc.cell? ⟨D,0,none⟩=some (d,k,i):=Z;have cN:=zaa cY
  have c6:wc.cell? ⟨E,0,none⟩=some (f,l,j):=k7;have cO:=zaa c6;clear F X Y Z k7 Q;have cv:=hid (show(if (!(g == g'))=true then -((x.natAbs/Nat.gcd x.natAbs y.natAbs:Nat):Int)else ((x.natAbs/Nat.gcd x.natAbs y.natAbs:Nat):Int))=(Rat.divInt x y).num by rw[aE.out.neg,cs.out.neg];exact div_num x y N.out);generalize Rat.divInt x y=q at *
  go_wp2_with fail
  go_region_held3 (fun w'=>w'.cell? ⟨w.heap.size,0,none⟩=some (.bool g)∧w'.cell? ⟨w.heap.size,1,none⟩=some (A,m,c)∧w'.cell? ⟨w.heap.size+1,0,none⟩=some (.bool g')∧w'.cell? ⟨w.heap.size+1,1,none⟩=some (B,m',c')∧w'.cell? ⟨D,0,none⟩=some (d,k,i)∧w'.cell? ⟨E,0,none⟩=some (f,l,j))
   (((try go_split_ands);(try simp only[World.cell?_drew]);(repeat' apply And.intro)<;>(repeat(first | with_reducible assumption | with_reducible refine cell_set (by omega) ?_ | with_reducible refine cell_al ?_))))
   (first
    | (go_at_call 128;(with_reducible refine(It.isBelow g A m c _).mono ?_);rintro e v1 ⟨rfl,hb⟩;have ah:=hid (zad hb ac.out);have aq:=hid (zad hb af.out);have dm:=hid (zad hb dd.out);have cS:=hid (M.out.drew.below hb);have cP:=hid (HD.out.drew.below hb);have ak:=hid (ag.out.trans ((It.bdrew0' hb).mono ag.out.size));obtain⟨dI,_,dJ,_⟩:=bc2 ah.out;obtain⟨dM,_,dO,_⟩:=bc2 aq.out;have c1:=zab hb cN;have c8:=zab hb cO;clear hb)
    | (go_at_call 128;(with_reducible refine(It.isBelow g' B m' c' _).mono ?_);rintro e v2 ⟨rfl,hb⟩;have ai:=hid (zad hb ah.out);have aj:=hid (zad hb aq.out);have c9:=hid (zad hb dm.out);have cT:=hid (cS.out.below hb);have cQ:=hid (cP.out.below hb);have ao:=hid (ak.out.trans ((hb).mono ak.out.size));obtain⟨dC,_,dD,_⟩:=bc2 ai.out;obtain⟨dG,_,dH,_⟩:=bc2 aj.out;have cZ:=zab hb c1;have c7:=zab hb c8;clear hb)
    | (go_at_call 52;(with_reducible refine(It.new (!(g == g')) d k i (x.natAbs/Nat.gcd x.natAbs y.natAbs) _ cT.out).mono ?_);rintro e v3 ⟨g4,A4,m4,c4,rfl,hi,hb⟩;have al:=hid (zad hb ai.out);have an:=hid (zad hb aj.out);have da:=hid (zad hb c9.out);have cR:=hid (cQ.out.below hb);have HI:=hid (show IntS v3 g4 (A4,m4,c4) q.num from(by rw[cv.out]at hi;exact hi));have ap:=hid (ao.out.trans ((hb).mono ao.out.size));obtain⟨dE,_,dF,_⟩:=bc2 al.out;obtain⟨dN,_,dP,_⟩:=bc2 an.out;have db:=zab hb cZ;have dk:=zab hb c7;clear hi hb)
    | (go_at_call 127;(with_reducible refine(bare g4 A4 m4 c4 f l j q _ HI.out cR.out).mono ?_);rintro e v4 ⟨g5,A5,m5,c5,D5,md5,cd5,rfl,hi,hb⟩;have c0:=hid (zad hb al.out);have dc:=hid (zad hb an.out);have aD:=hid (zad hb da.out);have HR:=hid (show RatS v4 g5 (A5,m5,c5) (D5,md5,cd5) q from hi);have dl:=hid (ap.out.trans ((hb).mono ap.out.size));obtain⟨dK,_,dL,_⟩:=bc2 c0.out;obtain⟨dQ,_,dR,_⟩:=bc2 dc.out;obtain⟨dh,de,dS,_,di,df,dT,_,dj,dg,dU,_⟩:=bf3 aD.out;have dV:=zab hb db;have dW:=zab hb dk;clear hi hb)
    | fail)
  all_goals
   go_wp2;refine bodyPost_ret (v:=.tuple #[.agg #[g5,(A5,m5,c5),(D5,md5,cd5)],true]) (by simp[results,Tryz.results110,go_sem,dh,de,di,df,dj,dg]) rfl ?_;exact⟨g5,A5,m5,c5,D5,md5,cd5,rfl,HR.out.set3 aD.out (by decide) _ _ _,bsc (bsc (bsc dl.out))⟩
