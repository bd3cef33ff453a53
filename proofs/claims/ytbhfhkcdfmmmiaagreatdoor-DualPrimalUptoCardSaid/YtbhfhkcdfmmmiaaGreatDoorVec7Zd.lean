/- Contracts and lemmas: Vec7 Prob2 Prob3 Ints TbMem FacMem Vec9. Conditions: as each says. -/
import Derived.Test.YtbhfhkcdfmmmiaaGreatDoorBasMemZd
import Derived.Test.YtbhfhkcdfmmmiaaGreatDoorLp2Zd
set_option linter.all false
set_option maxHeartbeats 4000000
set_option maxRecDepth 100000
namespace Go.Proofs.YtbhfhkcdfmmmiaaGreatDoor
open Go.RowKit Am
open Lib (hid)
attribute [local go_sem ↓] Go.wp_at_zero Go.wp_at_succ
variable {L:List (List Rat)}{xs:List Nat}{r x:List Rat}{l ll ul:List Value}{H b c c' g j k lc n uc z:Nat}{A:OA}{p:PRow}{v:Value}{w:World}
theorem zvQ{q:Rat}(h:zr q=true):q=0:=of_decide_eq_true h
namespace Vc
theorem dot_no(A:OA)(n c:Nat)(xs:List Rat)(B:OA)(a c':Nat)(ys:List Rat)(H f:Nat)(w:World)(d:VecS w H (A,n,c) xs)(e:VecS w f (B,a,c') ys)(g:xs.length≠ys.length) :
  Calls Tryz.prog 39 #[(A,n,c),(B,a,c')] w (zii w 0 false):=by
 have i:((n:Int) == (a:Int))=false:=by rw[d.len,e.len];simp;omega
 have j:¬((n:Int)=(a:Int)):=by rw[d.len,e.len];omega
 have k:¬n=a:=by rw[d.len,e.len];omega
 clear d e;go_enter Tryz.func39,Tryz.ntmps39;go_wp2;refine bodyPost_ret (v:=.tuple #[.agg #[false,(),()],false]) (by simp[results,Tryz.results39,go_sem]) rfl ?_;exact⟨_,_,_,_,_,_,_,rfl,RatS.zero _,zae w _⟩
theorem dot_ok(A:OA)(n c:Nat)(xs:List Rat)(B:OA)(j c':Nat)(ys:List Rat)(H H':Nat)(w:World)(hx:VecS w H (A,n,c) xs)(hy:VecS w H' (B,j,c') ys)(hl:xs.length=ys.length)(d:n≤1000)(zx:∀q∈xs,mw q≤4000000)(zy:∀q∈ys,mw q≤4000000) :
  Calls Tryz.prog 39 #[(A,n,c),(B,j,c')] w (zii w (dot xs ys) true):=by
 have s:=hx.len;have a6:=hy.len;have en:j=n:=by omega
 subst en;have HN:=hid s;have HL:=hid hl;have aX:=hid d;have ZX:=hid zx;have ZY:=hid zy;have bQ:j≤9223372036854775807:=by omega
 clear s a6 hl d zx zy;obtain⟨W,O⟩:∃W,(w.alloc (.cells #[false,(),()] 49))=W:=⟨_,rfl⟩
 have aE:=hid (show W.heap[w.heap.size]? = some (.cells #[false,(),()] 49 (0,0))by rw[←O];exact zam (by simp));have X:=hid (show Below w.heap.size w W by rw[←O];exact zae w _);have Y:=hid (show VecS W H (A,j,c) xs by rw[←O];exact(hx).alloc _);have Z:=hid (show VecS W H' (B,j,c') ys by rw[←O];exact(hy).alloc _);clear hx hy;go_enter Tryz.func39,Tryz.ntmps39;go_wp2;clear O
 go_loopw [16] (fun i wr=>∃(k:Nat) (g:Bool) (P:OA) (m cp:Nat) (D:OA) (o l:Nat),i=.int .i64 k∧k≤j∧wr.heap[W.heap.size]? = some (.cells #[g,(P,m,cp),(D,o,l)] 49 (0,0))∧RatS wr g (P,m,cp) (D,o,l) (ziw xs ys k)∧Below W.heap.size W wr)
  (fun i _=>j-(intOf i).toNat)
 case atStart=>exact⟨0,_,_,_,_,_,_,_,rfl,Nat.zero_le _,zal _ _ _,RatS.zero _,zae W _⟩
 case round =>
  obtain⟨k,g,P,m,cp,D,o,l,rfl,hk,ac,hP,f⟩:=hrel;by_cases aI:k<j
  ·obtain⟨a,Q⟩:∃a,xs[k]? = some a:=⟨xs[k]'(by rw[←HN.out];exact aI),List.getElem?_eq_getElem _⟩
   obtain⟨b,d⟩:∃b,ys[k]? = some b:=⟨ys[k]'(by rw[←HL.out,←HN.out];exact aI),List.getElem?_eq_getElem _⟩
   obtain⟨t,rfl,bK,bL⟩:=Y.out.has (by omega);obtain⟨by_,rfl,bM,bN⟩:=Z.out.has (by omega);obtain⟨L,x,R,E,z,U,I,k0,k1,k2,aF⟩:=(Y.out.below f).at_ Q;obtain⟨M,y,T,G,C,V,J,l0,l1,l2,aG⟩:=(Z.out.below f).at_ d;have u:=hid (zad f aE.out);have bd:=hid (Y.out.below f);have be:=hid (Z.out.below f);have aD:=hid (show RatS wr L (x,R,E) (z,U,I) a from aF);have a0:=hid (show RatS wr M (y,T,G) (C,V,J) b from aG)
   have HP:=hid (show RatS wr g (P,m,cp) (D,o,l) (ziw xs ys k)from hP);have HW:=hid (Bel.mk f);have aK:=hid (X.out.trans ((f).mono X.out.size));obtain⟨ad,af,ax,_,ae,ag,ay,_,ah,ai,aB,_⟩:=bf3 u.out;have aL:wr.cell? ⟨t,k*3,none⟩=some (.bool L):=k0;have aM:wr.cell? ⟨t,k*3+1,none⟩=some (x,R,E):=k1;have aP:wr.cell? ⟨t,k*3+2,none⟩=some (z,U,I):=k2;have aQ:wr.cell? ⟨by_,k*3,none⟩=some (.bool M):=l0;have aR:wr.cell? ⟨by_,k*3+1,none⟩=some (y,T,G):=l1
   have aS:wr.cell? ⟨by_,k*3+2,none⟩=some (C,V,J):=l2;have aa:=hid ac;obtain⟨bh,_,_,_,bi,_,_,_,bg,_⟩:=bf3 aa.out;have aL:=k0;have aM:=k1;have aP:=k2;have aQ:=l0;have aR:=l1;have aS:=l2;have aj:=hid Q;have ak:=hid d;have L1:=hid (show 4*(mw a+mw b)+8≤LIM by have:=ZX.out a (List.mem_of_getElem? Q);have:=ZY.out b (List.mem_of_getElem? d);have:=zaP;omega)
   have L2:=hid (show 4*(mw (ziw xs ys k)+mw (a*b))+8≤LIM by have:=ZX.out a (List.mem_of_getElem? Q);have:=ZY.out b (List.mem_of_getElem? d);have h1:=zrJ ZX.out ZY.out k;have:=zdI a b;have:=zaP;have h2:k*8000001≤1000*8000001:=Nat.mul_le_mul_right _ (by have:=aX.out;omega);omega);have bO:(0:Int)≤(k:Int):=Int.natCast_nonneg _;have bP:(k:Int)<(j:Int):=by omega
   clear ac hP f Q d k0 k1 k2 l0 l1 l2 aF aG;go_wp2_with fail
   with_reducible refine(Rt.zero L x R E z U I a _ aD.out).mono ?_
   rintro e v1 ⟨rfl,d⟩;have aN:=hid (zad d aa.out);have bG:=hid (aD.out.below d);have aW:=hid (a0.out.below d);have aT:=hid (HP.out.below d);have aU:=hid (HW.out.below d);have bj:=zab d aL;have bm:=zab d aM;have bn:=zab d aP;have bp:=zab d aQ;have bu:=zab d aR;have bB:=zab d aS;clear d;cases hza:zr a
   ·go_wp2_with fail
    with_reducible refine(Rt.zero M y T G C V J b _ aW.out).mono ?_
    rintro e v2 ⟨rfl,d⟩;have aA:=hid (zad d aN.out);have bH:=hid (bG.out.below d);have bI:=hid (aW.out.below d);have aJ:=hid (aT.out.below d);have aV:=hid (aU.out.below d);obtain⟨bX,_,_,_,bZ,_,_,_,b2,_⟩:=bf3 aA.out;have bl:=zab d bj;have a7:=zaa bl;have bq:=zab d bm;have a8:=zaa bq;have bs:=zab d bn;have a9:=zaa bs;have br:=zab d bp;have ba:=zaa br;have bw:=zab d bu;have bb:=zaa bw;have bD:=zab d bB;have bc:=zaa bD;clear d;cases hzb:zr b
    ·go_wp2_with fail
     refine za2 (S:=fun w'=>w'.cell? ⟨W.heap.size,0,none⟩=some (.bool g)∧w'.cell? ⟨W.heap.size,1,none⟩=some (P,m,cp)∧w'.cell? ⟨W.heap.size,2,none⟩=some (D,o,l)∧w'.cell? ⟨t,k*3,none⟩=some (.bool L)∧w'.cell? ⟨t,k*3+1,none⟩=some (x,R,E)∧w'.cell? ⟨t,k*3+2,none⟩=some (z,U,I)∧w'.cell? ⟨by_,k*3,none⟩=some (.bool M)∧w'.cell? ⟨by_,k*3+1,none⟩=some (y,T,G)∧w'.cell? ⟨by_,k*3+2,none⟩=some (C,V,J)) 11 (h:=fun hHeld=>?_);refine zaw [0,1,2,3,4,5,6,7,8] ?_
     repeat refine tkE (hS:=hHeld) (h:=?_)
     refine zao ?_;refine zaN 9 (h:=fun K r=>?_);go_simp
     (go_at_call 71;(with_reducible refine(Rt.mul L x R E z U I a M y T G C V J b _ bH.out.drew bI.out.drew L1.out).mono ?_);rintro e u1 ⟨g1,A1,m1,c1,D1,md1,cd1,rfl,s,d⟩;have aO:=hid (zad d aA.out);have bf:=hid (aJ.out.drew.below d);have bC:=hid (aV.out.drew.below d);have HM:=hid (s);obtain⟨bS,_,_,_,bT,_,_,_,b1,_⟩:=bf3 aO.out;have bk:=zab d a7;have bo:=zab d a8;have bt:=zab d a9;have bv:=zab d ba;have bz:=zab d bb;have bE:=zab d bc;clear s d)
     (try go_wp2_with fail)
     refine r.out _ _ kp fun hHeld=>?_
     clear r K;try simp only[Act.put,pu1,pu2,pu3,pu4,pu5,pu6]
     refine zaN 10 (h:=fun K r=>?_);go_simp
     (go_at_call 84;(with_reducible refine(Rt.add g P m cp D o l (ziw xs ys k) g1 A1 m1 c1 D1 md1 cd1 (a*b) _ bf.out HM.out L2.out).mono ?_);rintro e u2 ⟨g2,A2,m2,c2,D2,md2,cd2,rfl,s,d⟩;have az:=hid (zad d aO.out);have bF:=hid (bC.out.below d);have HS:=hid (s);obtain⟨bY,_,bU,_,b0,_,bV,_,b3,_,bW,_⟩:=bf3 az.out;have b4:=zab d bk;have b5:=zab d bo;have b6:=zab d bt;have b7:=zab d bv;have b8:=zab d bz;have b9:=zab d bE;clear s d)
     (try go_wp2_with fail)
     refine r.out _ _ kp fun hHeld=>?_
     clear r K;try simp only[Act.put,pu1,pu2,pu3,pu4,pu5,pu6]
     refine zba (h:=fun K r=>?_);go_simp;refine r.out _ _ ?_;clear r K;try simp only[Act.put,pu1,pu2,pu3,pu4,pu5,pu6]
     refine za1 (h:=?_)
     all_goals
      go_wp2;go_roundw
      case rel=>exact⟨k+1,g2,A2,m2,c2,D2,md2,cd2,by go_num,by omega,zar _ (zar _ (zar _ az.out)),by rw[zlZ xs ys k aj.out ak.out];exact HS.out.set3 az.out (by decide) _ _ _,(Bel.set3 bF.out (Nat.le_refl _) _ _ _).b⟩
      case measure=>simp[intOf];omega
    ·skip
     go_wp2;go_roundw
     case rel=>exact⟨k+1,g,P,m,cp,D,o,l,by go_num,by omega,aA.out,by rw[zlY xs ys k aj.out ak.out (Or.inr (zvQ hzb))];exact aJ.out,aV.out.b⟩
     case measure=>simp[intOf];omega
   ·skip
    go_wp2;go_roundw
    case rel=>exact⟨k+1,g,P,m,cp,D,o,l,by go_num,by omega,aN.out,by rw[zlY xs ys k aj.out ak.out (Or.inl (zvQ hza))];exact aT.out,aU.out.b⟩
    case measure=>simp[intOf];omega
  ·have a5:k=j:=by omega
   have u:=hid (zad f aE.out);have bd:=hid (Y.out.below f);have be:=hid (Z.out.below f);have HP:=hid (show RatS wr g (P,m,cp) (D,o,l) (ziw xs ys k)from hP);have aK:=hid (X.out.trans ((f).mono X.out.size));obtain⟨ad,af,ax,_,ae,ag,ay,_,ah,ai,aB,_⟩:=bf3 u.out;have aa:=hid ac;obtain⟨bh,_,bi,_,bg,_⟩:=bc3 aa.out;clear ac hP f;go_wp2
   refine bodyPost_ret (v:=.tuple #[.agg #[g,(P,m,cp),(D,o,l)],true]) (by simp[results,Tryz.results39,go_sem,ad,af,ae,ag,ah,ai]) rfl ?_;have h:=HP.out;rw[a5,HN.out]at h;exact⟨_,_,_,_,_,_,_,rfl,h.set3 u.out (by decide) _ _ _,bsc (bsc (bsc aK.out))⟩
end Vc
abbrev Sm (xs:List Rat):Prop:=∀q∈xs,mw q≤4000000
def zdp (p:PRow) (x:List Rat):Rat:=dot p.coef x-p.rhs
def zdH (p:PRow) (x:List Rat):Bool:=if p.kind=1 then decide (zdp p x≤0)else if p.kind=2 then decide (0≤zdp p x)else decide (p.kind=3)&&decide (zdp p x=0)
theorem zDI{xs ys:List Rat}(zx:Sm xs)(zy:Sm ys)(h:xs.length≤1000):mw (dot xs ys)≤8000002000:=by
 have h1:=zrJ zx zy xs.length;unfold dot;omega
theorem zsp(q:Rat):q.num≤0↔q≤0:=by
 have h:=Rat.num_nonneg (q := -q);rw[Rat.neg_num]at h;constructor
 ·intro h1;have:=h.1 (by omega);grind
 ·intro h1;have:=h.2 (by grind);omega
theorem zxh(h:p.kind=1):decide ((zdp p x).num≤0)=zdH p x:=by
 unfold zdH;rw[if_pos h];exact decide_eq_decide.2 (zsp _)
theorem zxg(h:p.kind=2):decide (0≤zdp p x)=zdH p x:=by
 unfold zdH;rw[if_neg (by omega),if_pos h]
theorem zxf(h:p.kind=3):zr (zdp p x)=zdH p x:=by
 unfold zdH;rw[if_neg (by omega),if_neg (by omega),decide_eq_true h,Bool.true_and];rfl
namespace Pb
theorem zPu(C:OA)(nc cc:Nat)(R:OA)(nr f:Nat)(cost:List Rat)(rows:List PRow)(X:OA)(i g:Nat)(x:List Rat)(w:World)(hc:VecS w 0 (C,nc,cc) cost)(hr:RowsS w 0 (R,nr,f) rows)(r:VecS w 0 (X,i,g) x)(o:cost.length=x.length)(a:nc≤1000)(zc:Sm cost)(zx:Sm x) :
  Calls Tryz.prog 9 #[.agg #[(C,nc,cc),(R,nr,f)],(X,i,g)] w (zii w (dot cost x) true):=by
 have y:=hid o;have t:=hid a;have D:=hid zc;have E:=hid zx;clear o a zc zx;obtain⟨W,d⟩:∃W,((w.alloc (.cells #[(C,nc,cc),(R,nr,f)] 31)).alloc (.cells #[false,(),()] 49))=W:=⟨_,rfl⟩
 have k:=hid (show W.heap[w.heap.size]? = some (.cells #[(C,nc,cc),(R,nr,f)] 31 (0,0))by rw[←d];exact zak (zam (by simp)));have l:=hid (show W.heap[w.heap.size+1]? = some (.cells #[false,(),()] 49 (0,0))by rw[←d];exact zam (by simp));have j:=hid (show Below w.heap.size w W by rw[←d];exact(zae w _).alloc (by simp) _);have u:=hid (show VecS W 0 (C,nc,cc) cost by rw[←d];exact((hc).alloc _).alloc _)
 have B:=hid (show VecS W 0 (X,i,g) x by rw[←d];exact((r).alloc _).alloc _);obtain⟨V,ab,Y,Q⟩:=bc2 k.out;obtain⟨ai,ah,aq,ae,af,aj,ak,ac,al,ao,av,au⟩:=bf3 l.out;clear hc hr r;go_enter Tryz.func9,Tryz.ntmps9;go_wp2_with fail
 clear d;with_reducible refine(Vc.dot_ok C nc cc cost X i g x 0 0 _ u.out B.out y.out t.out D.out E.out).mono ?_
 rintro e w1 ⟨g2,A2,m2,c2,D2,md2,cd2,rfl,hn,a⟩;have K:=hid (zad a k.out);have s:=hid (zad a l.out);have z:=hid (show RatS w1 g2 (A2,m2,c2) (D2,md2,cd2) (dot cost x)from hn);have I:=hid (j.out.trans ((a).mono j.out.size));obtain⟨T,Z,U,aa⟩:=bc2 K.out;obtain⟨M,J,ap,ad,O,G,am,ag,L,P,ar,an⟩:=bf3 s.out;clear hn a;go_wp2;refine bodyPost_ret (v:=.tuple #[.agg #[g2,(A2,m2,c2),(D2,md2,cd2)],true]) (by simp[results,Tryz.results9,go_sem,M,J,O,G,L,P]) rfl ?_
 exact⟨_,_,_,_,_,_,_,rfl,z.out.set3 s.out (by decide) _ _ _,bsc (bsc (bsc I.out))⟩
theorem ys1(C:OA)(nc cc:Nat)(R:OA)(nr d:Nat)(cost:List Rat)(rows:List PRow)(X:OA)(g f:Nat)(x:List Rat)(w:World)(hc:VecS w 0 (C,nc,cc) cost)(hr:RowsS w 0 (R,nr,d) rows)(l:VecS w 0 (X,g,f) x)(y:cost.length≠x.length) :
  Calls Tryz.prog 9 #[.agg #[(C,nc,cc),(R,nr,d)],(X,g,f)] w (zii w (0) false):=by
 have s:=hid y;obtain⟨W,a⟩:∃W,((w.alloc (.cells #[(C,nc,cc),(R,nr,d)] 31)).alloc (.cells #[false,(),()] 49))=W:=⟨_,rfl⟩
 have j:=hid (show W.heap[w.heap.size]? = some (.cells #[(C,nc,cc),(R,nr,d)] 31 (0,0))by rw[←a];exact zak (zam (by simp)));have k:=hid (show W.heap[w.heap.size+1]? = some (.cells #[false,(),()] 49 (0,0))by rw[←a];exact zam (by simp));have i:=hid (show Below w.heap.size w W by rw[←a];exact(zae w _).alloc (by simp) _);have r:=hid (show VecS W 0 (C,nc,cc) cost by rw[←a];exact((hc).alloc _).alloc _)
 have u:=hid (show VecS W 0 (X,g,f) x by rw[←a];exact((l).alloc _).alloc _);obtain⟨P,V,Q,L⟩:=bc2 j.out;obtain⟨ae,ad,am,aa,ab,af,ag,Y,ah,ak,ap,ao⟩:=bf3 k.out;clear hc hr l;go_enter Tryz.func9,Tryz.ntmps9;go_wp2_with fail
 clear a;with_reducible refine(Vc.dot_no C nc cc cost X g f x 0 0 _ r.out u.out s.out).mono ?_
 rintro e w1 ⟨g2,A2,m2,c2,D2,md2,cd2,rfl,hn,hb⟩;have E:=hid (zad hb j.out);have o:=hid (zad hb k.out);have t:=hid (show RatS w1 g2 (A2,m2,c2) (D2,md2,cd2) (0)from hn);have B:=hid (i.out.trans ((hb).mono i.out.size));obtain⟨M,T,O,U⟩:=bc2 E.out;obtain⟨I,D,al,Z,J,z,ai,ac,G,K,an,aj⟩:=bf3 o.out;clear hn hb;go_wp2;refine bodyPost_ret (v:=.tuple #[.agg #[g2,(A2,m2,c2),(D2,md2,cd2)],false]) (by simp[results,Tryz.results9,go_sem,I,D,J,z,G,K]) rfl ?_
 exact⟨_,_,_,_,_,_,_,rfl,t.out.set3 o.out (by decide) _ _ _,bsc (bsc (bsc B.out))⟩
end Pb
def znD (cost:List Rat) (rows:List PRow) (x:List Rat):Bool:=decide (x.length=cost.length) && !(x.any fun q=>decide (q<0))&&rows.all fun p=>zdH p x
abbrev Rows (n:Nat) (rows:List PRow):Prop:=∀p∈rows,p.coef.length=n∧Sm p.coef∧mw p.rhs≤4000000
theorem zoE{cost:List Rat}{rows:List PRow}(a:x.length=cost.length)(h:(x.any fun q=>decide (q<0))=false):znD cost rows x=rows.all fun p=>zdH p x:=by unfold znD;rw[h,decide_eq_true a];simp
def zcells (xs:List Int):List Value:=xs.map fun x=>.int .i64 x
theorem zmo(xs:List Int):(zcells xs).length=xs.length:=by simp[zcells]
theorem zsA(xs:List Int):∀u∈zcells xs,u.oneCell'=true:=by
 intro u a;simp only[zcells,List.mem_map]at a;obtain⟨x,_,rfl⟩:=a;rfl
structure IntsZ (w:World) (H:Nat) (v:Value) (xs:List Int):Prop where
  own:w.ownsRow H 3 1 v xs.length (zcells xs)
theorem IntsS.toZ(h:IntsS w H v xs):IntsZ w H v (xs.map fun(x:Nat)=>(x:Int)):=⟨by
 have:=h.own;rw[List.length_map];unfold zcells;rw[List.map_map];exact this⟩
theorem IntsZ.toS(h:IntsZ w H v (xs.map fun(x:Nat)=>(x:Int))):IntsS w H v xs:=⟨by
 have:=h.own;rw[List.length_map]at this;unfold zcells at this;rw[List.map_map]at this;exact this⟩
namespace IntsZ
variable {w w':World} {H:Nat} {v:Value} {xs:List Int}
theorem keep(h:IntsZ w H v xs)(hk:∀k,v.ownBlock=some k→w'.heap[k]? = w.heap[k]?):IntsZ w' H v xs:=⟨zc9 h.own hk⟩
theorem below(h:IntsZ w H v xs)(a:Below w.heap.size w w'):IntsZ w' H v xs:=h.keep fun k hk=>a.block k (h.own.lt k hk).2
theorem alloc(h:IntsZ w H v xs)(o:Obj):IntsZ (w.alloc o) H v xs:=h.below (zae w o)
theorem drew(h:IntsZ w H v xs):IntsZ w.drew H v xs:=h.below (zap w 1)
theorem base{a:Nat}(h:IntsZ w H v xs)(d:a≤H):IntsZ w a v xs:=⟨zbu h.own d⟩
theorem nil(w:World)(H:Nat):IntsZ w H () []:=⟨World.ownsRow_nil _ _ _ _⟩
theorem tk{t:TypeId}(h:IntsZ w H v xs)(hk:TKeep t w w')(h1:3≠t):IntsZ w' H v xs :=
 h.keep fun k a=>hk k (h.own.lt k a).2 fun cs e=>za6 h.own e h1 a
theorem form(h:IntsZ w H (A,n,c) xs):n=xs.length∧n≤c∧c≤maxLen∧((A=none∧c=0∧xs=[])∨∃g,A=some ⟨g,0,none⟩∧H≤g∧g<w.heap.size):=by
 rcases h.own.2 with ⟨d,a⟩ | ⟨g,cap,cur,d,hg,e,a,hm,_⟩
 ·injection d with e1 e2 e3;subst e1 e2 e3;exact⟨a.symm,Nat.le_refl _,Nat.zero_le _,.inl ⟨rfl,rfl,List.length_eq_zero_iff.1 a⟩⟩
 ·injection d with e1 e2 e3;subst e1 e2 e3;exact⟨rfl,a,hm,.inr ⟨g,rfl,hg,(Array.getElem?_eq_some_iff.1 e).1⟩⟩
theorem len(h:IntsZ w H (A,n,c) xs):n=xs.length:=h.form.1
theorem has(h:IntsZ w H (A,n,c) xs)(f:0<n):∃g,A=some ⟨g,0,none⟩∧H≤g∧g<w.heap.size:=by
 obtain⟨h1,d,e,a | a⟩:=h.form
 ·omega
 ·exact a
theorem slice(h:IntsZ w H v xs):∃A c,v=.slice A xs.length c:=by
 rcases h.own.2 with ⟨a,d⟩ | ⟨g,cap,cur,a,_⟩
 ·exact⟨_,_,by rw[a,d]⟩
 ·exact⟨_,_,a⟩
theorem fro(h:IntsZ w H (b,n,c) xs)(j:Nat):w.frozen? ⟨b,j,none⟩=false:=by
 have a:=h.len;subst a;exact h.own.frozenAt j
theorem at_(h:IntsZ w H (b,n,c) xs){x:Int}(hk:xs[k]? = some x):w.cell? ⟨b,k,none⟩=some (.int .i64 x):=by
 have a:=h.len;subst a;have d:=(List.getElem?_eq_some_iff.1 hk).1;rw[h.own.cellAt _ (by omega)];simp[zcells,hk]
theorem cut(h:IntsZ w H (b,n,c) xs)(hk:k≤n):IntsZ w H (b,k,c) (xs.take k):=by
 have j:=h.len;subst j;have d:(xs.take k).length=k:=by rw[List.length_take];omega
 refine⟨?_⟩;rw[d];refine⟨by rw[zmo,d];omega,?_⟩;rcases h.own.2 with ⟨a,_⟩ | ⟨g',o,cur,a,f,hg,p,g,i,l⟩
 ·simp at a
 ·simp only[Value.slice.injEq,Option.some.injEq,Addr.mk.injEq,and_true,true_and]at a;obtain⟨rfl,rfl⟩:=a;refine .inr ⟨b,c,cur,rfl,f,hg,by omega,g,i,?_⟩;have e:zcells (xs.take k)=(zcells xs).take k:=by simp[zcells]
  rw[e,←l,List.take_take,Nat.mul_one,Nat.mul_one,Nat.min_eq_left hk]
end IntsZ
def zv3 (w:World) (xs:List Int) (e:Ending) (w':World):Prop:=∃(A:OA) (c:Nat),e=.returned (A,xs.length,c)∧IntsZ w' w.heap.size (A,xs.length,c) xs∧Below w.heap.size w w'
namespace Sl
theorem clone(A:OA)(n c:Nat)(xs:List Int)(H:Nat)(w:World)(h:IntsZ w H (A,n,c) xs)(f:n≤1000000):Calls Tryz.prog 61 #[(A,n,c)] w (zv3 w xs):=by
 obtain⟨I,l,i,C⟩:=h.form;subst I;rcases C with ⟨rfl,rfl,rfl⟩ | ⟨g,rfl,hg,G⟩
 ·clear h l i f;have J:=fun(w:World)=>Lib.run_eql_slice_nil (P:=Tryz.prog) w 32 3 none 0 0 0 0 Tryz.underlying32
  go_enter Tryz.func61,Tryz.ntmps61;go_wp2;go_ret
  exact⟨_,_,rfl,IntsZ.nil _ _,Below.refl _ _⟩
 ·have d:=fun j u a=>h.own.cells (g:=g) rfl j u a
  have J:=fun(w:World)=>Lib.run_eql_slice_nil (P:=Tryz.prog) w 32 3 (some ⟨g,0,none⟩) xs.length c 0 0 Tryz.underlying32
  obtain⟨O,E,K,L,M⟩:=info_parts znF;have p:=World.ownsRow_made (e:=3) (size:=1) (base:=w.heap.size) w #[] 0 (Nat.le_refl _) (by unfold maxLen;omega) rfl
  have o:∀j u,(zcells xs)[j]? = some u→(w.alloc (.cells #[] 3)).cell? ((⟨g,0,none⟩:Addr).add j)=some u:=fun j u a =>
   (World.cell?_alloc_lt w _ _ (World.block_lt_of_cell? w _ (d j u a))).trans (d j u a)
  have B:=hid p;have z:=hid o;have x:=hid (show 0+xs.length≤maxLen by unfold maxLen;omega);have y:=hid (show(0+xs.length)*8≤140737488355328 by omega);clear p o f d l i hg G h;go_enter Tryz.func61,Tryz.ntmps61;go_wp2_with (at_builtin;refine wpList_append_own _ rfl _ _ 32 rfl w.heap.size 3 O (.int .i64 0) 1 8 Tryz.underlying32 E K L M rfl (by decide) _ _ _ rfl B.out ⟨g,0,none⟩ xs.length c (zcells xs) rfl (by rw[zmo];omega) z.out (zsA xs) x.out y.out (by simp) ?_;intro Q w1 r D R)
  go_ret
  rw[Nat.zero_add,List.nil_append]at r;have s:IntsZ w1 w.heap.size Q xs:=⟨r⟩
  obtain⟨t,c',rfl⟩:=s.slice;exact⟨t,c',rfl,s,(zae w _).trans ((Below.refl _ _).grown D (by simp) (fun k hk=>by cases hk;exact Nat.le_refl _))⟩
theorem index(A:OA)(n c:Nat)(xs:List Int)(x:Int)(H:Nat)(w:World)(h:IntsZ w H (A,n,c) xs) :
  Calls Tryz.prog 99 #[(A,n,c),.int .i64 x] w fun e w'=>(∃i:Int,e=.returned (.int .i64 i)∧((x∈xs∧0≤i)∨(x ∉ xs∧i = -1)))∧Below w.heap.size w w':=by
 have o:=hid h.len;have s:=h.form;have B:=hid h;have L:n≤9223372036854775807:=by have E:=s.2.2.1;unfold maxLen at E;omega
 clear h s;go_enter Tryz.func99,Tryz.ntmps99;go_wp2
 go_loopw [8] (fun i wr=>∃k:Nat,i=.int .i64 k∧k≤n∧Below w.heap.size w wr∧∀j,j<k→xs[j]? ≠ some x)
  (fun i _=>n-(intOf i).toNat)
 case atStart=>exact⟨0,rfl,Nat.zero_le _,Below.refl _ _,fun j hj=>absurd hj (Nat.not_lt_zero _)⟩
 case round =>
  obtain⟨k,rfl,hk,a,d⟩:=hrel;have g:=hid a;have z:=hid d;by_cases t:k<n
  ·have r:=hid (B.out.below a);obtain⟨b,rfl,I,J⟩:=r.out.has (by omega);have f:xs[k]? = some (xs[k]'(by rw[←o.out];exact t)):=List.getElem?_eq_getElem _;generalize xs[k]'(by rw[←o.out];exact t)=y at f;have M:=r.out.at_ f;have p:=hid f;have G:(0:Int)≤(k:Int):=Int.natCast_nonneg _;have K:(k:Int)<(n:Int):=by omega
   clear a d f;by_cases e:x=y
   ·subst e;have C:(x == x)=true:=by simp
    have u:=hid (List.mem_of_getElem? p.out);go_wp2;go_ret
    exact⟨⟨_,rfl,.inl ⟨u.out,G⟩⟩,g.out⟩
   ·have C:(x == y)=false:=by simpa using e
    have l:=hid (show ∀j,j<k+1→xs[j]? ≠ some x from fun j hj=>by
     by_cases D:j=k
     ·rw[D,p.out];intro h;injection h with h;exact e h.symm
     ·exact z.out j (by omega))
    clear e;go_wp2;go_roundw
    case rel=>exact⟨k+1,by go_num,by omega,g.out,l.out⟩
    case measure=>simp[intOf];omega
  ·obtain rfl:n=k:=by omega
   have l:=hid (show x ∉ xs from fun hm=>by obtain⟨j,hj⟩:=List.mem_iff_getElem?.1 hm;exact d j (by rw[o.out];exact(List.getElem?_eq_some_iff.1 hj).1) hj);clear a d;go_wp2;go_ret
   exact⟨⟨_,rfl,.inr ⟨l.out,rfl⟩⟩,g.out⟩
theorem has(A:OA)(n c:Nat)(xs:List Int)(x:Int)(H:Nat)(w:World)(h:IntsZ w H (A,n,c) xs) :
  Calls Tryz.prog 59 #[(A,n,c),.int .i64 x] w fun e w'=>e=.returned (.bool (decide (x∈xs)))∧Below w.heap.size w w':=by
 by_cases hm:x∈xs
 ·rw[decide_eq_true hm];have g:=hid hm;clear hm;go_enter Tryz.func59,Tryz.ntmps59;go_wp2_with fail
  refine(index A n c xs x H _ h).mono ?_;rintro e w1 ⟨⟨i,rfl,a | a⟩,d⟩
  ·have f:=hid d;have h0:=a.2;clear d a;go_wp2;go_ret
   exact⟨rfl,f.out⟩
  ·exact absurd g.out a.1
 ·rw[decide_eq_false hm];have g:=hid hm;clear hm;go_enter Tryz.func59,Tryz.ntmps59;go_wp2_with fail
  refine(index A n c xs x H _ h).mono ?_;rintro e w1 ⟨⟨i,rfl,a | a⟩,d⟩
  ·exact absurd a.1 g.out
  ·obtain⟨_,rfl⟩:=a;have f:=hid d;clear d;go_wp2;go_ret
   exact⟨rfl,f.out⟩
end Sl
structure StdP (w:World) (rA:OA) (rc:Nat) (lA:List Value) (bA:OA) (bc_:Nat) (kA:OA) (kc:Nat) (eA:OA) (ec:Nat) (m N S:Nat) (A:List (List Rat)) (b c:List Rat) (left:List Int):Prop where
  rows:VecsL w 0 (rA,m,rc) lA A
  rl:∀r∈A,r.length=N
  B:VecS w 0 (bA,m,bc_) b
  C:VecS w 0 (kA,N,kc) c
  left:IntsZ w 0 (eA,m,ec) left
  hm:m≤64
  hN:N≤64
  zA:∀r∈A,∀q∈r,mw q≤S
  zb:∀q∈b,mw q≤S
  zc:∀q∈c,mw q≤S
  hS:1≤S
namespace StdP
variable {w w':World} {rA:OA} {rc:Nat} {lA:List Value} {bA:OA} {bc_:Nat} {kA:OA} {kc:Nat} {eA:OA} {ec m N S:Nat} {A:List (List Rat)} {b c:List Rat} {left:List Int}
theorem below(h:StdP w rA rc lA bA bc_ kA kc eA ec m N S A b c left)(a:Below w.heap.size w w'):StdP w' rA rc lA bA bc_ kA kc eA ec m N S A b c left :=
 ⟨h.rows.below a,h.rl,h.B.below a,h.C.below a,h.left.below a,h.hm,h.hN,h.zA,h.zb,h.zc,h.hS⟩
theorem alloc(h:StdP w rA rc lA bA bc_ kA kc eA ec m N S A b c left)(o:Obj):StdP (w.alloc o) rA rc lA bA bc_ kA kc eA ec m N S A b c left:=h.below (zae w o)
theorem drew(h:StdP w rA rc lA bA bc_ kA kc eA ec m N S A b c left):StdP w.drew rA rc lA bA bc_ kA kc eA ec m N S A b c left:=h.below (zap w 1)
theorem rect(h:StdP w rA rc lA bA bc_ kA kc eA ec m N S A b c left):Rect m N A :=
 ⟨h.rows.nlen.symm,fun i a=>h.rl _ (List.mem_of_getElem? (zaO (by rw[←h.rows.nlen];exact a)))⟩
theorem blen(h:StdP w rA rc lA bA bc_ kA kc eA ec m N S A b c left):b.length=m:=h.B.len.symm
theorem clen(h:StdP w rA rc lA bA bc_ kA kc eA ec m N S A b c left):c.length=N:=h.C.len.symm
theorem zen(h:StdP w rA rc lA bA bc_ kA kc eA ec m N S A b c left){i:Nat}(f:i<m)(hj:j<N):mw (en A i j)≤S:=by
 have e:=zaO (L:=A) (i:=i) (d:=[]) (by rw[←h.rows.nlen];exact f);have hm:=List.mem_of_getElem? e;have a:=h.rl _ hm;exact h.zA _ hm _ (List.mem_of_getElem? (zaH (by rw[a];exact hj)))
theorem zcol(h:StdP w rA rc lA bA bc_ kA kc eA ec m N S A b c left)(hj:j<N):∀q∈zb4 A j,mw q≤S:=fun q a=>by
 obtain⟨r,hr,rfl⟩:=List.mem_map.1 a;exact h.zA r hr _ (List.mem_of_getElem? (zaH (by rw[h.rl r hr];exact hj)))
end StdP
structure TabP (W0 w:World) (H q:Nat) (rA:OA) (rc:Nat) (lA:List Value) (bA:OA) (bc_:Nat) (kA:OA) (kc:Nat) (eA:OA) (ec m N S own:Nat) (A:List (List Rat)) (b c:List Rat) (left:List Int)
    (tA:OA) (tc qb:Nat) (xA:OA) (xc:Nat) (cols:List Nat):Prop where
  blk:w.heap[q]? = some (.cells #[(rA,m,rc),(N:Int),(bA,m,bc_),(kA,N,kc),(own:Int),(eA,m,ec),(tA,m,tc),.pointer (some ⟨qb,0,none⟩),(xA,m,xc)] 138 (0,0))
  std:StdP W0 rA rc lA bA bc_ kA kc eA ec m N S A b c left
  bel:Below W0.heap.size W0 w
  base:W0.heap.size≤H
  colsI:IntsS w H (tA,m,tc) cols
  basO:zhf w H qb m S (bc A cols) (Value.slice tA m tc).ownBlock
  x:VecS w H (xA,m,xc) (za5 A b cols)
  basis:Basis m N A cols
  own_:H≤q
def zhi (W0 w:World) (H q:Nat) (rA:OA) (rc:Nat) (lA:List Value) (bA:OA) (bc_:Nat) (kA:OA) (kc:Nat) (eA:OA) (ec m N S own:Nat) (A:List (List Rat)) (b c:List Rat) (left:List Int)
    (tA:OA) (tc:Nat) (cols:List Nat):Prop:=∃qb xA xc,TabP W0 w H q rA rc lA bA bc_ kA kc eA ec m N S own A b c left tA tc qb xA xc cols
section
variable {W0 w w':World} {H q:Nat} {rA:OA} {rc:Nat} {lA:List Value} {bA:OA} {bc_:Nat} {kA:OA} {kc:Nat} {eA:OA} {ec m N S own:Nat} {A:List (List Rat)} {b c:List Rat} {left:List Int}
  {tA:OA} {tc qb:Nat} {xA:OA} {xc:Nat} {cols:List Nat}
namespace TabP
theorem below(h:TabP W0 w H q rA rc lA bA bc_ kA kc eA ec m N S own A b c left tA tc qb xA xc cols)(a:Below w.heap.size w w'):TabP W0 w' H q rA rc lA bA bc_ kA kc eA ec m N S own A b c left tA tc qb xA xc cols :=
 ⟨zad a h.blk,h.std,h.bel.trans (a.mono h.bel.size),h.base,h.colsI.below a,h.basO.below a,h.x.below a,h.basis,h.own_⟩
theorem alloc(h:TabP W0 w H q rA rc lA bA bc_ kA kc eA ec m N S own A b c left tA tc qb xA xc cols)(o:Obj):TabP W0 (w.alloc o) H q rA rc lA bA bc_ kA kc eA ec m N S own A b c left tA tc qb xA xc cols:=h.below (zae w o)
theorem drew(h:TabP W0 w H q rA rc lA bA bc_ kA kc eA ec m N S own A b c left tA tc qb xA xc cols):TabP W0 w.drew H q rA rc lA bA bc_ kA kc eA ec m N S own A b c left tA tc qb xA xc cols:=h.below (zap w 1)
theorem bas(h:TabP W0 w H q rA rc lA bA bc_ kA kc eA ec m N S own A b c left tA tc qb xA xc cols):zjE w H qb m S (bc A cols):=h.basO.toS
theorem stdN(h:TabP W0 w H q rA rc lA bA bc_ kA kc eA ec m N S own A b c left tA tc qb xA xc cols):StdP w rA rc lA bA bc_ kA kc eA ec m N S A b c left:=h.std.below h.bel
theorem hle(h:TabP W0 w H q rA rc lA bA bc_ kA kc eA ec m N S own A b c left tA tc qb xA xc cols):H≤w.heap.size:=h.bas.hle
theorem toS(h:TabP W0 w H q rA rc lA bA bc_ kA kc eA ec m N S own A b c left tA tc qb xA xc cols):zhi W0 w H q rA rc lA bA bc_ kA kc eA ec m N S own A b c left tA tc cols:=⟨qb,xA,xc,h⟩
end TabP
namespace zhi
theorem below(h:zhi W0 w H q rA rc lA bA bc_ kA kc eA ec m N S own A b c left tA tc cols)(a:Below w.heap.size w w'):zhi W0 w' H q rA rc lA bA bc_ kA kc eA ec m N S own A b c left tA tc cols:=by
 obtain⟨qb,xA,xc,h⟩:=h;exact⟨qb,xA,xc,h.below a⟩
theorem alloc(h:zhi W0 w H q rA rc lA bA bc_ kA kc eA ec m N S own A b c left tA tc cols)(o:Obj):zhi W0 (w.alloc o) H q rA rc lA bA bc_ kA kc eA ec m N S own A b c left tA tc cols:=h.below (zae w o)
theorem drew(h:zhi W0 w H q rA rc lA bA bc_ kA kc eA ec m N S own A b c left tA tc cols):zhi W0 w.drew H q rA rc lA bA bc_ kA kc eA ec m N S own A b c left tA tc cols:=h.below (zap w 1)
theorem hle(h:zhi W0 w H q rA rc lA bA bc_ kA kc eA ec m N S own A b c left tA tc cols):H≤w.heap.size:=by obtain⟨qb,xA,xc,h⟩:=h;exact h.hle
theorem basis(h:zhi W0 w H q rA rc lA bA bc_ kA kc eA ec m N S own A b c left tA tc cols):Basis m N A cols:=by obtain⟨qb,xA,xc,h⟩:=h;exact h.basis
theorem std(h:zhi W0 w H q rA rc lA bA bc_ kA kc eA ec m N S own A b c left tA tc cols):StdP W0 rA rc lA bA bc_ kA kc eA ec m N S A b c left:=by obtain⟨qb,xA,xc,h⟩:=h;exact h.std
end zhi
end
theorem zrM{kl ku:Nat}{U:List (List Rat)}(h1:VecsL w H (b,kl,lc) ll L)(f:VecsL w H (b,ku,uc) ul U)(x:0<kl)(k2:0<ku)
  (hr:∀r∈L,0<r.length) (rows:∀a∈ll,∀b∈ul,∀g,a.ownBlock=some g→b.ownBlock≠some g):False:=by
 have s:=h1.nlen;have t:=f.nlen;obtain⟨r,i⟩:∃r,L[0]? = some r:=⟨L[0]'(by omega),List.getElem?_eq_getElem _⟩
 obtain⟨u,p⟩:∃u,U[0]? = some u:=⟨U[0]'(by omega),List.getElem?_eq_getElem _⟩
 obtain⟨A,c,j,k,l⟩:=h1.at_ i;obtain⟨B,d,o,e,_⟩:=f.at_ p;rw[k]at e;injection e with e;obtain⟨g,rfl,_,_⟩:=l.has (hr r (List.mem_of_getElem? i));exact rows _ (List.mem_of_getElem? j) _ (List.mem_of_getElem? o) g rfl (by rw[←e];rfl)
theorem zgr{o:Oper}{a:Act}{K:Act→World→Prop}{Q:Exit→Act→World→Prop}(s x:Operand)
  (I:o.op=.call { callee:=.builtin .append,args:=#[s,x],argTypes:=#[76,76] })     (M:a.eval s=v) (g:VecsL w H v l L)  (O:a.eval x=.slice (some ⟨b,0,none⟩) 1 1)
  {i:Value}  (B:w.heap[b]? = some (.cells #[i] 28 (0,0))) (hr:VecS w H i r)  (E:L.length=n) (V:n+1≤1000000) (t:H≤w.heap.size)
  (z:∀d c' w',VecsL w' H (.slice d (n+1) c') (l++[i]) (L++[r])→TKeep 28 w w'→Below H w w'→(∀j,j<w.heap.size→v.ownBlock≠some j→w'.heap[j]? = w.heap[j]?)→K (a.put o.dst (.slice d (n+1) c')) w') :
  Oper.wp Tryz.prog o a w K Q:=by
 subst E;obtain⟨U,D,P,R,T⟩:=info_parts zrA
 refine wp_append_own w s x 76 I H 28 U _ 1 24 Tryz.underlying76 D P R T rfl (by decide) v L.length l M g.own ⟨b,0,none⟩ 1 1 [i] O rfl (zrj B)
  (by intro u y;simp at y;subst y;exact hr.one) (by unfold maxLen;omega) (by omega) t ?_
 intro W w' J f _;have p:=g.append hr J f;obtain⟨d,c',rfl⟩:=p.slice;rw[List.length_append]at p;have C:=z d c' w' p (TKeep.grown g.own f) ((Below.refl _ _).grown f t (fun k hk=>(g.own.lt k hk).1)) (fun j hj G=>f.block j hj (fun e=>G e.symm));simpa using C
theorem zbW{ops:Array Oper}{rest:List Oper}{o:Oper}{a:Act}{Q:Exit→Act→World→Prop}(y:o.guard=none)(s x:Operand)
  (C:o.op=.call { callee:=.builtin .append,args:=#[s,x],argTypes:=#[76,76] })     (D:a.eval s=v) (E:VecsL w H v l L)  (G:a.eval x=.slice (some ⟨b,0,none⟩) 1 1)
  {e:Value}  (u:w.heap[b]? = some (.cells #[e] 28 (0,0))) (hr:VecS w H e r)  (B:L.length=n) (z:n+1≤1000000) (k:H≤w.heap.size)
  (p:∀d c' w',VecsL w' H (.slice d (n+1) c') (l++[e]) (L++[r])→TKeep 28 w w'→Below H w w'→(∀j,j<w.heap.size→v.ownBlock≠some j→w'.heap[j]? = w.heap[j]?)→wpList Tryz.prog ops Q rest (a.put o.dst (.slice d (n+1) c')) w') :
  wpList Tryz.prog ops Q (o::rest) a w :=
 wpList_plain y fun _ t=>zgr s x C D E G u hr B z k fun d c' w' h1 f g i=>t _ _ (p d c' w' h1 f g i)
theorem zet{ops:Array Oper}{o:Oper}{a:Act}{K:Act→World→Prop}{Q:Exit→Act→World→Prop}{E:Prop}(hg:o.guard=none)(s x:Operand)
  (t:o.op=.call { callee:=.builtin .append,args:=#[s,x],argTypes:=#[76,76] })     (u:a.eval s=v) (y:VecsL w H v l L)  (z:a.eval x=.slice (some ⟨b,0,none⟩) 1 1)
  {d:Value}  (i:w.heap[b]? = some (.cells #[d] 28 (0,0))) (hr:VecS w H d r)  (p:L.length=n) (k:n+1≤1000000) (f:H≤w.heap.size)
  (g:∀e c' w',VecsL w' H (.slice e (n+1) c') (l++[d]) (L++[r])→TKeep 28 w w'→Below H w w'→(∀j,j<w.heap.size→v.ownBlock≠some j→w'.heap[j]? = w.heap[j]?)→K (a.put o.dst (.slice e (n+1) c')) w') :
  if Region.wanted o (yielded ops a.tmps)=true then Oper.wp Tryz.prog o a w K Q else E:=by
 have hw:Region.wanted o (yielded ops a.tmps)=true:=by simp[Region.wanted,hg]
 rw[if_pos hw];exact zgr s x t u y z i hr p k f g
theorem ziP{ops:Array Oper}{rest:List Oper}{o:Oper}{a:Act}{Q:Exit→Act→World→Prop}(e:o.guard=none)(s x:Operand)
  (t:o.op=.call { callee:=.builtin .append,args:=#[s,x],argTypes:=#[32,32] })    (u:a.eval s=v) (y:IntsS w H v xs)  (B:a.eval x=.slice (some ⟨b,0,none⟩) 1 1)
   (l:w.heap[b]? = some (.cells #[(z:Int)] 3 (0,0)))  (r:xs.length=n) (p:n+1≤1000000) (i:H≤w.heap.size)
  (j:∀d c' w',IntsS w' H (.slice d (n+1) c') (xs++[z])→TKeep 3 w w'→Below H w w'→wpList Tryz.prog ops Q rest (a.put o.dst (.slice d (n+1) c')) w') :
  wpList Tryz.prog ops Q (o::rest) a w:=by
 refine wpList_plain e fun K k=>?_
 have h:=zll (ops:=ops) (K:=K) (Q:=Q) (E:=True) e s x t u y B l r p i fun d c' w' h1 f g=>k _ _ (j d c' w' h1 f g)
 have hw:Region.wanted o (yielded ops a.tmps)=true:=by simp[Region.wanted,e]
 rw[if_pos hw]at h;exact h
structure LuG (w:World) (H q n kl ku kp:Nat) (lA:OA) (lc:Nat) (ll:List Value) (uA:OA) (uc:Nat) (ul:List Value) (pA:OA) (pc:Nat) (F:LUv):Prop where
  blk:w.heap[q]? = some (.cells #[(lA,kl,lc),(uA,ku,uc),(pA,kp,pc),.bool F.odd] 205 (0,0))
  lo:VecsL w H (lA,kl,lc) ll F.lo
  la:zbG ll
  up:VecsL w H (uA,ku,uc) ul F.up
  ua:zbG ul
  rows:∀a∈ll,∀b∈ul,∀g,a.ownBlock=some g→b.ownBlock≠some g
  perm:IntsS w H (pA,kp,pc) F.perm
  own:H≤q
  l0:kl=0→lA=none
  lr:∀r∈F.lo,r.length=n
  ur:∀r∈F.up,r.length=n
  sep:∀g,(Value.slice lA kl lc).ownBlock=some g→(Value.slice uA ku uc).ownBlock≠some g
theorem zxu(h:(Value.slice A n c).ownBlock=some g)(a:A=none∨A=some ⟨b,0,none⟩):A=some ⟨g,0,none⟩:=by
 rcases a with rfl | rfl
 ·cases h
 ·have:b=g:=by injection h
  rw[this]
namespace LuG
variable {w w':World} {H q n kl ku kp:Nat} {lA:OA} {lc:Nat} {ll:List Value} {uA:OA} {uc:Nat} {ul:List Value} {pA:OA} {pc:Nat} {F:LUv}
theorem below(h:LuG w H q n kl ku kp lA lc ll uA uc ul pA pc F)(a:Below w.heap.size w w'):LuG w' H q n kl ku kp lA lc ll uA uc ul pA pc F :=
 ⟨by rw[a.block q (Array.getElem?_eq_some_iff.1 h.blk).1];exact h.blk,h.lo.below a,h.la,h.up.below a,h.ua,h.rows,h.perm.below a,h.own,h.l0,h.lr,h.ur,h.sep⟩
theorem alloc(h:LuG w H q n kl ku kp lA lc ll uA uc ul pA pc F)(o:Obj):LuG (w.alloc o) H q n kl ku kp lA lc ll uA uc ul pA pc F:=h.below (zae w o)
theorem drew(h:LuG w H q n kl ku kp lA lc ll uA uc ul pA pc F):LuG w.drew H q n kl ku kp lA lc ll uA uc ul pA pc F:=h.below (zap w 1)
theorem qlt(h:LuG w H q n kl ku kp lA lc ll uA uc ul pA pc F):q<w.heap.size:=(Array.getElem?_eq_some_iff.1 h.blk).1
theorem addr{H:Nat}(h:VecsL w H v l L)(e:v=(A,k,c)):A=none∨∃b,A=some ⟨b,0,none⟩:=by
 subst e;obtain⟨_,_,_,h1 | ⟨g,h1,_⟩⟩:=h.form
 ·exact .inl h1.1
 ·exact .inr ⟨g,h1⟩
theorem shape{H:Nat}(h:VecsL w H (A,k,c) l L)(e:(Value.slice A k c).ownBlock=some g):A=some ⟨g,0,none⟩:=by
 rcases addr h rfl with h1 | ⟨b,h1⟩
 ·subst h1;cases e
 ·exact zxu e (.inr h1)
theorem pushU(h:LuG w H q n kl ku kp lA lc ll uA uc ul pA pc F)(D:0<n){f:OA}{l:Value}(i:VecsL w' H (f,ku+1,c') (ul++[l]) (F.up++[r]))(hk:TKeep 28 w w')
  (B:∀j,j<w.heap.size→(Value.slice uA ku uc).ownBlock≠some j→w'.heap[j]? = w.heap[j]?) (hr:r.length=n) (s:∀g,l.ownBlock=some g→(∀a∈ll,a.ownBlock≠some g)∧∀a∈ul,a.ownBlock≠some g) :
  LuG (w'.setCell ⟨q,1,none⟩ (f,ku+1,c')) H q n kl (ku+1) kp lA lc ll f c' (ul++[l]) pA pc { F with up:=F.up++[r] }:=by
 have u:=hk.blk h.blk (by decide);have p:TKeep 205 w' (w'.setCell ⟨q,1,none⟩ (f,ku+1,c')):=TKeep.set u _;have k:VecsL w' H (lA,kl,lc) ll F.lo:=h.lo.keepAll (fun j hj=>B j (h.lo.own.lt j hj).2 (h.sep j hj)) fun _ _ _ v=>v.tk hk (by decide) (by decide)
 have x:∀a∈ll,∀b∈ul++[l],∀g,a.ownBlock=some g→b.ownBlock≠some g:=fun a t b d g hg=>by
  rcases List.mem_append.1 d with d | d
  ·exact h.rows a t b d g hg
  ·rw[List.mem_singleton.1 d];intro e;exact(s g e).1 a t hg
 refine⟨?_,k.tk p (by decide) (by decide) (by decide),h.la,i.tk p (by decide) (by decide) (by decide),h.ua.push fun g b hg d=>(s g hg).2 b d,x,(h.perm.tk hk (by decide)).tk p (by decide),h.own,h.l0,h.lr,fun r' E=>?_,fun g h1 C=>?_⟩
 ·have:=zar (o:=1) (f,ku+1,c') u;simpa using this
 ·rcases List.mem_append.1 E with h1 | h1
  ·exact h.ur r' h1
  ·rw[List.mem_singleton.1 h1];exact hr
 ·have y:=shape k h1;have z:=shape i C;by_cases G:kl=0
  ·rw[h.l0 G]at h1;cases h1
  ·rw[y]at k;rw[z]at i;exact zrM k i (by omega) (by omega) (fun r hr=>by rw[h.lr r hr];exact D) x
theorem pushL(h:LuG w H q n kl ku kp lA lc ll uA uc ul pA pc F)(G:0<n)(E:0<ku){d:OA}{p:Value}(i:VecsL w' H (d,kl+1,c') (ll++[p]) (F.lo++[r]))(hk:TKeep 28 w w')
  (C:∀j,j<w.heap.size→(Value.slice lA kl lc).ownBlock≠some j→w'.heap[j]? = w.heap[j]?) (hr:r.length=n) (t:∀g,p.ownBlock=some g→(∀a∈ll,a.ownBlock≠some g)∧∀a∈ul,a.ownBlock≠some g) :
  LuG (w'.setCell ⟨q,0,none⟩ (d,kl+1,c')) H q n (kl+1) ku kp d c' (ll++[p]) uA uc ul pA pc { F with lo:=F.lo++[r] }:=by
 have u:=hk.blk h.blk (by decide);have s:TKeep 205 w' (w'.setCell ⟨q,0,none⟩ (d,kl+1,c')):=TKeep.set u _;have l:VecsL w' H (uA,ku,uc) ul F.up:=h.up.keepAll (fun j hj=>C j (h.up.own.lt j hj).2 (fun e=>h.sep j e hj)) fun _ _ _ v=>v.tk hk (by decide) (by decide)
 have y:∀a∈ll++[p],∀b∈ul,∀g,a.ownBlock=some g→b.ownBlock≠some g:=fun a f b k g hg=>by
  rcases List.mem_append.1 f with f | f
  ·exact h.rows a f b k g hg
  ·rw[List.mem_singleton.1 f]at hg;exact(t g hg).2 b k
 have x:∀r'∈F.lo++[r],r'.length=n:=fun r' I=>by
  rcases List.mem_append.1 I with h1 | h1
  ·exact h.lr r' h1
  ·rw[List.mem_singleton.1 h1];exact hr
 refine⟨?_,i.tk s (by decide) (by decide) (by decide),h.la.push fun g b hg k=>(t g hg).1 b k,l.tk s (by decide) (by decide) (by decide),h.ua,y,(h.perm.tk hk (by decide)).tk s (by decide),h.own,fun e=>absurd e (by omega),x,h.ur,fun g h1 D=>?_⟩
 ·have:=zar (o:=0) (d,kl+1,c') u;simpa using this
 ·have z:=shape i h1;have B:=shape l D;rw[z]at i;rw[B]at l;exact zrM i l (by omega) E (fun r hr=>by rw[x r hr];exact G) y
theorem pushP(h:LuG w H q n kl ku kp lA lc ll uA uc ul pA pc F){a:OA}(f:IntsS w' H (a,kp+1,c') (F.perm++[z]))(hk:TKeep 3 w w') :
  LuG (w'.setCell ⟨q,2,none⟩ (a,kp+1,c')) H q n kl ku (kp+1) lA lc ll uA uc ul a c' { F with perm:=F.perm++[z] }:=by
 have e:=hk.blk h.blk (by decide);have d:TKeep 205 w' (w'.setCell ⟨q,2,none⟩ (a,kp+1,c')):=TKeep.set e _;refine⟨?_,(h.lo.tk hk (by decide) (by decide) (by decide)).tk d (by decide) (by decide) (by decide),h.la,(h.up.tk hk (by decide) (by decide) (by decide)).tk d (by decide) (by decide) (by decide),h.ua,h.rows,f.tk d (by decide),h.own,h.l0,h.lr,h.ur,h.sep⟩;have:=zar (o:=2) (a,kp+1,c') e;simpa using this
theorem toS(h:LuG w H q n n n n lA lc ll uA uc ul pA pc F)(a:Sq n F):LuS w H q n F :=
 ⟨⟨lA,lc,ll,uA,uc,ul,pA,pc,h.blk,h.lo,h.la,h.up,h.ua,h.rows,h.perm⟩,h.own,a⟩
theorem toQ(h:LuG w H q n n n n lA lc ll uA uc ul pA pc F)(a:0<n):LuQ w H q n F:=by
 obtain⟨lb,rfl,_,_⟩:=h.lo.has a;obtain⟨ub,rfl,_,_⟩:=h.up.has a;obtain⟨pb,rfl,_,_⟩:=h.perm.has a;exact⟨lb,lc,ll,ub,uc,ul,pb,pc,h.blk,h.lo,h.la,h.up,h.ua,h.rows,fun e=>h.sep lb rfl (by rw[e];rfl),h.perm,h.own⟩
end LuG
def laid (n:Nat) (L:List (List Rat)) (k:Nat):LUv:=⟨List.replicate k (List.replicate n 0),L.take k,List.range k,false⟩
theorem zuY(h:L[k]? = some r):(⟨(laid n L k).lo++[List.replicate n 0],(laid n L k).up++[r],(laid n L k).perm++[k],false⟩:LUv)=laid n L (k+1):=by
 unfold laid;rw[List.take_add_one,h,List.range_succ,List.replicate_succ'];rfl
theorem LuG.start(w:World)(n:Nat)(L:List (List Rat)):LuG (w.alloc (.cells #[(),(),(),false] 205)) w.heap.size w.heap.size n 0 0 0 none 0 [] none 0 [] none 0 (laid n L 0):=by
 refine⟨zal _ _ _,VecsL.nil _ _,zbG.nil,?_,zbG.nil,fun a d=>(List.not_mem_nil d).elim,IntsS.nil _ _,Nat.le_refl _,fun _=>rfl,fun r hr=>?_,fun r hr=>?_,fun g h=>by cases h⟩
 ·show VecsL _ _ _ _ (L.take 0);rw[List.take_zero];exact VecsL.nil _ _
 ·exact(List.not_mem_nil hr).elim
 ·have:r∈L.take 0:=hr;rw[List.take_zero]at this;exact(List.not_mem_nil this).elim
def LuW (w:World) (H q n:Nat) (F:LUv):Prop:=(0<n→LuQ w H q n F)∧(n=0→LuS w H q n F)
theorem LuG.toW{q:Nat}{lA:OA}{uA:OA}{pA:OA}{pc:Nat}{F:LUv}(h:LuG w H q n n n n lA lc ll uA uc ul pA pc F)(d:Sq n F):LuW w H q n F :=
 ⟨fun a=>h.toQ a,fun _=>h.toS d⟩
theorem LuW.toS{w:World}{H q n:Nat}{F:LUv}(h:LuW w H q n F)(a:Sq n F):LuS w H q n F:=by
 by_cases e:n=0
 ·exact h.2 e
 ·exact(h.1 (by omega)).toS a
theorem zrB(h:L.length=n):laid n L n=zg4 n L:=by
 unfold laid zg4;rw[←h,List.take_length]
namespace Vc
theorem nought(n:Nat)(d:n≤64)(w:World):Calls Tryz.prog 108 #[(n:Int)] w (zcd w (List.replicate n 0) true):=by
 have h1:decide ((n:Int)<0)=false:=by simp
 have j:decide ((64:Int)<(n:Int))=false:=by simp;omega
 have g:=hid d;clear d;go_enter Tryz.func108,Tryz.ntmps108;go_wp2_with (at_make;go_must (refine zdv rfl _ _ rfl n _ rfl rfl rfl (by have:=g.out;omega) w.heap.size rfl ?_;intro w1 e a;have i:=hid e;have f:=hid a;clear e a))
 refine bodyPost_ret (v:=.tuple #[(w.heap.size,n,n),true]) (by simp[results,Tryz.results108,go_sem]) rfl ?_;exact⟨_,_,_,rfl,i.out,f.out⟩
theorem unit(n k:Nat)(g:n≤64)(hk:k<n)(w:World):Calls Tryz.prog 69 #[(n:Int),(k:Int)] w (zcd w (zdL n k) true):=by
 have h1:decide ((k:Int)<0)=false:=by simp
 have z:decide ((n:Int)≤(k:Int))=false:=by simp;omega
 have l:=hid g;have C:(0:Int)≤(k:Int):=Int.natCast_nonneg _;have D:(k:Int)<(n:Int):=by omega
 clear g;have f:=hid (Below.refl w.heap.size w);go_enter Tryz.func69,Tryz.ntmps69;go_wp2_with fail
 with_reducible refine(nought n l.out _).mono ?_
 rintro e w1 ⟨A,n1,c1,rfl,hv,hb⟩;have o:=hid (hv);have i:=hid (f.out.trans ((hb).mono f.out.size));clear hb;have r:n1=n:=by have:=hv.len;rw[List.length_replicate]at this;exact this
 subst r;obtain⟨b,rfl,d,B⟩:=hv.has (by omega);clear hv;go_wp2_with fail
 with_reducible refine(Rt.int 1 (by decide) (by decide) _).mono ?_
 rintro e s ⟨g2,A2,m2,c2,D2,md2,cd2,rfl,hn2,hb⟩;have a:=hid (o.out.below hb);have j:=hid (hn2);have t:=hid (i.out.trans ((hb).mono i.out.size));clear hn2 hb;obtain⟨go,u,G,co,x,E,y,I,J,K,_⟩:=a.out.at_ (k:=k) (q:=0) (by rw[List.getElem?_replicate,if_pos hk]);have L:=a.out.fro (k*3);have of1:=a.out.fro (k*3+1);have M:=a.out.fro (k*3+2);go_wp2
 refine bodyPost_ret (v:=.tuple #[(b,n1,c1),true]) (by simp[results,Tryz.results69,go_sem]) rfl ?_;exact⟨_,_,_,rfl,by unfold zdL;exact a.out.store k j.out,(Below.setCell (Below.setCell (Below.setCell t.out (p:=⟨b,k*3,none⟩) d _) (p:=⟨b,k*3+1,none⟩) d _) (p:=⟨b,k*3+2,none⟩) d _)⟩
