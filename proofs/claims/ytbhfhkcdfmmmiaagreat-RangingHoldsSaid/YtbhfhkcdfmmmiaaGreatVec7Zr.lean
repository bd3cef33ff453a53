/- Contracts and lemmas: Vec7 Prob2 Prob3 Prob5 Prob4. Conditions: as each says. -/
import Derived.Test.YtbhfhkcdfmmmiaaGreatMat3Zr
set_option linter.all false
set_option maxHeartbeats 4000000
set_option maxRecDepth 100000
namespace Go.Proofs.YtbhfhkcdfmmmiaaGreat
open Go.RowKit Am Tryz
attribute [local go_sem ↓] Go.wp_at_zero Go.wp_at_succ
variable {rows:List PRow}{cost x ys:List Rat}{k:Nat}{p:PRow}{q:Rat}
theorem zvQ(h:zr q=true):q=0:=of_decide_eq_true h
namespace Vc
theorem dot_ok(A:OA)(n c:Nat)(xs:List Rat)(B:OA)(j c':Nat)(ys:List Rat)(H H':Nat)(w:World)(hx:VecS w H (A,n,c) xs)(hy:VecS w H' (B,j,c') ys)(hl:xs.length=ys.length)(d:n≤1000)(zx:∀q∈xs,mw q≤4000000)(zy:∀q∈ys,mw q≤4000000) :
  Calls prog 78 #[(A,n,c),(B,j,c')] w (zii w (dot xs ys) true):=by
 have s:=hx.len;have a5:=hy.len;have en:j=n:=by omega
 subst en;have HN:=un s;have HL:=un hl;have aW:=un d;have ZX:=un zx;have ZY:=un zy;have bO:j≤9223372036854775807:=by omega
 clear s a5 hl d zx zy;obtain⟨W,L⟩:∃W,(w.alloc (.cells #[false,(),()] 41))=W:=⟨_,rfl⟩
 have aB:=un (show W.heap[w.heap.size]? = some (.cells #[false,(),()] 41 (0,0))by rw[←L];exact zam (by simp));have T:=un (show Below w w W by rw[←L];exact zae w _);have U:=un (show VecS W H (A,j,c) xs by rw[←L];exact(hx).alloc _);have V:=un (show VecS W H' (B,j,c') ys by rw[←L];exact(hy).alloc _);clear hx hy;go_enter func78,ntmps78;go_wp2;clear L
 go_loopw [16] (fun i wr=>∃(k:Nat) (g:Bool) (P:OA) (m cp:Nat) (D:OA) (o l:Nat),i=.int .i64 k∧k≤j∧wr.heap[W.heap.size]? = some (.cells #[g,(P,m,cp),(D,o,l)] 41 (0,0))∧RatS wr g (P,m,cp) (D,o,l) (ziw xs ys k)∧Below W.heap.size W wr)
  (fun i _=>j-(intOf i).toNat)
 case atStart=>exact⟨0,_,_,_,_,_,_,_,rfl,Nat.zero_le _,zal _ _ _,RatS.zero _,zae W _⟩
 case round =>
  obtain⟨k,g,P,m,cp,D,o,l,rfl,hk,Z,Y,f⟩:=hrel;by_cases aF:k<j
  ·obtain⟨a,M⟩:∃a,xs[k]? = some a:=⟨xs[k]'(by rw[←HN.o];exact aF),List.getElem?_eq_getElem _⟩
   obtain⟨b,d⟩:∃b,ys[k]? = some b:=⟨ys[k]'(by rw[←HL.o,←HN.o];exact aF),List.getElem?_eq_getElem _⟩
   obtain⟨bx,rfl,bI,bJ⟩:=U.o.has (by omega);obtain⟨by_,rfl,bK,bL⟩:=V.o.has (by omega);obtain⟨I,u,N,C,y,Q,F,k0,k1,k2,aC⟩:=(U.o.below f).at_ M;obtain⟨J,x,O,E,z,R,G,l0,l1,l2,aD⟩:=(V.o.below f).at_ d;have t:=un (zad f aB.o);have bc:=un (U.o.below f);have bd:=un (V.o.below f);have aA:=un (show RatS wr I (u,N,C) (y,Q,F) a from aC);have aZ:=un (show RatS wr J (x,O,E) (z,R,G) b from aD)
   have HP:=un (show RatS wr g (P,m,cp) (D,o,l) (ziw xs ys k)from Y);have HW:=un (Bel.mk f);have aH:=un (T.o.trans ((f).mono T.o.size));obtain⟨aa,ac,au,_,ab,ad,av,_,ae,af,ay,_⟩:=bf3 t.o;have aI:wr.cell? ⟨bx,k*3,none⟩=some (.bool I):=k0;have aJ:wr.cell? ⟨bx,k*3+1,none⟩=some (u,N,C):=k1;have aM:wr.cell? ⟨bx,k*3+2,none⟩=some (y,Q,F):=k2;have aN:wr.cell? ⟨by_,k*3,none⟩=some (.bool J):=l0;have aO:wr.cell? ⟨by_,k*3+1,none⟩=some (x,O,E):=l1
   have aP:wr.cell? ⟨by_,k*3+2,none⟩=some (z,R,G):=l2;have X:=un Z;obtain⟨bg,_,_,_,bh,_,_,_,bf,_⟩:=bf3 X.o;have aI:=k0;have aJ:=k1;have aM:=k2;have aN:=l0;have aO:=l1;have aP:=l2;have ag:=un M;have ah:=un d;have L1:=un (show 4*(mw a+mw b)+8≤LIM by have:=ZX.o a (List.mem_of_getElem? M);have:=ZY.o b (List.mem_of_getElem? d);have:=zaP;omega)
   have L2:=un (show 4*(mw (ziw xs ys k)+mw (a*b))+8≤LIM by have:=ZX.o a (List.mem_of_getElem? M);have:=ZY.o b (List.mem_of_getElem? d);have h1:=zrJ ZX.o ZY.o k;have:=zdI a b;have:=zaP;have h2:k*8000001≤1000*8000001:=Nat.mul_le_mul_right _ (by have:=aW.o;omega);omega);have bM:(0:Int)≤(k:Int):=Int.natCast_nonneg _;have bN:(k:Int)<(j:Int):=by omega
   clear Z Y f M d k0 k1 k2 l0 l1 l2 aC aD;go_wp2_with fail
   with_reducible refine(Rt.zero I u N C y Q F a _ aA.o).mono ?_
   rintro e v1 ⟨rfl,d⟩;have aK:=un (zad d X.o);have bE:=un (aA.o.below d);have aT:=un (aZ.o.below d);have aQ:=un (HP.o.below d);have aR:=un (HW.o.below d);have bi:=zab d aI;have bl:=zab d aJ;have bm:=zab d aM;have bo:=zab d aN;have bt:=zab d aO;have bz:=zab d aP;clear d;cases hza:zr a
   ·go_wp2_with fail
    with_reducible refine(Rt.zero J x O E z R G b _ aT.o).mono ?_
    rintro e v2 ⟨rfl,d⟩;have ax:=un (zad d aK.o);have bF:=un (bE.o.below d);have bG:=un (aT.o.below d);have aG:=un (aQ.o.below d);have aS:=un (aR.o.below d);obtain⟨bV,_,_,_,bX,_,_,_,b0,_⟩:=bf3 ax.o;have bk:=zab d bi;have a6:=zaa bk;have bp:=zab d bl;have a7:=zaa bp;have br:=zab d bm;have a8:=zaa br;have bq:=zab d bo;have a9:=zaa bq;have bv:=zab d bt;have ba:=zaa bv;have bB:=zab d bz;have bb:=zaa bB;clear d;cases hzb:zr b
    ·go_wp2_with fail
     refine za2 (S:=fun w'=>w'.cell? ⟨W.heap.size,0,none⟩=some (.bool g)∧w'.cell? ⟨W.heap.size,1,none⟩=some (P,m,cp)∧w'.cell? ⟨W.heap.size,2,none⟩=some (D,o,l)∧w'.cell? ⟨bx,k*3,none⟩=some (.bool I)∧w'.cell? ⟨bx,k*3+1,none⟩=some (u,N,C)∧w'.cell? ⟨bx,k*3+2,none⟩=some (y,Q,F)∧w'.cell? ⟨by_,k*3,none⟩=some (.bool J)∧w'.cell? ⟨by_,k*3+1,none⟩=some (x,O,E)∧w'.cell? ⟨by_,k*3+2,none⟩=some (z,R,G)) 11 (h:=fun hHeld=>?_);refine zaw [0,1,2,3,4,5,6,7,8] ?_
     repeat refine tkE (hS:=hHeld) (h:=?_)
     refine zao ?_;refine zaN 9 (h:=fun K r=>?_);go_simp
     (go_at_call 15;(with_reducible refine(Rt.mul I u N C y Q F a J x O E z R G b _ bF.o.drew bG.o.drew L1.o).mono ?_);rintro e u1 ⟨g1,A1,m1,c1,D1,md1,cd1,rfl,s,d⟩;have aL:=un (zad d ax.o);have be:=un (aG.o.drew.below d);have bA:=un (aS.o.drew.below d);have HM:=un (s);obtain⟨bQ,_,_,_,bR,_,_,_,bZ,_⟩:=bf3 aL.o;have bj:=zab d a6;have bn:=zab d a7;have bs:=zab d a8;have bu:=zab d a9;have bw:=zab d ba;have bC:=zab d bb;clear s d)
     (try go_wp2_with fail)
     refine r.o _ _ kp fun hHeld=>?_
     clear r K;try simp only[Act.put,pu1,pu2,pu3,pu4,pu5,pu6]
     refine zaN 10 (h:=fun K r=>?_);go_simp
     (go_at_call 21;(with_reducible refine(Rt.add g P m cp D o l (ziw xs ys k) g1 A1 m1 c1 D1 md1 cd1 (a*b) _ be.o HM.o L2.o).mono ?_);rintro e u2 ⟨g2,A2,m2,c2,D2,md2,cd2,rfl,s,d⟩;have aw:=un (zad d aL.o);have bD:=un (bA.o.below d);have HS:=un (s);obtain⟨bW,_,bS,_,bY,_,bT,_,b1,_,bU,_⟩:=bf3 aw.o;have b2:=zab d bj;have b3:=zab d bn;have b4:=zab d bs;have b5:=zab d bu;have b6:=zab d bw;have b7:=zab d bC;clear s d)
     (try go_wp2_with fail)
     refine r.o _ _ kp fun hHeld=>?_
     clear r K;try simp only[Act.put,pu1,pu2,pu3,pu4,pu5,pu6]
     refine zba (h:=fun K r=>?_);go_simp;refine r.o _ _ ?_;clear r K;try simp only[Act.put,pu1,pu2,pu3,pu4,pu5,pu6]
     refine za1 (h:=?_)
     all_goals
      go_wp2;go_roundw
      case rel=>exact⟨k+1,g2,A2,m2,c2,D2,md2,cd2,by go_num,by omega,zar _ (zar _ (zar _ aw.o)),by rw[zlZ xs ys k ag.o ah.o];exact HS.o.set3 aw.o (by decide) _ _ _,(Bel.set3 bD.o (Nat.le_refl _) _ _ _).b⟩
      case measure=>simp[intOf];omega
    ·skip
     go_wp2;go_roundw
     case rel=>exact⟨k+1,g,P,m,cp,D,o,l,by go_num,by omega,ax.o,by rw[zlY xs ys k ag.o ah.o (Or.inr (zvQ hzb))];exact aG.o,aS.o.b⟩
     case measure=>simp[intOf];omega
   ·skip
    go_wp2;go_roundw
    case rel=>exact⟨k+1,g,P,m,cp,D,o,l,by go_num,by omega,aK.o,by rw[zlY xs ys k ag.o ah.o (Or.inl (zvQ hza))];exact aQ.o,aR.o.b⟩
    case measure=>simp[intOf];omega
  ·have a4:k=j:=by omega
   have t:=un (zad f aB.o);have bc:=un (U.o.below f);have bd:=un (V.o.below f);have HP:=un (show RatS wr g (P,m,cp) (D,o,l) (ziw xs ys k)from Y);have aH:=un (T.o.trans ((f).mono T.o.size));obtain⟨aa,ac,au,_,ab,ad,av,_,ae,af,ay,_⟩:=bf3 t.o;have X:=un Z;obtain⟨bg,_,bh,_,bf,_⟩:=bc3 X.o;clear Z Y f;go_wp2
   refine bodyPost_ret (v:=.tuple #[.agg #[g,(P,m,cp),(D,o,l)],true]) (by simp[results,results78,go_sem,aa,ac,ab,ad,ae,af]) rfl ?_;have h:=HP.o;rw[a4,HN.o]at h;exact⟨_,_,_,_,_,_,_,rfl,h.set3 t.o (by decide) _ _ _,bsc (bsc (bsc aH.o))⟩
end Vc
abbrev Sm (xs:List Rat):Prop:=∀q∈xs,mw q≤4000000
def zdp (p:PRow) (x:List Rat):Rat:=dot p.coef x-p.rhs
def zdH (p:PRow) (x:List Rat):Bool:=if p.kind=1 then decide (zdp p x≤0)else if p.kind=2 then decide (0≤zdp p x)else decide (p.kind=3)&&decide (zdp p x=0)
theorem zDI{xs:List Rat}(a:Sm xs)(b:Sm ys)(h:xs.length≤1000):mw (dot xs ys)≤8000002000:=by
 have h1:=zrJ a b xs.length;unfold dot;omega
theorem zsp(q:Rat):q.num≤0↔q≤0:=by
 have h:=Rat.num_nonneg (q := -q);rw[Rat.neg_num]at h;constructor
 ·intro h1;have:=h.1 (by omega);grind
 ·intro h1;have:=h.2 (by grind);omega
theorem zxh(h:p.kind=1):decide ((zdp p x).num≤0)=zdH p x:=by
 unfold zdH;rw[if_pos h];exact decide_eq_decide.2 (zsp _)
theorem zxg(h:p.kind=2):decide (0≤zdp p x)=zdH p x:=by
 unfold zdH;rw[if_neg (by omega),if_pos h]
theorem zxf(h:p.kind=3):zr (zdp p x)=zdH p x:=by
 unfold zdH;rw[if_neg (by omega),if_neg (by omega),decide_eq_true h,Bool.true_and];rfl
theorem zxi(h1:p.kind≠1)(a:p.kind≠2)(b:p.kind≠3):false=zdH p x:=by
 unfold zdH;rw[if_neg h1,if_neg a,decide_eq_false b,Bool.false_and]
namespace Pb
theorem over(C:OA)(nc cc:Nat)(g:Bool)(A:OA)(m c:Nat)(D:OA)(d b:Nat)(kd:Int)(p:PRow)(hk:p.kind=kd)(X:OA)(l k:Nat)(x:List Rat)(w:World)(hc:VecS w 0 (C,nc,cc) p.coef)(hr:RatS w g (A,m,c) (D,d,b) p.rhs)(r:VecS w 0 (X,l,k) x)(q:p.coef.length=x.length)(a:nc≤1000)(zc:Sm p.coef)(zr:mw p.rhs≤4000000)(n:Sm x) :
  Calls prog 65 #[.agg #[(C,nc,cc),.int .i64 kd,g,(A,m,c),(D,d,b)],(X,l,k)] w (zii w (zdp p x) true):=by
 have i:=hc.len;have z:=un q;have u:=un a;have J:=un zc;have K:=un n;have I:=un (show 4*(mw (dot p.coef x)+mw p.rhs)+8≤LIM by have:=zDI zc n (by omega);have:=zaP;omega);clear i q a zc zr n;obtain⟨W,f⟩:∃W,((w.alloc (.cells #[(C,nc,cc),.int .i64 kd,g,(A,m,c),(D,d,b)] 43)).alloc (.cells #[false,(),()] 41))=W:=⟨_,rfl⟩
 have o:=un (show W.heap[w.heap.size]? = some (.cells #[(C,nc,cc),.int .i64 kd,g,(A,m,c),(D,d,b)] 43 (0,0))by rw[←f];exact zak (zam (by simp)));have H:=un (show W.heap[w.heap.size+1]? = some (.cells #[false,(),()] 41 (0,0))by rw[←f];exact zam (by simp));have j:=un (show Below w w W by rw[←f];exact(zae w _).alloc (by simp) _);have y:=un (show VecS W 0 (C,nc,cc) p.coef by rw[←f];exact((hc).alloc _).alloc _)
 have G:=un (show VecS W 0 (X,l,k) x by rw[←f];exact((r).alloc _).alloc _);have B:=un (show RatS W g (A,m,c) (D,d,b) p.rhs by rw[←f];exact((hr).alloc _).alloc _);obtain⟨Z,_⟩:=bc5 o.o;clear hc hr r;go_enter func65,ntmps65;go_wp2_with fail
 clear f;with_reducible refine(Vc.dot_ok C nc cc p.coef X l k x 0 0 _ y.o G.o z.o u.o J.o K.o).mono ?_
 rintro e w1 ⟨g2,A2,m2,c2,D2,md2,cd2,rfl,i,a⟩;have P:=un (show(w1.alloc (.cells #[g2,(A2,m2,c2),(D2,md2,cd2)] 41)).heap[w.heap.size]? = some (.cells #[(C,nc,cc),.int .i64 kd,g,(A,m,c),(D,d,b)] 43 (0,0))from zak (zad a o.o));have M:=un (show(w1.alloc (.cells #[g2,(A2,m2,c2),(D2,md2,cd2)] 41)).heap[w.heap.size+1]? = some (.cells #[false,(),()] 41 (0,0))from zak (zad a H.o))
 have Y:=un (show RatS (w1.alloc (.cells #[g2,(A2,m2,c2),(D2,md2,cd2)] 41)) g (A,m,c) (D,d,b) p.rhs from(B.o.below a).alloc _);have E:=un (show RatS (w1.alloc (.cells #[g2,(A2,m2,c2),(D2,md2,cd2)] 41)) g2 (A2,m2,c2) (D2,md2,cd2) (dot p.coef x)from(i).alloc _)
 have s:=un (show Below w w (w1.alloc (.cells #[g2,(A2,m2,c2),(D2,md2,cd2)] 41))from((j.o.trans ((a).mono j.o.size))).alloc ((j.o.trans ((a).mono j.o.size))).size _);have V:=un (show(w1.alloc (.cells #[g2,(A2,m2,c2),(D2,md2,cd2)] 41)).heap[w1.heap.size]? = some (.cells #[g2,(A2,m2,c2),(D2,md2,cd2)] 41 (0,0))from zam (by simp));obtain⟨_,_,_,_,ab,_,ah,_,ai,_⟩:=bc5 P.o;obtain⟨ad,_,ae,_,ag,_⟩:=bc3 V.o;clear i a;go_wp2_with fail
 with_reducible refine(Rt.sub g2 A2 m2 c2 D2 md2 cd2 (dot p.coef x) g A m c D d b p.rhs _ E.o Y.o I.o).mono ?_
 rintro e L ⟨g3,A3,m3,c3,D3,md3,cd3,rfl,i,a⟩;have t:=un (zad a M.o);have F:=un (show RatS L g3 (A3,m3,c3) (D3,md3,cd3) (zdp p x)from i);have S:=un (s.o.trans ((a).mono s.o.size));obtain⟨R,O,aa,_,T,N,ac,_,U,Q,af,_⟩:=bf3 t.o;clear i a;go_wp2;refine bodyPost_ret (v:=.tuple #[.agg #[g3,(A3,m3,c3),(D3,md3,cd3)],true]) (by simp[results,results65,go_sem,R,O,T,N,U,Q]) rfl ?_
 exact⟨_,_,_,_,_,_,_,rfl,F.o.set3 t.o (by decide) _ _ _,bsc (bsc (bsc S.o))⟩
theorem holds(C:OA)(nc cc:Nat)(g:Bool)(A:OA)(m c:Nat)(D:OA)(i d:Nat)(kd:Int)(p:PRow)(hk:p.kind=kd)(X:OA)(t o:Nat)(x:List Rat)(w:World)(hc:VecS w 0 (C,nc,cc) p.coef)(hr:RatS w g (A,m,c) (D,i,d) p.rhs)(z:VecS w 0 (X,t,o) x)(y:p.coef.length=x.length)(a:nc≤1000)(zc:Sm p.coef)(zr:mw p.rhs≤4000000)(E:Sm x) :
  Calls prog 71 #[.agg #[(C,nc,cc),.int .i64 kd,g,(A,m,c),(D,i,d)],(X,t,o)] w fun e w'=>e=.returned (.bool (zdH p x))∧Below w w w':=by
 have s:=hc.len;have H:=un y;have F:=un a;have K:=un zc;have L:=un zr;have M:=un E;have b:=un hk;clear hk s y a zc zr E;obtain⟨W,k⟩:∃W,(w.alloc (.cells #[(C,nc,cc),.int .i64 kd,g,(A,m,c),(D,i,d)] 43))=W:=⟨_,rfl⟩
 have v:=un (show W.heap[w.heap.size]? = some (.cells #[(C,nc,cc),.int .i64 kd,g,(A,m,c),(D,i,d)] 43 (0,0))by rw[←k];exact zam (by simp));have n:=un (show Below w w W by rw[←k];exact zae w _);have G:=un (show VecS W 0 (C,nc,cc) p.coef by rw[←k];exact(hc).alloc _);have J:=un (show VecS W 0 (X,t,o) x by rw[←k];exact(z).alloc _);have I:=un (show RatS W g (A,m,c) (D,i,d) p.rhs by rw[←k];exact(hr).alloc _)
 obtain⟨T,_,U,_,Y,_,ab,_,ac,_⟩:=bc5 v.o;clear hc hr z;go_enter func71,ntmps71;go_wp2_with fail
 clear k;with_reducible refine(over C nc cc g A m c D i d kd p b.o X t o x _ G.o I.o J.o H.o F.o K.o L.o M.o).mono ?_
 rintro e w1 ⟨g2,A2,m2,c2,D2,md2,cd2,rfl,s,a⟩;have R:=un (show(w1.alloc (.cells #[g2,(A2,m2,c2),(D2,md2,cd2)] 41)).heap[w.heap.size]? = some (.cells #[(C,nc,cc),.int .i64 kd,g,(A,m,c),(D,i,d)] 43 (0,0))from zak (zad a v.o));have u:=un (show RatS (w1.alloc (.cells #[g2,(A2,m2,c2),(D2,md2,cd2)] 41)) g2 (A2,m2,c2) (D2,md2,cd2) (zdp p x)from(s).alloc _)
 have j:=un (show Below w w (w1.alloc (.cells #[g2,(A2,m2,c2),(D2,md2,cd2)] 41))from((n.o.trans ((a).mono n.o.size))).alloc ((n.o.trans ((a).mono n.o.size))).size _);have Q:=un (show(w1.alloc (.cells #[g2,(A2,m2,c2),(D2,md2,cd2)] 41)).heap[w1.heap.size]? = some (.cells #[g2,(A2,m2,c2),(D2,md2,cd2)] 41 (0,0))from zam (by simp));obtain⟨_,_,S,_⟩:=bc5 R.o;obtain⟨Z,_,aa,_,V,_⟩:=bc3 Q.o;clear s a;by_cases h1:kd=1
 ·have N:(kd == 1)=true:=by simp[h1]
  go_wp2_with fail
  with_reducible refine(Rt.sign g2 A2 m2 c2 D2 md2 cd2 (zdp p x) _ u.o).mono ?_
  rintro e B ⟨rfl,a⟩;have l:=un (j.o.trans ((a).mono j.o.size));clear a;go_wp2;go_ret
  have f:=zxh (p:=p) (x:=x) (b.o.trans h1);exact⟨by rw[←f];rfl,l.o⟩
 ·have N:(kd == 1)=false:=by simp[h1]
  by_cases q:kd=2
  ·have O:(kd == 2)=true:=by simp[q]
   go_wp2_with fail
   with_reducible refine(Rt.sign g2 A2 m2 c2 D2 md2 cd2 (zdp p x) _ u.o).mono ?_
   rintro e B ⟨rfl,a⟩;have l:=un (j.o.trans ((a).mono j.o.size));clear a;go_wp2;go_ret
   have f:=zxg (p:=p) (x:=x) (b.o.trans q);exact⟨by rw[←f];rfl,l.o⟩
  ·have O:(kd == 2)=false:=by simp[q]
   by_cases r:kd=3
   ·have P:(kd == 3)=true:=by simp[r]
    go_wp2_with fail
    with_reducible refine(Rt.zero g2 A2 m2 c2 D2 md2 cd2 (zdp p x) _ u.o).mono ?_
    rintro e B ⟨rfl,a⟩;have l:=un (j.o.trans ((a).mono j.o.size));clear a;go_wp2;go_ret
    have f:=zxf (p:=p) (x:=x) (b.o.trans r);exact⟨by rw[←f];rfl,l.o⟩
   ·have P:(kd == 3)=false:=by simp[r]
    go_wp2;go_ret
    have f:=zxi (p:=p) (x:=x) (by rw[b.o];exact h1) (by rw[b.o];exact q) (by rw[b.o];exact r);exact⟨by rw[←f];rfl,j.o⟩
theorem zPu(C:OA)(nc cc:Nat)(R:OA)(nr c:Nat)(cost:List Rat)(rows:List PRow)(X:OA)(f d:Nat)(x:List Rat)(w:World)(hc:VecS w 0 (C,nc,cc) cost)(hr:RowsS w 0 (R,nr,c) rows)(l:VecS w 0 (X,f,d) x)(k:cost.length=x.length)(a:nc≤1000)(zc:Sm cost)(n:Sm x) :
  Calls prog 31 #[.agg #[(C,nc,cc),(R,nr,c)],(X,f,d)] w (zii w (dot cost x) true):=by
 have r:=un k;have o:=un a;have u:=un zc;have y:=un n;clear k a zc n;obtain⟨W,b⟩:∃W,((w.alloc (.cells #[(C,nc,cc),(R,nr,c)] 31)).alloc (.cells #[false,(),()] 41))=W:=⟨_,rfl⟩
 have i:=un (show W.heap[w.heap.size]? = some (.cells #[(C,nc,cc),(R,nr,c)] 31 (0,0))by rw[←b];exact zak (zam (by simp)));have j:=un (show W.heap[w.heap.size+1]? = some (.cells #[false,(),()] 41 (0,0))by rw[←b];exact zam (by simp));have g:=un (show Below w w W by rw[←b];exact(zae w _).alloc (by simp) _);have q:=un (show VecS W 0 (C,nc,cc) cost by rw[←b];exact((hc).alloc _).alloc _)
 have t:=un (show VecS W 0 (X,f,d) x by rw[←b];exact((l).alloc _).alloc _);obtain⟨L,_⟩:=bc2 i.o;clear hc hr l;go_enter func31,ntmps31;go_wp2_with fail
 clear b;with_reducible refine(Vc.dot_ok C nc cc cost X f d x 0 0 _ q.o t.o r.o o.o u.o y.o).mono ?_
 rintro e w1 ⟨g2,A2,m2,c2,D2,md2,cd2,rfl,hn,a⟩;have D:=un (zad a i.o);have m:=un (zad a j.o);have s:=un (hn);have A:=un (g.o.trans ((a).mono g.o.size));obtain⟨F,B,ag,_,G,z,ad,_,E,H,ai,_⟩:=bf3 m.o;clear hn a;go_wp2;refine bodyPost_ret (v:=.tuple #[.agg #[g2,(A2,m2,c2),(D2,md2,cd2)],true]) (by simp[results,results31,go_sem,F,B,G,z,E,H]) rfl ?_
 exact⟨_,_,_,_,_,_,_,rfl,s.o.set3 m.o (by decide) _ _ _,bsc (bsc (bsc A.o))⟩
end Pb
def znD (cost:List Rat) (rows:List PRow) (x:List Rat):Bool:=decide (x.length=cost.length) && !(x.any fun q=>decide (q<0))&&rows.all fun p=>zdH p x
abbrev Rows (n:Nat) (rows:List PRow):Prop:=∀p∈rows,p.coef.length=n∧Sm p.coef∧mw p.rhs≤4000000
theorem zv9{f:PRow→Bool}(h:(rows.take k).all f=true)(b:rows[k]? = some p)(a:f p=true):(rows.take (k+1)).all f=true:=by
 rw[List.take_add_one,List.all_append,h,b];simp[a]
theorem ztT{f:PRow→Bool}(b:rows[k]? = some p)(a:f p=false):rows.all f=false:=by
 rw[List.all_eq_false];exact⟨p,List.mem_of_getElem? b,by simp[a]⟩
theorem zw4(h:x.length≠cost.length):znD cost rows x=false:=by unfold znD;rw[decide_eq_false h];rfl
theorem zw5(h:(x.any fun q=>decide (q<0))=true):znD cost rows x=false:=by unfold znD;rw[h];simp
theorem zoE(a:x.length=cost.length)(h:(x.any fun q=>decide (q<0))=false):znD cost rows x=rows.all fun p=>zdH p x:=by unfold znD;rw[h,decide_eq_true a];simp
namespace Pb
theorem zAF(C:OA)(nc cc:Nat)(R:OA)(nr a:Nat)(cost:List Rat)(rows:List PRow)(X:OA)(b f:Nat)(x:List Rat)(w:World)(hc:VecS w 0 (C,nc,cc) cost)(hr:RowsS w 0 (R,nr,a) rows)(d:VecS w 0 (X,b,f) x)(g:x.length≠cost.length) :
  Calls prog 26 #[.agg #[(C,nc,cc),(R,nr,a)],(X,b,f)] w fun e w'=>e=.returned (.bool (znD cost rows x))∧Below w w w':=by
 have h1:¬((b:Int)=(nc:Int)):=by rw[d.len,hc.len];omega
 have l:¬(b=nc):=by rw[d.len,hc.len];omega
 have j:=un (zw4 (rows:=rows) g);obtain⟨W,c⟩:∃W,(w.alloc (.cells #[(C,nc,cc),(R,nr,a)] 31))=W:=⟨_,rfl⟩
 have k:=un (show W.heap[w.heap.size]? = some (.cells #[(C,nc,cc),(R,nr,a)] 31 (0,0))by rw[←c];exact zam (by simp));have i:=un (show Below w w W by rw[←c];exact zae w _);obtain⟨m,_⟩:=bc2 k.o;clear hc hr d g;go_enter func26,ntmps26;go_wp2;clear c;go_ret
 exact⟨by rw[j.o];rfl,i.o⟩
theorem fits(C:OA)(nc cc:Nat)(R:OA)(nr l:Nat)(cost:List Rat)(rows:List PRow)(X:OA)(z n:Nat)(x:List Rat)(w:World)(hc:VecS w 0 (C,nc,cc) cost)(hr:RowsS w 0 (R,nr,l) rows)(y:VecS w 0 (X,z,n) x)(a:nc≤1000)(Y:Rows nc rows)(zx:Sm x)(aH:nr≤1000) :
  Calls prog 26 #[.agg #[(C,nc,cc),(R,nr,l)],(X,z,n)] w fun e w'=>e=.returned (.bool (znD cost rows x))∧Below w w w':=by
 by_cases s:x.length≠cost.length
 ·exact zAF C nc cc R nr l cost rows X z n x w hc hr y s
 have s:=Decidable.not_not.1 s;have T:=y.len;have aq:=hc.len;have U:=hr.len;have en:nc=z:=by omega
 subst en;have L:=un s;have M:=un U;have ah:=un T;have HB:=un a;have al:=un Y;have ZX:=un zx;clear s a Y zx T aq U;obtain⟨W,o⟩:∃W,(w.alloc (.cells #[(C,nc,cc),(R,nr,l)] 31))=W:=⟨_,rfl⟩
 have S:=un (show W.heap[w.heap.size]? = some (.cells #[(C,nc,cc),(R,nr,l)] 31 (0,0))by rw[←o];exact zam (by simp));have K:=un (show Below w w W by rw[←o];exact zae w _);have P:=un (show VecS W 0 (X,nc,n) x by rw[←o];exact(y).alloc _);have HR:=un (show RowsS W 0 (R,nr,l) rows by rw[←o];exact(hr).alloc _);obtain⟨aM,_,aN,aK⟩:=bc2 S.o;clear hc hr y;go_enter func26,ntmps26
 go_wp2_with fail
 clear o;with_reducible refine(Vc.below X nc n x 0 _ P.o).mono ?_
 rintro e w1 ⟨rfl,a⟩;have ay:=un (zad a S.o);have aa:=un (P.o.below a);have E:=un (HR.o.below a);have t:=un (K.o.trans ((a).mono K.o.size));obtain⟨_,_,aL,aO⟩:=bc2 ay.o;clear a;cases hneg:(x.any fun q=>decide (q<0))
 ·skip
  go_wp2
  go_loopw [20] (fun i wr=>∃k:Nat,i=.int .i64 k∧k≤nr∧Below w1 w1 wr∧(rows.take k).all (fun p=>zdH p x)=true)
   (fun i _=>nr-(intOf i).toNat)
  case atStart=>exact⟨0,rfl,Nat.zero_le _,Below.refl _ _,rfl⟩
  case round =>
   obtain⟨k,rfl,hk,d,H⟩:=hrel;have O:=un H;by_cases ap:k<nr
   ·obtain⟨p,v⟩:∃p,rows[k]? = some p:=⟨rows[k]'(by rw[←M.o];exact ap),List.getElem?_eq_getElem _⟩
    obtain⟨b,rfl,aD,aE⟩:=(E.o).has (by omega);obtain⟨Q,nq,G,g,A,m,c,D,J,F,k0,k1,k2,k3,k4,I,V⟩:=(E.o.below d).at_ v;have N:=un v;have u:=un (al.o p (List.mem_of_getElem? v));obtain rfl:nc=nq:=by rw[I.len,u.o.1]
    generalize hkd:p.kind=kd at k1;have ag:=un hkd;have ad:=un (aa.o.below d);have HQ:=un (I);have ak:=un (V);have HW:=un (Bel.mk d);have B:=un (t.o.trans ((d).mono t.o.size));clear d H v I V hkd;have aF:(0:Int)≤(k:Int):=Int.natCast_nonneg _;have aG:(k:Int)<(nr:Int):=by omega
    go_wp2_with fail
    have r:=zae wr (.cells #[(Q,nc,G),.int .i64 kd,g,(A,m,c),(D,J,F)] 43);have aw:=un (ad.o.below r);have ax:=un (HQ.o.below r);have av:=un (ak.o.below r);have aB:=un (HW.o.below r);have Z:=un (B.o.trans ((r).mono B.o.size));with_reducible refine(holds Q nc G g A m c D J F kd p ag.o X nc n x _ ax.o av.o aw.o (u.o.1.trans ah.o) HB.o u.o.2.1 u.o.2.2 ZX.o).mono ?_
    rintro e v1 ⟨rfl,a⟩;have aA:=un (aB.o.below a);have az:=un (Z.o.trans ((a).mono Z.o.size));clear a;cases hh:zdH p x
    ·have j:=un ((zoE L.o hneg).trans (ztT (f:=fun p=>zdH p x) N.o hh));go_wp2;go_ret
     exact⟨by rw[j.o];rfl,az.o⟩
    ·have j:=un (zv9 (f:=fun p=>zdH p x) O.o N.o hh);go_wp2;go_roundw
     case rel=>exact⟨k+1,by go_num,by omega,aA.o.b,j.o⟩
     case measure=>simp[intOf];omega
   ·have ao:k=nr:=by omega
    have j:=un (show znD cost rows x=true by rw[zoE L.o hneg];have h:=O.o;rw[ao,M.o,List.take_length]at h;exact h);have ad:=un (aa.o.below d);have B:=un (t.o.trans ((d).mono t.o.size));clear d H;go_wp2;go_ret
    exact⟨by rw[j.o];rfl,B.o⟩
 ·have j:=un (zw5 (cost:=cost) (rows:=rows) hneg);go_wp2;go_ret
  exact⟨by rw[j.o];rfl,t.o⟩
end Pb
abbrev Kinds (rows:List PRow):Prop:=∀p∈rows,1≤p.kind∧p.kind≤3
namespace Pb
theorem may(C:OA)(nc cc:Nat)(R:OA)(nr d:Nat)(cost:List Rat)(rows:List PRow)(w:World)(hc:VecS w 0 (C,nc,cc) cost)(hr:RowsS w 0 (R,nr,d) rows)(P:nc≤24)(ac:nr≤20)(z:Rows nc rows)(x:Kinds rows) :
  Calls prog 64 #[.agg #[(C,nc,cc),(R,nr,d)]] w fun e w'=>e=.returned .nilIface∧Below w w w':=by
 have y:=hr.len;have G:=un y;have H:=un z;have u:=un x;have J:(nc:Int)≤24:=by omega
 have T:¬(24:Int)<(nc:Int):=by omega
 have ad:¬(20:Int)<(nr:Int):=by omega
 clear z x y;obtain⟨W,f⟩:∃W,(w.alloc (.cells #[(C,nc,cc),(R,nr,d)] 31))=W:=⟨_,rfl⟩
 have q:=un (show W.heap[w.heap.size]? = some (.cells #[(C,nc,cc),(R,nr,d)] 31 (0,0))by rw[←f];exact zam (by simp));have l:=un (show Below w w W by rw[←f];exact zae w _);have n:=un (show RowsS W 0 (R,nr,d) rows by rw[←f];exact(hr).alloc _);obtain⟨ai,_,aj,ah⟩:=bc2 q.o;clear hc hr;go_enter func64,ntmps64;go_wp2;clear f
 go_loopw [19] (fun i wr=>∃k:Nat,i=.int .i64 k∧k≤nr∧Below W.heap.size W wr)
  (fun i _=>nr-(intOf i).toNat)
 case atStart=>exact⟨0,rfl,Nat.zero_le _,Below.refl _ _⟩
 case round =>
  obtain⟨k,rfl,hk,a⟩:=hrel;by_cases K:k<nr
  ·obtain⟨p,j⟩:∃p,rows[k]? = some p:=⟨rows[k]'(by rw[←G.o];exact K),List.getElem?_eq_getElem _⟩
   obtain⟨b,rfl,S,J⟩:=n.o.has (by omega);obtain⟨Q,nq,o,g,A,m,c,D,s,r,k0,k1,k2,k3,k4,B,_⟩:=(n.o.below a).at_ j;obtain rfl:nc=nq:=by rw[B.len,(H.o p (List.mem_of_getElem? j)).1]
   have X:=(u.o p (List.mem_of_getElem? j)).1;have Y:=(u.o p (List.mem_of_getElem? j)).2;have Z:¬p.kind<1:=by omega
   have aa:¬3<p.kind:=by omega
   have F:=un (zad a q.o);have I:=un (Bel.mk a);have E:=un (l.o.trans ((a).mono l.o.size));clear a j B;have U:(0:Int)≤(k:Int):=Int.natCast_nonneg _;have V:(k:Int)<(nr:Int):=by omega
   have v:=zae wr (.cells #[(Q,nc,o),.int .i64 p.kind,g,(A,m,c),(D,s,r)] 43);have L:=un (zad v F.o);have N:=un (I.o.below v);obtain⟨ak,_⟩:=bc2 L.o;have al:(wr.alloc (.cells #[(Q,nc,o),.int .i64 p.kind,g,(A,m,c),(D,s,r)] 43)).cell? ⟨wr.heap.size,0,none⟩=some (Q,nc,o):=zax rfl rfl;have am:(wr.alloc (.cells #[(Q,nc,o),.int .i64 p.kind,g,(A,m,c),(D,s,r)] 43)).cell? ⟨wr.heap.size,1,none⟩=some (.int .i64 p.kind):=zax rfl rfl
   go_wp2;go_roundw
   case rel=>exact⟨k+1,by go_num,by omega,N.o.b⟩
   case measure=>simp[intOf];omega
  ·have ab:k=nr:=by omega
   have F:=un (zad a q.o);have E:=un (l.o.trans ((a).mono l.o.size));clear a;go_wp2;go_ret
   exact⟨rfl,E.o⟩
end Pb
def zIc (p:PRow) (q:Rat):Bool := !(decide (p.kind=1)&&decide (0<q)||decide (p.kind=2)&&decide (q<0))
def zxD (rows:List PRow) (ys:List Rat) (k:Nat):Bool:=(List.range k).all fun i=>zIc (rows.getD i default) (el ys i)
def zId (rows:List PRow) (ys:List Rat):Bool:=zxD rows ys rows.length
theorem zfC(h:rows[k]? = some p):rows.getD k default=p:=by rw[List.getD_eq_getElem?_getD,h];rfl
theorem ydX(h:zxD rows ys k=true)(a:rows[k]? = some p)(b:ys[k]? = some q)(c:zIc p q=true):zxD rows ys (k+1)=true:=by
 unfold zxD at *
 rw[List.range_succ,List.all_append,h,List.all_cons,zfC a,znd b,c];rfl
theorem yeb(a:rows[k]? = some p)(b:ys[k]? = some q)(c:zIc p q=false):zId rows ys=false:=by
 unfold zId zxD;rw[List.all_eq_false];exact⟨k,List.mem_range.2 (List.getElem?_eq_some_iff.1 a).1,by rw[zfC a,znd b,c];decide⟩
theorem zPs(q:Rat):0<q.num↔0<q:=by
 have h:=zsp q;constructor
 ·intro h1;exact Rat.not_le.1 fun a=>by have:=h.2 a;omega
 ·intro h1;exact Int.not_le.1 fun a=>Rat.not_lt.2 (h.1 a) h1
theorem zPt(q:Rat):0<q.num.sign↔0<q:=by
 rw[←zPs];rcases Int.lt_trichotomy q.num 0 with h | h | h
 ·rw[Int.sign_eq_neg_one_of_neg h];constructor<;>intro h1<;>omega
 ·rw[h];decide
 ·rw[Int.sign_eq_one_of_pos h];constructor<;>intro h1<;>omega
theorem zQE(q:Rat):q.num.sign<0↔q<0:=by
 rw[←zvc];rcases Int.lt_trichotomy q.num 0 with h | h | h
 ·rw[Int.sign_eq_neg_one_of_neg h];constructor<;>intro h1<;>omega
 ·rw[h];decide
 ·rw[Int.sign_eq_one_of_pos h];constructor<;>intro h1<;>omega
theorem yd3(h:p.kind=1):zIc p q = !(decide (0<q)):=by unfold zIc;rw[decide_eq_true h,decide_eq_false (show ¬p.kind=2 by omega)];simp
theorem yd4(h:p.kind=2):zIc p q = !(decide (q<0)):=by unfold zIc;rw[decide_eq_true h,decide_eq_false (show ¬p.kind=1 by omega)];simp
theorem yeh(h:p.kind≠1)(a:p.kind≠2):zIc p q=true:=by unfold zIc;rw[decide_eq_false h,decide_eq_false a];simp
namespace Ct
theorem signed(C:OA)(nc cc:Nat)(R:OA)(nr J:Nat)(cost:List Rat)(rows:List PRow)(Y:OA)(ny cy:Nat)(y:List Rat)(w:World)(hc:VecS w 0 (C,nc,cc) cost)(hr:RowsS w 0 (R,nr,J) rows)(hy:VecS w 0 (Y,ny,cy) y)(hl:y.length=rows.length)(aX:nr≤1000) :
  Calls prog 120 #[.agg #[(C,nc,cc),(R,nr,J)],(Y,ny,cy)] w fun e w'=>e=.returned (.bool (zId rows y))∧Below w w w':=by
 have aW:=hy.len;have aJ:=hr.len;have en:nr=ny:=by omega
 subst en;have HL:=un hl;have HN:=un aJ;clear hl aW aJ;obtain⟨W,z⟩:∃W,(w.alloc (.cells #[(C,nc,cc),(R,nr,J)] 31))=W:=⟨_,rfl⟩
 have am:=un (show W.heap[w.heap.size]? = some (.cells #[(C,nc,cc),(R,nr,J)] 31 (0,0))by rw[←z];exact zam (by simp));have M:=un (show Below w w W by rw[←z];exact zae w _);have S:=un (show VecS W 0 (Y,nr,cy) y by rw[←z];exact(hy).alloc _);have O:=un (show RowsS W 0 (R,nr,J) rows by rw[←z];exact(hr).alloc _);obtain⟨_,_,bx,bv⟩:=bc2 am.o;clear hc hr hy
 go_enter func120,ntmps120;go_wp2;clear z
 go_loopw [16] (fun i wr=>∃k:Nat,i=.int .i64 k∧k≤nr∧Below W.heap.size W wr∧zxD rows y k=true)
  (fun i _=>nr-(intOf i).toNat)
 case atStart=>exact⟨0,rfl,Nat.zero_le _,Below.refl _ _,rfl⟩
 case round =>
  obtain⟨k,rfl,hk,d,hT⟩:=hrel;have P:=un hT;by_cases aI:k<nr
  ·obtain⟨p,hp⟩:∃p,rows[k]? = some p:=⟨rows[k]'(by rw[←HN.o];exact aI),List.getElem?_eq_getElem _⟩
   obtain⟨q,hq⟩:∃q,y[k]? = some q:=⟨y[k]'(by rw[HL.o,←HN.o];exact aI),List.getElem?_eq_getElem _⟩
   obtain⟨b,rfl,bi,bj⟩:=O.o.has (by omega);obtain⟨by_,rfl,bk,bl⟩:=S.o.has (by omega);obtain⟨Q,nq,x,g,A,m,c,D,B,v,k0,k1,k2,k3,k4,_⟩:=(O.o.below d).at_ hp;obtain⟨V,L,X,T,N,Z,U,l0,l1,l2,aG⟩:=(S.o.below d).at_ hq;have H:=un hp;have I:=un hq;generalize hkd:p.kind=kd at k1;have u:=un hkd;have ak:=un (aG)
   have HW:=un (Bel.mk d);have l:=un (M.o.trans ((d).mono M.o.size));have ac:=l0;have ad:=l1;have ae:=l2;clear d hT hp hq hkd aG l0 l1 l2;have bm:(0:Int)≤(k:Int):=Int.natCast_nonneg _;have bn:(k:Int)<(nr:Int):=by omega
   by_cases h1:kd=1
   ·subst h1;have a:=zae wr (.cells #[(Q,nq,x),.int .i64 1,g,(A,m,c),(D,B,v)] 43);have G:=un (ak.o.below a);have K:=un (HW.o.below a);have F:=un (l.o.trans ((a).mono l.o.size));have o:=zab a ac;have r:=zab a ad;have s:=zab a ae
    have t:(wr.alloc (.cells #[(Q,nq,x),.int .i64 1,g,(A,m,c),(D,B,v)] 43)).cell? ⟨wr.heap.size,1,none⟩=some (.int .i64 1):=zax rfl rfl;go_wp2_with fail
    with_reducible refine(Rt.sign V L X T N Z U q _ G.o).mono ?_
    rintro e v1 ⟨rfl,hb⟩;have aE:=un (K.o.below hb);have az:=un (F.o.trans ((hb).mono F.o.size));have aC:=zab hb t;clear hb;by_cases f:0<q
    ·have au:=(zPs q).2 f;have av:=(zPt q).2 f;have j:=un (yeb H.o I.o (by rw[yd3 (u.o),decide_eq_true f];rfl));go_wp2;go_ret
     exact⟨by rw[j.o];rfl,az.o⟩
    ·have au:¬0<q.num:=fun h=>f ((zPs q).1 h)
     have av:¬0<q.num.sign:=fun h=>f ((zPt q).1 h)
     have j:=un (ydX P.o H.o I.o (by rw[yd3 (u.o),decide_eq_false f];rfl));go_wp2;go_roundw
     case rel=>exact⟨k+1,by go_num,by omega,aE.o.b,j.o⟩
     case measure=>simp[intOf];omega
   ·skip
    by_cases h2:kd=2
    ·subst h2;have a:=zae wr (.cells #[(Q,nq,x),.int .i64 2,g,(A,m,c),(D,B,v)] 43);have G:=un (ak.o.below a);have K:=un (HW.o.below a);have F:=un (l.o.trans ((a).mono l.o.size));have o:=zab a ac;have r:=zab a ad;have s:=zab a ae
     have t:(wr.alloc (.cells #[(Q,nq,x),.int .i64 2,g,(A,m,c),(D,B,v)] 43)).cell? ⟨wr.heap.size,1,none⟩=some (.int .i64 2):=zax rfl rfl;go_wp2_with fail
     with_reducible refine(Rt.sign V L X T N Z U q _ G.o).mono ?_
     rintro e v1 ⟨rfl,hb⟩;have aE:=un (K.o.below hb);have az:=un (F.o.trans ((hb).mono F.o.size));have aC:=zab hb t;clear hb;by_cases f:q<0
     ·have au:=(zvc q).2 f;have av:=(zQE q).2 f;have j:=un (yeb H.o I.o (by rw[yd4 (u.o),decide_eq_true f];rfl));go_wp2;go_ret
      exact⟨by rw[j.o];rfl,az.o⟩
     ·have au:¬q.num<0:=fun h=>f ((zvc q).1 h)
      have av:¬q.num.sign<0:=fun h=>f ((zQE q).1 h)
      have j:=un (ydX P.o H.o I.o (by rw[yd4 (u.o),decide_eq_false f];rfl));go_wp2;go_roundw
      case rel=>exact⟨k+1,by go_num,by omega,aE.o.b,j.o⟩
      case measure=>simp[intOf];omega
    ·have bp:(kd == 2)=false:=by simp[h2]
     have bo:(kd == 1)=false:=by simp[h1]
     have a:=zae wr (.cells #[(Q,nq,x),.int .i64 kd,g,(A,m,c),(D,B,v)] 43);have G:=un (ak.o.below a);have K:=un (HW.o.below a);have F:=un (l.o.trans ((a).mono l.o.size));have o:=zab a ac;have r:=zab a ad;have s:=zab a ae
     have t:(wr.alloc (.cells #[(Q,nq,x),.int .i64 kd,g,(A,m,c),(D,B,v)] 43)).cell? ⟨wr.heap.size,1,none⟩=some (.int .i64 kd):=zax rfl rfl;have j:=un (ydX P.o H.o I.o (yeh (by rw[u.o];exact h1) (by rw[u.o];exact h2)));go_wp2;go_roundw
     case rel=>exact⟨k+1,by go_num,by omega,K.o.b,j.o⟩
     case measure=>simp[intOf];omega
  ·have aV:k=nr:=by omega
   have j:=un (show zId rows y=true by have h:=P.o;rw[aV,HN.o]at h;exact h);have l:=un (M.o.trans ((d).mono M.o.size));clear d hT;go_wp2;go_ret
   exact⟨by rw[j.o];rfl,l.o⟩
