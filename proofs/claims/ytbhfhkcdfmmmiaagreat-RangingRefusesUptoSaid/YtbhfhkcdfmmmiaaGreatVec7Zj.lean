/- Contracts and lemmas: Vec7 Prob2 Prob3 Prob5 Prob4. Conditions: as each says. -/
import Derived.Test.YtbhfhkcdfmmmiaaGreatMat3Zj
set_option linter.all false
set_option maxHeartbeats 4000000
set_option maxRecDepth 100000
namespace Go.Proofs.YtbhfhkcdfmmmiaaGreat
open Go.RowKit Am Tryz
attribute [local go_sem ↓] Go.wp_at_zero Go.wp_at_succ
variable {rows:List PRow}{cost x ys:List Rat}{k:Nat}{p:PRow}{q:Rat}
theorem zvQ(h:zr q=true):q=0:=Xs h
namespace Vc
theorem dot_ok(A:OA)(n c:Nat)(xs:List Rat)(B:OA)(j c':Nat)(ys:List Rat)(H H':Nat)(w:World)(hx:VecS w H (A,n,c) xs)(hy:VecS w H' (B,j,c') ys)(hl:xs.length=ys.length)(d:n≤1000)(zx:∀q∈xs,mw q≤4000000)(zy:∀q∈ys,mw q≤4000000) :
  Calls prog 78 #[(A,n,c),(B,j,c')] w (zii w (dot xs ys) true):=by
 have s:=hx.len;have a4:=hy.len;have en:j=n:=by omega
 subst en;have HN:=un s;have HL:=un hl;have aV:=un d;have ZX:=un zx;have ZY:=un zy;have bN:j≤9223372036854775807:=by omega
 clear s a4 hl d zx zy;obtain⟨W,M⟩:∃W,(w.alloc (.cells #[false,(),()] 41))=W:=⟨_,rfl⟩
 have aC:=un (show W.heap[w.heap.size]? = some (.cells #[false,(),()] 41 (0,0))by rw[←M];exact zam (by simp));have U:=un (show Below w w W by rw[←M];exact zae w _);have V:=un (show VecS W H (A,j,c) xs by rw[←M];exact(hx).alloc _);have X:=un (show VecS W H' (B,j,c') ys by rw[←M];exact(hy).alloc _);clear hx hy;go_enter func78,ntmps78;go_wp2;clear M
 go_loopw [16] (fun i wr=>∃(k:Nat) (g:Bool) (P:OA) (m cp:Nat) (D:OA) (o l:Nat),i=.int .i64 k∧k≤j∧wr.heap[W.heap.size]? = some (.cells #[g,(P,m,cp),(D,o,l)] 41 (0,0))∧RatS wr g (P,m,cp) (D,o,l) (ziw xs ys k)∧Below W.heap.size W wr)
  (fun i _=>j-(intOf i).toNat)
 case atStart=>exact⟨0,_,_,_,_,_,_,_,rfl,Zb _,zal _ _ _,RatS.zero _,zae W _⟩
 case round =>
  obtain⟨k,g,P,m,cp,D,o,l,rfl,hk,aa,Z,f⟩:=hrel;by_cases aG:k<j
  ·obtain⟨a,N⟩:∃a,xs[k]? = some a:=⟨xs[k]'(by rw[←HN.o];exact aG),Ze _⟩
   obtain⟨b,d⟩:∃b,ys[k]? = some b:=⟨ys[k]'(by rw[←HL.o,←HN.o];exact aG),Ze _⟩
   obtain⟨t,rfl,bH,bI⟩:=V.o.has (by omega);obtain⟨by_,rfl,bJ,bK⟩:=X.o.has (by omega);obtain⟨J,x,O,E,z,R,G,k0,k1,k2,aD⟩:=(V.o.below f).at_ N;obtain⟨L,y,Q,F,C,T,I,l0,l1,l2,aE⟩:=(X.o.below f).at_ d;have u:=un (zad f aC.o);have aB:=un (aD);have aY:=un (show RatS wr L (y,Q,F) (C,T,I) b from aE)
   have HP:=un (Z);have HW:=un (Bel.mk f);have aI:=un (U.o.trans ((f).mono U.o.size));obtain⟨ab,ad,av,_,ac,ae,aw,_,af,ag,az,_⟩:=bf3 u.o;have aJ:=k0;have aK:=k1;have aN:=k2;have aO:=l0;have aP:=l1
   have aQ:=l2;have Y:=un aa;obtain⟨bf,_,_,_,bg,_,_,_,be,_⟩:=bf3 Y.o;have aJ:=k0;have aK:=k1;have aN:=k2;have aO:=l0;have aP:=l1;have aQ:=l2;have ah:=un N;have ai:=un d;have L1:=un (show 4*(mw a+mw b)+8≤LIM by have:=ZX.o a (Zh N);have:=ZY.o b (Zh d);have:=zaP;omega)
   have L2:=un (show 4*(mw (ziw xs ys k)+mw (a*b))+8≤LIM by have:=ZX.o a (Zh N);have:=ZY.o b (Zh d);have h1:=zrJ ZX.o ZY.o k;have:=zdI a b;have:=zaP;have h2:k*8000001≤1000*8000001:=Zt _ (by have:=aV.o;omega);omega);have bL:(0:Int)≤(k:Int):=Zf _;have bM:(k:Int)<(j:Int):=by omega
   clear aa Z f N d k0 k1 k2 l0 l1 l2 aD aE;go_wp2_with fail
   refine(Rt.zero J x O E z R G a _ aB.o).mono ?_
   rintro e v1 ⟨rfl,d⟩;have aL:=un (zad d Y.o);have bD:=un (aB.o.below d);have aU:=un (aY.o.below d);have aR:=un (HP.o.below d);have aS:=un (HW.o.below d);have bh:=zab d aJ;have bk:=zab d aK;have bl:=zab d aN;have bn:=zab d aO;have bs:=zab d aP;have bw:=zab d aQ;clear d;cases hza:zr a
   ·go_wp2_with fail
    refine(Rt.zero L y Q F C T I b _ aU.o).mono ?_
    rintro e v2 ⟨rfl,d⟩;have ay:=un (zad d aL.o);have bE:=un (bD.o.below d);have bF:=un (aU.o.below d);have aH:=un (aR.o.below d);have aT:=un (aS.o.below d);obtain⟨bU,_,_,_,bW,_,_,_,bZ,_⟩:=bf3 ay.o;have bj:=zab d bh;have a5:=zaa bj;have bo:=zab d bk;have a6:=zaa bo;have bq:=zab d bl;have a7:=zaa bq;have bp:=zab d bn;have a8:=zaa bp;have bu:=zab d bs;have a9:=zaa bu;have bA:=zab d bw;have ba:=zaa bA;clear d;cases hzb:zr b
    ·go_wp2_with fail
     refine za2 (S:=fun w'=>w'.cell? ⟨W.heap.size,0,none⟩=some (.bool g)∧w'.cell? ⟨W.heap.size,1,none⟩=some (P,m,cp)∧w'.cell? ⟨W.heap.size,2,none⟩=some (D,o,l)∧w'.cell? ⟨t,k*3,none⟩=some (.bool J)∧w'.cell? ⟨t,k*3+1,none⟩=some (x,O,E)∧w'.cell? ⟨t,k*3+2,none⟩=some (z,R,G)∧w'.cell? ⟨by_,k*3,none⟩=some (.bool L)∧w'.cell? ⟨by_,k*3+1,none⟩=some (y,Q,F)∧w'.cell? ⟨by_,k*3+2,none⟩=some (C,T,I)) 11 (h:=fun hHeld=>?_);refine zaw [0,1,2,3,4,5,6,7,8] ?_
     repeat refine tkE (hS:=hHeld) (h:=?_)
     refine zao ?_;refine zaN 9 (h:=fun K r=>?_);go_simp
     (go_at_call 15;(refine(Rt.mul J x O E z R G a L y Q F C T I b _ bE.o.drew bF.o.drew L1.o).mono ?_);rintro e u1 ⟨g1,A1,m1,c1,D1,md1,cd1,rfl,s,d⟩;have aM:=un (zad d ay.o);have bd:=un (aH.o.drew.below d);have bz:=un (aT.o.drew.below d);have HM:=un (s);obtain⟨bP,_,_,_,bQ,_,_,_,bY,_⟩:=bf3 aM.o;have bi:=zab d a5;have bm:=zab d a6;have br:=zab d a7;have bt:=zab d a8;have bv:=zab d a9;have bB:=zab d ba;clear s d)
     (try go_wp2_with fail)
     refine shutOn r fun hHeld=>?_
     clear r K
     refine zaN 10 (h:=fun K r=>?_);go_simp
     (go_at_call 21;(refine(Rt.add g P m cp D o l (ziw xs ys k) g1 A1 m1 c1 D1 md1 cd1 (a*b) _ bd.o HM.o L2.o).mono ?_);rintro e u2 ⟨g2,A2,m2,c2,D2,md2,cd2,rfl,s,d⟩;have ax:=un (zad d aM.o);have bC:=un (bz.o.below d);have HS:=un (s);obtain⟨bV,_,bR,_,bX,_,bS,_,b0,_,bT,_⟩:=bf3 ax.o;have b1:=zab d bi;have b2:=zab d bm;have b3:=zab d br;have b4:=zab d bt;have b5:=zab d bv;have b6:=zab d bB;clear s d)
     (try go_wp2_with fail)
     refine shutOn r fun hHeld=>?_
     clear r K
     refine zba (h:=fun K r=>?_);go_simp;refine shutOff r ?_;clear r K
     refine za1 (h:=?_)
     all_goals
      go_wp2;go_roundw
      case rel=>exact⟨k+1,g2,A2,m2,c2,D2,md2,cd2,by go_num,by omega,zar _ (zar _ (zar _ ax.o)),by rw[zlZ xs ys k ah.o ai.o];exact HS.o.set3 ax.o (by decide) _ _ _,(Bel.set3 bC.o (Za _) _ _ _).b⟩
      case measure=>simp[intOf];omega
    ·skip
     go_wp2;go_roundw
     case rel=>exact⟨k+1,g,P,m,cp,D,o,l,by go_num,by omega,ay.o,by rw[zlY xs ys k ah.o ai.o (Or.inr (zvQ hzb))];exact aH.o,aT.o.b⟩
     case measure=>simp[intOf];omega
   ·skip
    go_wp2;go_roundw
    case rel=>exact⟨k+1,g,P,m,cp,D,o,l,by go_num,by omega,aL.o,by rw[zlY xs ys k ah.o ai.o (Or.inl (zvQ hza))];exact aR.o,aS.o.b⟩
    case measure=>simp[intOf];omega
  ·have a3:k=j:=by omega
   have u:=un (zad f aC.o);have HP:=un (Z);have aI:=un (U.o.trans ((f).mono U.o.size));obtain⟨ab,ad,av,_,ac,ae,aw,_,af,ag,az,_⟩:=bf3 u.o;have Y:=un aa;obtain⟨bf,_,bg,_,be,_⟩:=bc3 Y.o;clear aa Z f;go_wp2
   refine Zd (v:=.tuple #[.agg #[g,(P,m,cp),(D,o,l)],true]) (by simp[results,results78,go_sem,ab,ad,ac,ae,af,ag]) rfl ?_;have h:=HP.o;rw[a3,HN.o]at h;exact⟨_,_,_,_,_,_,_,rfl,h.set3 u.o (by decide) _ _ _,bsc (bsc (bsc aI.o))⟩
end Vc
abbrev Sm (xs:List Rat):Prop:=∀q∈xs,mw q≤4000000
def zdp (p:PRow) (x:List Rat):Rat:=dot p.coef x-p.rhs
def zdH (p:PRow) (x:List Rat):Bool:=if p.kind=1 then decide (zdp p x≤0)else if p.kind=2 then decide (0≤zdp p x)else decide (p.kind=3)&&decide (zdp p x=0)
theorem zDI{xs:List Rat}(zx:Sm xs)(zy:Sm ys)(h:xs.length≤1000):mw (dot xs ys)≤8000002000:=by
 have h1:=zrJ zx zy xs.length;unfold dot;omega
theorem zsp(q:Rat):q.num≤0↔q≤0:=by
 have h:=Yt (q := -q);rw[Yu]at h;grind
theorem zxh(h:p.kind=1):decide ((zdp p x).num≤0)=zdH p x:=by
 unfold zdH;rw[if_pos h];simp[decide_eq_decide,zsp]
theorem zxg(h:p.kind=2):decide (0≤zdp p x)=zdH p x:=by
 unfold zdH;rw[if_neg (by omega),if_pos h]
theorem zxf(h:p.kind=3):zr (zdp p x)=zdH p x:=by
 unfold zdH;rw[if_neg (by omega),if_neg (by omega),Zs h,Bool.true_and];rfl
theorem zxi(h1:p.kind≠1)(a:p.kind≠2)(b:p.kind≠3):false=zdH p x:=by
 unfold zdH;rw[if_neg h1,if_neg a,Zu b,Bool.false_and]
namespace Pb
theorem over(C:OA)(nc cc:Nat)(g:Bool)(A:OA)(m c:Nat)(D:OA)(d b:Nat)(kd:Int)(p:PRow)(hk:p.kind=kd)(X:OA)(l k:Nat)(x:List Rat)(w:World)(hc:VecS w 0 (C,nc,cc) p.coef)(hr:RatS w g (A,m,c) (D,d,b) p.rhs)(q:VecS w 0 (X,l,k) x)(o:p.coef.length=x.length)(a:nc≤1000)(zc:Sm p.coef)(zr:mw p.rhs≤4000000)(zx:Sm x) :
  Calls prog 65 #[.agg #[(C,nc,cc),.int .i64 kd,g,(A,m,c),(D,d,b)],(X,l,k)] w (zii w (zdp p x) true):=by
 have i:=hc.len;have y:=un o;have t:=un a;have I:=un zc;have J:=un zx;have H:=un (show 4*(mw (dot p.coef x)+mw p.rhs)+8≤LIM by have:=zDI zc zx (by omega);have:=zaP;omega);clear i o a zc zr zx;obtain⟨W,f⟩:∃W,((w.alloc (.cells #[(C,nc,cc),.int .i64 kd,g,(A,m,c),(D,d,b)] 43)).alloc (.cells #[false,(),()] 41))=W:=⟨_,rfl⟩
 have n:=un (show W.heap[w.heap.size]? = some (.cells #[(C,nc,cc),.int .i64 kd,g,(A,m,c),(D,d,b)] 43 (0,0))by rw[←f];exact zak (zam (by simp)));have G:=un (show W.heap[w.heap.size+1]? = some (.cells #[false,(),()] 41 (0,0))by rw[←f];exact zam (by simp));have j:=un (show Below w w W by rw[←f];exact(zae w _).alloc (by simp) _);have u:=un (show VecS W 0 (C,nc,cc) p.coef by rw[←f];exact((hc).alloc _).alloc _)
 have F:=un (show VecS W 0 (X,l,k) x by rw[←f];exact((q).alloc _).alloc _);have z:=un (show RatS W g (A,m,c) (D,d,b) p.rhs by rw[←f];exact((hr).alloc _).alloc _);obtain⟨Y,_⟩:=bc5 n.o;clear hc hr q;go_enter func65,ntmps65;go_wp2_with fail
 clear f;refine(Vc.dot_ok C nc cc p.coef X l k x 0 0 _ u.o F.o y.o t.o I.o J.o).mono ?_
 rintro e w1 ⟨g2,A2,m2,c2,D2,md2,cd2,rfl,i,a⟩;have O:=un (show(w1.alloc (.cells #[g2,(A2,m2,c2),(D2,md2,cd2)] 41)).heap[w.heap.size]? = some (.cells #[(C,nc,cc),.int .i64 kd,g,(A,m,c),(D,d,b)] 43 (0,0))from zak (zad a n.o));have L:=un (show(w1.alloc (.cells #[g2,(A2,m2,c2),(D2,md2,cd2)] 41)).heap[w.heap.size+1]? = some (.cells #[false,(),()] 41 (0,0))from zak (zad a G.o))
 have V:=un (show RatS (w1.alloc (.cells #[g2,(A2,m2,c2),(D2,md2,cd2)] 41)) g (A,m,c) (D,d,b) p.rhs from(z.o.below a).alloc _);have B:=un (show RatS (w1.alloc (.cells #[g2,(A2,m2,c2),(D2,md2,cd2)] 41)) g2 (A2,m2,c2) (D2,md2,cd2) (dot p.coef x)from(i).alloc _)
 have r:=un (show Below w w (w1.alloc (.cells #[g2,(A2,m2,c2),(D2,md2,cd2)] 41))from((j.o.trans ((a).mono j.o.size))).alloc ((j.o.trans ((a).mono j.o.size))).size _);have U:=un (show(w1.alloc (.cells #[g2,(A2,m2,c2),(D2,md2,cd2)] 41)).heap[w1.heap.size]? = some (.cells #[g2,(A2,m2,c2),(D2,md2,cd2)] 41 (0,0))from zam (by simp));obtain⟨_,_,_,_,aa,_,ag,_,ah,_⟩:=bc5 O.o;obtain⟨ac,_,ad,_,af,_⟩:=bc3 U.o;clear i a;go_wp2_with fail
 refine(Rt.sub g2 A2 m2 c2 D2 md2 cd2 (dot p.coef x) g A m c D d b p.rhs _ B.o V.o H.o).mono ?_
 rintro e K ⟨g3,A3,m3,c3,D3,md3,cd3,rfl,i,a⟩;have s:=un (zad a L.o);have E:=un (show RatS K g3 (A3,m3,c3) (D3,md3,cd3) (zdp p x)from i);have R:=un (r.o.trans ((a).mono r.o.size));obtain⟨Q,N,Z,_,S,M,ab,_,T,P,ae,_⟩:=bf3 s.o;clear i a;go_wp2;refine Zd (v:=.tuple #[.agg #[g3,(A3,m3,c3),(D3,md3,cd3)],true]) (by simp[results,results65,go_sem,Q,N,S,M,T,P]) rfl ?_
 exact⟨_,_,_,_,_,_,_,rfl,E.o.set3 s.o (by decide) _ _ _,bsc (bsc (bsc R.o))⟩
theorem holds(C:OA)(nc cc:Nat)(g:Bool)(A:OA)(m c:Nat)(D:OA)(i d:Nat)(kd:Int)(p:PRow)(hk:p.kind=kd)(X:OA)(t o:Nat)(x:List Rat)(w:World)(hc:VecS w 0 (C,nc,cc) p.coef)(hr:RatS w g (A,m,c) (D,i,d) p.rhs)(z:VecS w 0 (X,t,o) x)(y:p.coef.length=x.length)(a:nc≤1000)(zc:Sm p.coef)(zr:mw p.rhs≤4000000)(zx:Sm x) :
  Calls prog 71 #[.agg #[(C,nc,cc),.int .i64 kd,g,(A,m,c),(D,i,d)],(X,t,o)] w fun e w'=>e=.returned (.bool (zdH p x))∧Below w w w':=by
 have s:=hc.len;have G:=un y;have E:=un a;have J:=un zc;have K:=un zr;have L:=un zx;have b:=un hk;clear hk s y a zc zr zx;obtain⟨W,k⟩:∃W,(w.alloc (.cells #[(C,nc,cc),.int .i64 kd,g,(A,m,c),(D,i,d)] 43))=W:=⟨_,rfl⟩
 have v:=un (show W.heap[w.heap.size]? = some (.cells #[(C,nc,cc),.int .i64 kd,g,(A,m,c),(D,i,d)] 43 (0,0))by rw[←k];exact zam (by simp));have n:=un (show Below w w W by rw[←k];exact zae w _);have F:=un (show VecS W 0 (C,nc,cc) p.coef by rw[←k];exact(hc).alloc _);have I:=un (show VecS W 0 (X,t,o) x by rw[←k];exact(z).alloc _);have H:=un (show RatS W g (A,m,c) (D,i,d) p.rhs by rw[←k];exact(hr).alloc _)
 obtain⟨S,_,T,_,V,_,aa,_,ab,_⟩:=bc5 v.o;clear hc hr z;go_enter func71,ntmps71;go_wp2_with fail
 clear k;refine(over C nc cc g A m c D i d kd p b.o X t o x _ F.o H.o I.o G.o E.o J.o K.o L.o).mono ?_
 rintro e w1 ⟨g2,A2,m2,c2,D2,md2,cd2,rfl,s,a⟩;have Q:=un (show(w1.alloc (.cells #[g2,(A2,m2,c2),(D2,md2,cd2)] 41)).heap[w.heap.size]? = some (.cells #[(C,nc,cc),.int .i64 kd,g,(A,m,c),(D,i,d)] 43 (0,0))from zak (zad a v.o));have u:=un (show RatS (w1.alloc (.cells #[g2,(A2,m2,c2),(D2,md2,cd2)] 41)) g2 (A2,m2,c2) (D2,md2,cd2) (zdp p x)from(s).alloc _)
 have j:=un (show Below w w (w1.alloc (.cells #[g2,(A2,m2,c2),(D2,md2,cd2)] 41))from((n.o.trans ((a).mono n.o.size))).alloc ((n.o.trans ((a).mono n.o.size))).size _);have P:=un (show(w1.alloc (.cells #[g2,(A2,m2,c2),(D2,md2,cd2)] 41)).heap[w1.heap.size]? = some (.cells #[g2,(A2,m2,c2),(D2,md2,cd2)] 41 (0,0))from zam (by simp));obtain⟨_,_,R,_⟩:=bc5 Q.o;obtain⟨Y,_,Z,_,U,_⟩:=bc3 P.o;clear s a;by_cases h1:kd=1
 ·have M:(kd == 1)=true:=by simp[h1]
  go_wp2_with fail
  refine(Rt.sign g2 A2 m2 c2 D2 md2 cd2 (zdp p x) _ u.o).mono ?_
  rintro e B ⟨rfl,a⟩;have l:=un (j.o.trans ((a).mono j.o.size));clear a;go_wp2;go_ret
  have f:=zxh (p:=p) (x:=x) (b.o.trans h1);exact⟨by rw[←f];rfl,l.o⟩
 ·have M:(kd == 1)=false:=by simp[h1]
  by_cases q:kd=2
  ·have N:(kd == 2)=true:=by simp[q]
   go_wp2_with fail
   refine(Rt.sign g2 A2 m2 c2 D2 md2 cd2 (zdp p x) _ u.o).mono ?_
   rintro e B ⟨rfl,a⟩;have l:=un (j.o.trans ((a).mono j.o.size));clear a;go_wp2;go_ret
   have f:=zxg (p:=p) (x:=x) (b.o.trans q);exact⟨by rw[←f];rfl,l.o⟩
  ·have N:(kd == 2)=false:=by simp[q]
   by_cases r:kd=3
   ·have O:(kd == 3)=true:=by simp[r]
    go_wp2_with fail
    refine(Rt.zero g2 A2 m2 c2 D2 md2 cd2 (zdp p x) _ u.o).mono ?_
    rintro e B ⟨rfl,a⟩;have l:=un (j.o.trans ((a).mono j.o.size));clear a;go_wp2;go_ret
    have f:=zxf (p:=p) (x:=x) (b.o.trans r);exact⟨by rw[←f];rfl,l.o⟩
   ·have O:(kd == 3)=false:=by simp[r]
    go_wp2;go_ret
    have f:=zxi (p:=p) (x:=x) (by rw[b.o];exact h1) (by rw[b.o];exact q) (by rw[b.o];exact r);exact⟨by rw[←f];rfl,j.o⟩
theorem zPu(C:OA)(nc cc:Nat)(R:OA)(nr c:Nat)(cost:List Rat)(rows:List PRow)(X:OA)(f d:Nat)(x:List Rat)(w:World)(hc:VecS w 0 (C,nc,cc) cost)(hr:RowsS w 0 (R,nr,c) rows)(l:VecS w 0 (X,f,d) x)(k:cost.length=x.length)(a:nc≤1000)(zc:Sm cost)(zx:Sm x) :
  Calls prog 31 #[.agg #[(C,nc,cc),(R,nr,c)],(X,f,d)] w (zii w (dot cost x) true):=by
 have q:=un k;have n:=un a;have t:=un zc;have u:=un zx;clear k a zc zx;obtain⟨W,b⟩:∃W,((w.alloc (.cells #[(C,nc,cc),(R,nr,c)] 31)).alloc (.cells #[false,(),()] 41))=W:=⟨_,rfl⟩
 have i:=un (show W.heap[w.heap.size]? = some (.cells #[(C,nc,cc),(R,nr,c)] 31 (0,0))by rw[←b];exact zak (zam (by simp)));have j:=un (show W.heap[w.heap.size+1]? = some (.cells #[false,(),()] 41 (0,0))by rw[←b];exact zam (by simp));have g:=un (show Below w w W by rw[←b];exact(zae w _).alloc (by simp) _);have o:=un (show VecS W 0 (C,nc,cc) cost by rw[←b];exact((hc).alloc _).alloc _)
 have s:=un (show VecS W 0 (X,f,d) x by rw[←b];exact((l).alloc _).alloc _);obtain⟨K,_⟩:=bc2 i.o;clear hc hr l;go_enter func31,ntmps31;go_wp2_with fail
 clear b;refine(Vc.dot_ok C nc cc cost X f d x 0 0 _ o.o s.o q.o n.o t.o u.o).mono ?_
 rintro e w1 ⟨g2,A2,m2,c2,D2,md2,cd2,rfl,hn,a⟩;have m:=un (zad a j.o);have r:=un (show RatS w1 g2 (A2,m2,c2) (D2,md2,cd2) (dot cost x)from hn);have z:=un (g.o.trans ((a).mono g.o.size));obtain⟨E,A,af,_,F,y,ac,_,D,G,ah,_⟩:=bf3 m.o;clear hn a;go_wp2;refine Zd (v:=.tuple #[.agg #[g2,(A2,m2,c2),(D2,md2,cd2)],true]) (by simp[results,results31,go_sem,E,A,F,y,D,G]) rfl ?_
 exact⟨_,_,_,_,_,_,_,rfl,r.o.set3 m.o (by decide) _ _ _,bsc (bsc (bsc z.o))⟩
end Pb
def znD (cost:List Rat) (rows:List PRow) (x:List Rat):Bool:=decide (x.length=cost.length) && !(x.any fun q=>decide (q<0))&&rows.all fun p=>zdH p x
abbrev Rows (n:Nat) (rows:List PRow):Prop:=∀p∈rows,p.coef.length=n∧Sm p.coef∧mw p.rhs≤4000000
theorem zv9{f:PRow→Bool}(h:(rows.take k).all f=true)(b:rows[k]? = some p)(a:f p=true):(rows.take (k+1)).all f=true:=by
 rw[ZN,List.all_append,h,b];simp[a]
theorem ztT{f:PRow→Bool}(b:rows[k]? = some p)(a:f p=false):rows.all f=false:=by
 rw[List.all_eq_false];grind
theorem zw4(h:x.length≠cost.length):znD cost rows x=false:=by unfold znD;rw[Zu h];rfl
theorem zw5(h:(x.any fun q=>decide (q<0))=true):znD cost rows x=false:=by unfold znD;rw[h];simp
theorem zoE(a:x.length=cost.length)(h:(x.any fun q=>decide (q<0))=false):znD cost rows x=rows.all fun p=>zdH p x:=by unfold znD;rw[h,Zs a];simp
namespace Pb
theorem zAF(C:OA)(nc cc:Nat)(R:OA)(nr a:Nat)(cost:List Rat)(rows:List PRow)(X:OA)(b f:Nat)(x:List Rat)(w:World)(hc:VecS w 0 (C,nc,cc) cost)(hr:RowsS w 0 (R,nr,a) rows)(d:VecS w 0 (X,b,f) x)(g:x.length≠cost.length) :
  Calls prog 26 #[.agg #[(C,nc,cc),(R,nr,a)],(X,b,f)] w fun e w'=>e=.returned (.bool (znD cost rows x))∧Below w w w':=by
 have h1:¬((b:Int)=(nc:Int)):=by rw[d.len,hc.len];omega
 have l:¬(b=nc):=by rw[d.len,hc.len];omega
 have j:=un (zw4 (rows:=rows) g);obtain⟨W,c⟩:∃W,(w.alloc (.cells #[(C,nc,cc),(R,nr,a)] 31))=W:=⟨_,rfl⟩
 have k:=un (show W.heap[w.heap.size]? = some (.cells #[(C,nc,cc),(R,nr,a)] 31 (0,0))by rw[←c];exact zam (by simp));have i:=un (show Below w w W by rw[←c];exact zae w _);obtain⟨m,_⟩:=bc2 k.o;clear hc hr d g;go_enter func26,ntmps26;go_wp2;clear c;go_ret
 exact⟨by rw[j.o];rfl,i.o⟩
theorem fits(C:OA)(nc cc:Nat)(R:OA)(nr l:Nat)(cost:List Rat)(rows:List PRow)(X:OA)(z n:Nat)(x:List Rat)(w:World)(hc:VecS w 0 (C,nc,cc) cost)(hr:RowsS w 0 (R,nr,l) rows)(y:VecS w 0 (X,z,n) x)(a:nc≤1000)(Y:Rows nc rows)(zx:Sm x)(aG:nr≤1000) :
  Calls prog 26 #[.agg #[(C,nc,cc),(R,nr,l)],(X,z,n)] w fun e w'=>e=.returned (.bool (znD cost rows x))∧Below w w w':=by
 by_cases s:x.length≠cost.length
 ·exact zAF C nc cc R nr l cost rows X z n x w hc hr y s
 have s:=Decidable.not_not.1 s;have T:=y.len;have ap:=hc.len;have U:=hr.len;have en:nc=z:=by omega
 subst en;have L:=un s;have M:=un U;have ag:=un T;have HB:=un a;have ak:=un Y;have ZX:=un zx;clear s a Y zx T ap U;obtain⟨W,o⟩:∃W,(w.alloc (.cells #[(C,nc,cc),(R,nr,l)] 31))=W:=⟨_,rfl⟩
 have S:=un (show W.heap[w.heap.size]? = some (.cells #[(C,nc,cc),(R,nr,l)] 31 (0,0))by rw[←o];exact zam (by simp));have K:=un (show Below w w W by rw[←o];exact zae w _);have P:=un (show VecS W 0 (X,nc,n) x by rw[←o];exact(y).alloc _);have HR:=un (show RowsS W 0 (R,nr,l) rows by rw[←o];exact(hr).alloc _);obtain⟨aL,_,aM,aJ⟩:=bc2 S.o;clear hc hr y;go_enter func26,ntmps26
 go_wp2_with fail
 clear o;refine(Vc.below X nc n x 0 _ P.o).mono ?_
 rintro e w1 ⟨rfl,a⟩;have ax:=un (zad a S.o);have aa:=un (P.o.below a);have E:=un (HR.o.below a);have t:=un (K.o.trans ((a).mono K.o.size));obtain⟨_,_,aK,aN⟩:=bc2 ax.o;clear a;cases hneg:(x.any fun q=>decide (q<0))
 ·skip
  go_wp2
  go_loopw [20] (fun i wr=>∃k:Nat,i=.int .i64 k∧k≤nr∧Below w1 w1 wr∧(rows.take k).all (fun p=>zdH p x)=true)
   (fun i _=>nr-(intOf i).toNat)
  case atStart=>exact⟨0,rfl,Zb _,Zg _ _,rfl⟩
  case round =>
   obtain⟨k,rfl,hk,d,H⟩:=hrel;have O:=un H;by_cases ao:k<nr
   ·obtain⟨p,v⟩:∃p,rows[k]? = some p:=⟨rows[k]'(by rw[←M.o];exact ao),Ze _⟩
    obtain⟨b,rfl,aC,aD⟩:=(E.o).has (by omega);obtain⟨Q,nq,G,g,A,m,c,D,J,F,k0,k1,k2,k3,k4,I,V⟩:=(E.o.below d).at_ v;have N:=un v;have u:=un (ak.o p (Zh v));obtain rfl:nc=nq:=by rw[I.len,u.o.1]
    generalize hkd:p.kind=kd at k1;have af:=un hkd;have ac:=un (aa.o.below d);have HQ:=un (I);have aj:=un (show RatS wr g (A,m,c) (D,J,F) p.rhs from V);have HW:=un (Bel.mk d);have B:=un (t.o.trans ((d).mono t.o.size));clear d H v I V hkd;have aE:(0:Int)≤(k:Int):=Zf _;have aF:(k:Int)<(nr:Int):=by omega
    go_wp2_with fail
    have r:=zae wr (.cells #[(Q,nc,G),.int .i64 kd,g,(A,m,c),(D,J,F)] 43);have av:=un (ac.o.below r);have aw:=un (HQ.o.below r);have au:=un (aj.o.below r);have aA:=un (HW.o.below r);have Z:=un (B.o.trans ((r).mono B.o.size));refine(holds Q nc G g A m c D J F kd p af.o X nc n x _ aw.o au.o av.o (u.o.1.trans ag.o) HB.o u.o.2.1 u.o.2.2 ZX.o).mono ?_
    rintro e v1 ⟨rfl,a⟩;have az:=un (aA.o.below a);have ay:=un (Z.o.trans ((a).mono Z.o.size));clear a;cases hh:zdH p x
    ·have j:=un ((zoE L.o hneg).trans (ztT (f:=fun p=>zdH p x) N.o hh));go_wp2;go_ret
     exact⟨by rw[j.o];rfl,ay.o⟩
    ·have j:=un (zv9 (f:=fun p=>zdH p x) O.o N.o hh);go_wp2;go_roundw
     case rel=>exact⟨k+1,by go_num,by omega,az.o.b,j.o⟩
     case measure=>simp[intOf];omega
   ·have an:k=nr:=by omega
    have j:=un (show znD cost rows x=true by rw[zoE L.o hneg];have h:=O.o;rw[an,M.o,Xn]at h;exact h);have ac:=un (aa.o.below d);have B:=un (t.o.trans ((d).mono t.o.size));clear d H;go_wp2;go_ret
    exact⟨by rw[j.o];rfl,B.o⟩
 ·have j:=un (zw5 (cost:=cost) (rows:=rows) hneg);go_wp2;go_ret
  exact⟨by rw[j.o];rfl,t.o⟩
end Pb
abbrev Kinds (rows:List PRow):Prop:=∀p∈rows,1≤p.kind∧p.kind≤3
namespace Pb
theorem may(C:OA)(nc cc:Nat)(R:OA)(nr d:Nat)(cost:List Rat)(rows:List PRow)(w:World)(hc:VecS w 0 (C,nc,cc) cost)(hr:RowsS w 0 (R,nr,d) rows)(P:nc≤24)(ac:nr≤20)(z:Rows nc rows)(x:Kinds rows) :
  Calls prog 64 #[.agg #[(C,nc,cc),(R,nr,d)]] w fun e w'=>e=.returned .nilIface∧Below w w w':=by
 have y:=hr.len;have G:=un y;have H:=un z;have u:=un x;have J:(nc:Int)≤24:=by omega
 have T:¬(24:Int)<(nc:Int):=by omega
 have ad:¬(20:Int)<(nr:Int):=by omega
 clear z x y;obtain⟨W,f⟩:∃W,(w.alloc (.cells #[(C,nc,cc),(R,nr,d)] 31))=W:=⟨_,rfl⟩
 have q:=un (show W.heap[w.heap.size]? = some (.cells #[(C,nc,cc),(R,nr,d)] 31 (0,0))by rw[←f];exact zam (by simp));have l:=un (show Below w w W by rw[←f];exact zae w _);have n:=un (show RowsS W 0 (R,nr,d) rows by rw[←f];exact(hr).alloc _);obtain⟨ai,_,aj,ah⟩:=bc2 q.o;clear hc hr;go_enter func64,ntmps64;go_wp2;clear f
 go_loopw [19] (fun i wr=>∃k:Nat,i=.int .i64 k∧k≤nr∧Below W.heap.size W wr)
  (fun i _=>nr-(intOf i).toNat)
 case atStart=>exact⟨0,rfl,Zb _,Zg _ _⟩
 case round =>
  obtain⟨k,rfl,hk,a⟩:=hrel;by_cases K:k<nr
  ·obtain⟨p,j⟩:∃p,rows[k]? = some p:=⟨rows[k]'(by rw[←G.o];exact K),Ze _⟩
   obtain⟨b,rfl,S,J⟩:=n.o.has (by omega);obtain⟨Q,nq,o,g,A,m,c,D,s,r,k0,k1,k2,k3,k4,B,_⟩:=(n.o.below a).at_ j;obtain rfl:nc=nq:=by rw[B.len,(H.o p (Zh j)).1]
   have X:=(u.o p (Zh j)).1;have Y:=(u.o p (Zh j)).2;have Z:¬p.kind<1:=by omega
   have aa:¬3<p.kind:=by omega
   have F:=un (zad a q.o);have I:=un (Bel.mk a);have E:=un (l.o.trans ((a).mono l.o.size));clear a j B;have U:(0:Int)≤(k:Int):=Zf _;have V:(k:Int)<(nr:Int):=by omega
   have v:=zae wr (.cells #[(Q,nc,o),.int .i64 p.kind,g,(A,m,c),(D,s,r)] 43);have L:=un (zad v F.o);have N:=un (I.o.below v);obtain⟨ak,_⟩:=bc2 L.o;have al:(wr.alloc (.cells #[(Q,nc,o),.int .i64 p.kind,g,(A,m,c),(D,s,r)] 43)).cell? ⟨wr.heap.size,0,none⟩=some (Q,nc,o):=zax rfl rfl;have am:(wr.alloc (.cells #[(Q,nc,o),.int .i64 p.kind,g,(A,m,c),(D,s,r)] 43)).cell? ⟨wr.heap.size,1,none⟩=some (.int .i64 p.kind):=zax rfl rfl
   go_wp2;go_roundw
   case rel=>exact⟨k+1,by go_num,by omega,N.o.b⟩
   case measure=>simp[intOf];omega
  ·have ab:k=nr:=by omega
   have F:=un (zad a q.o);have E:=un (l.o.trans ((a).mono l.o.size));clear a;go_wp2;go_ret
   exact⟨rfl,E.o⟩
end Pb
def zIc (p:PRow) (q:Rat):Bool := !(decide (p.kind=1)&&decide (0<q)||decide (p.kind=2)&&decide (q<0))
def zxD (rows:List PRow) (ys:List Rat) (k:Nat):Bool:=(List.range k).all fun i=>zIc (rows.getD i default) (el ys i)
def zId (rows:List PRow) (ys:List Rat):Bool:=zxD rows ys rows.length
theorem zfC(h:rows[k]? = some p):rows.getD k default=p:=by rw[Zi,h];rfl
theorem ydX(h:zxD rows ys k=true)(a:rows[k]? = some p)(b:ys[k]? = some q)(c:zIc p q=true):zxD rows ys (k+1)=true:=by
 unfold zxD at *
 rw[X8,List.all_append,h,List.all_cons,zfC a,znd b,c];rfl
theorem yeb(a:rows[k]? = some p)(b:ys[k]? = some q)(c:zIc p q=false):zId rows ys=false:=by
 unfold zId zxD;rw[List.all_eq_false];exact⟨k,Xa.2 (Zm.1 a).1,by rw[zfC a,znd b,c];decide⟩
theorem zPs(q:Rat):0<q.num↔0<q:=by
 have h:=zsp q;grind
theorem zPt(q:Rat):0<q.num.sign↔0<q:=by
 rw[←zPs];grind
theorem zQE(q:Rat):q.num.sign<0↔q<0:=by
 rw[←zvc];grind
theorem yd3(h:p.kind=1):zIc p q = !(decide (0<q)):=by unfold zIc;rw[Zs h,Zu (show ¬p.kind=2 by omega)];simp
theorem yd4(h:p.kind=2):zIc p q = !(decide (q<0)):=by unfold zIc;rw[Zs h,Zu (show ¬p.kind=1 by omega)];simp
theorem yeh(h:p.kind≠1)(a:p.kind≠2):zIc p q=true:=by unfold zIc;rw[Zu h,Zu a];simp
namespace Ct
theorem signed(C:OA)(nc cc:Nat)(R:OA)(nr J:Nat)(cost:List Rat)(rows:List PRow)(Y:OA)(ny cy:Nat)(y:List Rat)(w:World)(hc:VecS w 0 (C,nc,cc) cost)(hr:RowsS w 0 (R,nr,J) rows)(hy:VecS w 0 (Y,ny,cy) y)(hl:y.length=rows.length)(aX:nr≤1000) :
  Calls prog 120 #[.agg #[(C,nc,cc),(R,nr,J)],(Y,ny,cy)] w fun e w'=>e=.returned (.bool (zId rows y))∧Below w w w':=by
 have aW:=hy.len;have aJ:=hr.len;have en:nr=ny:=by omega
 subst en;have HL:=un hl;have HN:=un aJ;clear hl aW aJ;obtain⟨W,z⟩:∃W,(w.alloc (.cells #[(C,nc,cc),(R,nr,J)] 31))=W:=⟨_,rfl⟩
 have am:=un (show W.heap[w.heap.size]? = some (.cells #[(C,nc,cc),(R,nr,J)] 31 (0,0))by rw[←z];exact zam (by simp));have M:=un (show Below w w W by rw[←z];exact zae w _);have S:=un (show VecS W 0 (Y,nr,cy) y by rw[←z];exact(hy).alloc _);have O:=un (show RowsS W 0 (R,nr,J) rows by rw[←z];exact(hr).alloc _);obtain⟨_,_,bx,bv⟩:=bc2 am.o;clear hc hr hy
 go_enter func120,ntmps120;go_wp2;clear z
 go_loopw [16] (fun i wr=>∃k:Nat,i=.int .i64 k∧k≤nr∧Below W.heap.size W wr∧zxD rows y k=true)
  (fun i _=>nr-(intOf i).toNat)
 case atStart=>exact⟨0,rfl,Zb _,Zg _ _,rfl⟩
 case round =>
  obtain⟨k,rfl,hk,d,hT⟩:=hrel;have P:=un hT;by_cases aI:k<nr
  ·obtain⟨p,hp⟩:∃p,rows[k]? = some p:=⟨rows[k]'(by rw[←HN.o];exact aI),Ze _⟩
   obtain⟨q,hq⟩:∃q,y[k]? = some q:=⟨y[k]'(by rw[HL.o,←HN.o];exact aI),Ze _⟩
   obtain⟨b,rfl,bi,bj⟩:=O.o.has (by omega);obtain⟨by_,rfl,bk,bl⟩:=S.o.has (by omega);obtain⟨Q,nq,x,g,A,m,c,D,B,v,k0,k1,k2,k3,k4,_⟩:=(O.o.below d).at_ hp;obtain⟨V,L,X,T,N,Z,U,l0,l1,l2,aG⟩:=(S.o.below d).at_ hq;have H:=un hp;have I:=un hq;generalize hkd:p.kind=kd at k1;have u:=un hkd;have ak:=un (aG)
   have HW:=un (Bel.mk d);have l:=un (M.o.trans ((d).mono M.o.size));have ac:=l0;have ad:=l1;have ae:=l2;clear d hT hp hq hkd aG l0 l1 l2;have bm:(0:Int)≤(k:Int):=Zf _;have bn:(k:Int)<(nr:Int):=by omega
   by_cases h1:kd=1
   ·subst h1;have a:=zae wr (.cells #[(Q,nq,x),.int .i64 1,g,(A,m,c),(D,B,v)] 43);have G:=un (ak.o.below a);have K:=un (HW.o.below a);have F:=un (l.o.trans ((a).mono l.o.size));have o:=zab a ac;have r:=zab a ad;have s:=zab a ae
    have t:(wr.alloc (.cells #[(Q,nq,x),.int .i64 1,g,(A,m,c),(D,B,v)] 43)).cell? ⟨wr.heap.size,1,none⟩=some (.int .i64 1):=zax rfl rfl;go_wp2_with fail
    refine(Rt.sign V L X T N Z U q _ G.o).mono ?_
    rintro e v1 ⟨rfl,hb⟩;have aE:=un (K.o.below hb);have az:=un (F.o.trans ((hb).mono F.o.size));have aC:=zab hb t;clear hb;by_cases f:0<q
    ·have au:=(zPs q).2 f;have av:=(zPt q).2 f;have j:=un (yeb H.o I.o (by rw[yd3 (u.o),Zs f];rfl));go_wp2;go_ret
     exact⟨by rw[j.o];rfl,az.o⟩
    ·have au:¬0<q.num:=fun h=>f ((zPs q).1 h)
     have av:¬0<q.num.sign:=fun h=>f ((zPt q).1 h)
     have j:=un (ydX P.o H.o I.o (by rw[yd3 (u.o),Zu f];rfl));go_wp2;go_roundw
     case rel=>exact⟨k+1,by go_num,by omega,aE.o.b,j.o⟩
     case measure=>simp[intOf];omega
   ·skip
    by_cases h2:kd=2
    ·subst h2;have a:=zae wr (.cells #[(Q,nq,x),.int .i64 2,g,(A,m,c),(D,B,v)] 43);have G:=un (ak.o.below a);have K:=un (HW.o.below a);have F:=un (l.o.trans ((a).mono l.o.size));have o:=zab a ac;have r:=zab a ad;have s:=zab a ae
     have t:(wr.alloc (.cells #[(Q,nq,x),.int .i64 2,g,(A,m,c),(D,B,v)] 43)).cell? ⟨wr.heap.size,1,none⟩=some (.int .i64 2):=zax rfl rfl;go_wp2_with fail
     refine(Rt.sign V L X T N Z U q _ G.o).mono ?_
     rintro e v1 ⟨rfl,hb⟩;have aE:=un (K.o.below hb);have az:=un (F.o.trans ((hb).mono F.o.size));have aC:=zab hb t;clear hb;by_cases f:q<0
     ·have au:=(zvc q).2 f;have av:=(zQE q).2 f;have j:=un (yeb H.o I.o (by rw[yd4 (u.o),Zs f];rfl));go_wp2;go_ret
      exact⟨by rw[j.o];rfl,az.o⟩
     ·have au:¬q.num<0:=fun h=>f ((zvc q).1 h)
      have av:¬q.num.sign<0:=fun h=>f ((zQE q).1 h)
      have j:=un (ydX P.o H.o I.o (by rw[yd4 (u.o),Zu f];rfl));go_wp2;go_roundw
      case rel=>exact⟨k+1,by go_num,by omega,aE.o.b,j.o⟩
      case measure=>simp[intOf];omega
    ·have bp:(kd == 2)=false:=by simp[h2]
     have bo:(kd == 1)=false:=by simp[h1]
     have a:=zae wr (.cells #[(Q,nq,x),.int .i64 kd,g,(A,m,c),(D,B,v)] 43);have G:=un (ak.o.below a);have K:=un (HW.o.below a);have F:=un (l.o.trans ((a).mono l.o.size));have o:=zab a ac;have r:=zab a ad;have s:=zab a ae
     have t:(wr.alloc (.cells #[(Q,nq,x),.int .i64 kd,g,(A,m,c),(D,B,v)] 43)).cell? ⟨wr.heap.size,1,none⟩=some (.int .i64 kd):=zax rfl rfl;have j:=un (ydX P.o H.o I.o (yeh (by rw[u.o];exact h1) (by rw[u.o];exact h2)));go_wp2;go_roundw
     case rel=>exact⟨k+1,by go_num,by omega,K.o.b,j.o⟩
     case measure=>simp[intOf];omega
  ·have aV:k=nr:=by omega
   have j:=un (show zId rows y=true by have h:=P.o;rw[aV,HN.o]at h;exact h);have l:=un (M.o.trans ((d).mono M.o.size));clear d hT;go_wp2;go_ret
   exact⟨by rw[j.o];rfl,l.o⟩
