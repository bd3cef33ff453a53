/- Contracts and lemmas: Vec7 Prob2 Prob3 Prob5 Prob4. Conditions: as each says. -/
import Derived.Test.YtdnippohkfdncaaGreatMat3Zk
set_option linter.all false
set_option maxHeartbeats 4000000
set_option maxRecDepth 100000
namespace Go.Proofs.YtdnippohkfdncaaGreat
open Go.RowKit Am
open Lib (hid)
attribute [local go_sem ↓] Go.wp_at_zero Go.wp_at_succ
theorem zvQ{q:Rat}(h:zr q=true):q=0:=of_decide_eq_true h
namespace Vc
theorem dot_ok(A:OA)(n c:Nat)(xs:List Rat)(B:OA)(j c':Nat)(ys:List Rat)(H H':Nat)(w:World)(hx:VecS w H (.slice A n c) xs)(hy:VecS w H' (.slice B j c') ys)(hl:xs.length=ys.length)(d:n≤1000)(zx:∀q∈xs,mw q≤4000000)(zy:∀q∈ys,mw q≤4000000) :
  Calls Tryz.prog 75 #[.slice A n c,.slice B j c'] w (zii w (dot xs ys) true):=by
 have s:=hx.len;have a6:=hy.len;have en:j=n:=by omega
 subst en;have HN:=hid s;have HL:=hid hl;have aX:=hid d;have ZX:=hid zx;have ZY:=hid zy;have bP:j≤9223372036854775807:=by omega
 clear s a6 hl d zx zy;obtain⟨W,M⟩:∃W,(w.alloc (.cells #[.bool false,.slice none 0 0,.slice none 0 0] 35))=W:=⟨_,rfl⟩
 have aC:=hid (show W.heap[w.heap.size]? = some (.cells #[.bool false,.slice none 0 0,.slice none 0 0] 35 (0,0))by rw[←M];exact zam (by simp));have U:=hid (show Below w.heap.size w W by rw[←M];exact zae w _);have V:=hid (show VecS W H (.slice A j c) xs by rw[←M];exact(hx).alloc _);have X:=hid (show VecS W H' (.slice B j c') ys by rw[←M];exact(hy).alloc _);clear hx hy;go_enter Tryz.func75,Tryz.ntmps75;go_wp2;clear M
 go_loopw [16] (fun i wr=>∃(k:Nat) (g:Bool) (P:OA) (m cp:Nat) (D:OA) (o l:Nat),i=.int .i64 k∧k≤j∧wr.heap[W.heap.size]? = some (.cells #[.bool g,.slice P m cp,.slice D o l] 35 (0,0))∧RatS wr g (.slice P m cp) (.slice D o l) (ziw xs ys k)∧Below W.heap.size W wr)
  (fun i _=>j-(intOf i).toNat)
 case atStart=>exact⟨0,_,_,_,_,_,_,_,rfl,Nat.zero_le _,zal _ _ _,RatS.zero _,zae W _⟩
 case round =>
  obtain⟨k,g,P,m,cp,D,o,l,rfl,hk,aa,Z,f⟩:=hrel;by_cases aG:k<j
  ·obtain⟨a,N⟩:∃a,xs[k]? = some a:=⟨xs[k]'(by rw[←HN.out];exact aG),List.getElem?_eq_getElem _⟩
   obtain⟨b,d⟩:∃b,ys[k]? = some b:=⟨ys[k]'(by rw[←HL.out,←HN.out];exact aG),List.getElem?_eq_getElem _⟩
   obtain⟨t,rfl,bJ,bK⟩:=V.out.has (by omega);obtain⟨by_,rfl,bL,bM⟩:=X.out.has (by omega);obtain⟨J,x,O,E,z,R,G,k0,k1,k2,aD⟩:=(V.out.below f).at_ N;obtain⟨L,y,Q,F,C,T,I,l0,l1,l2,aE⟩:=(X.out.below f).at_ d;have u:=hid (zad f aC.out);have bd:=hid (V.out.below f);have be:=hid (X.out.below f);have aB:=hid (show RatS wr J (.slice x O E) (.slice z R G) a from aD);have a0:=hid (show RatS wr L (.slice y Q F) (.slice C T I) b from aE)
   have HP:=hid (show RatS wr g (.slice P m cp) (.slice D o l) (ziw xs ys k)from Z);have HW:=hid (show Bel W wr from Bel.mk f);have aI:=hid (U.out.trans ((f).mono U.out.size));obtain⟨ab,ad,av,_,ac,ae,aw,_,af,ag,az,_⟩:=bf3 u.out;have aJ:wr.cell? ⟨t,k*3,none⟩=some (.bool J):=k0;have aK:wr.cell? ⟨t,k*3+1,none⟩=some (.slice x O E):=k1;have aN:wr.cell? ⟨t,k*3+2,none⟩=some (.slice z R G):=k2;have aO:wr.cell? ⟨by_,k*3,none⟩=some (.bool L):=l0;have aP:wr.cell? ⟨by_,k*3+1,none⟩=some (.slice y Q F):=l1
   have aQ:wr.cell? ⟨by_,k*3+2,none⟩=some (.slice C T I):=l2;have Y:=hid aa;obtain⟨ab,ad,av,_,ac,ae,aw,_,af,ag,az,_⟩:=bf3 u.out;obtain⟨bh,_,_,_,bi,_,_,_,bg,_⟩:=bf3 Y.out;have aJ:=k0;have aK:=k1;have aN:=k2;have aO:=l0;have aP:=l1;have aQ:=l2;have ah:=hid N;have ai:=hid d;have L1:=hid (show 4*(mw a+mw b)+8≤LIM by have:=ZX.out a (List.mem_of_getElem? N);have:=ZY.out b (List.mem_of_getElem? d);have:=zaP;omega)
   have L2:=hid (show 4*(mw (ziw xs ys k)+mw (a*b))+8≤LIM by have:=ZX.out a (List.mem_of_getElem? N);have:=ZY.out b (List.mem_of_getElem? d);have h1:=zrJ ZX.out ZY.out k;have:=zdI a b;have:=zaP;have h2:k*8000001≤1000*8000001:=Nat.mul_le_mul_right _ (by have:=aX.out;omega);omega);have bN:(0:Int)≤(k:Int):=Int.natCast_nonneg _;have bO:(k:Int)<(j:Int):=by omega
   clear aa Z f N d k0 k1 k2 l0 l1 l2 aD aE;go_wp2_with fail
   with_reducible refine(Rt.zero J x O E z R G a _ aB.out).mono ?_
   rintro e v1 ⟨rfl,d⟩;have aL:=hid (zad d Y.out);have bF:=hid (aB.out.below d);have aU:=hid (a0.out.below d);have aR:=hid (HP.out.below d);have aS:=hid (HW.out.below d);have bj:=zab d aJ;have bm:=zab d aK;have bn:=zab d aN;have bp:=zab d aO;have bu:=zab d aP;have bA:=zab d aQ;clear d;cases hza:zr a
   ·go_wp2_with fail
    with_reducible refine(Rt.zero L y Q F C T I b _ aU.out).mono ?_
    rintro e v2 ⟨rfl,d⟩;have ay:=hid (zad d aL.out);have bG:=hid (bF.out.below d);have bH:=hid (aU.out.below d);have aH:=hid (aR.out.below d);have aT:=hid (aS.out.below d);obtain⟨bW,_,_,_,bY,_,_,_,b1,_⟩:=bf3 ay.out;have bl:=zab d bj;have a7:=zaa bl;have bq:=zab d bm;have a8:=zaa bq;have bs:=zab d bn;have a9:=zaa bs;have br:=zab d bp;have ba:=zaa br;have bw:=zab d bu;have bb:=zaa bw;have bC:=zab d bA;have bc:=zaa bC;clear d;cases hzb:zr b
    ·go_wp2_with fail
     refine za2 (S:=fun w'=>w'.cell? ⟨W.heap.size,0,none⟩=some (.bool g)∧w'.cell? ⟨W.heap.size,1,none⟩=some (.slice P m cp)∧w'.cell? ⟨W.heap.size,2,none⟩=some (.slice D o l)∧w'.cell? ⟨t,k*3,none⟩=some (.bool J)∧w'.cell? ⟨t,k*3+1,none⟩=some (.slice x O E)∧w'.cell? ⟨t,k*3+2,none⟩=some (.slice z R G)∧w'.cell? ⟨by_,k*3,none⟩=some (.bool L)∧w'.cell? ⟨by_,k*3+1,none⟩=some (.slice y Q F)∧w'.cell? ⟨by_,k*3+2,none⟩=some (.slice C T I)) 11 (h:=fun hHeld=>?_);refine zaw [0,1,2,3,4,5,6,7,8] ?_
     repeat refine tkE (hS:=hHeld) (h:=?_)
     refine zao ?_;refine zaN 9 (h:=fun K r=>?_);go_simp
     (go_at_call 21;(with_reducible refine(Rt.mul J x O E z R G a L y Q F C T I b _ bG.out.drew bH.out.drew L1.out).mono ?_);rintro e u1 ⟨g1,A1,m1,c1,D1,md1,cd1,rfl,s,d⟩;have aM:=hid (zad d ay.out);have bf:=hid (aH.out.drew.below d);have bB:=hid (aT.out.drew.below d);have HM:=hid (show RatS u1 g1 (.slice A1 m1 c1) (.slice D1 md1 cd1) (a*b)from s);obtain⟨bR,_,_,_,bS,_,_,_,b0,_⟩:=bf3 aM.out;have bk:=zab d a7;have bo:=zab d a8;have bt:=zab d a9;have bv:=zab d ba;have bz:=zab d bb;have bD:=zab d bc;clear s d)
     (try go_wp2_with fail)
     refine r.out _ _ kp fun hHeld=>?_
     clear r K;try simp only[Act.put,pu1,pu2,pu3,pu4,pu5,pu6]
     refine zaN 10 (h:=fun K r=>?_);go_simp
     (go_at_call 133;(with_reducible refine(Rt.add g P m cp D o l (ziw xs ys k) g1 A1 m1 c1 D1 md1 cd1 (a*b) _ bf.out HM.out L2.out).mono ?_);rintro e u2 ⟨g2,A2,m2,c2,D2,md2,cd2,rfl,s,d⟩;have ax:=hid (zad d aM.out);have bE:=hid (bB.out.below d);have HS:=hid (show RatS u2 g2 (.slice A2 m2 c2) (.slice D2 md2 cd2) (ziw xs ys k+a*b)from s);obtain⟨bX,_,bT,_,bZ,_,bU,_,b2,_,bV,_⟩:=bf3 ax.out;have b3:=zab d bk;have b4:=zab d bo;have b5:=zab d bt;have b6:=zab d bv;have b7:=zab d bz;have b8:=zab d bD;clear s d)
     (try go_wp2_with fail)
     refine r.out _ _ kp fun hHeld=>?_
     clear r K;try simp only[Act.put,pu1,pu2,pu3,pu4,pu5,pu6]
     refine zba (h:=fun K r=>?_);go_simp;refine r.out _ _ ?_;clear r K;try simp only[Act.put,pu1,pu2,pu3,pu4,pu5,pu6]
     refine za1 (h:=?_)
     all_goals
      go_wp2;go_roundw
      case rel=>exact⟨k+1,g2,A2,m2,c2,D2,md2,cd2,by go_num,by omega,zar _ (zar _ (zar _ ax.out)),by rw[zlZ xs ys k ah.out ai.out];exact HS.out.set3 ax.out (by decide) _ _ _,(Bel.set3 bE.out (Nat.le_refl _) _ _ _).b⟩
      case measure=>simp[intOf];omega
    ·skip
     go_wp2;go_roundw
     case rel=>exact⟨k+1,g,P,m,cp,D,o,l,by go_num,by omega,ay.out,by rw[zlY xs ys k ah.out ai.out (Or.inr (zvQ hzb))];exact aH.out,aT.out.b⟩
     case measure=>simp[intOf];omega
   ·skip
    go_wp2;go_roundw
    case rel=>exact⟨k+1,g,P,m,cp,D,o,l,by go_num,by omega,aL.out,by rw[zlY xs ys k ah.out ai.out (Or.inl (zvQ hza))];exact aR.out,aS.out.b⟩
    case measure=>simp[intOf];omega
  ·have a5:k=j:=by omega
   have u:=hid (zad f aC.out);have bd:=hid (V.out.below f);have be:=hid (X.out.below f);have HP:=hid (show RatS wr g (.slice P m cp) (.slice D o l) (ziw xs ys k)from Z);have aI:=hid (U.out.trans ((f).mono U.out.size));obtain⟨ab,ad,av,_,ac,ae,aw,_,af,ag,az,_⟩:=bf3 u.out;have Y:=hid aa;obtain⟨ab,ad,av,_,ac,ae,aw,_,af,ag,az,_⟩:=bf3 u.out;obtain⟨bh,_,bi,_,bg,_⟩:=bc3 Y.out;clear aa Z f;go_wp2
   refine bodyPost_ret (v:=.tuple #[.agg #[.bool g,.slice P m cp,.slice D o l],.bool true]) (by simp[results,Tryz.results75,go_sem,ab,ad,ac,ae,af,ag]) rfl ?_;have h:=HP.out;rw[a5,HN.out]at h;exact⟨_,_,_,_,_,_,_,rfl,h.set3 u.out (by decide) _ _ _,bsc (bsc (bsc aI.out))⟩
end Vc
abbrev Sm (xs:List Rat):Prop:=∀q∈xs,mw q≤4000000
def zdp (p:PRow) (x:List Rat):Rat:=dot p.coef x-p.rhs
def zdH (p:PRow) (x:List Rat):Bool:=if p.kind=1 then decide (zdp p x≤0)else if p.kind=2 then decide (0≤zdp p x)else decide (p.kind=3)&&decide (zdp p x=0)
theorem zDI{xs ys:List Rat}(a:Sm xs)(b:Sm ys)(h:xs.length≤1000):mw (dot xs ys)≤8000002000:=by
 have h1:=zrJ a b xs.length;unfold dot;omega
theorem zsp(q:Rat):q.num≤0↔q≤0:=by
 have h:=Rat.num_nonneg (q := -q);rw[Rat.neg_num]at h;constructor
 ·intro h1;have:=h.1 (by omega);grind
 ·intro h1;have:=h.2 (by grind);omega
theorem zxh{p:PRow}{x:List Rat}(h:p.kind=1):decide ((zdp p x).num≤0)=zdH p x:=by
 unfold zdH;rw[if_pos h];exact decide_eq_decide.2 (zsp _)
theorem zxg{p:PRow}{x:List Rat}(h:p.kind=2):decide (0≤zdp p x)=zdH p x:=by
 unfold zdH;rw[if_neg (by omega),if_pos h]
theorem zxf{p:PRow}{x:List Rat}(h:p.kind=3):zr (zdp p x)=zdH p x:=by
 unfold zdH;rw[if_neg (by omega),if_neg (by omega),decide_eq_true h,Bool.true_and];rfl
theorem zxi{p:PRow}{x:List Rat}(h1:p.kind≠1)(a:p.kind≠2)(b:p.kind≠3):false=zdH p x:=by
 unfold zdH;rw[if_neg h1,if_neg a,decide_eq_false b,Bool.false_and]
namespace Pb
theorem over(C:OA)(nc cc:Nat)(g:Bool)(A:OA)(m c:Nat)(D:OA)(d b:Nat)(kd:Int)(p:PRow)(hk:p.kind=kd)(X:OA)(l k:Nat)(x:List Rat)(w:World)(hc:VecS w 0 (.slice C nc cc) p.coef)(hr:RatS w g (.slice A m c) (.slice D d b) p.rhs)(r:VecS w 0 (.slice X l k) x)(q:p.coef.length=x.length)(a:nc≤1000)(zc:Sm p.coef)(zr:mw p.rhs≤4000000)(n:Sm x) :
  Calls Tryz.prog 134 #[.agg #[.slice C nc cc,.int .i64 kd,.bool g,.slice A m c,.slice D d b],.slice X l k] w (zii w (zdp p x) true):=by
 have i:=hc.len;have z:=hid q;have u:=hid a;have J:=hid zc;have K:=hid n;have I:=hid (show 4*(mw (dot p.coef x)+mw p.rhs)+8≤LIM by have:=zDI zc n (by omega);have:=zaP;omega);clear i q a zc zr n;obtain⟨W,f⟩:∃W,((w.alloc (.cells #[.slice C nc cc,.int .i64 kd,.bool g,.slice A m c,.slice D d b] 74)).alloc (.cells #[.bool false,.slice none 0 0,.slice none 0 0] 35))=W:=⟨_,rfl⟩
 have o:=hid (show W.heap[w.heap.size]? = some (.cells #[.slice C nc cc,.int .i64 kd,.bool g,.slice A m c,.slice D d b] 74 (0,0))by rw[←f];exact zak (zam (by simp)));have H:=hid (show W.heap[w.heap.size+1]? = some (.cells #[.bool false,.slice none 0 0,.slice none 0 0] 35 (0,0))by rw[←f];exact zam (by simp));have j:=hid (show Below w.heap.size w W by rw[←f];exact(zae w _).alloc (by simp) _);have y:=hid (show VecS W 0 (.slice C nc cc) p.coef by rw[←f];exact((hc).alloc _).alloc _)
 have G:=hid (show VecS W 0 (.slice X l k) x by rw[←f];exact((r).alloc _).alloc _);have B:=hid (show RatS W g (.slice A m c) (.slice D d b) p.rhs by rw[←f];exact((hr).alloc _).alloc _);obtain⟨Z,_⟩:=bc5 o.out;clear hc hr r;go_enter Tryz.func134,Tryz.ntmps134;go_wp2_with fail
 clear f;with_reducible refine(Vc.dot_ok C nc cc p.coef X l k x 0 0 _ y.out G.out z.out u.out J.out K.out).mono ?_
 rintro e w1 ⟨g2,A2,m2,c2,D2,md2,cd2,rfl,i,a⟩;have P:=hid (show(w1.alloc (.cells #[.bool g2,.slice A2 m2 c2,.slice D2 md2 cd2] 35)).heap[w.heap.size]? = some (.cells #[.slice C nc cc,.int .i64 kd,.bool g,.slice A m c,.slice D d b] 74 (0,0))from zak (zad a o.out));have M:=hid (show(w1.alloc (.cells #[.bool g2,.slice A2 m2 c2,.slice D2 md2 cd2] 35)).heap[w.heap.size+1]? = some (.cells #[.bool false,.slice none 0 0,.slice none 0 0] 35 (0,0))from zak (zad a H.out))
 have Y:=hid (show RatS (w1.alloc (.cells #[.bool g2,.slice A2 m2 c2,.slice D2 md2 cd2] 35)) g (.slice A m c) (.slice D d b) p.rhs from(B.out.below a).alloc _);have E:=hid (show RatS (w1.alloc (.cells #[.bool g2,.slice A2 m2 c2,.slice D2 md2 cd2] 35)) g2 (.slice A2 m2 c2) (.slice D2 md2 cd2) (dot p.coef x)from(i).alloc _)
 have s:=hid (show Below w.heap.size w (w1.alloc (.cells #[.bool g2,.slice A2 m2 c2,.slice D2 md2 cd2] 35))from((j.out.trans ((a).mono j.out.size))).alloc ((j.out.trans ((a).mono j.out.size))).size _);have V:=hid (show(w1.alloc (.cells #[.bool g2,.slice A2 m2 c2,.slice D2 md2 cd2] 35)).heap[w1.heap.size]? = some (.cells #[.bool g2,.slice A2 m2 c2,.slice D2 md2 cd2] 35 (0,0))from zam (by simp));obtain⟨_,_,_,_,ab,_,ah,_,ai,_⟩:=bc5 P.out;obtain⟨ad,_,ae,_,ag,_⟩:=bc3 V.out;clear i a;go_wp2_with fail
 with_reducible refine(Rt.sub g2 A2 m2 c2 D2 md2 cd2 (dot p.coef x) g A m c D d b p.rhs _ E.out Y.out I.out).mono ?_
 rintro e L ⟨g3,A3,m3,c3,D3,md3,cd3,rfl,i,a⟩;have t:=hid (zad a M.out);have F:=hid (show RatS L g3 (.slice A3 m3 c3) (.slice D3 md3 cd3) (zdp p x)from i);have S:=hid (s.out.trans ((a).mono s.out.size));obtain⟨R,O,aa,_,T,N,ac,_,U,Q,af,_⟩:=bf3 t.out;clear i a;go_wp2;refine bodyPost_ret (v:=.tuple #[.agg #[.bool g3,.slice A3 m3 c3,.slice D3 md3 cd3],.bool true]) (by simp[results,Tryz.results134,go_sem,R,O,T,N,U,Q]) rfl ?_
 exact⟨_,_,_,_,_,_,_,rfl,F.out.set3 t.out (by decide) _ _ _,bsc (bsc (bsc S.out))⟩
theorem holds(C:OA)(nc cc:Nat)(g:Bool)(A:OA)(m c:Nat)(D:OA)(i d:Nat)(kd:Int)(p:PRow)(hk:p.kind=kd)(X:OA)(t o:Nat)(x:List Rat)(w:World)(hc:VecS w 0 (.slice C nc cc) p.coef)(hr:RatS w g (.slice A m c) (.slice D i d) p.rhs)(z:VecS w 0 (.slice X t o) x)(y:p.coef.length=x.length)(a:nc≤1000)(zc:Sm p.coef)(zr:mw p.rhs≤4000000)(E:Sm x) :
  Calls Tryz.prog 77 #[.agg #[.slice C nc cc,.int .i64 kd,.bool g,.slice A m c,.slice D i d],.slice X t o] w fun e w'=>e=.returned (.bool (zdH p x))∧Below w.heap.size w w':=by
 have s:=hc.len;have H:=hid y;have F:=hid a;have K:=hid zc;have L:=hid zr;have M:=hid E;have b:=hid hk;clear hk s y a zc zr E;obtain⟨W,k⟩:∃W,(w.alloc (.cells #[.slice C nc cc,.int .i64 kd,.bool g,.slice A m c,.slice D i d] 74))=W:=⟨_,rfl⟩
 have v:=hid (show W.heap[w.heap.size]? = some (.cells #[.slice C nc cc,.int .i64 kd,.bool g,.slice A m c,.slice D i d] 74 (0,0))by rw[←k];exact zam (by simp));have n:=hid (show Below w.heap.size w W by rw[←k];exact zae w _);have G:=hid (show VecS W 0 (.slice C nc cc) p.coef by rw[←k];exact(hc).alloc _);have J:=hid (show VecS W 0 (.slice X t o) x by rw[←k];exact(z).alloc _);have I:=hid (show RatS W g (.slice A m c) (.slice D i d) p.rhs by rw[←k];exact(hr).alloc _)
 obtain⟨T,_,U,_,Y,_,ab,_,ac,_⟩:=bc5 v.out;clear hc hr z;go_enter Tryz.func77,Tryz.ntmps77;go_wp2_with fail
 clear k;with_reducible refine(over C nc cc g A m c D i d kd p b.out X t o x _ G.out I.out J.out H.out F.out K.out L.out M.out).mono ?_
 rintro e w1 ⟨g2,A2,m2,c2,D2,md2,cd2,rfl,s,a⟩;have R:=hid (show(w1.alloc (.cells #[.bool g2,.slice A2 m2 c2,.slice D2 md2 cd2] 35)).heap[w.heap.size]? = some (.cells #[.slice C nc cc,.int .i64 kd,.bool g,.slice A m c,.slice D i d] 74 (0,0))from zak (zad a v.out));have u:=hid (show RatS (w1.alloc (.cells #[.bool g2,.slice A2 m2 c2,.slice D2 md2 cd2] 35)) g2 (.slice A2 m2 c2) (.slice D2 md2 cd2) (zdp p x)from(s).alloc _)
 have j:=hid (show Below w.heap.size w (w1.alloc (.cells #[.bool g2,.slice A2 m2 c2,.slice D2 md2 cd2] 35))from((n.out.trans ((a).mono n.out.size))).alloc ((n.out.trans ((a).mono n.out.size))).size _);have Q:=hid (show(w1.alloc (.cells #[.bool g2,.slice A2 m2 c2,.slice D2 md2 cd2] 35)).heap[w1.heap.size]? = some (.cells #[.bool g2,.slice A2 m2 c2,.slice D2 md2 cd2] 35 (0,0))from zam (by simp));obtain⟨_,_,S,_⟩:=bc5 R.out;obtain⟨Z,_,aa,_,V,_⟩:=bc3 Q.out;clear s a;by_cases h1:kd=1
 ·have N:(kd == 1)=true:=by simp[h1]
  go_wp2_with fail
  with_reducible refine(Rt.sign g2 A2 m2 c2 D2 md2 cd2 (zdp p x) _ u.out).mono ?_
  rintro e B ⟨rfl,a⟩;have l:=hid (j.out.trans ((a).mono j.out.size));clear a;go_wp2;go_ret
  have f:=zxh (p:=p) (x:=x) (b.out.trans h1);exact⟨by rw[←f];rfl,l.out⟩
 ·have N:(kd == 1)=false:=by simp[h1]
  by_cases q:kd=2
  ·have O:(kd == 2)=true:=by simp[q]
   go_wp2_with fail
   with_reducible refine(Rt.sign g2 A2 m2 c2 D2 md2 cd2 (zdp p x) _ u.out).mono ?_
   rintro e B ⟨rfl,a⟩;have l:=hid (j.out.trans ((a).mono j.out.size));clear a;go_wp2;go_ret
   have f:=zxg (p:=p) (x:=x) (b.out.trans q);exact⟨by rw[←f];rfl,l.out⟩
  ·have O:(kd == 2)=false:=by simp[q]
   by_cases r:kd=3
   ·have P:(kd == 3)=true:=by simp[r]
    go_wp2_with fail
    with_reducible refine(Rt.zero g2 A2 m2 c2 D2 md2 cd2 (zdp p x) _ u.out).mono ?_
    rintro e B ⟨rfl,a⟩;have l:=hid (j.out.trans ((a).mono j.out.size));clear a;go_wp2;go_ret
    have f:=zxf (p:=p) (x:=x) (b.out.trans r);exact⟨by rw[←f];rfl,l.out⟩
   ·have P:(kd == 3)=false:=by simp[r]
    go_wp2;go_ret
    have f:=zxi (p:=p) (x:=x) (by rw[b.out];exact h1) (by rw[b.out];exact q) (by rw[b.out];exact r);exact⟨by rw[←f];rfl,j.out⟩
theorem zPu(C:OA)(nc cc:Nat)(R:OA)(nr c:Nat)(cost:List Rat)(rows:List PRow)(X:OA)(f d:Nat)(x:List Rat)(w:World)(hc:VecS w 0 (.slice C nc cc) cost)(hr:RowsS w 0 (.slice R nr c) rows)(l:VecS w 0 (.slice X f d) x)(k:cost.length=x.length)(a:nc≤1000)(zc:Sm cost)(n:Sm x) :
  Calls Tryz.prog 29 #[.agg #[.slice C nc cc,.slice R nr c],.slice X f d] w (zii w (dot cost x) true):=by
 have r:=hid k;have o:=hid a;have u:=hid zc;have y:=hid n;clear k a zc n;obtain⟨W,b⟩:∃W,((w.alloc (.cells #[.slice C nc cc,.slice R nr c] 47)).alloc (.cells #[.bool false,.slice none 0 0,.slice none 0 0] 35))=W:=⟨_,rfl⟩
 have i:=hid (show W.heap[w.heap.size]? = some (.cells #[.slice C nc cc,.slice R nr c] 47 (0,0))by rw[←b];exact zak (zam (by simp)));have j:=hid (show W.heap[w.heap.size+1]? = some (.cells #[.bool false,.slice none 0 0,.slice none 0 0] 35 (0,0))by rw[←b];exact zam (by simp));have g:=hid (show Below w.heap.size w W by rw[←b];exact(zae w _).alloc (by simp) _);have q:=hid (show VecS W 0 (.slice C nc cc) cost by rw[←b];exact((hc).alloc _).alloc _)
 have t:=hid (show VecS W 0 (.slice X f d) x by rw[←b];exact((l).alloc _).alloc _);obtain⟨L,P,M,I⟩:=bc2 i.out;obtain⟨Z,Y,ah,T,U,aa,ab,Q,ac,af,ak,aj⟩:=bf3 j.out;clear hc hr l;go_enter Tryz.func29,Tryz.ntmps29;go_wp2_with fail
 clear b;with_reducible refine(Vc.dot_ok C nc cc cost X f d x 0 0 _ q.out t.out r.out o.out u.out y.out).mono ?_
 rintro e w1 ⟨g2,A2,m2,c2,D2,md2,cd2,rfl,hn,a⟩;have D:=hid (zad a i.out);have m:=hid (zad a j.out);have s:=hid (show RatS w1 g2 (.slice A2 m2 c2) (.slice D2 md2 cd2) (dot cost x)from hn);have A:=hid (g.out.trans ((a).mono g.out.size));obtain⟨J,N,K,O⟩:=bc2 D.out;obtain⟨F,B,ag,S,G,z,ad,V,E,H,ai,ae⟩:=bf3 m.out;clear hn a;go_wp2;refine bodyPost_ret (v:=.tuple #[.agg #[.bool g2,.slice A2 m2 c2,.slice D2 md2 cd2],.bool true]) (by simp[results,Tryz.results29,go_sem,F,B,G,z,E,H]) rfl ?_
 exact⟨_,_,_,_,_,_,_,rfl,s.out.set3 m.out (by decide) _ _ _,bsc (bsc (bsc A.out))⟩
end Pb
def znD (cost:List Rat) (rows:List PRow) (x:List Rat):Bool:=decide (x.length=cost.length) && !(x.any fun q=>decide (q<0))&&rows.all fun p=>zdH p x
abbrev Rows (n:Nat) (rows:List PRow):Prop:=∀p∈rows,p.coef.length=n∧Sm p.coef∧mw p.rhs≤4000000
theorem zv9{rows:List PRow}{k:Nat}{p:PRow}{f:PRow→Bool}(h:(rows.take k).all f=true)(b:rows[k]? = some p)(a:f p=true):(rows.take (k+1)).all f=true:=by
 rw[List.take_add_one,List.all_append,h,b];simp[a]
theorem ztT{rows:List PRow}{k:Nat}{p:PRow}{f:PRow→Bool}(b:rows[k]? = some p)(a:f p=false):rows.all f=false:=by
 rw[List.all_eq_false];exact⟨p,List.mem_of_getElem? b,by simp[a]⟩
theorem zw4{cost x:List Rat}{rows:List PRow}(h:x.length≠cost.length):znD cost rows x=false:=by unfold znD;rw[decide_eq_false h];rfl
theorem zw5{cost x:List Rat}{rows:List PRow}(h:(x.any fun q=>decide (q<0))=true):znD cost rows x=false:=by unfold znD;rw[h];simp
theorem zoE{cost x:List Rat}{rows:List PRow}(a:x.length=cost.length)(h:(x.any fun q=>decide (q<0))=false):znD cost rows x=rows.all fun p=>zdH p x:=by unfold znD;rw[h,decide_eq_true a];simp
namespace Pb
theorem zAF(C:OA)(nc cc:Nat)(R:OA)(nr a:Nat)(cost:List Rat)(rows:List PRow)(X:OA)(b f:Nat)(x:List Rat)(w:World)(hc:VecS w 0 (.slice C nc cc) cost)(hr:RowsS w 0 (.slice R nr a) rows)(d:VecS w 0 (.slice X b f) x)(g:x.length≠cost.length) :
  Calls Tryz.prog 30 #[.agg #[.slice C nc cc,.slice R nr a],.slice X b f] w fun e w'=>e=.returned (.bool (znD cost rows x))∧Below w.heap.size w w':=by
 have h1:¬((b:Int)=(nc:Int)):=by rw[d.len,hc.len];omega
 have l:¬(b=nc):=by rw[d.len,hc.len];omega
 have j:=hid (zw4 (rows:=rows) g);obtain⟨W,c⟩:∃W,(w.alloc (.cells #[.slice C nc cc,.slice R nr a] 47))=W:=⟨_,rfl⟩
 have k:=hid (show W.heap[w.heap.size]? = some (.cells #[.slice C nc cc,.slice R nr a] 47 (0,0))by rw[←c];exact zam (by simp));have i:=hid (show Below w.heap.size w W by rw[←c];exact zae w _);obtain⟨m,_⟩:=bc2 k.out;clear hc hr d g;go_enter Tryz.func30,Tryz.ntmps30;go_wp2;clear c;go_ret
 exact⟨by rw[j.out];rfl,i.out⟩
theorem fits(C:OA)(nc cc:Nat)(R:OA)(nr l:Nat)(cost:List Rat)(rows:List PRow)(X:OA)(z n:Nat)(x:List Rat)(w:World)(hc:VecS w 0 (.slice C nc cc) cost)(hr:RowsS w 0 (.slice R nr l) rows)(y:VecS w 0 (.slice X z n) x)(a:nc≤1000)(Y:Rows nc rows)(zx:Sm x)(aH:nr≤1000) :
  Calls Tryz.prog 30 #[.agg #[.slice C nc cc,.slice R nr l],.slice X z n] w fun e w'=>e=.returned (.bool (znD cost rows x))∧Below w.heap.size w w':=by
 by_cases s:x.length≠cost.length
 ·exact zAF C nc cc R nr l cost rows X z n x w hc hr y s
 have s:=Decidable.not_not.1 s;have T:=y.len;have aq:=hc.len;have U:=hr.len;have en:nc=z:=by omega
 subst en;have L:=hid s;have M:=hid U;have ah:=hid T;have HB:=hid a;have al:=hid Y;have ZX:=hid zx;clear s a Y zx T aq U;obtain⟨W,o⟩:∃W,(w.alloc (.cells #[.slice C nc cc,.slice R nr l] 47))=W:=⟨_,rfl⟩
 have S:=hid (show W.heap[w.heap.size]? = some (.cells #[.slice C nc cc,.slice R nr l] 47 (0,0))by rw[←o];exact zam (by simp));have K:=hid (show Below w.heap.size w W by rw[←o];exact zae w _);have HC:=hid (show VecS W 0 (.slice C nc cc) cost by rw[←o];exact(hc).alloc _);have P:=hid (show VecS W 0 (.slice X nc n) x by rw[←o];exact(y).alloc _);have HR:=hid (show RowsS W 0 (.slice R nr l) rows by rw[←o];exact(hr).alloc _);obtain⟨aM,_,aN,aK⟩:=bc2 S.out;clear hc hr y;go_enter Tryz.func30,Tryz.ntmps30
 go_wp2_with fail
 clear o;with_reducible refine(Vc.below X nc n x 0 _ P.out).mono ?_
 rintro e w1 ⟨rfl,a⟩;have ay:=hid (zad a S.out);have ac:=hid (HC.out.below a);have aa:=hid (P.out.below a);have E:=hid (HR.out.below a);have t:=hid (K.out.trans ((a).mono K.out.size));obtain⟨_,_,aL,aO⟩:=bc2 ay.out;clear a;cases hneg:(x.any fun q=>decide (q<0))
 ·skip
  go_wp2
  go_loopw [20] (fun i wr=>∃k:Nat,i=.int .i64 k∧k≤nr∧Below w1.heap.size w1 wr∧(rows.take k).all (fun p=>zdH p x)=true)
   (fun i _=>nr-(intOf i).toNat)
  case atStart=>exact⟨0,rfl,Nat.zero_le _,Below.refl _ _,rfl⟩
  case round =>
   obtain⟨k,rfl,hk,d,H⟩:=hrel;have O:=hid H;by_cases ap:k<nr
   ·obtain⟨p,v⟩:∃p,rows[k]? = some p:=⟨rows[k]'(by rw[←M.out];exact ap),List.getElem?_eq_getElem _⟩
    obtain⟨b,rfl,aD,aE⟩:=(E.out).has (by omega);obtain⟨Q,nq,G,g,A,m,c,D,J,F,k0,k1,k2,k3,k4,I,V⟩:=(E.out.below d).at_ v;have N:=hid v;have u:=hid (al.out p (List.mem_of_getElem? v));obtain rfl:nc=nq:=by rw[I.len,u.out.1]
    generalize hkd:p.kind=kd at k1;have ag:=hid hkd;have au:=hid (ac.out.below d);have ad:=hid (aa.out.below d);have aC:=hid (E.out.below d);have HQ:=hid (show VecS wr 0 (.slice Q nc G) p.coef from I);have ak:=hid (show RatS wr g (.slice A m c) (.slice D J F) p.rhs from V);have HW:=hid (show Bel w1 wr from Bel.mk d);have B:=hid (t.out.trans ((d).mono t.out.size));clear d H v I V hkd;have aF:(0:Int)≤(k:Int):=Int.natCast_nonneg _;have aG:(k:Int)<(nr:Int):=by omega
    go_wp2_with fail
    have r:=zae wr (.cells #[.slice Q nc G,.int .i64 kd,.bool g,.slice A m c,.slice D J F] 74);have aw:=hid (ad.out.below r);have ax:=hid (HQ.out.below r);have av:=hid (ak.out.below r);have aB:=hid (HW.out.below r);have Z:=hid (B.out.trans ((r).mono B.out.size));with_reducible refine(holds Q nc G g A m c D J F kd p ag.out X nc n x _ ax.out av.out aw.out (u.out.1.trans ah.out) HB.out u.out.2.1 u.out.2.2 ZX.out).mono ?_
    rintro e v1 ⟨rfl,a⟩;have aA:=hid (aB.out.below a);have az:=hid (Z.out.trans ((a).mono Z.out.size));clear a;cases hh:zdH p x
    ·have j:=hid ((zoE L.out hneg).trans (ztT (f:=fun p=>zdH p x) N.out hh));go_wp2;go_ret
     exact⟨by rw[j.out];rfl,az.out⟩
    ·have j:=hid (zv9 (f:=fun p=>zdH p x) O.out N.out hh);go_wp2;go_roundw
     case rel=>exact⟨k+1,by go_num,by omega,aA.out.b,j.out⟩
     case measure=>simp[intOf];omega
   ·have ao:k=nr:=by omega
    have j:=hid (show znD cost rows x=true by rw[zoE L.out hneg];have h:=O.out;rw[ao,M.out,List.take_length]at h;exact h);have au:=hid (ac.out.below d);have ad:=hid (aa.out.below d);have aC:=hid (E.out.below d);have B:=hid (t.out.trans ((d).mono t.out.size));clear d H;go_wp2;go_ret
    exact⟨by rw[j.out];rfl,B.out⟩
 ·have j:=hid (zw5 (cost:=cost) (rows:=rows) hneg);go_wp2;go_ret
  exact⟨by rw[j.out];rfl,t.out⟩
end Pb
abbrev Kinds (rows:List PRow):Prop:=∀p∈rows,1≤p.kind∧p.kind≤3
namespace Pb
theorem may(C:OA)(nc cc:Nat)(R:OA)(nr d:Nat)(cost:List Rat)(rows:List PRow)(w:World)(hc:VecS w 0 (.slice C nc cc) cost)(hr:RowsS w 0 (.slice R nr d) rows)(P:nc≤24)(ac:nr≤20)(z:Rows nc rows)(x:Kinds rows) :
  Calls Tryz.prog 84 #[.agg #[.slice C nc cc,.slice R nr d]] w fun e w'=>e=.returned .nilIface∧Below w.heap.size w w':=by
 have y:=hr.len;have G:=hid y;have H:=hid z;have u:=hid x;have J:(nc:Int)≤24:=by omega
 have T:¬(24:Int)<(nc:Int):=by omega
 have ad:¬(20:Int)<(nr:Int):=by omega
 clear z x y;obtain⟨W,f⟩:∃W,(w.alloc (.cells #[.slice C nc cc,.slice R nr d] 47))=W:=⟨_,rfl⟩
 have q:=hid (show W.heap[w.heap.size]? = some (.cells #[.slice C nc cc,.slice R nr d] 47 (0,0))by rw[←f];exact zam (by simp));have l:=hid (show Below w.heap.size w W by rw[←f];exact zae w _);have t:=hid (show VecS W 0 (.slice C nc cc) cost by rw[←f];exact(hc).alloc _);have n:=hid (show RowsS W 0 (.slice R nr d) rows by rw[←f];exact(hr).alloc _);obtain⟨ai,_,aj,ah⟩:=bc2 q.out;clear hc hr;go_enter Tryz.func84,Tryz.ntmps84;go_wp2;clear f
 go_loopw [19] (fun i wr=>∃k:Nat,i=.int .i64 k∧k≤nr∧Below W.heap.size W wr)
  (fun i _=>nr-(intOf i).toNat)
 case atStart=>exact⟨0,rfl,Nat.zero_le _,Below.refl _ _⟩
 case round =>
  obtain⟨k,rfl,hk,a⟩:=hrel;by_cases K:k<nr
  ·obtain⟨p,j⟩:∃p,rows[k]? = some p:=⟨rows[k]'(by rw[←G.out];exact K),List.getElem?_eq_getElem _⟩
   obtain⟨b,rfl,S,J⟩:=n.out.has (by omega);obtain⟨Q,nq,o,g,A,m,c,D,s,r,k0,k1,k2,k3,k4,B,_⟩:=(n.out.below a).at_ j;obtain rfl:nc=nq:=by rw[B.len,(H.out p (List.mem_of_getElem? j)).1]
   have X:=(u.out p (List.mem_of_getElem? j)).1;have Y:=(u.out p (List.mem_of_getElem? j)).2;have Z:¬p.kind<1:=by omega
   have aa:¬3<p.kind:=by omega
   have F:=hid (zad a q.out);have O:=hid (t.out.below a);have M:=hid (n.out.below a);have I:=hid (show Bel W wr from Bel.mk a);have E:=hid (l.out.trans ((a).mono l.out.size));clear a j B;have U:(0:Int)≤(k:Int):=Int.natCast_nonneg _;have V:(k:Int)<(nr:Int):=by omega
   have v:=zae wr (.cells #[.slice Q nc o,.int .i64 p.kind,.bool g,.slice A m c,.slice D s r] 74);have L:=hid (zad v F.out);have N:=hid (I.out.below v);obtain⟨ak,_⟩:=bc2 L.out;have al:(wr.alloc (.cells #[.slice Q nc o,.int .i64 p.kind,.bool g,.slice A m c,.slice D s r] 74)).cell? ⟨wr.heap.size,0,none⟩=some (.slice Q nc o):=zax rfl rfl;have am:(wr.alloc (.cells #[.slice Q nc o,.int .i64 p.kind,.bool g,.slice A m c,.slice D s r] 74)).cell? ⟨wr.heap.size,1,none⟩=some (.int .i64 p.kind):=zax rfl rfl
   go_wp2;go_roundw
   case rel=>exact⟨k+1,by go_num,by omega,N.out.b⟩
   case measure=>simp[intOf];omega
  ·have ab:k=nr:=by omega
   have F:=hid (zad a q.out);have O:=hid (t.out.below a);have M:=hid (n.out.below a);have E:=hid (l.out.trans ((a).mono l.out.size));clear a;go_wp2;go_ret
   exact⟨rfl,E.out⟩
end Pb
def zIc (p:PRow) (q:Rat):Bool := !(decide (p.kind=1)&&decide (0<q)||decide (p.kind=2)&&decide (q<0))
def zxD (rows:List PRow) (ys:List Rat) (k:Nat):Bool:=(List.range k).all fun i=>zIc (rows.getD i default) (el ys i)
def zId (rows:List PRow) (ys:List Rat):Bool:=zxD rows ys rows.length
theorem zfC{rows:List PRow}{k:Nat}{p:PRow}(h:rows[k]? = some p):rows.getD k default=p:=by rw[List.getD_eq_getElem?_getD,h];rfl
theorem ydX{rows:List PRow}{ys:List Rat}{k:Nat}{p:PRow}{q:Rat}(h:zxD rows ys k=true)(a:rows[k]? = some p)(b:ys[k]? = some q)(c:zIc p q=true):zxD rows ys (k+1)=true:=by
 unfold zxD at *
 rw[List.range_succ,List.all_append,h,List.all_cons,zfC a,znd b,c];rfl
theorem yeb{rows:List PRow}{ys:List Rat}{k:Nat}{p:PRow}{q:Rat}(a:rows[k]? = some p)(b:ys[k]? = some q)(c:zIc p q=false):zId rows ys=false:=by
 unfold zId zxD;rw[List.all_eq_false];exact⟨k,List.mem_range.2 (List.getElem?_eq_some_iff.1 a).1,by rw[zfC a,znd b,c];decide⟩
theorem zPs(q:Rat):0<q.num↔0<q:=by
 have h:=zsp q;constructor
 ·intro h1;exact Rat.not_le.1 fun a=>by have:=h.2 a;omega
 ·intro h1;exact Int.not_le.1 fun a=>Rat.not_lt.2 (h.1 a) h1
theorem zPt(q:Rat):0<q.num.sign↔0<q:=by
 rw[←zPs];rcases Int.lt_trichotomy q.num 0 with h | h | h
 ·rw[Int.sign_eq_neg_one_of_neg h];constructor<;>intro h1<;>omega
 ·rw[h];decide
 ·rw[Int.sign_eq_one_of_pos h];constructor<;>intro h1<;>omega
theorem zQE(q:Rat):q.num.sign<0↔q<0:=by
 rw[←zvc];rcases Int.lt_trichotomy q.num 0 with h | h | h
 ·rw[Int.sign_eq_neg_one_of_neg h];constructor<;>intro h1<;>omega
 ·rw[h];decide
 ·rw[Int.sign_eq_one_of_pos h];constructor<;>intro h1<;>omega
theorem yd3{p:PRow}{q:Rat}(h:p.kind=1):zIc p q = !(decide (0<q)):=by unfold zIc;rw[decide_eq_true h,decide_eq_false (show ¬p.kind=2 by omega)];simp
theorem yd4{p:PRow}{q:Rat}(h:p.kind=2):zIc p q = !(decide (q<0)):=by unfold zIc;rw[decide_eq_true h,decide_eq_false (show ¬p.kind=1 by omega)];simp
theorem yeh{p:PRow}{q:Rat}(h:p.kind≠1)(a:p.kind≠2):zIc p q=true:=by unfold zIc;rw[decide_eq_false h,decide_eq_false a];simp
namespace Ct
theorem signed(C:OA)(nc cc:Nat)(R:OA)(nr J:Nat)(cost:List Rat)(rows:List PRow)(Y:OA)(ny cy:Nat)(y:List Rat)(w:World)(hc:VecS w 0 (.slice C nc cc) cost)(hr:RowsS w 0 (.slice R nr J) rows)(hy:VecS w 0 (.slice Y ny cy) y)(hl:y.length=rows.length)(aX:nr≤1000) :
  Calls Tryz.prog 137 #[.agg #[.slice C nc cc,.slice R nr J],.slice Y ny cy] w fun e w'=>e=.returned (.bool (zId rows y))∧Below w.heap.size w w':=by
 have aW:=hy.len;have aJ:=hr.len;have en:nr=ny:=by omega
 subst en;have HL:=hid hl;have HN:=hid aJ;have bh:=hid aX;clear hl aW aJ;obtain⟨W,z⟩:∃W,(w.alloc (.cells #[.slice C nc cc,.slice R nr J] 47))=W:=⟨_,rfl⟩
 have am:=hid (show W.heap[w.heap.size]? = some (.cells #[.slice C nc cc,.slice R nr J] 47 (0,0))by rw[←z];exact zam (by simp));have M:=hid (show Below w.heap.size w W by rw[←z];exact zae w _);have HC:=hid (show VecS W 0 (.slice C nc cc) cost by rw[←z];exact(hc).alloc _);have S:=hid (show VecS W 0 (.slice Y nr cy) y by rw[←z];exact(hy).alloc _);have O:=hid (show RowsS W 0 (.slice R nr J) rows by rw[←z];exact(hr).alloc _);obtain⟨bw,bz,bx,bv⟩:=bc2 am.out;clear hc hr hy
 go_enter Tryz.func137,Tryz.ntmps137;go_wp2;clear z
 go_loopw [16] (fun i wr=>∃k:Nat,i=.int .i64 k∧k≤nr∧Below W.heap.size W wr∧zxD rows y k=true)
  (fun i _=>nr-(intOf i).toNat)
 case atStart=>exact⟨0,rfl,Nat.zero_le _,Below.refl _ _,rfl⟩
 case round =>
  obtain⟨k,rfl,hk,d,hT⟩:=hrel;have P:=hid hT;by_cases aI:k<nr
  ·obtain⟨p,hp⟩:∃p,rows[k]? = some p:=⟨rows[k]'(by rw[←HN.out];exact aI),List.getElem?_eq_getElem _⟩
   obtain⟨q,hq⟩:∃q,y[k]? = some q:=⟨y[k]'(by rw[HL.out,←HN.out];exact aI),List.getElem?_eq_getElem _⟩
   obtain⟨b,rfl,bi,bj⟩:=O.out.has (by omega);obtain⟨by_,rfl,bk,bl⟩:=S.out.has (by omega);obtain⟨Q,nq,x,g,A,m,c,D,B,v,k0,k1,k2,k3,k4,aZ,aY⟩:=(O.out.below d).at_ hp;obtain⟨V,L,X,T,N,Z,U,l0,l1,l2,aG⟩:=(S.out.below d).at_ hq;have H:=hid hp;have I:=hid hq;generalize hkd:p.kind=kd at k1;have u:=hid hkd;have E:=hid (zad d am.out);have ai:=hid (HC.out.below d);have ah:=hid (S.out.below d);have af:=hid (O.out.below d);have ak:=hid (show RatS wr V (.slice L X T) (.slice N Z U) q from aG)
   have HW:=hid (show Bel W wr from Bel.mk d);have l:=hid (M.out.trans ((d).mono M.out.size));obtain⟨a8,ba,a9,bb⟩:=bc2 E.out;have ac:wr.cell? ⟨by_,k*3,none⟩=some (.bool V):=l0;have bs:=zaa ac;have ad:wr.cell? ⟨by_,k*3+1,none⟩=some (.slice L X T):=l1;have bt:=zaa ad;have ae:wr.cell? ⟨by_,k*3+2,none⟩=some (.slice N Z U):=l2;have bu:=zaa ae;clear d hT hp hq aY aZ hkd aG l0 l1 l2;have bm:(0:Int)≤(k:Int):=Int.natCast_nonneg _;have bn:(k:Int)<(nr:Int):=by omega
   by_cases h1:kd=1
   ·subst h1;have a:=zae wr (.cells #[.slice Q nq x,.int .i64 1,.bool g,.slice A m c,.slice D B v] 74);have n:=hid (zad a E.out);have ab:=hid (ai.out.below a);have aa:=hid (ah.out.below a);have ag:=hid (af.out.below a);have G:=hid (ak.out.below a);have K:=hid (HW.out.below a);have F:=hid (l.out.trans ((a).mono l.out.size));obtain⟨aS,aQ,aT,aR⟩:=bc2 n.out;have o:=zab a ac;have aM:=zaa o;have r:=zab a ad;have aN:=zaa r;have s:=zab a ae;have aO:=zaa s
    have t:(wr.alloc (.cells #[.slice Q nq x,.int .i64 1,.bool g,.slice A m c,.slice D B v] 74)).cell? ⟨wr.heap.size,1,none⟩=some (.int .i64 1):=zax rfl rfl;have aP:=zaa t;go_wp2_with fail
    with_reducible refine(Rt.sign V L X T N Z U q _ G.out).mono ?_
    rintro e v1 ⟨rfl,hb⟩;have ay:=hid (zad hb n.out);have a7:=hid (ab.out.below hb);have a5:=hid (aa.out.below hb);have a6:=hid (ag.out.below hb);have bg:=hid (G.out.below hb);have aE:=hid (K.out.below hb);have az:=hid (F.out.trans ((hb).mono F.out.size));obtain⟨be,bc,bf,bd⟩:=bc2 ay.out;have aA:=zab hb o;have a1:=zaa aA;have aB:=zab hb r;have a2:=zaa aB;have aD:=zab hb s;have a3:=zaa aD;have aC:=zab hb t;have a4:=zaa aC;clear hb;by_cases f:0<q
    ·have au:=(zPs q).2 f;have av:=(zPt q).2 f;have j:=hid (yeb H.out I.out (by rw[yd3 (u.out),decide_eq_true f];rfl));go_wp2;go_ret
     exact⟨by rw[j.out];rfl,az.out⟩
    ·have au:¬0<q.num:=fun h=>f ((zPs q).1 h)
     have av:¬0<q.num.sign:=fun h=>f ((zPt q).1 h)
     have j:=hid (ydX P.out H.out I.out (by rw[yd3 (u.out),decide_eq_false f];rfl));go_wp2;go_roundw
     case rel=>exact⟨k+1,by go_num,by omega,aE.out.b,j.out⟩
     case measure=>simp[intOf];omega
   ·skip
    by_cases h2:kd=2
    ·subst h2;have a:=zae wr (.cells #[.slice Q nq x,.int .i64 2,.bool g,.slice A m c,.slice D B v] 74);have n:=hid (zad a E.out);have ab:=hid (ai.out.below a);have aa:=hid (ah.out.below a);have ag:=hid (af.out.below a);have G:=hid (ak.out.below a);have K:=hid (HW.out.below a);have F:=hid (l.out.trans ((a).mono l.out.size));obtain⟨aS,aQ,aT,aR⟩:=bc2 n.out;have o:=zab a ac;have aM:=zaa o;have r:=zab a ad;have aN:=zaa r;have s:=zab a ae;have aO:=zaa s
     have t:(wr.alloc (.cells #[.slice Q nq x,.int .i64 2,.bool g,.slice A m c,.slice D B v] 74)).cell? ⟨wr.heap.size,1,none⟩=some (.int .i64 2):=zax rfl rfl;have aP:=zaa t;go_wp2_with fail
     with_reducible refine(Rt.sign V L X T N Z U q _ G.out).mono ?_
     rintro e v1 ⟨rfl,hb⟩;have ay:=hid (zad hb n.out);have a7:=hid (ab.out.below hb);have a5:=hid (aa.out.below hb);have a6:=hid (ag.out.below hb);have bg:=hid (G.out.below hb);have aE:=hid (K.out.below hb);have az:=hid (F.out.trans ((hb).mono F.out.size));obtain⟨be,bc,bf,bd⟩:=bc2 ay.out;have aA:=zab hb o;have a1:=zaa aA;have aB:=zab hb r;have a2:=zaa aB;have aD:=zab hb s;have a3:=zaa aD;have aC:=zab hb t;have a4:=zaa aC;clear hb;by_cases f:q<0
     ·have au:=(zvc q).2 f;have av:=(zQE q).2 f;have j:=hid (yeb H.out I.out (by rw[yd4 (u.out),decide_eq_true f];rfl));go_wp2;go_ret
      exact⟨by rw[j.out];rfl,az.out⟩
     ·have au:¬q.num<0:=fun h=>f ((zvc q).1 h)
      have av:¬q.num.sign<0:=fun h=>f ((zQE q).1 h)
      have j:=hid (ydX P.out H.out I.out (by rw[yd4 (u.out),decide_eq_false f];rfl));go_wp2;go_roundw
      case rel=>exact⟨k+1,by go_num,by omega,aE.out.b,j.out⟩
      case measure=>simp[intOf];omega
    ·have bp:(kd == 2)=false:=by simp[h2]
     have bo:(kd == 1)=false:=by simp[h1]
     have a:=zae wr (.cells #[.slice Q nq x,.int .i64 kd,.bool g,.slice A m c,.slice D B v] 74);have n:=hid (zad a E.out);have ab:=hid (ai.out.below a);have aa:=hid (ah.out.below a);have ag:=hid (af.out.below a);have G:=hid (ak.out.below a);have K:=hid (HW.out.below a);have F:=hid (l.out.trans ((a).mono l.out.size));obtain⟨aS,aQ,aT,aR⟩:=bc2 n.out;have o:=zab a ac;have aM:=zaa o;have r:=zab a ad;have aN:=zaa r;have s:=zab a ae;have aO:=zaa s
     have t:(wr.alloc (.cells #[.slice Q nq x,.int .i64 kd,.bool g,.slice A m c,.slice D B v] 74)).cell? ⟨wr.heap.size,1,none⟩=some (.int .i64 kd):=zax rfl rfl;have aP:=zaa t;have j:=hid (ydX P.out H.out I.out (yeh (by rw[u.out];exact h1) (by rw[u.out];exact h2)));go_wp2;go_roundw
     case rel=>exact⟨k+1,by go_num,by omega,K.out.b,j.out⟩
     case measure=>simp[intOf];omega
  ·have aV:k=nr:=by omega
   have j:=hid (show zId rows y=true by have h:=P.out;rw[aV,HN.out]at h;exact h);have E:=hid (zad d am.out);have ai:=hid (HC.out.below d);have ah:=hid (S.out.below d);have af:=hid (O.out.below d);have l:=hid (M.out.trans ((d).mono M.out.size));obtain⟨a8,ba,a9,bb⟩:=bc2 E.out;clear d hT;go_wp2;go_ret
   exact⟨by rw[j.out];rfl,l.out⟩
