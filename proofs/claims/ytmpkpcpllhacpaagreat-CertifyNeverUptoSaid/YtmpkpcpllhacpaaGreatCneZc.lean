/- Contracts and lemmas: Cne. Conditions: as each says. -/
import Derived.Test.YtmpkpcpllhacpaaGreatC20Zc
import Derived.Test.YtmpkpcpllhacpaaGreatCert7Zc
import Derived.Test.YtmpkpcpllhacpaaGreatLaw5Zc
set_option linter.all false
set_option maxHeartbeats 2000000
set_option maxRecDepth 100000
namespace Go.Proofs.YtmpkpcpllhacpaaGreat
open Go.RowKit Am
open Lib (hid)
open Pr (z6X)
attribute [local go_sem ↓] Go.wp_at_zero Go.wp_at_succ
namespace Lw
theorem never20(A:OA)(nA cA:Nat)(L:OA)(nL cL:Nat)(cs:List (Int × Int))(ls:List LineV)(XX:OA)(nx cx:Nat)(xs:List (Int × Int))(YY:OA)(ny cy:Nat)(ys:List (Int × Int))(ZZ:OA)(nz cz:Nat)(zs:List (Int × Int))(w:World)(hf:zcs w A cs)(bx:zex w L ls)(hx:zcs w XX xs)(hy:zcs w YY ys)(hz:zcs w ZZ zs)(bz:nx=xs.length)(bs:nx≤1048576)(bA:ny=ys.length)(bt:ny≤1048576)(bB:nz=zs.length)(bu:nz≤1048576)(hn:nA=cs.length)(hm:nL=ls.length)(d:nA≤cA)(br:nL≤cL)(hc:cA≤9223372036854775807)(bv:cL≤9223372036854775807)  :
  Calls Tryz.prog 5 #[.agg #[.slice A nA cA,.slice L nL cL],.slice XX nx cx,.slice YY ny cy,.slice ZZ nz cz] w fun e w'=>e=.returned (.bool true)∧Below w.heap.size w w':=by
 have HN:=hid hn;have HM:=hid hm;have bQ:=hid d;have bR:=hid br;have bS:=hid hc;have bT:=hid bv;have b3:=hid bz;have bU:=hid bs;have ax:=hid (yfb (zyq hx));have b4:=hid bA;have bV:=hid bt;have ay:=hid (yfb (zyq hy));have b5:=hid bB;have bW:=hid bu;have aG:=hid (yfb (zyq hz));clear hn hm d br hc bv bz bs bA bt bB bu;obtain⟨W,T⟩:∃W,(w.alloc (.cells #[.slice A nA cA,.slice L nL cL] 25))=W:=⟨_,rfl⟩
 have cf:=hid (show W.heap[w.heap.size]? = some (.cells #[.slice A nA cA,.slice L nL cL] 25 (0,0))by rw[←T];exact zam (by simp));have BB:=hid (show Below w.heap.size w W by rw[←T];exact zae w _);have J:=hid (show zcs W A cs by rw[←T];exact(hf).alloc _);have HL:=hid (show zex W L ls by rw[←T];exact(bx).alloc _);have bZ:=hid (show zcs W XX xs by rw[←T];exact(hx).alloc _);have b0:=hid (show zcs W YY ys by rw[←T];exact(hy).alloc _);have b1:=hid (show zcs W ZZ zs by rw[←T];exact(hz).alloc _)
 clear hf bx hx hy hz;go_enter Tryz.func5,Tryz.ntmps5;go_wp2_with fail
 clear T;with_reducible refine(awake _).mono ?_
 rintro e w1 ⟨rfl,d⟩;have cV:=hid (zad d cf.out);have cM:=hid (J.out.below d);have cN:=hid (HL.out.below d);have co:=hid (bZ.out.below d);have cl:=hid (b0.out.below d);have cw:=hid (b1.out.below d);have bJ:=hid (BB.out.trans ((d).mono BB.out.size));obtain⟨cT,_,cU,_⟩:=bc2 cV.out;clear d;go_wp2_with fail
 with_reducible refine(zLD A nA cA L nL cL cs ls _ cM.out cN.out HN.out HM.out bQ.out bR.out bS.out bT.out).mono ?_
 rintro e w2 ⟨C,nC,cC,R,nR,cR,l,cost,rows,rfl,hv,hl,_,_,hgd,d⟩;have cp:=hid (co.out.below d);have cm:=hid (cl.out.below d);have cB:=hid (cw.out.below d);have HC:=hid (show VecS w2 0 (.slice C nC cC) cost from(hv.base (Nat.zero_le _)));have HR:=hid (show RowsS w2 0 (.slice R nR cR) rows from(hl.toS.base (Nat.zero_le _)));have bK:=hid (bJ.out.trans ((d).mono bJ.out.size));have bk:=hid hgd;have j:=hid (show cost.length=nC from hv.len.symm);have aY:=hid (z6W hgd hv.len.symm hl.toS.len.symm)
 have b9:=hid (fun(w:World) (h1:VecS w 0 (.slice C nC cC) cost) (h2:RowsS w 0 (.slice R nR cR) rows)=>z6X C nC cC R nR cR cost rows w h1 h2 hgd);generalize oO (sol nC nR cost rows)=so,oX nC nR rows (sol nC nR cost rows)=sx,oY nC nR cost rows (sol nC nR cost rows)=sy,oZ nC nR rows (sol nC nR cost rows)=sz,(sol nC nR cost rows).pivots=sn at *
 clear hv hl hgd d;go_wp2_with fail
 with_reducible refine(make XX nx cx xs _ b3.out cp.out bU.out).mono ?_
 rintro e w3 ⟨V0,m0,k0,rfl,hv,d⟩;have cn:=hid (cm.out.below d);have cE:=hid (cB.out.below d);have cI:=hid (HC.out.below d);have cG:=hid (HR.out.below d);have cc:=hid (show VecS w3 0 (.slice V0 m0 k0) (frs xs)from(hv.base (Nat.zero_le _)));have bL:=hid (bK.out.trans ((d).mono bK.out.size));clear hv d;go_wp2_with fail
 with_reducible refine(make YY ny cy ys _ b4.out cn.out bV.out).mono ?_
 rintro e w4 ⟨V1,m1,k1,rfl,hv,d⟩;have cF:=hid (cE.out.below d);have cJ:=hid (cI.out.below d);have c0:=hid (cG.out.below d);have cq:=hid (cc.out.below d);have cd:=hid (show VecS w4 0 (.slice V1 m1 k1) (frs ys)from(hv.base (Nat.zero_le _)));have bM:=hid (bL.out.trans ((d).mono bL.out.size));clear hv d;go_wp2_with fail
 with_reducible refine(make ZZ nz cz zs _ b5.out cF.out bW.out).mono ?_
 rintro e w5 ⟨V2,m2,k2,rfl,hv,d⟩;have cO:=hid (cJ.out.below d);have cH:=hid (c0.out.below d);have cr:=hid (cq.out.below d);have c2:=hid (cd.out.below d);have ce:=hid (show VecS w5 0 (.slice V2 m2 k2) (frs zs)from(hv.base (Nat.zero_le _)));have bN:=hid (bM.out.trans ((d).mono bM.out.size));clear hv d;have an:=zae w5 (.cells #[.slice C nC cC,.slice R nR cR] 31);have bG:=hid (cO.out.below an);have bE:=hid (cH.out.below an);have ct:=hid (cr.out.below an);have cZ:=hid (c2.out.below an)
 have c1:=hid (ce.out.below an);have bO:=hid (bN.out.trans ((an).mono bN.out.size));have KP:=hid (zal w5 #[.slice C nC cC,.slice R nR cR] 31);obtain⟨cX,_,cY,_⟩:=bc2 KP.out;have a0:=bk.out.hr;have g:=hid bk.out.good;have ZX:=hid (show Sm sx from fun q hq=>Nat.le_trans (aY.out.sx a0 q hq) (by decide));have ZY:=hid (show Sm sy from fun q hq=>Nat.le_trans (aY.out.sy a0 q hq) (by decide));have ZZ:=hid (show Sm sz from yfg (aY.out.sz a0));clear cT cU;go_wp2_with fail
 with_reducible refine(b9.out _ bG.out bE.out).mono ?_
 rintro e w6 ⟨P,nP,cP,Q,nQ,cQ,D,nD,cD,rfl,hp,hq,hd,d⟩;have cW:=hid (zad d KP.out);have cS:=hid (bG.out.below d);have cK:=hid (bE.out.below d);have cu:=hid (ct.out.below d);have c3:=hid (cZ.out.below d);have cv:=hid (c1.out.below d);have HP:=hid (show VecS w6 0 (.slice P nP cP) sx from hp);have HQ:=hid (show VecS w6 0 (.slice Q nQ cQ) sy from hq);have HD:=hid (show VecS w6 0 (.slice D nD cD) sz from hd);have bP:=hid (bO.out.trans ((d).mono bO.out.size));clear hp hq hd d
 have p:=zae w6 (.cells #[.int .i64 so,.slice P nP cP,.slice Q nQ cQ,.slice D nD cD,.int .i64 (sn:Int)] 36);have aE:=hid (zad p cW.out);have ad:=hid (cS.out.below p);have ae:=hid (cK.out.below p);have aQ:=hid (cu.out.below p);have ab:=hid (c3.out.below p);have aR:=hid (cv.out.below p);have aT:=hid (HP.out.below p);have aP:=hid (HQ.out.below p);have aS:=hid (HD.out.below p);have bF:=hid (bP.out.trans ((p).mono bP.out.size));obtain⟨c6,_,c9,_⟩:=bc2 aE.out
 have KR:=hid (zal w6 #[.int .i64 so,.slice P nP cP,.slice Q nQ cQ,.slice D nD cD,.int .i64 (sn:Int)] 36);generalize frs xs=x,frs ys=y,frs zs=z at *
 clear cX cY;go_upto_region 7 with fail
 generalize hwa:(w6.alloc (.cells #[.int .i64 so,.slice P nP cP,.slice Q nQ cQ,.slice D nD cD,.int .i64 (sn:Int)] 36))=wa at *
 clear hwa;have bm:=hid (show ∀u,yeD nC rows u=true→∀a b c:List Rat,znD cost rows a=false∧yeG nC cost rows a b=false∧yey cost rows a c=false from fun u hu a b c=>⟨(yeF (x:=a) (z:=b) g.out.rw_ j.out g.out.kd hu).1,(yeF (x:=a) (z:=b) g.out.rw_ j.out g.out.kd hu).2.1,(yeF (x:=a) (z:=c) g.out.rw_ j.out g.out.kd hu).2.2⟩);have bl:=hid (show ∀u v,yey cost rows u v=true→∀a,yep nC cost rows a=false from fun u v hu a=>yeE g.out.rw_ j.out g.out.kd hu)
 go_cut[44] (fun s wy=>∃b,s=.bool b∧(b=true→∀a b c:List Rat,znD cost rows a=false∧yeG nC cost rows a b=false∧yey cost rows a c=false)∧Below wa.heap.size wa wy)
 case first =>
  have i:=hid (Below.refl wa.heap.size wa);cases hi1:yeD nC rows y
  ·skip
   cases hi2:yeD nC rows sy
   ·skip
    go_wp2_with fail
    with_reducible refine(Ct.infeasible_is C nC cC R nR cR cost rows V1 m1 k1 y _ ad.out ae.out ab.out g.out ay.out).mono ?_
    rintro e v1 ⟨rfl,d⟩;have k:=hid (zad d aE.out);have m:=hid (zad d KR.out);have E:=hid (ad.out.below d);have F:=hid (ae.out.below d);have V:=hid (aQ.out.below d);have ac:=hid (ab.out.below d);have aj:=hid (aR.out.below d);have ag:=hid (aT.out.below d);have M:=hid (aP.out.below d);have ak:=hid (aS.out.below d);have r:=hid (i.out.trans ((d).mono i.out.size));obtain⟨ba,_,bb,_⟩:=bc2 k.out;obtain⟨_,_,_,_,bc,_⟩:=bc5 m.out;clear d;rw[hi1];go_wp2_with fail
    with_reducible refine(Ct.infeasible_is C nC cC R nR cR cost rows Q nQ cQ sy _ E.out F.out M.out g.out ZY.out).mono ?_
    rintro e v2 ⟨rfl,d⟩;have o:=hid (zad d k.out);have af:=hid (zad d m.out);have G:=hid (E.out.below d);have H:=hid (F.out.below d);have K:=hid (V.out.below d);have Z:=hid (ac.out.below d);have I:=hid (aj.out.below d);have ai:=hid (ag.out.below d);have aa:=hid (M.out.below d);have ah:=hid (ak.out.below d);have N:=hid (r.out.trans ((d).mono r.out.size));obtain⟨bh,_,bi,_⟩:=bc2 o.out;clear d;rw[hi2];go_wp2;go_meet;exact⟨_,rfl,fun h=>(by cases h),N.out⟩
   ·skip
    go_wp2_with fail
    with_reducible refine(Ct.infeasible_is C nC cC R nR cR cost rows V1 m1 k1 y _ ad.out ae.out ab.out g.out ay.out).mono ?_
    rintro e v1 ⟨rfl,d⟩;have k:=hid (zad d aE.out);have m:=hid (zad d KR.out);have E:=hid (ad.out.below d);have F:=hid (ae.out.below d);have V:=hid (aQ.out.below d);have ac:=hid (ab.out.below d);have aj:=hid (aR.out.below d);have ag:=hid (aT.out.below d);have M:=hid (aP.out.below d);have ak:=hid (aS.out.below d);have r:=hid (i.out.trans ((d).mono i.out.size));obtain⟨ba,_,bb,_⟩:=bc2 k.out;obtain⟨_,_,_,_,bc,_⟩:=bc5 m.out;clear d;rw[hi1];go_wp2_with fail
    with_reducible refine(Ct.infeasible_is C nC cC R nR cR cost rows Q nQ cQ sy _ E.out F.out M.out g.out ZY.out).mono ?_
    rintro e v2 ⟨rfl,d⟩;have o:=hid (zad d k.out);have af:=hid (zad d m.out);have G:=hid (E.out.below d);have H:=hid (F.out.below d);have K:=hid (V.out.below d);have Z:=hid (ac.out.below d);have I:=hid (aj.out.below d);have ai:=hid (ag.out.below d);have aa:=hid (M.out.below d);have ah:=hid (ak.out.below d);have N:=hid (r.out.trans ((d).mono r.out.size));obtain⟨bh,_,bi,_⟩:=bc2 o.out;clear d;rw[hi2];go_wp2;go_meet;exact⟨_,rfl,fun _=>bm.out sy hi2,N.out⟩
  ·skip
   go_wp2_with fail
   with_reducible refine(Ct.infeasible_is C nC cC R nR cR cost rows V1 m1 k1 y _ ad.out ae.out ab.out g.out ay.out).mono ?_
   rintro e v1 ⟨rfl,d⟩;have k:=hid (zad d aE.out);have m:=hid (zad d KR.out);have E:=hid (ad.out.below d);have F:=hid (ae.out.below d);have V:=hid (aQ.out.below d);have ac:=hid (ab.out.below d);have aj:=hid (aR.out.below d);have ag:=hid (aT.out.below d);have M:=hid (aP.out.below d);have ak:=hid (aS.out.below d);have r:=hid (i.out.trans ((d).mono i.out.size));obtain⟨ba,_,bb,_⟩:=bc2 k.out;obtain⟨_,_,_,_,bc,_⟩:=bc5 m.out;clear d;rw[hi1];go_wp2;go_meet;exact⟨_,rfl,fun _=>bm.out y hi1,r.out⟩
 case rest =>
  rename World=>wb
  obtain⟨b,rfl,az,f⟩:=hcut;have k:=hid (zad f aE.out);have m:=hid (zad f KR.out);have E:=hid (ad.out.below f);have F:=hid (ae.out.below f);have V:=hid (aQ.out.below f);have ac:=hid (ab.out.below f);have aj:=hid (aR.out.below f);have ag:=hid (aT.out.below f);have M:=hid (aP.out.below f);have ak:=hid (aS.out.below f);have r:=hid (bF.out.trans ((f).mono bF.out.size));obtain⟨ba,_,bb,_⟩:=bc2 k.out;obtain⟨_,_,_,_,bc,_⟩:=bc5 m.out;have aF:=hid az;clear f az;go_upto_if 44 with fail
  go_cut[] (fun wy=>Below wb.heap.size wb wy)
  case first =>
   have i:=hid (Below.refl wb.heap.size wb);cases b with
   | false =>
    go_wp2;go_meet;exact Below.refl _ _
   | true =>
    have J:=hid (aF.out rfl);go_wp2_with fail
    with_reducible refine(Ct.fits_is C nC cC R nR cR cost rows V0 m0 k0 x _ E.out F.out V.out g.out ax.out false (J.out x [] []).1).mono ?_
    rintro e v1 ⟨rfl,d⟩;have o:=hid (zad d k.out);have af:=hid (zad d m.out);have G:=hid (E.out.below d);have H:=hid (F.out.below d);have K:=hid (V.out.below d);have Z:=hid (ac.out.below d);have I:=hid (aj.out.below d);have ai:=hid (ag.out.below d);have aa:=hid (M.out.below d);have ah:=hid (ak.out.below d);have N:=hid (i.out.trans ((d).mono i.out.size));obtain⟨bh,_,bi,_⟩:=bc2 o.out;clear d;go_wp2_with fail
    with_reducible refine(Ct.fits_is C nC cC R nR cR cost rows V2 m2 k2 z _ G.out H.out I.out g.out aG.out false (J.out z [] []).1).mono ?_
    rintro e v2 ⟨rfl,d⟩;have t:=hid (zad d o.out);have B:=hid (zad d af.out);have O:=hid (G.out.below d);have S:=hid (H.out.below d);have Y:=hid (K.out.below d);have aB:=hid (Z.out.below d);have av:=hid (I.out.below d);have aX:=hid (ai.out.below d);have aw:=hid (aa.out.below d);have aW:=hid (ah.out.below d);have n:=hid (N.out.trans ((d).mono N.out.size));obtain⟨be,_,bf,_⟩:=bc2 t.out;obtain⟨_,_,bg,_,_,_,a9,_⟩:=bc5 B.out;clear d;go_wp2_with fail
    with_reducible refine(Ct.optimal_is C nC cC R nR cR cost rows V0 m0 k0 x V1 m1 k1 y _ O.out S.out Y.out aB.out g.out ay.out ax.out j.out).mono ?_
    rintro e v3 ⟨rfl,d⟩;have aC:=hid (zad d t.out);have aD:=hid (zad d B.out);have aU:=hid (O.out.below d);have aV:=hid (S.out.below d);have a7:=hid (Y.out.below d);have a8:=hid (av.out.below d);have a6:=hid (aw.out.below d);have X:=hid (n.out.trans ((d).mono n.out.size));obtain⟨bH,_,bI,_⟩:=bc2 aC.out;obtain⟨_,_,_,_,bD,_⟩:=bc5 aD.out;clear d;rw[(J.out x y []).2.1];go_wp2_with fail
    with_reducible refine(Ct.unbounded_is C nC cC R nR cR cost rows V0 m0 k0 x V2 m2 k2 z _ aU.out aV.out a7.out a8.out g.out ax.out aG.out j.out).mono ?_
    rintro e v4 ⟨rfl,d⟩;have bd:=hid (X.out.trans ((d).mono X.out.size));clear d;rw[(J.out x [] z).2.2];go_wp2;go_meet;exact bd.out
  case rest =>
   rename World=>wc
   have f:=hcut;have o:=hid (zad f k.out);have af:=hid (zad f m.out);have G:=hid (E.out.below f);have H:=hid (F.out.below f);have K:=hid (V.out.below f);have Z:=hid (ac.out.below f);have I:=hid (aj.out.below f);have ai:=hid (ag.out.below f);have aa:=hid (M.out.below f);have ah:=hid (ak.out.below f);have N:=hid (r.out.trans ((f).mono r.out.size));obtain⟨bh,_,bi,_⟩:=bc2 o.out;clear f hcut aF;go_upto_region 10 with fail
   go_cut[76] (fun s wy=>∃b,s=.bool b∧(b=true→∀a,yep nC cost rows a=false)∧Below wc.heap.size wc wy)
   case first =>
    have i:=hid (Below.refl wc.heap.size wc);cases hu1:yey cost rows x z
    ·skip
     go_wp2_with fail
     with_reducible refine(Ct.unbounded_is C nC cC R nR cR cost rows V0 m0 k0 x V2 m2 k2 z _ G.out H.out K.out I.out g.out ax.out aG.out j.out).mono ?_
     rintro e v1 ⟨rfl,d⟩;have t:=hid (zad d o.out);have B:=hid (zad d af.out);have O:=hid (G.out.below d);have S:=hid (H.out.below d);have Y:=hid (K.out.below d);have aB:=hid (Z.out.below d);have av:=hid (I.out.below d);have aX:=hid (ai.out.below d);have aw:=hid (aa.out.below d);have aW:=hid (ah.out.below d);have n:=hid (i.out.trans ((d).mono i.out.size));obtain⟨be,_,bf,_⟩:=bc2 t.out;obtain⟨_,_,bg,_,_,_,a9,_⟩:=bc5 B.out;clear d;rw[hu1];go_wp2_with fail
     with_reducible refine(Ct.unbounded_is C nC cC R nR cR cost rows P nP cP sx D nD cD sz _ O.out S.out aX.out aW.out g.out ZX.out ZZ.out j.out).mono ?_
     rintro e v2 ⟨rfl,d⟩;have aC:=hid (zad d t.out);have aD:=hid (zad d B.out);have aU:=hid (O.out.below d);have aV:=hid (S.out.below d);have a7:=hid (Y.out.below d);have a8:=hid (av.out.below d);have a6:=hid (aw.out.below d);have X:=hid (n.out.trans ((d).mono n.out.size));obtain⟨bH,_,bI,_⟩:=bc2 aC.out;obtain⟨_,_,_,_,bD,_⟩:=bc5 aD.out;clear d;cases hu2:yey cost rows sx sz
     ·go_wp2;go_meet;exact⟨false,rfl,fun h=>(by cases h),X.out⟩
     ·go_wp2;go_meet;exact⟨_,rfl,fun _=>bl.out sx sz hu2,X.out⟩
    ·skip
     go_wp2_with fail
     with_reducible refine(Ct.unbounded_is C nC cC R nR cR cost rows V0 m0 k0 x V2 m2 k2 z _ G.out H.out K.out I.out g.out ax.out aG.out j.out).mono ?_
     rintro e v1 ⟨rfl,d⟩;have t:=hid (zad d o.out);have B:=hid (zad d af.out);have O:=hid (G.out.below d);have S:=hid (H.out.below d);have Y:=hid (K.out.below d);have aB:=hid (Z.out.below d);have av:=hid (I.out.below d);have aX:=hid (ai.out.below d);have aw:=hid (aa.out.below d);have aW:=hid (ah.out.below d);have n:=hid (i.out.trans ((d).mono i.out.size));obtain⟨be,_,bf,_⟩:=bc2 t.out;obtain⟨_,_,bg,_,_,_,a9,_⟩:=bc5 B.out;clear d;rw[hu1];go_wp2;go_meet;exact⟨_,rfl,fun _=>bl.out x z hu1,n.out⟩
   case rest =>
    rename World=>wd_
    obtain⟨b,rfl,az,f⟩:=hcut;have t:=hid (zad f o.out);have B:=hid (zad f af.out);have O:=hid (G.out.below f);have S:=hid (H.out.below f);have Y:=hid (K.out.below f);have aB:=hid (Z.out.below f);have av:=hid (I.out.below f);have aX:=hid (ai.out.below f);have aw:=hid (aa.out.below f);have aW:=hid (ah.out.below f);have n:=hid (N.out.trans ((f).mono N.out.size));obtain⟨be,_,bf,_⟩:=bc2 t.out;obtain⟨_,_,bg,_,_,_,a9,_⟩:=bc5 B.out;have aF:=hid az;clear f az;cases b with
    | false =>
     go_wp2;go_ret
     exact⟨rfl,n.out⟩
    | true =>
     have J:=hid (aF.out rfl);go_wp2_with fail
     with_reducible refine(Ct.bounds_is C nC cC R nR cR cost rows V1 m1 k1 y _ O.out S.out aB.out g.out ay.out j.out false (J.out _)).mono ?_
     rintro e v1 ⟨g7,A7,e7,c7,D7,md7,cd7,rfl,hn,d⟩;have U:=(d).alloc (d).size (.cells #[.bool g7,.slice A7 e7 c7,.slice D7 md7 cd7] 47);have aC:=hid (zad U t.out);have aD:=hid (zad U B.out);have aU:=hid (O.out.below U);have aV:=hid (S.out.below U);have a7:=hid (Y.out.below U);have a8:=hid (av.out.below U);have a6:=hid (aw.out.below U);have X:=hid (n.out.trans ((U).mono n.out.size));obtain⟨bH,_,bI,_⟩:=bc2 aC.out;obtain⟨_,_,_,_,bD,_⟩:=bc5 aD.out;clear hn d;go_wp2_with fail
     with_reducible refine(Ct.bounds_is C nC cC R nR cR cost rows Q nQ cQ sy _ aU.out aV.out a6.out g.out ZY.out j.out false (J.out _)).mono ?_
     rintro e v2 ⟨g8,A8,e8,c8,D8,md8,cd8,rfl,hn,d⟩;have ci:=(d).alloc (d).size (.cells #[.bool g8,.slice A8 e8 c8,.slice D8 md8 cd8] 47);have bd:=hid (X.out.trans ((ci).mono X.out.size));clear hn d;go_wp2_with fail
     go_ret
     exact⟨rfl,bd.out⟩
