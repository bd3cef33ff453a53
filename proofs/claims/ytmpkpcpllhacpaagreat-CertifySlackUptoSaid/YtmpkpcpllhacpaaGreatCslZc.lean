/- Contracts and lemmas: Csl. Conditions: as each says. -/
import Derived.Test.YtmpkpcpllhacpaaGreatC20Zc
import Derived.Test.YtmpkpcpllhacpaaGreatLaw5Zc
set_option linter.all false
set_option maxHeartbeats 2000000
set_option maxRecDepth 100000
namespace Go.Proofs.YtmpkpcpllhacpaaGreat
open Go.RowKit Am
open Lib (hid)
open Pr (z6X)
attribute [local go_sem ↓] Go.wp_at_zero Go.wp_at_succ
namespace Lw
theorem slack20(A:OA)(N cA:Nat)(L:OA)(O F:Nat)(cs:List (Int × Int))(ls:List LineV)(XX:OA)(b f:Nat)(xs:List (Int × Int))(YY:OA)(c g:Nat)(ys:List (Int × Int))(own:Bool)(w:World)(hf:zcs w A cs)(aE:zex w L ls)(J:zcs w XX xs)(M:zcs w YY ys)(aF:b=xs.length)(aA:b≤1048576)(aG:c=ys.length)(aB:c≤1048576)(H:N=cs.length)(hm:O=ls.length)(a:N≤cA)(az:O≤F)(hc:cA≤9223372036854775807)(aC:F≤9223372036854775807)  :
  Calls Tryz.prog 3 #[.agg #[.slice A N cA,.slice L O F],.slice XX b f,.slice YY c g,.bool own] w fun e w'=>e=.returned (.bool true)∧Below w.heap.size w w':=by
 have HN:=hid H;have HM:=hid hm;have aZ:=hid a;have a0:=hid az;have a3:=hid hc;have a4:=hid aC;have bd:=hid aF;have a6:=hid aA;have bm:=hid (yfb (zyq J));have be:=hid aG;have a7:=hid aB;have bn:=hid (yfb (zyq M));clear H hm a az hc aC aF aA aG aB;obtain⟨W,s⟩:∃W,(w.alloc (.cells #[.slice A N cA,.slice L O F] 25))=W:=⟨_,rfl⟩
 have bq:=hid (show W.heap[w.heap.size]? = some (.cells #[.slice A N cA,.slice L O F] 25 (0,0))by rw[←s];exact zam (by simp));have BB:=hid (show Below w.heap.size w W by rw[←s];exact zae w _);have HF:=hid (show zcs W A cs by rw[←s];exact(hf).alloc _);have HL:=hid (show zex W L ls by rw[←s];exact(aE).alloc _);have ba:=hid (show zcs W XX xs by rw[←s];exact(J).alloc _);have bb:=hid (show zcs W YY ys by rw[←s];exact(M).alloc _);clear hf aE J M;go_enter Tryz.func3,Tryz.ntmps3;go_wp2_with fail
 clear s;with_reducible refine(awake _).mono ?_
 rintro e w1 ⟨rfl,a⟩;have bR:=hid (zad a bq.out);have bK:=hid (HF.out.below a);have bL:=hid (HL.out.below a);have bA:=hid (ba.out.below a);have bw:=hid (bb.out.below a);have aQ:=hid (BB.out.trans ((a).mono BB.out.size));obtain⟨bP,_,bQ,_⟩:=bc2 bR.out;clear a;go_wp2_with fail
 with_reducible refine(zLD A N cA L O F cs ls _ bK.out bL.out HN.out HM.out aZ.out a0.out a3.out a4.out).mono ?_
 rintro e w2 ⟨C,nC,cC,R,nR,cR,l,cost,rows,rfl,hv,hl,_,_,hgd,a⟩;have bB:=hid (bA.out.below a);have bx:=hid (bw.out.below a);have HC:=hid (show VecS w2 0 (.slice C nC cC) cost from(hv.base (Nat.zero_le _)));have HR:=hid (show RowsS w2 0 (.slice R nR cR) rows from(hl.toS.base (Nat.zero_le _)));have aR:=hid (aQ.out.trans ((a).mono aQ.out.size));have aw:=hid hgd;have z:=hid (show cost.length=nC from hv.len.symm);have ax:=hid (z6W hgd hv.len.symm hl.toS.len.symm)
 have bi:=hid (fun(w:World) (h1:VecS w 0 (.slice C nC cC) cost) (h2:RowsS w 0 (.slice R nR cR) rows)=>z6X C nC cC R nR cR cost rows w h1 h2 hgd);generalize oO (sol nC nR cost rows)=so,oX nC nR rows (sol nC nR cost rows)=sx,oY nC nR cost rows (sol nC nR cost rows)=sy,oZ nC nR rows (sol nC nR cost rows)=sz,(sol nC nR cost rows).pivots=sn at *
 clear hv hl hgd a;go_wp2_with fail
 with_reducible refine(make XX b f xs _ bd.out bB.out a6.out).mono ?_
 rintro e w3 ⟨V0,m0,k0,rfl,hv,a⟩;have bz:=hid (bx.out.below a);have bF:=hid (HC.out.below a);have bE:=hid (HR.out.below a);have bo:=hid (show VecS w3 0 (.slice V0 m0 k0) (frs xs)from(hv.base (Nat.zero_le _)));have aS:=hid (aR.out.trans ((a).mono aR.out.size));clear hv a;go_wp2_with fail
 with_reducible refine(make YY c g ys _ be.out bz.out a7.out).mono ?_
 rintro e m ⟨V1,m1,k1,rfl,hv,a⟩;have bG:=hid (bF.out.below a);have bU:=hid (bE.out.below a);have bC:=hid (bo.out.below a);have bp:=hid (show VecS m 0 (.slice V1 m1 k1) (frs ys)from(hv.base (Nat.zero_le _)));have aT:=hid (aS.out.trans ((a).mono aS.out.size));clear hv a;have af:=zae m (.cells #[.slice C nC cC,.slice R nR cR] 31);have aq:=hid (bG.out.below af);have ap:=hid (bU.out.below af);have bD:=hid (bC.out.below af);have bV:=hid (bp.out.below af)
 have aU:=hid (aT.out.trans ((af).mono aT.out.size));have KP:=hid (zal m #[.slice C nC cC,.slice R nR cR] 31);obtain⟨b0,_,b1,_⟩:=bc2 KP.out;clear bP bQ;go_upto_if 24 with fail
 generalize hwa:(m.alloc (.cells #[.slice C nC cC,.slice R nR cR] 31))=wa at *
 clear hwa;go_cut[10,11] (fun a1 a2 wy=>∃(X:OA) (b f:Nat) (x:List Rat) (Y:OA) (c g:Nat) (y:List Rat),a1=.slice X b f∧a2=.slice Y c g∧VecS wy 0 (.slice X b f) x∧VecS wy 0 (.slice Y c g) y∧Sm x∧Sm y∧Below wa.heap.size wa wy)
 case first =>
  have aH:=aw.out.hr;cases own with
  | false =>
   go_wp2;go_meet;exact⟨_,_,_,_,_,_,_,_,rfl,rfl,bD.out,bV.out,bm.out,bn.out,Below.refl _ _⟩
  | true =>
   have av:=hid (Below.refl wa.heap.size wa);go_wp2_with fail
   with_reducible refine(bi.out _ aq.out ap.out).mono ?_
   rintro e v1 ⟨P,nP,cP,Q,nQ,cQ,D,nD,cD,rfl,hp,I,hd,a⟩;have ac:=hid (zad a KP.out);have ab:=hid (aq.out.below a);have V:=hid (ap.out.below a);have HP:=hid (show VecS v1 0 (.slice P nP cP) sx from hp);have HQ:=hid (show VecS v1 0 (.slice Q nQ cQ) sy from I);have i:=hid (av.out.trans ((a).mono av.out.size));obtain⟨bS,_,bT,_⟩:=bc2 ac.out;clear hp I hd a;have G:=zae v1 (.cells #[.int .i64 so,.slice P nP cP,.slice Q nQ cQ,.slice D nD cD,.int .i64 (sn:Int)] 36);have r:=hid (zad G ac.out)
   have p:=hid (ab.out.below G);have o:=hid (V.out.below G);have bM:=hid (HP.out.below G);have bJ:=hid (HQ.out.below G);have k:=hid (i.out.trans ((G).mono i.out.size));obtain⟨aV,_,aW,_⟩:=bc2 r.out;have KR:=hid (zal v1 #[.int .i64 so,.slice P nP cP,.slice Q nQ cQ,.slice D nD cD,.int .i64 (sn:Int)] 36);obtain⟨_,_,aM,_,aN,_⟩:=bc5 KR.out;go_wp2_with fail
   refine zaS (S:=fun w'=>w'.cell? ⟨v1.heap.size,1,none⟩=some (.slice P nP cP)∧w'.cell? ⟨v1.heap.size,2,none⟩=some (.slice Q nQ cQ)) [] (h:=fun hHeld=>?_);refine zaw [0,1,2,3,4,5] ?_;repeat refine tkL (hS:=hHeld) (h:=?_)
   refine zao ?_;refine zaM (h:=?_);go_wp2;go_meet;exact⟨_,_,_,_,_,_,_,_,rfl,rfl,bM.out.drew,bJ.out.drew,fun q I=>Nat.le_trans (ax.out.sx aH q I) (by decide),fun q I=>Nat.le_trans (ax.out.sy aH q I) (by decide),k.out.trans (zap _ 1 |>.mono k.out.size)⟩
 case rest =>
  rename World=>wy
  obtain⟨X,b,f,x,Y,c,g,y,rfl,rfl,J,M,zx,zy,hB⟩:=hcut;have ac:=hid (zad hB KP.out);have ab:=hid (aq.out.below hB);have V:=hid (ap.out.below hB);have HX:=hid (show VecS wy 0 (.slice X b f) x from J);have HY:=hid (show VecS wy 0 (.slice Y c g) y from M);have i:=hid (aU.out.trans ((hB).mono aU.out.size));obtain⟨bS,_,bT,_⟩:=bc2 ac.out;have B:=hid zx;have E:=hid zy;have j:=hid aw.out.good;clear hB J M zx zy;go_wp2_with fail
  cases hbb:yep nC cost rows y
  ·skip
   have HO:=hid (yeH (n:=nC) (cost:=cost) (rows:=rows) (x:=x) (y:=y) (.inl hbb));with_reducible refine(Ct.bounds_is C nC cC R nR cR cost rows Y c g y _ ab.out V.out HY.out j.out E.out z.out false hbb).mono ?_
   rintro e d ⟨g2,A2,m2,c2,D2,md2,cd2,rfl,H,a⟩;have r:=hid (show(d.alloc (.cells #[.bool g2,.slice A2 m2 c2,.slice D2 md2 cd2] 47)).heap[m.heap.size]? = some (.cells #[.slice C nC cC,.slice R nR cR] 31 (0,0))from zak (zad a ac.out));have p:=hid (show VecS (d.alloc (.cells #[.bool g2,.slice A2 m2 c2,.slice D2 md2 cd2] 47)) 0 (.slice C nC cC) cost from(ab.out.below a).alloc _)
   have o:=hid (show RowsS (d.alloc (.cells #[.bool g2,.slice A2 m2 c2,.slice D2 md2 cd2] 47)) 0 (.slice R nR cR) rows from(V.out.below a).alloc _);have t:=hid (show VecS (d.alloc (.cells #[.bool g2,.slice A2 m2 c2,.slice D2 md2 cd2] 47)) 0 (.slice X b f) x from(HX.out.below a).alloc _);have ag:=hid (show VecS (d.alloc (.cells #[.bool g2,.slice A2 m2 c2,.slice D2 md2 cd2] 47)) 0 (.slice Y c g) y from(HY.out.below a).alloc _)
   have k:=hid (show Below w.heap.size w (d.alloc (.cells #[.bool g2,.slice A2 m2 c2,.slice D2 md2 cd2] 47))from((i.out.trans ((a).mono i.out.size))).alloc ((i.out.trans ((a).mono i.out.size))).size _);have ar:=hid (show(d.alloc (.cells #[.bool g2,.slice A2 m2 c2,.slice D2 md2 cd2] 47)).heap[d.heap.size]? = some (.cells #[.bool g2,.slice A2 m2 c2,.slice D2 md2 cd2] 47 (0,0))from zam (by simp));obtain⟨aV,_,aW,_⟩:=bc2 r.out;obtain⟨_,_,aM,_,aN,_⟩:=bc3 ar.out;clear H a;go_wp2_with fail
   with_reducible refine(Ct.optimal_is C nC cC R nR cR cost rows X b f x Y c g y _ p.out o.out t.out ag.out j.out E.out B.out z.out).mono ?_
   rintro e w8 ⟨rfl,a⟩;have v:=hid (zad a r.out);have Z:=hid (p.out.below a);have aa:=hid (o.out.below a);have T:=hid (t.out.below a);have U:=hid (ag.out.below a);have u:=hid (k.out.trans ((a).mono k.out.size));obtain⟨aX,_,aY,_⟩:=bc2 v.out;clear a;rw[HO.out];go_wp2;go_ret
   exact⟨rfl,u.out⟩
  ·skip
   have a5:=hid hbb;with_reducible refine(Ct.bounds_is C nC cC R nR cR cost rows Y c g y _ ab.out V.out HY.out j.out E.out z.out true hbb).mono ?_
   rintro e d ⟨g2,A2,m2,c2,D2,md2,cd2,rfl,H,a⟩;have r:=hid (show(d.alloc (.cells #[.bool g2,.slice A2 m2 c2,.slice D2 md2 cd2] 47)).heap[m.heap.size]? = some (.cells #[.slice C nC cC,.slice R nR cR] 31 (0,0))from zak (zad a ac.out));have p:=hid (show VecS (d.alloc (.cells #[.bool g2,.slice A2 m2 c2,.slice D2 md2 cd2] 47)) 0 (.slice C nC cC) cost from(ab.out.below a).alloc _)
   have o:=hid (show RowsS (d.alloc (.cells #[.bool g2,.slice A2 m2 c2,.slice D2 md2 cd2] 47)) 0 (.slice R nR cR) rows from(V.out.below a).alloc _);have t:=hid (show VecS (d.alloc (.cells #[.bool g2,.slice A2 m2 c2,.slice D2 md2 cd2] 47)) 0 (.slice X b f) x from(HX.out.below a).alloc _);have ag:=hid (show VecS (d.alloc (.cells #[.bool g2,.slice A2 m2 c2,.slice D2 md2 cd2] 47)) 0 (.slice Y c g) y from(HY.out.below a).alloc _)
   have k:=hid (show Below w.heap.size w (d.alloc (.cells #[.bool g2,.slice A2 m2 c2,.slice D2 md2 cd2] 47))from((i.out.trans ((a).mono i.out.size))).alloc ((i.out.trans ((a).mono i.out.size))).size _);have ar:=hid (show(d.alloc (.cells #[.bool g2,.slice A2 m2 c2,.slice D2 md2 cd2] 47)).heap[d.heap.size]? = some (.cells #[.bool g2,.slice A2 m2 c2,.slice D2 md2 cd2] 47 (0,0))from zam (by simp));obtain⟨aV,_,aW,_⟩:=bc2 r.out;obtain⟨_,_,aM,_,aN,_⟩:=bc3 ar.out;clear H a;go_wp2_with fail
   cases hff:znD cost rows x
   ·skip
    have HO:=hid (yeH (n:=nC) (cost:=cost) (rows:=rows) (x:=x) (y:=y) (.inr hff));with_reducible refine(Ct.fits_is C nC cC R nR cR cost rows X b f x _ p.out o.out t.out j.out B.out false hff).mono ?_
    rintro e w7 ⟨rfl,a⟩;have v:=hid (zad a r.out);have Z:=hid (p.out.below a);have aa:=hid (o.out.below a);have T:=hid (t.out.below a);have U:=hid (ag.out.below a);have u:=hid (k.out.trans ((a).mono k.out.size));obtain⟨aX,_,aY,_⟩:=bc2 v.out;clear a;go_wp2_with fail
    with_reducible refine(Ct.optimal_is C nC cC R nR cR cost rows X b f x Y c g y _ Z.out aa.out T.out U.out j.out E.out B.out z.out).mono ?_
    rintro e w8 ⟨rfl,a⟩;have al:=hid (zad a v.out);have aO:=hid (Z.out.below a);have aP:=hid (aa.out.below a);have aL:=hid (T.out.below a);have aK:=hid (U.out.below a);have am:=hid (u.out.trans ((a).mono u.out.size));obtain⟨bH,_,bI,_⟩:=bc2 al.out;clear a;rw[HO.out];go_wp2;go_ret
    exact⟨rfl,am.out⟩
   ·skip
    have bl:=hid (yeK (x:=x) j.out.rw_ z.out j.out.kd a5.out hff);with_reducible refine(Ct.fits_is C nC cC R nR cR cost rows X b f x _ p.out o.out t.out j.out B.out true hff).mono ?_
    rintro e w7 ⟨rfl,a⟩;have v:=hid (zad a r.out);have Z:=hid (p.out.below a);have aa:=hid (o.out.below a);have T:=hid (t.out.below a);have U:=hid (ag.out.below a);have u:=hid (k.out.trans ((a).mono k.out.size));obtain⟨aX,_,aY,_⟩:=bc2 v.out;clear a;go_wp2_with fail
    refine zaS (S:=fun w'=>w'.cell? ⟨m.heap.size,0,none⟩=some (.slice C nC cC)∧w'.cell? ⟨m.heap.size,1,none⟩=some (.slice R nR cR)) [] (h:=fun hHeld=>?_);refine zaw [0,1,2,4,5,6] ?_;repeat refine tkL (hS:=hHeld) (h:=?_)
    refine zao ?_;refine zaB 3 (h:=fun K hK=>?_);go_simp
    (go_at_call 14;(with_reducible refine(Ct.slack_is C nC cC R nR cR cost rows X b f x Y c g y _ Z.out.drew aa.out.drew T.out.drew U.out.drew j.out E.out B.out).mono ?_);rintro e v8 ⟨rfl,a⟩;have al:=hid (zad a v.out);have aO:=hid (Z.out.drew.below a);have aP:=hid (aa.out.drew.below a);have aL:=hid (T.out.drew.below a);have aK:=hid (U.out.drew.below a);have am:=hid (u.out.trans ((It.bdrew0' a).mono u.out.size));obtain⟨bH,_,bI,_⟩:=bc2 al.out;clear a)
    (try go_wp2_with fail)
    refine hK.out _ _ kp fun hHeld=>?_
    clear hK K;try simp only[Act.put,pu1,pu2,pu3,pu4,pu5,pu6]
    refine zaB 7 (h:=fun K hK=>?_);go_simp
    (go_at_call 13;(with_reducible refine(Ct.optimal_is C nC cC R nR cR cost rows X b f x Y c g y _ aO.out aP.out aL.out aK.out j.out E.out B.out z.out).mono ?_);rintro e v9 ⟨rfl,a⟩;have bO:=hid (zad a al.out);have bN:=hid (am.out.trans ((a).mono am.out.size));obtain⟨bY,_,bZ,_⟩:=bc2 bO.out;clear a)
    (try go_wp2_with fail)
    refine hK.out _ _ kp fun hHeld=>?_
    clear hK K;try simp only[Act.put,pu1,pu2,pu3,pu4,pu5,pu6]
    refine zaw [8,9] ?_;repeat refine tkL (hS:=hHeld) (h:=?_)
    refine zao ?_;refine zaM (h:=?_);rw[bl.out];go_wp2;go_ret
    exact⟨by simp,bN.out⟩
