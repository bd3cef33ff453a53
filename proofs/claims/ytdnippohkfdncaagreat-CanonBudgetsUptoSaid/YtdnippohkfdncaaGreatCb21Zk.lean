/- Contracts and lemmas: Cb21. Conditions: as each says. -/
import Derived.Test.YtdnippohkfdncaaGreatAw21Zk
import Derived.Test.YtdnippohkfdncaaGreatSol21Zk
set_option linter.all false
set_option maxHeartbeats 2000000
set_option maxRecDepth 100000
namespace Go.Proofs.YtdnippohkfdncaaGreat
open Go.RowKit Am
open Lib (hid)
open Err (z6e)
open Ca (yvj yvm yvn ytd)
attribute [local go_sem ↓] Go.wp_at_zero Go.wp_at_succ
namespace Lw
theorem budgets21(A:OA)(g cA:Nat)(L:OA)(i f:Nat)(cs:List (Int × Int))(D:List LineV)(B:Int)(w:World)(s:zcs w A cs)(aD:zex w L D)(hn:g=cs.length)(hm:i=D.length)(a:g≤cA)(aB:i≤f)(hc:cA≤9223372036854775807)(aC:f≤9223372036854775807)(az:0≤B)(bg:B<256) :
  Calls Tryz.prog 7 #[.agg #[.slice A g cA,.slice L i f],.int .u8 B] w fun e w'=>e=.returned (.bool true)∧Below w.heap.size w w':=by
 have HN:=hid hn;have HM:=hid hm;have aV:=hid a;have aW:=hid aB;have aX:=hid hc;have aY:=hid aC;obtain⟨K,hK,cx⟩:∃K:Nat,B.tmod 20=(K:Int)∧K<20:=⟨(B%20).toNat,by rw[Int.tmod_eq_emod_of_nonneg az];omega,by omega⟩
 have HK:=hid hK;clear hn hm a aB hc aC hK az bg;obtain⟨W,r⟩:∃W,(w.alloc (.cells #[.slice A g cA,.slice L i f] 69))=W:=⟨_,rfl⟩
 have ax:=hid (show W.heap[w.heap.size]? = some (.cells #[.slice A g cA,.slice L i f] 69 (0,0))by rw[←r];exact zam (by simp));have BB:=hid (show Below w.heap.size w W by rw[←r];exact zae w _);have HF:=hid (show zcs W A cs by rw[←r];exact(s).alloc _);have HL:=hid (show zex W L D by rw[←r];exact(aD).alloc _);obtain⟨bL,bR,bM,bG⟩:=bc2 ax.out;clear s aD;go_enter Tryz.func7,Tryz.ntmps7;go_wp2_with fail
 clear r;with_reducible refine(yt6 _).mono ?_
 rintro e w1 ⟨rfl,a⟩;have aL:=hid (zad a ax.out);have bB:=hid (HF.out.below a);have bC:=hid (HL.out.below a);have aK:=hid (BB.out.trans ((a).mono BB.out.size));obtain⟨bJ,bP,bK,bQ⟩:=bc2 aL.out;clear a;go_wp2_with fail
 with_reducible refine(zLD A g cA L i f cs D _ bB.out bC.out HN.out HM.out aV.out aW.out aX.out aY.out).mono ?_
 rintro e E ⟨C,nC,cC,R,nR,cR,l,cost,rows,rfl,hv,hl,_,_,hgd,a⟩;have aJ:=hid (zad a aL.out);have HC:=hid (show VecS E 0 (.slice C nC cC) cost from(hv.base (Nat.zero_le _)));have HR:=hid (show RowsS E 0 (.slice R nR cR) rows from(hl.toS.base (Nat.zero_le _)));have aO:=hid (aK.out.trans ((a).mono aK.out.size));obtain⟨bN,bH,bO,bI⟩:=bc2 aJ.out;have p:=hid hgd;clear hv hl hgd a;have z:=zae E (.cells #[.slice C nC cC,.slice R nR cR] 47);have ah:=hid (zad z aJ.out);have ae:=hid (HC.out.below z)
 have T:=hid (HR.out.below z);have aR:=hid (aO.out.trans ((z).mono aO.out.size));obtain⟨aT,aM,aU,aN⟩:=bc2 ah.out;have KP:=hid (zal E #[.slice C nC cC,.slice R nR cR] 47);obtain⟨aT,aM,aU,aN⟩:=bc2 ah.out;obtain⟨cc,b5,ce,b7⟩:=bc2 KP.out;have aw:=hid (ytu p.out (ae.out).len.symm (T.out).len.symm);have a0:=hid (show 8*sB nR 1 1+8≤LIM by rw[zaP];have:=zVF nR p.out.hr;omega);go_wp2_with fail
 have a7:=hid (fun K (w:World) (h1:VecS w 0 (.slice C nC cC) cost) (q:RowsS w 0 (.slice R nR cR) rows)=>yvj C nC cC R nR cR cost rows w h1 q p.out K);have a8:=hid (fun K (w:World) (h1:VecS w 0 (.slice C nC cC) cost) (q:RowsS w 0 (.slice R nR cR) rows)=>yvn C nC cC R nR cR cost rows w h1 q p.out K);have a6:=hid (fun(w:World) (h1:VecS w 0 (.slice C nC cC) cost) (q:RowsS w 0 (.slice R nR cR) rows)=>yvm C nC cC R nR cR cost rows w h1 q p.out)
 generalize cO (ys6 nC nR cost rows)=o,cX nC nR rows (ys6 nC nR cost rows)=X,cV nC nR cost rows (ys6 nC nR cost rows)=V,cI nC nR rows (ys6 nC nR cost rows)=I,(ys6 nC nR cost rows).pivots=n at *
 with_reducible refine(a6.out _ ae.out T.out).mono ?_
 rintro e F ⟨g3,Av3,mv3,cv3,Dv3,md3,cd3,P3,np3,cP3,Ba3,na3,ca3,rfl,hq,hp,_,a⟩;have aP:=hid (zad a ah.out);have aQ:=hid (zad a KP.out);have bo:=hid (ae.out.below a);have cw:=hid (T.out.below a);have bb:=hid (show RatS F g3 (.slice Av3 mv3 cv3) (.slice Dv3 md3 cd3) V from hq);have a9:=hid (show VecS F 0 (.slice P3 np3 cP3) X from hp);have aS:=hid (aR.out.trans ((a).mono aR.out.size));obtain⟨bY,bS,bZ,bT⟩:=bc2 aP.out;obtain⟨b2,bW,b3,bX⟩:=bc2 aQ.out;clear hq hp a
 have d:=zae F (.cells #[.int .i64 o,.bool g3,.slice Av3 mv3 cv3,.slice Dv3 md3 cd3,.slice P3 np3 cP3] 39);have J:=hid (zad d aP.out);have M:=hid (zad d aQ.out);have H:=hid (bo.out.below d);have G:=hid (cw.out.below d);have aH:=hid (bb.out.below d);have aF:=hid (a9.out.below d);have N:=hid (aS.out.trans ((d).mono aS.out.size));obtain⟨b0,bU,b1,bV⟩:=bc2 J.out;obtain⟨cd,b6,cf,b8⟩:=bc2 M.out;have P:=hid (zal F #[.int .i64 o,.bool g3,.slice Av3 mv3 cv3,.slice Dv3 md3 cd3,.slice P3 np3 cP3] 39)
 obtain⟨b0,bU,b1,bV⟩:=bc2 J.out;obtain⟨cd,b6,cf,b8⟩:=bc2 M.out;obtain⟨c8,c3,c9,c4,da,c5,db,c6,dc,c7⟩:=bc5 P.out;clear bL bR bM bG bJ bP bK bQ bN bH bO bI aT aM aU aN cc b5 ce b7 bY bS bZ bT b2 bW b3 bX;have cy:¬(n:Int)<0:=by omega
 go_wp2_with fail
 rw[show wrap64 (B.tmod 20)=(K:Int)by rw[HK.out];unfold wrap64;omega];by_cases bh:K<n
 ·have bi:(K:Int)<(n:Int):=by omega
  with_reducible refine(a8.out K _ H.out G.out bh).mono ?_
  rintro e c ⟨fb,num,rfl,s,a⟩;have t:=hid (zad a J.out);have v:=hid (zad a M.out);have u:=hid (zad a P.out);have ag:=hid (H.out.below a);have af:=hid (G.out.below a);have Q:=hid (aH.out.below a);have S:=hid (aF.out.below a);have x:=hid (N.out.trans ((a).mono N.out.size));obtain⟨ca,b9,cb,b4⟩:=bc2 t.out;obtain⟨cl,cg,cm,ch⟩:=bc2 v.out;obtain⟨cn,ci,co,cj,cp,ck,ct,cq,cu,cr⟩:=bc5 u.out;have KF:=hid s;clear s a
  have b:=zae c (.cells #[.int .i64 0,.bool false,.slice none 0 0,.slice none 0 0,.slice none 0 0] 39);have j:=hid (zad b t.out);have k:=hid (zad b v.out);have m:=hid (zad b u.out);have bF:=hid (ag.out.below b);have bq:=hid (af.out.below b);have aI:=hid (Q.out.below b);have aG:=hid (S.out.below b);have O:=hid (x.out.trans ((b).mono x.out.size));obtain⟨ak,ai,al,aj⟩:=bc2 j.out;obtain⟨Y,aq,Z,ar⟩:=bc2 k.out;obtain⟨aa,au,ab,am,ac,an,ad,ao,U,ap⟩:=bc5 m.out
  have y:=hid (zal c #[.int .i64 0,.bool false,.slice none 0 0,.slice none 0 0,.slice none 0 0] 39);obtain⟨ak,ai,al,aj⟩:=bc2 j.out;obtain⟨Y,aq,Z,ar⟩:=bc2 k.out;obtain⟨aa,au,ab,am,ac,an,ad,ao,U,ap⟩:=bc5 m.out;obtain⟨br,bu,bs,bv,bt,bw,bD,bx,bE,bz⟩:=bc5 y.out;have bf:=hid (zad (zae c (.cells #[.int .i64 0,.bool false,.slice none 0 0,.slice none 0 0,.slice none 0 0] 39)) KF.out);go_wp2_with fail
  refine(z6e fb _ (zac bf.out 2)).mono ?_;rintro e w5 ⟨rfl,rfl⟩;go_wp2;go_ret
  exact⟨rfl,O.out⟩
 ·have bi:¬(K:Int)<(n:Int):=by omega
  with_reducible refine(a7.out K _ H.out G.out (by omega) (by omega)).mono ?_
  rintro e c ⟨g4,Av4,mv4,cv4,Dv4,md4,cd4,P4,np4,cP4,Ba4,na4,ca4,rfl,hq,hp,_,a⟩;have t:=hid (zad a J.out);have v:=hid (zad a M.out);have u:=hid (zad a P.out);have ag:=hid (H.out.below a);have af:=hid (G.out.below a);have Q:=hid (aH.out.below a);have S:=hid (aF.out.below a);have bc:=hid (show RatS c g4 (.slice Av4 mv4 cv4) (.slice Dv4 md4 cd4) V from hq);have ba:=hid (show VecS c 0 (.slice P4 np4 cP4) X from hp);have x:=hid (N.out.trans ((a).mono N.out.size));obtain⟨ca,b9,cb,b4⟩:=bc2 t.out
  obtain⟨cl,cg,cm,ch⟩:=bc2 v.out;obtain⟨cn,ci,co,cj,cp,ck,ct,cq,cu,cr⟩:=bc5 u.out;clear hq hp a;have b:=zae c (.cells #[.int .i64 o,.bool g4,.slice Av4 mv4 cv4,.slice Dv4 md4 cd4,.slice P4 np4 cP4] 39);have j:=hid (zad b t.out);have k:=hid (zad b v.out);have m:=hid (zad b u.out);have bF:=hid (ag.out.below b);have bq:=hid (af.out.below b);have aI:=hid (Q.out.below b);have aG:=hid (S.out.below b);have bk:=hid (bc.out.below b);have bl:=hid (ba.out.below b)
  have O:=hid (x.out.trans ((b).mono x.out.size));obtain⟨ak,ai,al,aj⟩:=bc2 j.out;obtain⟨Y,aq,Z,ar⟩:=bc2 k.out;obtain⟨aa,au,ab,am,ac,an,ad,ao,U,ap⟩:=bc5 m.out;have y:=hid (zal c #[.int .i64 o,.bool g4,.slice Av4 mv4 cv4,.slice Dv4 md4 cd4,.slice P4 np4 cP4] 39);obtain⟨ak,ai,al,aj⟩:=bc2 j.out;obtain⟨Y,aq,Z,ar⟩:=bc2 k.out;obtain⟨aa,au,ab,am,ac,an,ad,ao,U,ap⟩:=bc5 m.out;obtain⟨br,bu,bs,bv,bt,bw,bD,bx,bE,bz⟩:=bc5 y.out;go_wp2_with fail
  with_reducible refine(ytd (sB nR 1 1) a0.out o V X g3 Av3 mv3 cv3 Dv3 md3 cd3 P3 np3 cP3 g4 Av4 mv4 cv4 Dv4 md4 cd4 P4 np4 cP4 _ aI.out aG.out bk.out bl.out aw.out.2 aw.out.1).mono ?_
  rintro e w5 ⟨rfl,a⟩;have cv:=hid (zad a j.out);have bm:=hid (zad a k.out);have bn:=hid (zad a m.out);have bA:=hid (zad a y.out);have bp:=hid (O.out.trans ((a).mono O.out.size));obtain⟨dd,de,df,dg⟩:=bc2 cv.out;obtain⟨cz,dh,cB,di⟩:=bc2 bm.out;obtain⟨cJ,cD,cK,cE,cM,cF,cN,cG,cP,cH⟩:=bc5 bn.out;obtain⟨cQ,cU,cS,cW,cT,cY,c1,cZ,c2,c0⟩:=bc5 bA.out;clear a;go_wp2;go_ret
  exact⟨rfl,bp.out⟩
