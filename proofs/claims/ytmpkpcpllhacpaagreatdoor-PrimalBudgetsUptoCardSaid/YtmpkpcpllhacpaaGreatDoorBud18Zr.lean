/- Contracts and lemmas: Bud18. Conditions: as each says. -/
import Derived.Test.YtmpkpcpllhacpaaGreatDoorAw18aZr
set_option linter.all false
set_option maxHeartbeats 2000000
set_option maxRecDepth 100000
namespace Go.Proofs.YtmpkpcpllhacpaaGreatDoor
open Go.RowKit Am
open Lib (hid)
open Err (z4a z6e)
open Pr (z6T z6X z6Y)
attribute [local go_sem ↓] Go.wp_at_zero Go.wp_at_succ
theorem z86(S:Nat)(hS:8*S+8≤LIM)(A:OA)(n c:Nat)(xs:List Rat)(B:OA)(a c':Nat)(w:World)(b:VecS w 0 (.slice A n c) xs)(d:VecS w 0 (.slice B a c') xs)(zx:∀q∈xs,mw q≤S) :
  Calls Tryz.prog 25 #[.slice A n c,.slice B a c'] w fun e w'=>e=.returned (.bool true)∧Below w.heap.size w w':=by
 refine(Vc.same S hS A n c xs 0 B a c' xs 0 w b d zx zx).mono ?_;rintro e w' ⟨rfl,hb⟩;exact⟨by rw[decide_eq_true rfl],hb⟩
namespace Lw
theorem budgets18(A:OA)(p cA:Nat)(L:OA)(q j:Nat)(cs:List (Int × Int))(M:List LineV)(B:Int)(w:World)(x:zcs w A cs)(aR:zex w L M)(hn:p=cs.length)(hm:q=M.length)(a:p≤cA)(aP:q≤j)(hc:cA≤9223372036854775807)(aQ:j≤9223372036854775807)(aN:0≤B)(bC:B<256)(hg:w.cell? ⟨0,0,none⟩=some z4a) :
  Calls Tryz.prog 6 #[.agg #[.slice A p cA,.slice L q j],.int .u8 B] w fun e w'=>e=.returned (.bool true)∧Below w.heap.size w w':=by
 have HN:=hid hn;have HM:=hid hm;have bg:=hid a;have bh:=hid aP;have bi:=hid hc;have bj:=hid aQ;have bm:=hid hg;obtain⟨K,hK,c9⟩:∃K:Nat,B.tmod 16=(K:Int)∧K<16:=⟨(B%16).toNat,by rw[Int.tmod_eq_emod_of_nonneg aN];omega,by omega⟩
 have HK:=hid hK;clear hn hm a aP hc aQ hg hK aN bC;obtain⟨W,k⟩:∃W,(w.alloc (.cells #[.slice A p cA,.slice L q j] 40))=W:=⟨_,rfl⟩
 have aL:=hid (show W.heap[w.heap.size]? = some (.cells #[.slice A p cA,.slice L q j] 40 (0,0))by rw[←k];exact zam (by simp));have BB:=hid (show Below w.heap.size w W by rw[←k];exact zae w _);have HF:=hid (show zcs W A cs by rw[←k];exact(x).alloc _);have HL:=hid (show zex W L M by rw[←k];exact(aR).alloc _);obtain⟨cg,cm,ch,cb⟩:=bc2 aL.out;have ad:W.cell? ⟨0,0,none⟩=some z4a:=by rw[←k];exact cell_al bm.out
 have c8:=zaa ad;clear x aR;go_enter Tryz.func6,Tryz.ntmps6;go_wp2_with fail
 clear k;with_reducible refine(z8t _ ad).mono ?_
 rintro e w1 ⟨rfl,a⟩;have a4:=hid (zad a aL.out);have b5:=hid (HF.out.below a);have b6:=hid (HL.out.below a);have a3:=hid (BB.out.trans ((a).mono BB.out.size));obtain⟨ce,ck,cf,cl⟩:=bc2 a4.out;have av:=zab a ad;have bH:=zaa av;clear a;go_wp2_with fail
 with_reducible refine(zLD A p cA L q j cs M _ b5.out b6.out HN.out HM.out bg.out bh.out bi.out bj.out).mono ?_
 rintro e N ⟨C,nC,cC,R,nR,cR,l,cost,rows,rfl,hv,hl,_,_,hgd,a⟩;have a2:=hid (zad a a4.out);have HC:=hid (show VecS N 0 (.slice C nC cC) cost from(hv.base (Nat.zero_le _)));have HR:=hid (show RowsS N 0 (.slice R nR cR) rows from(hl.toS.base (Nat.zero_le _)));have a7:=hid (a3.out.trans ((a).mono a3.out.size));obtain⟨ci,cc,cj,cd⟩:=bc2 a2.out;have T:=zab a av;have bI:=zaa T;have u:=hid hgd;clear hv hl hgd a;have m:=zae N (.cells #[.slice C nC cC,.slice R nR cR] 53);have aw:=hid (zad m a2.out)
 have ap:=hid (HC.out.below m);have ah:=hid (HR.out.below m);have ba:=hid (a7.out.trans ((m).mono a7.out.size));obtain⟨bc,a5,bd,a6⟩:=bc2 aw.out;have E:=zab m T;have aT:=zaa E;have KP:=hid (zal N #[.slice C nC cC,.slice R nR cR] 53);obtain⟨bc,a5,bd,a6⟩:=bc2 aw.out;obtain⟨cM,cE,cO,cG⟩:=bc2 KP.out;have E:=zab m T;have aT:=zaa E;have aK:=hid (z6W u.out (ap.out).len.symm (ah.out).len.symm);have aJ:=hid (show 8*sB nR 1 1+8≤LIM by rw[zaP];have:=zVF nR u.out.hr;omega);go_wp2_with fail
 have bu:=hid (fun K (w:World) (h1:VecS w 0 (.slice C nC cC) cost) (v:RowsS w 0 (.slice R nR cR) rows)=>z6T C nC cC R nR cR cost rows w h1 v u.out K);have bv:=hid (fun K (w:World) (h1:VecS w 0 (.slice C nC cC) cost) (v:RowsS w 0 (.slice R nR cR) rows)=>z6Y C nC cC R nR cR cost rows w h1 v u.out K);have bt:=hid (fun(w:World) (h1:VecS w 0 (.slice C nC cC) cost) (v:RowsS w 0 (.slice R nR cR) rows)=>z6X C nC cC R nR cR cost rows w h1 v u.out)
 generalize oO (sol nC nR cost rows)=o,oX nC nR rows (sol nC nR cost rows)=X,oY nC nR cost rows (sol nC nR cost rows)=Y,oZ nC nR rows (sol nC nR cost rows)=Z,(sol nC nR cost rows).pivots=n at *
 with_reducible refine(bt.out _ ap.out ah.out).mono ?_
 rintro e y ⟨P,nP,cP,Q,nQ,cQ,D,nD,cD,rfl,hp,hq,hd,a⟩;have a8:=hid (zad a aw.out);have a9:=hid (zad a KP.out);have bT:=hid (ap.out.below a);have c7:=hid (ah.out.below a);have HP:=hid (show VecS y 0 (.slice P nP cP) X from hp);have HQ:=hid (show VecS y 0 (.slice Q nQ cQ) Y from hq);have bb:=hid (ba.out.trans ((a).mono ba.out.size));obtain⟨cu,cn,cv,co⟩:=bc2 a8.out;obtain⟨cy,cr,cz,ct⟩:=bc2 a9.out;have V:=zab a E;have bJ:=zaa V;clear hp hq hd a
 have d:=zae y (.cells #[.int .i64 o,.slice P nP cP,.slice Q nQ cQ,.slice D nD cD,.int .i64 (n:Int)] 78);have U:=hid (zad d a8.out);have aa:=hid (zad d a9.out);have S:=hid (bT.out.below d);have O:=hid (c7.out.below d);have a0:=hid (HP.out.below d);have aU:=hid (HQ.out.below d);have ab:=hid (bb.out.trans ((d).mono bb.out.size));obtain⟨cw,cp,cx,cq⟩:=bc2 U.out;obtain⟨cN,cF,cS,cH⟩:=bc2 aa.out;have G:=zab d V;have bK:=zaa G
 have KR:=hid (zal y #[.int .i64 o,.slice P nP cP,.slice Q nQ cQ,.slice D nD cD,.int .i64 (n:Int)] 78);obtain⟨cw,cp,cx,cq⟩:=bc2 U.out;obtain⟨cN,cF,cS,cH⟩:=bc2 aa.out;obtain⟨d8,d3,d9,d4,ea,d5,eb,d6,ec,d7⟩:=bc5 KR.out;have G:=zab d V;have bK:=zaa G;clear cg cm ch cb ce ck cf cl av bH ci cc cj cd T bI bc a5 bd a6 E aT cM cE cO cG cu cn cv co cy cr cz ct V bJ;have da:¬(n:Int)<0:=by omega
 go_upto_region 7 with fail
 go_cut[8] (fun c wx=>c=.int .i64 (K:Int)∧wx=(y.alloc (.cells #[.int .i64 o,.slice P nP cP,.slice Q nQ cQ,.slice D nD cD,.int .i64 (n:Int)] 78)))
 case first =>
  go_wp2;go_meet;exact⟨by have:=HK.out;first | (rw[this];exact congrArg _ (by unfold wrap64;omega)) | (rw[this];unfold IntKind.wrap IntKind.signed IntKind.bits;simp;omega) | (simp[this];done) | (simp[this,IntKind.wrap,IntKind.signed,IntKind.bits];omega),rfl⟩
 obtain⟨rfl,rfl⟩:=hcut;go_wp2_with fail
 by_cases bD:K<n
 ·have bE:(K:Int)<(n:Int):=by omega
  with_reducible refine(bv.out K _ S.out O.out bD).mono ?_
  rintro e f ⟨fb,num,rfl,hnum,x,a⟩;have z:=hid (zad a U.out);have H:=hid (zad a aa.out);have F:=hid (zad a KR.out);have ar:=hid (S.out.below a);have aq:=hid (O.out.below a);have au:=hid (a0.out.below a);have ag:=hid (aU.out.below a);have I:=hid (ab.out.trans ((a).mono ab.out.size));obtain⟨cJ,cI,cK,cB⟩:=bc2 z.out;obtain⟨cY,cT,cZ,cU⟩:=bc2 H.out;obtain⟨c0,cV,c1,cW,c2,cX,c5,c3,c6,c4⟩:=bc5 F.out;have i:=zab a G;have bL:=zaa i;have KF:=hid x;clear x a
  have b:=zae f (.cells #[.int .i64 0,.slice none 0 0,.slice none 0 0,.slice none 0 0,.int .i64 0] 78);have r:=hid (zad b z.out);have s:=hid (zad b H.out);have t:=hid (zad b F.out);have b9:=hid (ar.out.below b);have bU:=hid (aq.out.below b);have a1:=hid (au.out.below b);have aY:=hid (ag.out.below b);have ac:=hid (I.out.trans ((b).mono I.out.size));obtain⟨az,ax,aA,ay⟩:=bc2 r.out;obtain⟨aj,aF,ak,aG⟩:=bc2 s.out;obtain⟨al,aH,am,aB,an,aC,ao,aD,ai,aE⟩:=bc5 t.out;have g:=zab b i;have af:=zaa g
  have J:=hid (zal f #[.int .i64 0,.slice none 0 0,.slice none 0 0,.slice none 0 0,.int .i64 0] 78);obtain⟨az,ax,aA,ay⟩:=bc2 r.out;obtain⟨aj,aF,ak,aG⟩:=bc2 s.out;obtain⟨al,aH,am,aB,an,aC,ao,aD,ai,aE⟩:=bc5 t.out;obtain⟨bV,bY,bW,bZ,bX,b0,b7,b1,b8,b2⟩:=bc5 J.out;have g:=zab b i;have af:=zaa g;have bB:=hid (zad (zae f (.cells #[.int .i64 0,.slice none 0 0,.slice none 0 0,.slice none 0 0,.int .i64 0] 78)) KF.out);go_wp2_with fail
  refine(z6e fb _ (zac bB.out 2)).mono ?_;rintro e w5 ⟨rfl,rfl⟩;go_wp2;go_ret
  exact⟨rfl,ac.out⟩
 ·have bE:¬(K:Int)<(n:Int):=by omega
  with_reducible refine(bu.out K _ S.out O.out (by omega) (by omega)).mono ?_
  rintro e f ⟨P2,nP2,cP2,Q2,nQ2,cQ2,D2,nD2,cD2,rfl,hp,hq,hd,a⟩;have z:=hid (zad a U.out);have H:=hid (zad a aa.out);have F:=hid (zad a KR.out);have ar:=hid (S.out.below a);have aq:=hid (O.out.below a);have au:=hid (a0.out.below a);have ag:=hid (aU.out.below a);have bs:=hid (show VecS f 0 (.slice P2 nP2 cP2) X from hp);have bx:=hid (show VecS f 0 (.slice Q2 nQ2 cQ2) Y from hq);have I:=hid (ab.out.trans ((a).mono ab.out.size));obtain⟨cJ,cI,cK,cB⟩:=bc2 z.out;obtain⟨cY,cT,cZ,cU⟩:=bc2 H.out
  obtain⟨c0,cV,c1,cW,c2,cX,c5,c3,c6,c4⟩:=bc5 F.out;have i:=zab a G;have bL:=zaa i;clear hp hq hd a;have b:=zae f (.cells #[.int .i64 o,.slice P2 nP2 cP2,.slice Q2 nQ2 cQ2,.slice D2 nD2 cD2,.int .i64 (n:Int)] 78);have r:=hid (zad b z.out);have s:=hid (zad b H.out);have t:=hid (zad b F.out);have b9:=hid (ar.out.below b);have bU:=hid (aq.out.below b);have a1:=hid (au.out.below b);have aY:=hid (ag.out.below b);have ca:=hid (bs.out.below b);have bM:=hid (bx.out.below b)
  have ac:=hid (I.out.trans ((b).mono I.out.size));obtain⟨az,ax,aA,ay⟩:=bc2 r.out;obtain⟨aj,aF,ak,aG⟩:=bc2 s.out;obtain⟨al,aH,am,aB,an,aC,ao,aD,ai,aE⟩:=bc5 t.out;have g:=zab b i;have af:=zaa g;have J:=hid (zal f #[.int .i64 o,.slice P2 nP2 cP2,.slice Q2 nQ2 cQ2,.slice D2 nD2 cD2,.int .i64 (n:Int)] 78);obtain⟨az,ax,aA,ay⟩:=bc2 r.out;obtain⟨aj,aF,ak,aG⟩:=bc2 s.out;obtain⟨al,aH,am,aB,an,aC,ao,aD,ai,aE⟩:=bc5 t.out;obtain⟨bV,bY,bW,bZ,bX,b0,b7,b1,b8,b2⟩:=bc5 J.out;have g:=zab b i;have af:=zaa g
  go_wp2_with fail
  with_reducible refine(z86 (sB nR 1 1) aJ.out P2 nP2 cP2 X P nP cP _ ca.out a1.out aK.out.zx).mono ?_
  rintro e w5 ⟨rfl,a⟩;have be:=hid (zad a r.out);have aV:=hid (zad a s.out);have aW:=hid (zad a t.out);have aZ:=hid (zad a J.out);have bO:=hid (aY.out.below a);have bN:=hid (bM.out.below a);have aX:=hid (ac.out.trans ((a).mono ac.out.size));obtain⟨ed,ee,ef,eg⟩:=bc2 be.out;obtain⟨de,eh,df,ei⟩:=bc2 aV.out;obtain⟨dz,dg,dB,di,dD,dp,dF,dr,dH,dt⟩:=bc5 aW.out;obtain⟨dJ,dM,dK,dN,dL,dO,d1,dP,d2,dQ⟩:=bc5 aZ.out;have bf:=zab a g;have dc:=zaa bf;clear a;go_wp2_with fail
  with_reducible refine(z86 (sB nR 1 1) aJ.out Q2 nQ2 cQ2 Y Q nQ cQ _ bN.out bO.out aK.out.zy).mono ?_
  rintro e w6 ⟨rfl,a⟩;have bQ:=hid (zad a be.out);have bR:=hid (zad a aV.out);have bS:=hid (zad a aW.out);have b3:=hid (zad a aZ.out);have b4:=hid (aX.out.trans ((a).mono aX.out.size));obtain⟨dv,dk,dw,dl⟩:=bc2 bQ.out;obtain⟨dx,dm,dy,dn⟩:=bc2 bR.out;obtain⟨dA,dh,dC,dj,dE,dq,dG,ds,dI,du⟩:=bc5 bS.out;obtain⟨dW,dR,dX,dS,dY,dT,dZ,dU,d0,dV⟩:=bc5 b3.out;have bP:=zab a bf;have dd:=zaa bP;clear a;go_wp2;go_ret
  exact⟨rfl,b4.out⟩
