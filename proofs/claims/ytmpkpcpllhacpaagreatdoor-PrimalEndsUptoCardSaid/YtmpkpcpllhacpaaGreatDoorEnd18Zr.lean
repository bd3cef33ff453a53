/- Contracts and lemmas: End18. Conditions: as each says. -/
import Derived.Test.YtmpkpcpllhacpaaGreatDoorAw18aZr
import Derived.Test.YtmpkpcpllhacpaaGreatDoorBasesZr
set_option linter.all false
set_option maxHeartbeats 2000000
set_option maxRecDepth 100000
namespace Go.Proofs.YtmpkpcpllhacpaaGreatDoor
open Go.RowKit Am
open Lib (hid)
open Err (z4a)
open Pr (z6X)
open Pb (standardN)
attribute [local go_sem ↓] Go.wp_at_zero Go.wp_at_succ
theorem ydI:∀a,a≤9→∀b,b≤4→binom (a+b) b≤1000:=by decide +kernel
namespace Lw
theorem ends18(A:OA)(g cA:Nat)(L:OA)(i d:Nat)(cs:List (Int × Int))(k:List LineV)(w:World)(T:zcs w A cs)(U:zex w L k)(X:g=cs.length)(hm:i=k.length)(a:g≤cA)(O:i≤d)(hc:cA≤9223372036854775807)(S:d≤9223372036854775807)(hg:w.cell? ⟨0,0,none⟩=some z4a) :
  Calls Tryz.prog 5 #[.agg #[.slice A g cA,.slice L i d]] w fun e w'=>e=.returned (.bool true)∧Below w.heap.size w w':=by
 have HN:=hid X;have HM:=hid hm;have az:=hid a;have aA:=hid O;have aB:=hid hc;have aC:=hid S;have aF:=hid hg;clear X hm a O hc S hg;obtain⟨W,f⟩:∃W,(w.alloc (.cells #[.slice A g cA,.slice L i d] 40))=W:=⟨_,rfl⟩
 have I:=hid (show W.heap[w.heap.size]? = some (.cells #[.slice A g cA,.slice L i d] 40 (0,0))by rw[←f];exact zam (by simp));have G:=hid (show Below w.heap.size w W by rw[←f];exact zae w _);have HF:=hid (show zcs W A cs by rw[←f];exact(T).alloc _);have HL:=hid (show zex W L k by rw[←f];exact(U).alloc _);obtain⟨a9,bg,ba,a3⟩:=bc2 I.out;have r:W.cell? ⟨0,0,none⟩=some z4a:=by rw[←f];exact cell_al aF.out
 have bZ:=zaa r;clear T U;go_enter Tryz.func5,Tryz.ntmps5;go_wp2_with fail
 clear f;with_reducible refine(z8t _ r).mono ?_
 rintro e w1 ⟨rfl,a⟩;have ai:=hid (zad a I.out);have aW:=hid (HF.out.below a);have aX:=hid (HL.out.below a);have ah:=hid (G.out.trans ((a).mono G.out.size));obtain⟨a7,be,a8,bf⟩:=bc2 ai.out;have F:=zab a r;have aS:=zaa F;clear a;go_wp2_with fail
 with_reducible refine(zLD A g cA L i d cs k _ aW.out aX.out HN.out HM.out az.out aA.out aB.out aC.out).mono ?_
 rintro e m ⟨C,nC,cC,R,nR,cR,l,cost,rows,rfl,hv,hl,_,_,hgd,a⟩;have a4:=hid (zad a ai.out);have HC:=hid (show VecS m 0 (.slice C nC cC) cost from(hv.base (Nat.zero_le _)));have HR:=hid (show RowsS m 0 (.slice R nR cR) rows from(hl.toS.base (Nat.zero_le _)));have aj:=hid (ah.out.trans ((a).mono ah.out.size));obtain⟨bc,a5,bd,a6⟩:=bc2 a4.out;have al:=zab a F;have aT:=zaa al;have b:=hid hgd;clear hv hl hgd a;have t:=zae m (.cells #[.slice C nC cC,.slice R nR cR] 53);have E:=hid (HC.out.below t)
 have B:=hid (HR.out.below t);have am:=hid (aj.out.trans ((t).mono aj.out.size));have J:=hid (zal m #[.slice C nC cC,.slice R nR cR] 53);obtain⟨br,bh,bs,bi⟩:=bc2 J.out;have aH:=hid (show cost.length=nC from(E.out).len.symm);have aI:=hid (show rows.length=nR from(B.out).len.symm);have H:=hid (z6D b.out aH.out aI.out).1;have aO:=hid (show Rows nC rows from fun p c=>⟨(b.out.rw_ p c).1,fun q v=>Nat.le_trans ((b.out.rw_ p c).2.1 q v) (by decide),Nat.le_trans (b.out.rw_ p c).2.2 (by decide)⟩)
 have aM:=hid (fun(w:World) (h1:VecS w 0 (.slice C nC cC) cost) (h2:RowsS w 0 (.slice R nR cR) rows)=>z6X C nC cC R nR cR cost rows w h1 h2 b.out);have b2:=b.out.hc;have V:=b.out.hr;have aR:=zgO rows nR;obtain⟨N,hN⟩:∃N,nC+cnt rows nR=N:=⟨_,rfl⟩
 have aL:=hid hN;have s:=hid (show N≤9 by omega);rw[hN]at H;generalize oO (sol nC nR cost rows)=o,oX nC nR rows (sol nC nR cost rows)=x,oY nC nR cost rows (sol nC nR cost rows)=y,oZ nC nR rows (sol nC nR cost rows)=z,(sol nC nR cost rows).pivots=n at *
 clear hN aR;go_wp2_with fail
 with_reducible refine(standardN 1 (Nat.le_refl _) C nC cC R nR cR cost rows N aL.out _ E.out B.out (by omega) (by omega) aO.out b.out.kd b.out.sc (fun p c=>(b.out.rw_ p c).2)).mono ?_
 rintro e Y ⟨rA,rc,lA,bA,bc_,kA,kc,eA,ec,rfl,hst,a⟩;have ak:=hid (zad a J.out);have aV:=hid (E.out.below a);have bX:=hid (B.out.below a);have ap:=hid (am.out.trans ((a).mono am.out.size));obtain⟨bn,bj,bo,bk⟩:=bc2 ak.out;clear hst a;have j:=zae Y (.cells #[.slice rA nR rc,.int .i64 (N:Int),.slice bA nR bc_,.slice kA N kc,.int .i64 (nC:Int),.slice eA nR ec] 46);have an:=hid (zad j ak.out);have aY:=hid (aV.out.below j);have aU:=hid (bX.out.below j);have aq:=hid (ap.out.trans ((j).mono ap.out.size))
 obtain⟨bp,bl,bq,bm⟩:=bc2 an.out;have M:=hid (zal Y #[.slice rA nR rc,.int .i64 (N:Int),.slice bA nR bc_,.slice kA N kc,.int .i64 (nC:Int),.slice eA nR ec] 46);obtain⟨bE,bu,bF,bv,bG,bx,bK,bz,bM,bB,bV,bQ⟩:=bc6 M.out;go_wp2_with fail
 with_reducible refine(aM.out _ aY.out aU.out).mono ?_
 rintro e Z ⟨P,nP,cP,Q,nQ,cQ,D,nD,cD,rfl,c,v,hd,a⟩;have ao:=hid (zad a an.out);have au:=hid (zad a M.out);have av:=hid (aq.out.trans ((a).mono aq.out.size));obtain⟨bC,bw,bD,bt⟩:=bc2 ao.out;obtain⟨bO,bH,bP,bI,bR,bJ,bS,bL,bT,bN,bW,bU⟩:=bc6 au.out;clear c v hd a;have u:=zae Z (.cells #[.int .i64 o,.slice P nP cP,.slice Q nQ cQ,.slice D nD cD,.int .i64 (n:Int)] 78);have ar:=hid (zad u ao.out);have ax:=hid (zad u au.out);have ay:=hid (av.out.trans ((u).mono av.out.size))
 obtain⟨dz,dx,dA,dy⟩:=bc2 ar.out;obtain⟨b9,dJ,cb,dL,cd,dN,cf,dP,ch,dR,cj,dT⟩:=bc6 ax.out;have K:=hid (zal Z #[.int .i64 o,.slice P nP cP,.slice Q nQ cQ,.slice D nD cD,.int .i64 (n:Int)] 78);obtain⟨ck,dU,cl,dF,cm,dG,cn,dH,b8,dI⟩:=bc5 K.out;clear a9 bg ba a3 a7 be a8 bf F aS bc a5 bd a6 al aT br bh bs bi bn bj bo bk bp bl bq bm bE bu bF bv bG bx bK bz bM bB bV bQ bC bw bD bt bO bH bP bI bR bJ bS bL bT bN bW bU;go_wp2_with fail
 with_reducible refine(Mt.rows N nR rc rA _).mono ?_
 rintro e w5 ⟨rfl,a⟩;have aw:=hid (zad a ar.out);have aa:=hid (zad a ax.out);have ab:=hid (zad a K.out);have af:=hid (ay.out.trans ((a).mono ay.out.size));obtain⟨dB,dC,dD,dE⟩:=bc2 aw.out;obtain⟨ca,dK,cc,dM,ce,dO,cg,dQ,ci,dS,cW,cp⟩:=bc6 aa.out;obtain⟨cY,cr,c0,cu,c2,cF,c4,cH,c6,cJ⟩:=bc5 ab.out;clear a;go_wp2_with fail
 with_reducible refine(Mt.cols N nR rc rA _).mono ?_
 rintro e w6 ⟨rfl,a⟩;have ac:=hid (zad a aw.out);have ad:=hid (zad a aa.out);have ae:=hid (zad a ab.out);have ag:=hid (af.out.trans ((a).mono af.out.size));obtain⟨cM,cw,cN,cx⟩:=bc2 ac.out;obtain⟨cO,cy,cS,cz,cT,cB,cU,cE,cV,co,cX,cq⟩:=bc6 ad.out;obtain⟨cZ,ct,c1,cv,c3,cG,c5,cI,c7,cK⟩:=bc5 ae.out;clear a;have b0:=s.out;have b1:binom (N+nR) nR≤1000:=ydI N s.out nR V;have bY:=H.out;go_wp2_with fail
 rw[show(N:Int)+(nR:Int)=((N+nR:Nat):Int)by omega];with_reducible refine(bases (N+nR) nR (by have:=s.out;omega) V (by omega) _).mono ?_
 rintro e w7 ⟨rfl,a⟩;have a0:=hid (zad a ac.out);have a1:=hid (zad a ad.out);have a2:=hid (zad a ae.out);have aZ:=hid (ag.out.trans ((a).mono ag.out.size));obtain⟨c8,dh,c9,di⟩:=bc2 a0.out;obtain⟨da,dj,db,dk,dr,du,ds,dv,dt,dw,b7,b6⟩:=bc6 a1.out;obtain⟨dc,dl,dd,dm,de,dn,df,dp,dg,dq⟩:=bc5 a2.out;clear a;generalize binom (N+nR) nR=bb at *
 have hle:(n:Int)≤2*(bb:Int)+(nR:Int):=by omega
 go_wp2;go_ret
 exact⟨rfl,aZ.out⟩
