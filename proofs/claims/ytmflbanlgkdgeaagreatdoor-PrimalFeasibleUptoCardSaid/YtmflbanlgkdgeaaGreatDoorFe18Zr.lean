/- Contracts and lemmas: Fe18. Conditions: as each says. -/
import Derived.Test.YtmflbanlgkdgeaaGreatDoorAw18aZr
import Derived.Test.YtmflbanlgkdgeaaGreatDoorEl1Zr
set_option linter.all false
set_option maxHeartbeats 4000000
set_option maxRecDepth 100000
namespace Go.Proofs.YtmflbanlgkdgeaaGreatDoor
open Go.RowKit Am
open Lib (hid)
open Err (z4a)
open Pr (zYk pfeasible)
attribute [local go_sem ↓] Go.wp_at_zero Go.wp_at_succ
theorem yry{xs:List Nat}{k d:Nat}(h:k<xs.length):xs[k]? = some (xs.getD k d):=by rw[List.getD_eq_getElem?_getD,List.getElem?_eq_getElem h];rfl
namespace Lw
theorem feasible18(A:OA)(T cA:Nat)(L:OA)(U J:Nat)(cs:List (Int × Int))(ls:List LineV)(w:World)(hf:zcs w A cs)(bD:zex w L ls)(hn:T=cs.length)(hm:U=ls.length)(a:T≤cA)(bx:U≤J)(hc:cA≤9223372036854775807)(bz:J≤9223372036854775807)(hg:w.cell? ⟨0,0,none⟩=some z4a) :
  Calls Tryz.prog 4 #[.agg #[.slice A T cA,.slice L U J]] w fun e w'=>e=.returned (.bool true)∧Below w.heap.size w w':=by
 have dh:=hid hn;have df:=hid hm;have cX:=hid a;have cZ:=hid bx;have c0:=hid hc;have c1:=hid bz;have da:=hid hg;clear hn hm a bx hc bz hg;obtain⟨W,M⟩:∃W,(w.alloc (.cells #[.slice A T cA,.slice L U J] 25))=W:=⟨_,rfl⟩
 have dy:=hid (show W.heap[w.heap.size]? = some (.cells #[.slice A T cA,.slice L U J] 25 (0,0))by rw[←M];exact zam (by simp));have BB:=hid (show Below w.heap.size w W by rw[←M];exact zae w _);have E:=hid (show zcs W A cs by rw[←M];exact(hf).alloc _);have HL:=hid (show zex W L ls by rw[←M];exact(bD).alloc _);have dc:W.cell? ⟨0,0,none⟩=some z4a:=by rw[←M];exact cell_al da.out
 clear hf bD;go_enter Tryz.func4,Tryz.ntmps4;go_wp2_with fail
 clear M;with_reducible refine(z8t _ dc).mono ?_
 rintro e w1 ⟨rfl,a⟩;have fg:=hid (zad a dy.out);have eC:=hid (E.out.below a);have eD:=hid (HL.out.below a);have cq:=hid (BB.out.trans ((a).mono BB.out.size));obtain⟨co,_,cp,_⟩:=bc2 fg.out;clear a;go_wp2_with fail
 with_reducible refine(zLD A T cA L U J cs ls _ eC.out eD.out dh.out df.out cX.out cZ.out c0.out c1.out).mono ?_
 rintro e V ⟨C,nC,cC,R,m,cR,l,cost,rows,rfl,hv,hl,_,_,hgd,a⟩;have HC:=hid (show VecS V 0 (.slice C nC cC) cost from(hv.base (Nat.zero_le _)));have HR:=hid (show RowsS V 0 (.slice R m cR) rows from(hl.toS.base (Nat.zero_le _)));have cr:=hid (cq.out.trans ((a).mono cq.out.size));have g:=hid hgd;clear hv hl hgd a;have dC:=zgO rows m;have aO:=g.out.hr;have fr:=g.out.hc;obtain⟨N,hN⟩:∃N,nC+cnt rows m=N:=⟨_,rfl⟩
 obtain⟨f,bu⟩:∃f,N+m=f:=⟨_,rfl⟩
 have HN:=hid hN;have x:=hid bu;have bE:m≤64:=by omega
 have dF:f≤64:=by omega
 have aJ:=hid (show cost.length=nC from(HC.out).len.symm);have aK:=hid (show rows.length=m from(HR.out).len.symm);have bi:=hid (show Rows nC rows from fun p O=>⟨(g.out.rw_ p O).1,fun q s=>Nat.le_trans ((g.out.rw_ p O).2.1 q s) (by decide),Nat.le_trans (g.out.rw_ p O).2.2 (by decide)⟩);have t:=hid (zVA g.out aJ.out aK.out hN);have I:=hid (zVz g.out aJ.out aK.out hN);have c3:=hid (zWc m aO);have ab:=hid (zVF m aO);have H8:=hid (show 8*1+8≤LIM by rw[zaP];decide)
 have aN:=zae V (.cells #[.slice C nC cC,.slice R m cR] 41);have bY:=hid (HC.out.below aN);have bS:=hid (HR.out.below aN);have ct:=hid (cr.out.trans ((aN).mono cr.out.size));have KP:=hid (zal V #[.slice C nC cC,.slice R m cR] 41);obtain⟨cw,_,cx,_⟩:=bc2 KP.out;go_wp2_with fail
 with_reducible refine(Pb.standardN 1 (Nat.le_refl _) C nC cC R m cR cost rows N HN.out _ bY.out bS.out (by omega) (by omega) bi.out g.out.kd g.out.sc (fun p O=>(g.out.rw_ p O).2)).mono ?_
 rintro e v ⟨rA,rc,lA,bA,bc_,kA,kc,eA,ec,rfl,hst,a⟩;have fh:=hid (zad a KP.out);have ez:=hid (bY.out.below a);have fn:=hid (bS.out.below a);have dr:=hid (show StdP v rA rc lA bA bc_ kA kc eA ec m N 1 (zc3 rows) (zg8 rows) (zjD cost rows) (zca nC rows m)from hst);have cu:=hid (ct.out.trans ((a).mono ct.out.size));clear hst a;clear hN bu dC;have ac:=zae v (.cells #[.slice rA m rc,.int .i64 (N:Int),.slice bA m bc_,.slice kA N kc,.int .i64 (nC:Int),.slice eA m ec] 34);have fi:=hid (zad ac fh.out)
 have eE:=hid (ez.out.below ac);have ei:=hid (fn.out.below ac);have cl:=hid (dr.out.below ac);have cv:=hid (cu.out.trans ((ac).mono cu.out.size));have KS:=hid (zal v #[.slice rA m rc,.int .i64 (N:Int),.slice bA m bc_,.slice kA N kc,.int .i64 (nC:Int),.slice eA m ec] 34);obtain⟨cy,_,cz,_,cB,_,cD,_,cE,_,cF,_⟩:=bc6 KS.out;go_wp2_with fail
 with_reducible refine(zYk rA rc lA bA bc_ kA kc eA ec m N f 1 nC (zc3 rows) (zg8 rows) (zjD cost rows) (zca nC rows m) _ cl.out dF x.out (zsk _ _ _) H8.out).mono ?_
 rintro e o ⟨rA2,rc2,lA2,bA2,bz2,kA2,kc2,eA2,ec2,gA,gc,rfl,hst,hz,a⟩;have fk:=hid (zad a fi.out);have fj:=hid (zad a KS.out);have eF:=hid (eE.out.below a);have ej:=hid (ei.out.below a);have dV:=hid (cl.out.below a);have dq:=hid (show StdP o rA2 rc2 lA2 bA2 bz2 kA2 kc2 eA2 ec2 m f 1 (zt0 (zc3 rows) (zg8 rows)) (zwh (zg8 rows)) (zKb m (zjD cost rows)) (zca nC rows m)from hst);have db:=hid (show IntsZ o 0 (.slice gA m gc) ((zg8 rows).map sgI)from hz)
 have cG:=hid (cv.out.trans ((a).mono cv.out.size));clear hst hz a;have D:=zae o (.cells #[.slice rA2 m rc2,.int .i64 (f:Int),.slice bA2 m bz2,.slice kA2 f kc2,.int .i64 (nC:Int),.slice eA2 m ec2,.slice gA m gc,.int .i64 (N:Int)] 44);have fl:=hid (zad D fk.out);have fm:=hid (zad D fj.out);have eG:=hid (eF.out.below D);have eB:=hid (ej.out.below D);have dW:=hid (dV.out.below D);have bJ:=hid (dq.out.below D);have dU:=hid (db.out.below D);have cM:=hid (cG.out.trans ((D).mono cG.out.size))
 have KT:=hid (zal o #[.slice rA2 m rc2,.int .i64 (f:Int),.slice bA2 m bz2,.slice kA2 f kc2,.int .i64 (nC:Int),.slice eA2 m ec2,.slice gA m gc,.int .i64 (N:Int)] 44);obtain⟨ce,_,cf,_,cg,_,cj,_,ck,_,bP,_,bQ,_,bR,_⟩:=bc8 KT.out;have ay:=yj6 t.out I.out (B:=4000) (by have h:=z6C g.out;rw[HN.out]at h;omega);rw[x.out]at ay;obtain⟨r,aP⟩:∃r,pivs (zBX f (zt0 (zc3 rows) (zg8 rows)) (zwh (zg8 rows)) (zJG N m) (zKc N m)) 4000 (zKa N m)=r:=⟨_,rfl⟩
 obtain⟨d,ae⟩:∃d,zSz N f (zt0 (zc3 rows) (zg8 rows)) (4000-r.n) m 0 (r.cols,0)=d:=⟨_,rfl⟩
 rw[aP,ae]at ay;have aa:=hid ay;have dl:=hid aP;have c4:=hid ae;clear ay aP ae;go_wp2_with fail
 refine(pfeasible rA2 rc2 bA2 bz2 kA2 kc2 eA2 ec2 gA gc m f nC N lA2 1 (zc3 rows) (zg8 rows) (zKb m (zjD cost rows)) (zca nC rows m) 0 _ bJ.out dU.out x.out t.out I.out c3.out (Nat.le_trans ab.out (by decide)) 4000 (by decide)).mono ?_;rintro e X ⟨b,h⟩;rw[dl.out,c4.out]at h;have fo:=hid b;have bb:=hid (zad b fl.out);have aY:=hid (zad b fm.out);have a0:=hid (zad b KT.out);have ch:=hid (eG.out.below b);have ci:=hid (eB.out.below b);have af:=hid (dW.out.below b);have dX:=hid (bJ.out.below b)
 have aF:=hid (cM.out.trans ((b).mono cM.out.size));obtain⟨cH,cI,cJ,cK⟩:=bc2 bb.out;obtain⟨bT,cN,bU,cO,bV,cS,bW,cT,bX,cU,b6,bZ⟩:=bc6 aY.out;obtain⟨b7,b0,b8,b1,b9,b2,ca,b3,cb,b4,cd,b5,bN,bL,bO,bM⟩:=bc8 a0.out;clear b;rcases h with ⟨F,_⟩ | ⟨F,G,Y,cY,rfl,hY⟩ | ⟨F,G,aB,_⟩ | ⟨F,G,aB,wn,q,tA,tc,rfl,hT,dJ,dB⟩
 ·rw[aa.out.err]at F;cases F
 ·have dt:=hid G;have HY:=hid hY;clear F G hY;clear co cp cw cx cy cz cB cD cE cF ce cf cg cj ck bP bQ bR;have dD:decide ((r.n:Int)<0)=false:=decide_eq_false (by omega);go_upto_region 7 with fail
  go_cut[64] (fun c wx=>c=.bool false∧wx=X)
  case first =>
   rcases Nat.eq_zero_or_pos m with h0 | h0
   ·have h1:((m:Int) == 0)=true:=by simp[h0]
    have H0:=hid h0;clear h0;go_wp2;go_meet;exact⟨by have:=H0.out;simp[this],rfl⟩
   ·have h1:((m:Int) == 0)=false:=by simp;omega
    clear h0;go_wp2;go_meet;exact⟨by simp,rfl⟩
  case rest =>
   obtain⟨rfl,rfl⟩:=hcut;rename World=>X
   have bk:=hid (yrX t.out I.out aa.out dt.out);have aI:=hid aa.out.basis;have aM:=hid (show ∀q∈(bkL ((zg8 rows).map sgI) (zcl (zt0 (zc3 rows) (zg8 rows)) r.cols (zJG N m)) m),mw q≤sB m 1 1 from z6K I.out (aI.out.duals_ok _).2 (znb aI.out (zLu aI.out (by have h:=dX.out.zA;exact h)) (zSD N m) (fun q s=>zTR N m q s)));generalize (bkL ((zg8 rows).map sgI) (zcl (zt0 (zc3 rows) (zg8 rows)) r.cols (zJG N m)) m)=y at *
   go_wp2_with fail
   with_reducible refine(Mt.by_ N m rc rA lA (zc3 rows) 0 Y m cY y _ (sB m 1 1) 1 _ af.out.rows af.out.rl HY.out bE (by have:=x.out;omega) af.out.zA aM.out (zma _ _ _) (Nat.le_refl 1) (by rw[zaP];have:=ab.out;omega)).mono ?_
   rintro e w6 ⟨S6,n6,c6,rfl,hv,a⟩;have a1:=hid (zad a bb.out);have ag:=hid (zad a aY.out);have a2:=hid (zad a a0.out);have a7:=hid (ch.out.below a);have a8:=hid (ci.out.below a);have Z:=hid (af.out.below a);have bI:=hid (HY.out.below a);have bj:=hid (show VecS w6 X.heap.size (.slice S6 n6 c6) (byL N (zc3 rows) y)from hv);have am:=hid (aF.out.trans ((a).mono aF.out.size));obtain⟨_,_,_,_,a3,_⟩:=bc6 ag.out;clear hv a
   have c2:=hid (zt3 (N:=N) (by rw[t.out.len]) bE Z.out.zA aM.out (zma _ _ _) (Nat.le_refl 1));have dx:=hid (show y.length=m from bI.out.len.symm);have fv:n6≤64:=by have:=(bj.out).len;rw[zkb]at this;have:=x.out;omega
   go_wp2_with fail
   with_reducible refine(Vc.dot_ok Y m cY y bA m bc_ (zg8 rows) _ 0 _ bI.out Z.out.B (by rw[dx.out,I.out]) (by omega) (fun q s=>Nat.le_trans (aM.out q s) (Nat.le_trans ab.out (by decide))) (fun q s=>Nat.le_trans (Z.out.zb q s) (by decide))).mono ?_
   rintro e H ⟨g7,A7,m7,c7,D7,md7,cd7,rfl,hn7,a⟩;have a4:=hid (zad a a1.out);have a5:=hid (zad a ag.out);have a6:=hid (zad a a2.out);have a9:=hid (a7.out.below a);have ba:=hid (a8.out.below a);have aU:=hid (Z.out.below a);have d0:=hid (bj.out.below a);have c5:=hid (show RatS H g7 (.slice A7 m7 c7) (.slice D7 md7 cd7) (dot y (zg8 rows))from hn7);have ax:=hid (am.out.trans ((a).mono am.out.size));clear hn7 a;have u:=zae H (.cells #[.bool g7,.slice A7 m7 c7,.slice D7 md7 cd7] 66)
   have ar:=hid (zad u a4.out);have au:=hid (zad u a5.out);have aw:=hid (zad u a6.out);have cm:=hid (a9.out.below u);have cn:=hid (ba.out.below u);have aD:=hid (aU.out.below u);have d1:=hid (d0.out.below u);have fc:=hid (c5.out.below u);have ao:=hid (ax.out.trans ((u).mono ax.out.size));obtain⟨e4,_,e5,_⟩:=bc2 ar.out;obtain⟨e6,_,e7,_,d8,_,ea,_,ed,_,ef,_⟩:=bc6 au.out;obtain⟨e1,_,e2,_,e3,_,e9,_,fa,_,fb,_,eh,_,d6,_⟩:=bc8 aw.out;have KV:=hid (zal H #[.bool g7,.slice A7 m7 c7,.slice D7 md7 cd7] 66)
   clear cH cI cJ cK bT cN bU cO bV cS bW cT bX cU b6 bZ b7 b0 b8 b1 b9 b2 ca b3 cb b4 cd b5 bN bL bO bM a3;go_wp2_with fail
   with_reducible refine(Rt.int (-1) (by decide) (by decide) _).mono ?_
   rintro e w8 ⟨g8,A8,m8,c8,D8,md8,cd8,rfl,hn8,a⟩;have aj:=hid (zad a ar.out);have ak:=hid (zad a au.out);have al:=hid (zad a aw.out);have fd:=hid (zad a KV.out);have aV:=hid (aD.out.below a);have d2:=hid (d1.out.below a);have fe:=hid (fc.out.below a);have dg:=hid (show RatS w8 g8 (.slice A8 m8 c8) (.slice D8 md8 cd8) ((-1:Int):Rat)from hn8);have ap:=hid (ao.out.trans ((a).mono ao.out.size));obtain⟨eL,_,eM,_⟩:=bc2 aj.out;obtain⟨eN,_,eO,_,d9,_,eb,_,ee,_,eg,_⟩:=bc6 ak.out
   obtain⟨eP,_,eQ,_,eH,_,eI,_,eJ,_,eK,_,d5,_,d7,_⟩:=bc8 al.out;clear hn8 a;go_wp2_with fail
   with_reducible refine(Vc.scaleS 100000000 (by rw[zaP];decide) g8 A8 m8 c8 D8 md8 cd8 ((-1:Int):Rat) S6 n6 c6 (byL N (zc3 rows) y) _ _ d2.out dg.out (by omega) (fun q s=>Nat.le_trans (c2.out q s) (by have:=ab.out;omega)) (by decide)).mono ?_
   rintro e w9 ⟨S9,n9,c9,rfl,hv,a⟩;have an:=hid (zad a aj.out);have ah:=hid (zad a ak.out);have ai:=hid (zad a al.out);have e8:=hid (zad a fd.out);have bK:=hid (aV.out.below a);have d3:=hid (fe.out.below a);have dp:=hid (show VecS w9 w8.heap.size (.slice S9 n9 c9) (scale ((-1:Int):Rat) (byL N (zc3 rows) y))from hv);have aq:=hid (ap.out.trans ((a).mono ap.out.size));obtain⟨eR,_,eS,_⟩:=bc2 an.out;obtain⟨eT,_,eU,_,dN,_,ff,_,dL,_,dQ,_⟩:=bc6 ah.out
   obtain⟨eV,_,eW,_,eX,_,eY,_,eZ,_,e0,_,dR,_,dO,_⟩:=bc8 ai.out;clear hv a;go_wp2_with fail
   with_reducible refine(Vc.below S9 n9 c9 (scale ((-1:Int):Rat) (byL N (zc3 rows) y)) _ _ dp.out).mono ?_
   rintro e fA ⟨rfl,a⟩;have aW:=hid (zad a an.out);have aX:=hid (zad a ah.out);have aZ:=hid (zad a ai.out);have dM:=hid (zad a e8.out);have d4:=hid (d3.out.below a);have aG:=hid (aq.out.trans ((a).mono aq.out.size));obtain⟨eo,_,ep,_⟩:=bc2 aW.out;obtain⟨eq,_,er,_,es,_,et,_,eu,_,el,_⟩:=bc6 aX.out;obtain⟨em,_,en,_,ev,_,ew,_,ex,_,ey,_,dS,_,dP,_⟩:=bc8 aZ.out;obtain⟨fD,_,fE,_,fF,_⟩:=bc3 dM.out;clear a;rw[bk.out.1];go_wp2_with fail
   with_reducible refine(Rt.sign g7 A7 m7 c7 D7 md7 cd7 (dot y (zg8 rows)) _ d4.out).mono ?_
   rintro e fB ⟨rfl,a⟩;have ek:=hid (aG.out.trans ((a).mono aG.out.size));clear a;have fx:decide (0<(dot y (zg8 rows)).num)=true:=decide_eq_true (zYp.2 bk.out.2);go_wp2;go_ret
   exact⟨rfl,ek.out⟩
 ·rw[(aa.out.own G).1]at aB;cases aB
 ·have aL:=hid (aa.out.own G).2.1;have HT:=hid hT;clear F G aB hT dJ dB;clear co cp cw cx cy cz cB cD cE cF ce cf cg cj ck bP bQ bR;have dD:decide ((r.n:Int)+(d.1.2:Int)<0)=false:=decide_eq_false (by omega);have be:=hid (yrM g.out aJ.out aK.out HN.out aL.out);have bf:=hid (ysf t.out I.out aL.out);have bh:=hid (yrN aL.out t.out);rw[x.out]at be bf;have di:=hid (yju HT.out);have de:=hid (HT.out.basis).len;go_upto_region 7 with fail
  go_cut[64] (fun c wx=>c=.bool false∧wx=X)
  case first =>
   go_wp2;go_meet;exact⟨by simp,rfl⟩
  case rest =>
   obtain⟨rfl,rfl⟩:=hcut;rename World=>X
   go_wp2_with fail
   with_reducible refine(Tb.point HT.out).mono ?_
   rintro e w6 ⟨P,cP,rfl,hv,a⟩;have a1:=hid (zad a bb.out);have ag:=hid (zad a aY.out);have a2:=hid (zad a a0.out);have a7:=hid (ch.out.below a);have a8:=hid (ci.out.below a);have Z:=hid (af.out.below a);have dT:=hid (HT.out.below a);have dj:=hid (show VecS w6 X.heap.size (.slice P f cP) (zh1 f d.1.1 (za5 (zt0 (zc3 rows) (zg8 rows)) (zwh (zg8 rows)) d.1.1))from hv);have am:=hid (aF.out.trans ((a).mono aF.out.size));obtain⟨_,_,_,_,a3,_⟩:=bc6 ag.out;clear hv a;go_wp2_with fail
   with_reducible refine(Tb.basis dT.out).mono ?_
   rintro e H ⟨Q,cQ,rfl,hv,a⟩;have a4:=hid (zad a a1.out);have a5:=hid (zad a ag.out);have a6:=hid (zad a a2.out);have a9:=hid (a7.out.below a);have ba:=hid (a8.out.below a);have aU:=hid (Z.out.below a);have dY:=hid (dj.out.below a);have HQ:=hid (show IntsS H w6.heap.size (.slice Q m cQ) d.1.1 from hv);have ax:=hid (am.out.trans ((a).mono am.out.size));clear hv a;clear cH cI cJ cK bT cN bU cO bV cS bW cT bX cU b6 bZ b7 b0 b8 b1 b9 b2 ca b3 cb b4 cd b5 bN bL bO bM a3;go_wp2
   go_loopw [17,102] (fun av kv wr=>∃k:Nat,kv=.int .i64 k∧av=.int .i64 (yri N d.1.1 k:Nat)∧k≤m∧yri N d.1.1 k≤k∧Below H.heap.size H wr)
    (fun _ kv _=>m-(intOf kv).toNat)
   case atStart=>exact⟨0,rfl,rfl,Nat.zero_le _,Nat.le_refl _,Below.refl _ _⟩
   case round =>
    obtain⟨k,rfl,rfl,hk,fq,b⟩:=hrel;have ar:=hid (zad b a4.out);have au:=hid (zad b a5.out);have aw:=hid (zad b a6.out);have cm:=hid (a9.out.below b);have cn:=hid (ba.out.below b);have aD:=hid (aU.out.below b);have aE:=hid (dY.out.below b);have bH:=hid (HQ.out.below b);have ao:=hid (ax.out.trans ((b).mono ax.out.size));obtain⟨e4,_,e5,_⟩:=bc2 ar.out;obtain⟨e6,_,e7,_,d8,_,ea,_,ed,_,ef,_⟩:=bc6 au.out;obtain⟨e1,_,e2,_,e3,_,e9,_,fa,_,fb,_,eh,_,d6,_⟩:=bc8 aw.out;have bm:=hid b;clear b;by_cases dE:k<m
    ·obtain⟨bq,rfl,_,_⟩:=bH.out.has (by omega);have y0:=bH.out.at_ (yry (d:=0) (show k<d.1.1.length by rw[de.out];exact dE));have fs:(0:Int)≤(k:Int):=Int.natCast_nonneg _;have ft:(k:Int)<(m:Int):=by omega
     have aH:=hid (show yri N d.1.1 (k+1)=yri N d.1.1 k+if N≤d.1.1.getD k 0 then 1 else 0 from rfl);generalize d.1.1.getD k 0=cc at y0 aH;by_cases hc:N≤cc
     ·have ae:decide ((N:Int)≤(cc:Int))=true:=by simp;omega
      have E:=hid (show yri N d.1.1 (k+1)=yri N d.1.1 k+1 by rw[aH.out,if_pos hc]);go_wp2;go_roundw
      case rel=>exact⟨k+1,by go_num,by rw[E.out];go_num,by omega,by rw[E.out];omega,bm.out⟩
      case measure=>simp[intOf];omega
     ·have ae:decide ((N:Int)≤(cc:Int))=false:=by simp;omega
      have E:=hid (show yri N d.1.1 (k+1)=yri N d.1.1 k by rw[aH.out,if_neg hc,Nat.add_zero]);go_wp2;go_roundw
      case rel=>exact⟨k+1,by go_num,by rw[E.out],by omega,by rw[E.out];omega,bm.out⟩
      case measure=>simp[intOf];omega
    ·obtain rfl:m=k:=by omega
     have O:=aE.out.form.2.1;have dH:=aE.out.form.2.2.1;unfold maxLen at dH;have dG:nC≤f:=by have:=HN.out;have:=x.out;omega
     have fw:nC≤cP:=by omega
     have HX:=hid ((aE.out.cut nC dG).base (Nat.zero_le _));have dw:=hid (show ∀q∈(zh1 f d.1.1 (za5 (zt0 (zc3 rows) (zg8 rows)) (zwh (zg8 rows)) d.1.1)).take nC,mw q≤4000000 from fun q s=>Nat.le_trans (di.out q (List.mem_of_mem_take s)) (Nat.le_trans ab.out (by decide)));have fu:(0:Int)≤(nC:Int):=Int.natCast_nonneg _;have bl:=hid (show(m:Int)-((yrf (zc3 rows) N).2.length:Int)=((yri N d.1.1 m:Nat):Int)by have:=bh.out;omega)
     have ds:=hid (show Sz m N (zc3 rows) 1 from fun i hi j hj=>zrz (aD.out.zA _ (List.mem_of_getElem? (zaO (by rw[t.out.len];exact hi)))) (by rw[t.out.row i hi];exact hj));have dm:=bh.out;have dI:(yrf (zc3 rows) N).2.length≤m:=by omega
     obtain⟨rk,aQ⟩:∃rk,(yrf (zc3 rows) N).2.length=rk:=⟨_,rfl⟩
     have dn:=hid aQ;rw[aQ]at bl dI;clear dm aQ;generalize yri N d.1.1 m=ad at *
     have du:=hid (show IntKind.i64.wrap (ad:Int)=(ad:Int)by rw[IntKind.wrap_i64];omega);go_wp2_with fail
     refine zaS (S:=fun w'=>w'.cell? ⟨V.heap.size,0,none⟩=some (.slice C nC cC)∧w'.cell? ⟨V.heap.size,1,none⟩=some (.slice R m cR)∧w'.cell? ⟨v.heap.size,0,none⟩=some (.slice rA m rc)∧w'.cell? ⟨v.heap.size,1,none⟩=some (.int .i64 (N:Int))∧w'.cell? ⟨v.heap.size,2,none⟩=some (.slice bA m bc_)∧w'.cell? ⟨v.heap.size,3,none⟩=some (.slice kA N kc)∧w'.cell? ⟨v.heap.size,4,none⟩=some (.int .i64 (nC:Int))∧w'.cell? ⟨v.heap.size,5,none⟩=some (.slice eA m ec)∧w'.cell? ⟨o.heap.size,0,none⟩=some (.slice rA2 m rc2)∧w'.cell? ⟨o.heap.size,1,none⟩=some (.int .i64 (f:Int))∧w'.cell? ⟨o.heap.size,2,none⟩=some (.slice bA2 m bz2)∧w'.cell? ⟨o.heap.size,3,none⟩=some (.slice kA2 f kc2)∧w'.cell? ⟨o.heap.size,4,none⟩=some (.int .i64 (nC:Int))∧w'.cell? ⟨o.heap.size,5,none⟩=some (.slice eA2 m ec2)∧w'.cell? ⟨o.heap.size,6,none⟩=some (.slice gA m gc)∧w'.cell? ⟨o.heap.size,7,none⟩=some (.int .i64 (N:Int))) [] (h:=fun hHeld=>?_)
     refine zaw [0,1,2,3,4,5,6,7,8,9,10] ?_;repeat refine tkL (hS:=hHeld) (h:=?_)
     refine zao ?_;refine zaB 11 (h:=fun K z=>?_);go_simp
     (go_at_call 29;(with_reducible refine((Pb.fits C nC cC R m cR cost rows P nC cP ((zh1 f d.1.1 (za5 (zt0 (zc3 rows) (zg8 rows)) (zwh (zg8 rows)) d.1.1)).take nC) _ cm.out.drew cn.out.drew HX.out.drew (by omega) bi.out dw.out (by omega)).mono (fun e w' h=>show e=.returned (.bool true)∧Below _ _ w' from⟨h.1.trans (by rw[be.out]),h.2⟩)).mono ?_);rintro e v1 ⟨rfl,a⟩;have aj:=hid (zad a ar.out);have ak:=hid (zad a au.out);have al:=hid (zad a aw.out);have aV:=hid (aD.out.drew.below a);have dZ:=hid (aE.out.drew.below a);have ap:=hid (ao.out.trans ((It.bdrew0' a).mono ao.out.size));obtain⟨eL,_,eM,_⟩:=bc2 aj.out;obtain⟨eN,_,eO,_,d9,_,eb,_,ee,_,eg,_⟩:=bc6 ak.out;obtain⟨eP,_,eQ,_,eH,_,eI,_,eJ,_,eK,_,d5,_,d7,_⟩:=bc8 al.out;clear a)
     (try go_wp2_with fail)
     refine z.out _ _ kp fun hHeld=>?_
     clear z K;try simp only[Act.put,pu1,pu2,pu3,pu4,pu5,pu6]
     refine zaw [12,13,14] ?_;repeat refine tkL (hS:=hHeld) (h:=?_)
     refine zao ?_;refine zaB 15 (h:=fun K z=>?_);go_simp
     (go_at_call 27;(with_reducible refine((Vc.below P f cP (zh1 f d.1.1 (za5 (zt0 (zc3 rows) (zg8 rows)) (zwh (zg8 rows)) d.1.1)) _ _ dZ.out).mono (fun e w' h=>show e=.returned (.bool false)∧Below _ _ w' from⟨h.1.trans (by rw[bf.out]),h.2⟩)).mono ?_);rintro e v2 ⟨rfl,a⟩;have an:=hid (zad a aj.out);have ah:=hid (zad a ak.out);have ai:=hid (zad a al.out);have bK:=hid (aV.out.below a);have aq:=hid (ap.out.trans ((a).mono ap.out.size));obtain⟨eR,_,eS,_⟩:=bc2 an.out;obtain⟨eT,_,eU,_,dN,_,ff,_,dL,_,dQ,_⟩:=bc6 ah.out;obtain⟨eV,_,eW,_,eX,_,eY,_,eZ,_,e0,_,dR,_,dO,_⟩:=bc8 ai.out;clear a)
     (try go_wp2_with fail)
     refine z.out _ _ kp fun hHeld=>?_
     clear z K;try simp only[Act.put,pu1,pu2,pu3,pu4,pu5,pu6]
     refine zaw [16,17,18,19,20,21,22,23,24] ?_;repeat refine tkL (hS:=hHeld) (h:=?_)
     refine zao ?_;refine zaB 25 (h:=fun K z=>?_);go_simp
     (go_at_call 30;(with_reducible refine((El.rank rA m rc N lA (zc3 rows) 0 _ bK.out.rows t.out (by have:=x.out;omega) aO ds.out).mono (fun e w' h=>show e=.returned (.int .i64 (rk:Int))∧Below _ _ w' from⟨h.1.trans (by rw[dn.out]),h.2⟩)).mono ?_);rintro e v3 ⟨rfl,a⟩;have aW:=hid (zad a an.out);have aX:=hid (zad a ah.out);have aZ:=hid (zad a ai.out);have aG:=hid (aq.out.trans ((a).mono aq.out.size));obtain⟨eo,_,ep,_⟩:=bc2 aW.out;obtain⟨eq,_,er,_,es,_,et,_,eu,_,el,_⟩:=bc6 aX.out;obtain⟨em,_,en,_,ev,_,ew,_,ex,_,ey,_,dS,_,dP,_⟩:=bc8 aZ.out;clear a)
     (try go_wp2_with fail)
     refine z.out _ _ kp fun hHeld=>?_
     clear z K;try simp only[Act.put,pu1,pu2,pu3,pu4,pu5,pu6]
     refine zaw [26] ?_;repeat refine tkL (hS:=hHeld) (h:=?_)
     refine zao ?_;rw[bl.out,du.out];refine zaw [27,28,29] ?_;repeat refine tkL (hS:=hHeld) (h:=?_)
     refine zao ?_;refine zaM (h:=?_);go_wp2;go_ret
     exact⟨rfl,aG.out⟩
