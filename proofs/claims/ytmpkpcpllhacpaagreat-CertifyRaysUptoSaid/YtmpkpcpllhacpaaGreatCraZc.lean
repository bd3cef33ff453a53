/- Contracts and lemmas: Cra. Conditions: as each says. -/
import Derived.Test.YtmpkpcpllhacpaaGreatC20Zc
import Derived.Test.YtmpkpcpllhacpaaGreatCert7Zc
import Derived.Test.YtmpkpcpllhacpaaGreatLaw5Zc
set_option linter.all false
set_option maxHeartbeats 2000000
set_option maxRecDepth 100000
namespace Go.Proofs.YtmpkpcpllhacpaaGreat
open Go.RowKit Am
open Lib (hid)
open Pr (z6X)
attribute [local go_sem ↓] Go.wp_at_zero Go.wp_at_succ
theorem yg9{x d:List Rat}{t:Int}(m:0≤t)(n:t≤65536)(zx:∀q∈x,mw q≤1000002)(g:∀q∈d,mw q≤1000002):Sm (zly x ((t:Int):Rat) d):=fun q f=>by
 obtain⟨a,c,b,e,rfl⟩:=zQr f;have h1:=zx a c;have i:=g b e;have j:=zrI a (((t:Int):Rat)*b);have k:=zdI ((t:Int):Rat) b;have l:=zu9 t (by constructor<;>omega);omega
namespace Lw
open Pb (zPu)
open Vc (addTimes)
theorem rays20(A:OA)(F cA:Nat)(L:OA)(G u:Nat)(cs:List (Int × Int))(ls:List LineV)(XX:OA)(nx cx:Nat)(xs:List (Int × Int))(O:OA)(nd cd:Nat)(K:List (Int × Int))(ae:Int)(own:Bool)(w:World)(hf:zcs w A cs)(aQ:zex w L ls)(j:zcs w XX xs)(E:zcs w O K)(aS:nx=xs.length)(aL:nx≤1048576)(aP:nd=K.length)(aK:nd≤1048576)(b:F=cs.length)(hm:G=ls.length)(a:F≤cA)(aJ:G≤u)(hc:cA≤9223372036854775807)(aM:u≤9223372036854775807)(aH:0≤ae)(aI:ae<65536) :
  Calls Tryz.prog 6 #[.agg #[.slice A F cA,.slice L G u],.slice XX nx cx,.slice O nd cd,.int .u16 ae,.bool own] w fun e w'=>e=.returned (.bool true)∧Below w.heap.size w w':=by
 have HN:=hid b;have HM:=hid hm;have bn:=hid a;have bo:=hid aJ;have bp:=hid hc;have bq:=hid aM;have bG:=hid aS;have bs:=hid aL;have bP:=hid (zyq j);have bF:=hid aP;have br:=hid aK;have bO:=hid (zyq E);have aB:=hid aH;have aC:=hid aI;clear aH aI;clear b hm a aJ hc aM aS aL aP aK;obtain⟨W,i⟩:∃W,(w.alloc (.cells #[.slice A F cA,.slice L G u] 25))=W:=⟨_,rfl⟩
 have bV:=hid (show W.heap[w.heap.size]? = some (.cells #[.slice A F cA,.slice L G u] 25 (0,0))by rw[←i];exact zam (by simp));have BB:=hid (show Below w.heap.size w W by rw[←i];exact zae w _);have HF:=hid (show zcs W A cs by rw[←i];exact(hf).alloc _);have HL:=hid (show zex W L ls by rw[←i];exact(aQ).alloc _);have bA:=hid (show zcs W XX xs by rw[←i];exact(j).alloc _);have bz:=hid (show zcs W O K by rw[←i];exact(E).alloc _);clear hf aQ j E;go_enter Tryz.func6,Tryz.ntmps6;go_wp2_with fail
 clear i;with_reducible refine(awake _).mono ?_
 rintro e w1 ⟨rfl,a⟩;have cV:=hid (zad a bV.out);have cz:=hid (HF.out.below a);have cB:=hid (HL.out.below a);have b7:=hid (bA.out.below a);have ck:=hid (bz.out.below a);have bi:=hid (BB.out.trans ((a).mono BB.out.size));obtain⟨cT,_,cU,_⟩:=bc2 cV.out;clear a;go_wp2_with fail
 with_reducible refine(zLD A F cA L G u cs ls _ cz.out cB.out HN.out HM.out bn.out bo.out bp.out bq.out).mono ?_
 rintro e w2 ⟨C,nC,cC,R,nR,cR,l,cost,rows,rfl,hv,hl,_,_,hgd,a⟩;have b8:=hid (b7.out.below a);have cl:=hid (ck.out.below a);have HC:=hid (show VecS w2 0 (.slice C nC cC) cost from(hv.base (Nat.zero_le _)));have HR:=hid (show RowsS w2 0 (.slice R nR cR) rows from(hl.toS.base (Nat.zero_le _)));have bj:=hid (bi.out.trans ((a).mono bi.out.size));have U:=hid hgd;have p:=hid (show cost.length=nC from hv.len.symm);have aD:=hid (z6W hgd hv.len.symm hl.toS.len.symm)
 have bK:=hid (fun(w:World) (h1:VecS w 0 (.slice C nC cC) cost) (h2:RowsS w 0 (.slice R nR cR) rows)=>z6X C nC cC R nR cR cost rows w h1 h2 hgd);generalize oO (sol nC nR cost rows)=so,oX nC nR rows (sol nC nR cost rows)=sx,oY nC nR cost rows (sol nC nR cost rows)=sy,oZ nC nR rows (sol nC nR cost rows)=sz,(sol nC nR cost rows).pivots=sn at *
 clear hv hl hgd a;go_wp2_with fail
 with_reducible refine(make XX nx cx xs _ bG.out b8.out bs.out).mono ?_
 rintro e w3 ⟨V0,m0,k0,rfl,hv,a⟩;have cm:=hid (cl.out.below a);have cq:=hid (HC.out.below a);have cn:=hid (HR.out.below a);have bQ:=hid (show VecS w3 0 (.slice V0 m0 k0) (frs xs)from(hv.base (Nat.zero_le _)));have bk:=hid (bj.out.trans ((a).mono bj.out.size));clear hv a;go_wp2_with fail
 with_reducible refine(make O nd cd K _ bF.out cm.out br.out).mono ?_
 rintro e w4 ⟨V1,m1,k1,rfl,hv,a⟩;have ct:=hid (cq.out.below a);have c2:=hid (cn.out.below a);have b9:=hid (bQ.out.below a);have bR:=hid (show VecS w4 0 (.slice V1 m1 k1) (frs K)from(hv.base (Nat.zero_le _)));have bl:=hid (bk.out.trans ((a).mono bk.out.size));clear hv a;have N:=zae w4 (.cells #[.slice C nC cC,.slice R nR cR] 31);have aw:=hid (ct.out.below N);have au:=hid (c2.out.below N);have ca:=hid (b9.out.below N);have c3:=hid (bR.out.below N);have bm:=hid (bl.out.trans ((N).mono bl.out.size))
 have KP:=hid (zal w4 #[.slice C nC cC,.slice R nR cR] 31);obtain⟨dr,_,dt,_⟩:=bc2 KP.out;clear cT cU;go_upto_if 30 with fail
 generalize hwa:(w4.alloc (.cells #[.slice C nC cC,.slice R nR cR] 31))=wa at *
 clear hwa;go_cut[12,13] (fun a1 a2 wy=>∃(X:OA) (f cX:Nat) (x:List Rat) (Y:OA) (k g:Nat) (y:List Rat),a1=.slice X f cX∧a2=.slice Y k g∧VecS wy 0 (.slice X f cX) x∧VecS wy 0 (.slice Y k g) y∧(∀q∈x,mw q≤1000002)∧(∀q∈y,mw q≤1000002)∧Below wa.heap.size wa wy)
 case first =>
  have aT:=U.out.hr;cases own with
  | false =>
   go_wp2;go_meet;exact⟨_,_,_,_,_,_,_,_,rfl,rfl,ca.out,c3.out,fun q c=>Nat.le_trans (bP.out q c) (by decide),fun q c=>Nat.le_trans (bO.out q c) (by decide),Below.refl _ _⟩
  | true =>
   have aA:=hid (Below.refl wa.heap.size wa);go_wp2_with fail
   with_reducible refine(bK.out _ aw.out au.out).mono ?_
   rintro e v1 ⟨P,nP,cP,Q,nQ,cQ,D,nD,cD,rfl,hp,c,E,a⟩;have J:=hid (zad a KP.out);have I:=hid (aw.out.below a);have H:=hid (au.out.below a);have HP:=hid (show VecS v1 0 (.slice P nP cP) sx from hp);have HD:=hid (show VecS v1 0 (.slice D nD cD) sz from E);have m:=hid (aA.out.trans ((a).mono aA.out.size));obtain⟨cW,_,c0,_⟩:=bc2 J.out;clear hp c E a;have B:=zae v1 (.cells #[.int .i64 so,.slice P nP cP,.slice Q nQ cQ,.slice D nD cD,.int .i64 (sn:Int)] 36);have ay:=hid (zad B J.out)
   have ax:=hid (I.out.below B);have av:=hid (H.out.below B);have cG:=hid (HP.out.below B);have cH:=hid (HD.out.below B);have n:=hid (m.out.trans ((B).mono m.out.size));have KR:=hid (zal v1 #[.int .i64 so,.slice P nP cP,.slice Q nQ cQ,.slice D nD cD,.int .i64 (sn:Int)] 36);obtain⟨_,_,dc,_,_,_,dd,_⟩:=bc5 KR.out;go_wp2_with fail
   refine zaS (S:=fun w'=>w'.cell? ⟨v1.heap.size,1,none⟩=some (.slice P nP cP)∧w'.cell? ⟨v1.heap.size,3,none⟩=some (.slice D nD cD)) [] (h:=fun hHeld=>?_);refine zaw [0,1,2,3,4,5] ?_;repeat refine tkL (hS:=hHeld) (h:=?_)
   refine zao ?_;refine zaM (h:=?_);go_wp2;go_meet;exact⟨_,_,_,_,_,_,_,_,rfl,rfl,cG.out.drew,cH.out.drew,fun q c=>Nat.le_trans (aD.out.sx aT q c) (by decide),aD.out.sz aT,n.out.trans (zap _ 1 |>.mono n.out.size)⟩
 case rest =>
  rename World=>wy
  obtain⟨X,f,cX,x,Y,k,g,y,rfl,rfl,j,hy,zx,zy,M⟩:=hcut;have J:=hid (zad M KP.out);have I:=hid (aw.out.below M);have H:=hid (au.out.below M);have HX:=hid (show VecS wy 0 (.slice X f cX) x from j);have HY:=hid (show VecS wy 0 (.slice Y k g) y from hy);have m:=hid (bm.out.trans ((M).mono bm.out.size));obtain⟨cW,_,c0,_⟩:=bc2 J.out;have s:=hid zx;have ZY:=hid zy;have o:=hid U.out.good;have bC:=hid j.len;clear M j hy zx zy;cases hu:yey cost rows x y
  ·have HU:=hid hu;go_wp2_with fail
   with_reducible refine(Ct.unbounded_is C nC cC R nR cR cost rows X f cX x Y k g y _ I.out H.out HX.out HY.out o.out (yfg s.out) (yfg ZY.out) p.out).mono ?_
   rintro e w6 ⟨rfl,a⟩;have ay:=hid (zad a J.out);have ax:=hid (I.out.below a);have av:=hid (H.out.below a);have a3:=hid (HX.out.below a);have a4:=hid (HY.out.below a);have n:=hid (m.out.trans ((a).mono m.out.size));clear a;rw[HU.out];go_wp2;go_ret
   exact⟨rfl,n.out⟩
  ·have HU:=hid hu;obtain⟨aU,aV,_⟩:=yec.1 hu;have al:=hid (show x.length=cost.length from(ydT.1 aU).1);have bD:=hid (show y.length=cost.length from(ydT.1 aV).1);obtain⟨T,hT⟩:∃T:Int,1+ae=T:=⟨_,rfl⟩
   have r:=hid (show 0<T∧T≤65536 from⟨by rw[←hT];have:=aB.out;omega,by rw[←hT];have:=aC.out;omega⟩);have bN:=hid hT;obtain⟨hz,aR⟩:=yeU o.out.rw_ p.out o.out.kd hu (t:=((T:Int):Rat)) (by have h:=r.out.1;exact_mod_cast h);have bS:=hid hz;have bT:=hid aR;have an:=hid (yg9 (t:=T) (by have:=r.out.1;omega) r.out.2 s.out ZY.out);have bE:=hid (show(zly x ((T:Int):Rat) y).length=cost.length from(ydT.1 hz).1);clear hu aU aV hz aR hT;go_wp2_with fail
   with_reducible refine(Ct.unbounded_is C nC cC R nR cR cost rows X f cX x Y k g y _ I.out H.out HX.out HY.out o.out (yfg s.out) (yfg ZY.out) p.out).mono ?_
   rintro e w6 ⟨rfl,a⟩;have ay:=hid (zad a J.out);have ax:=hid (I.out.below a);have av:=hid (H.out.below a);have a3:=hid (HX.out.below a);have a4:=hid (HY.out.below a);have n:=hid (m.out.trans ((a).mono m.out.size));clear a;rw[HU.out];have c5:=aB.out;have c6:=aC.out;go_wp2_with fail
   rw[bN.out];have aN:nC≤1000:=by have:=U.out.hc;omega
   have c8:nR≤1000:=by have:=U.out.hr;omega
   have V:=hid (show Sm cost from o.out.sc);with_reducible refine(Rt.int T (by have:=r.out;omega) (by have:=r.out;omega) _).mono ?_
   rintro e w7 ⟨g7,A7,m7,c7,D7,md7,cd7,rfl,b,a⟩;have c1:=hid (zad a ay.out);have cy:=hid (ax.out.below a);have cE:=hid (av.out.below a);have aZ:=hid (a3.out.below a);have b4:=hid (a4.out.below a);have bM:=hid (show RatS w7 g7 (.slice A7 m7 c7) (.slice D7 md7 cd7) ((T:Int):Rat)from b);have a6:=hid (n.out.trans ((a).mono n.out.size));clear b a;go_wp2_with fail
   with_reducible refine(addTimes X f cX x g7 A7 m7 c7 D7 md7 cd7 ((T:Int):Rat) Y k g y 0 0 _ aZ.out bM.out b4.out (by rw[al.out,bD.out]) (by rw[bC.out,al.out,p.out];omega) (fun q c=>Nat.le_trans (s.out q c) (by decide)) (Nat.le_trans (zu9 T (by have:=r.out;constructor<;>omega)) (by decide)) (fun q c=>Nat.le_trans (ZY.out q c) (by decide))).mono ?_
   rintro e w8 ⟨Z,nZ,cZ,rfl,hv,a⟩;have a5:=hid (zad a c1.out);have be:=hid (cy.out.below a);have bf:=hid (cE.out.below a);have cj:=hid (aZ.out.below a);have bU:=hid (show VecS w8 0 (.slice Z nZ cZ) (zly x ((T:Int):Rat) y)from(hv.base (Nat.zero_le _)));have a7:=hid (a6.out.trans ((a).mono a6.out.size));obtain⟨dk,_,dl,_⟩:=bc2 a5.out;clear hv a;generalize zly x ((T:Int):Rat) y=z at *
   go_wp2_with fail
   with_reducible refine(zPu C nC cC R nR cR cost rows X f cX x _ be.out bf.out cj.out al.out.symm aN V.out (yfg s.out)).mono ?_
   rintro e w9 ⟨g9,A9,m9,c9,D9,md9,cd9,rfl,b,a⟩;have cI:=hid (zad a a5.out);have cM:=hid (be.out.below a);have cN:=hid (bf.out.below a);have cb:=hid (bU.out.below a);have bw:=hid (show RatS w9 g9 (.slice A9 m9 c9) (.slice D9 md9 cd9) (dot cost x)from b);have bd:=hid (a7.out.trans ((a).mono a7.out.size));clear b a;have v:=zae w9 (.cells #[.bool g9,.slice A9 m9 c9,.slice D9 md9 cd9] 47);have bc:=hid (zad v cI.out);have bg:=hid (cM.out.below v);have bh:=hid (cN.out.below v)
   have a0:=hid (cb.out.below v);have cf:=hid (bw.out.below v);have a8:=hid (bd.out.trans ((v).mono bd.out.size));obtain⟨dp,_,dq,_⟩:=bc2 bc.out;have bY:=hid (zal w9 #[.bool g9,.slice A9 m9 c9,.slice D9 md9 cd9] 47);go_wp2_with fail
   with_reducible refine(zPu C nC cC R nR cR cost rows Z nZ cZ z _ bg.out bh.out a0.out bE.out.symm aN V.out an.out).mono ?_
   rintro e aq ⟨g10,A10,m10,c10,D10,md10,cd10,rfl,b,a⟩;have cv:=hid (zad a bc.out);have cw:=hid (zad a bY.out);have cJ:=hid (bg.out.below a);have cK:=hid (bh.out.below a);have cc:=hid (a0.out.below a);have cg:=hid (cf.out.below a);have bv:=hid (show RatS aq g10 (.slice A10 m10 c10) (.slice D10 md10 cd10) (dot cost z)from b);have ba:=hid (a8.out.trans ((a).mono a8.out.size));clear b a;have d:=zae aq (.cells #[.bool g10,.slice A10 m10 c10,.slice D10 md10 cd10] 47);have cF:=hid (zad d cv.out)
   have cu:=hid (zad d cw.out);have cO:=hid (cJ.out.below d);have cS:=hid (cK.out.below d);have ce:=hid (cc.out.below d);have ch:=hid (cg.out.below d);have b5:=hid (bv.out.below d);have bb:=hid (ba.out.trans ((d).mono ba.out.size));obtain⟨dm,_,dn,_⟩:=bc2 cF.out;have bX:=hid (zal aq #[.bool g10,.slice A10 m10 c10,.slice D10 md10 cd10] 47);have ak:=hid (show decide (zlX (dot cost z) (dot cost x)<0)=true from decide_eq_true (zm9.2 bT.out))
   have L1:=hid (show 4*(mw (dot cost z)+mw (dot cost x))+8≤LIM by have h1:=zDI V.out an.out (by rw[p.out];omega);have h2:=zDI V.out (yfg s.out) (by rw[p.out];omega);have:=zaP;omega);go_wp2_with fail
   with_reducible refine(Ct.fits_is C nC cC R nR cR cost rows Z nZ cZ z _ cO.out cS.out ce.out o.out an.out true bS.out).mono ?_
   rintro e da ⟨rfl,a⟩;have co:=hid (zad a cu.out);have cp:=hid (zad a bX.out);have ci:=hid (ch.out.below a);have b6:=hid (b5.out.below a);have a9:=hid (bb.out.trans ((a).mono bb.out.size));obtain⟨dg,_,dh,_,di,_⟩:=bc3 co.out;obtain⟨de,_,df,_,dj,_⟩:=bc3 cp.out;clear a;go_wp2_with fail
   with_reducible refine(Rt.cmpr g10 A10 m10 c10 D10 md10 cd10 (dot cost z) g9 A9 m9 c9 D9 md9 cd9 (dot cost x) _ b6.out ci.out L1.out).mono ?_
   rintro e db ⟨rfl,a⟩;have cr:=hid (a9.out.trans ((a).mono a9.out.size));clear a;have c4:=ak.out;go_wp2;go_ret
   exact⟨by first | rfl | (rw[ak.out];first | done | rfl) | (simp;exact of_decide_eq_true ak.out),cr.out⟩
