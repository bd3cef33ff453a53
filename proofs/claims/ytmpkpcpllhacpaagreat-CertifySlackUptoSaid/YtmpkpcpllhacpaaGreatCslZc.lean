/- Contracts and lemmas: Csl. Conditions: as each says. -/
import Derived.Test.YtmpkpcpllhacpaaGreatC20Zc
import Derived.Test.YtmpkpcpllhacpaaGreatLaw5Zc
set_option linter.all false
set_option maxHeartbeats 2000000
set_option maxRecDepth 100000
namespace Go.Proofs.YtmpkpcpllhacpaaGreat
open Go.RowKit Am
open Lib (hid)
open Pr (z6X)
attribute [local go_sem ↓] Go.wp_at_zero Go.wp_at_succ
namespace Lw
theorem slack20(A:OA)(M cA:Nat)(L:OA)(N E:Nat)(cs:List (Int × Int))(ls:List LineV)(XX:OA)(b d:Nat)(xs:List (Int × Int))(YY:OA)(c f:Nat)(ys:List (Int × Int))(own:Bool)(w:World)(hf:zcs w A cs)(aF:zex w L ls)(I:zcs w XX xs)(J:zcs w YY ys)(aG:b=xs.length)(aB:b≤1048576)(aH:c=ys.length)(aC:c≤1048576)(G:M=cs.length)(hm:N=ls.length)(a:M≤cA)(aA:N≤E)(hc:cA≤9223372036854775807)(aD:E≤9223372036854775807)  :
  Calls Tryz.prog 3 #[.agg #[.slice A M cA,.slice L N E],.slice XX b d,.slice YY c f,.bool own] w fun e w'=>e=.returned (.bool true)∧Below w.heap.size w w':=by
 have HN:=hid G;have HM:=hid hm;have a0:=hid a;have a3:=hid aA;have a4:=hid hc;have a5:=hid aD;have be:=hid aG;have a7:=hid aB;have bn:=hid (yfb (zyq I));have bf:=hid aH;have a8:=hid aC;have bo:=hid (yfb (zyq J));clear G hm a aA hc aD aG aB aH aC;obtain⟨W,p⟩:∃W,(w.alloc (.cells #[.slice A M cA,.slice L N E] 25))=W:=⟨_,rfl⟩
 have br:=hid (show W.heap[w.heap.size]? = some (.cells #[.slice A M cA,.slice L N E] 25 (0,0))by rw[←p];exact zam (by simp));have BB:=hid (show Below w.heap.size w W by rw[←p];exact zae w _);have HF:=hid (show zcs W A cs by rw[←p];exact(hf).alloc _);have HL:=hid (show zex W L ls by rw[←p];exact(aF).alloc _);have bb:=hid (show zcs W XX xs by rw[←p];exact(I).alloc _);have bc:=hid (show zcs W YY ys by rw[←p];exact(J).alloc _);clear hf aF I J;go_enter Tryz.func3,Tryz.ntmps3;go_wp2_with fail
 clear p;with_reducible refine(awake _).mono ?_
 rintro e w1 ⟨rfl,a⟩;have bS:=hid (zad a br.out);have bL:=hid (HF.out.below a);have bM:=hid (HL.out.below a);have bB:=hid (bb.out.below a);have bx:=hid (bc.out.below a);have aR:=hid (BB.out.trans ((a).mono BB.out.size));obtain⟨bQ,_,bR,_⟩:=bc2 bS.out;clear a;go_wp2_with fail
 with_reducible refine(zLD A M cA L N E cs ls _ bL.out bM.out HN.out HM.out a0.out a3.out a4.out a5.out).mono ?_
 rintro e w2 ⟨C,nC,cC,R,nR,cR,l,cost,rows,rfl,hv,hl,_,_,hgd,a⟩;have bC:=hid (bB.out.below a);have bz:=hid (bx.out.below a);have HC:=hid (show VecS w2 0 (.slice C nC cC) cost from(hv.base (Nat.zero_le _)));have HR:=hid (show RowsS w2 0 (.slice R nR cR) rows from(hl.toS.base (Nat.zero_le _)));have aS:=hid (aR.out.trans ((a).mono aR.out.size));have ax:=hid hgd;have v:=hid (show cost.length=nC from hv.len.symm);have ay:=hid (z6W hgd hv.len.symm hl.toS.len.symm)
 have bj:=hid (fun(w:World) (h1:VecS w 0 (.slice C nC cC) cost) (h2:RowsS w 0 (.slice R nR cR) rows)=>z6X C nC cC R nR cR cost rows w h1 h2 hgd);generalize oO (sol nC nR cost rows)=so,oX nC nR rows (sol nC nR cost rows)=sx,oY nC nR cost rows (sol nC nR cost rows)=sy,oZ nC nR rows (sol nC nR cost rows)=sz,(sol nC nR cost rows).pivots=sn at *
 clear hv hl hgd a;go_wp2_with fail
 with_reducible refine(make XX b d xs _ be.out bC.out a7.out).mono ?_
 rintro e w3 ⟨V0,m0,k0,rfl,hv,a⟩;have bA:=hid (bz.out.below a);have bG:=hid (HC.out.below a);have bF:=hid (HR.out.below a);have bp:=hid (show VecS w3 0 (.slice V0 m0 k0) (frs xs)from(hv.base (Nat.zero_le _)));have aT:=hid (aS.out.trans ((a).mono aS.out.size));clear hv a;go_wp2_with fail
 with_reducible refine(make YY c f ys _ bf.out bA.out a8.out).mono ?_
 rintro e O ⟨V1,m1,k1,rfl,hv,a⟩;have bH:=hid (bG.out.below a);have bV:=hid (bF.out.below a);have bD:=hid (bp.out.below a);have bq:=hid (show VecS O 0 (.slice V1 m1 k1) (frs ys)from(hv.base (Nat.zero_le _)));have aU:=hid (aT.out.trans ((a).mono aT.out.size));clear hv a;have af:=zae O (.cells #[.slice C nC cC,.slice R nR cR] 31);have ar:=hid (bH.out.below af);have aq:=hid (bV.out.below af);have bE:=hid (bD.out.below af);have bW:=hid (bq.out.below af)
 have aV:=hid (aU.out.trans ((af).mono aU.out.size));have KP:=hid (zal O #[.slice C nC cC,.slice R nR cR] 31);obtain⟨b1,_,b2,_⟩:=bc2 KP.out;clear bQ bR;go_upto_if 24 with fail
 generalize hwa:(O.alloc (.cells #[.slice C nC cC,.slice R nR cR] 31))=wa at *
 clear hwa;go_cut[10,11] (fun a1 a2 wy=>∃(X:OA) (b d:Nat) (x:List Rat) (Y:OA) (c f:Nat) (y:List Rat),a1=.slice X b d∧a2=.slice Y c f∧VecS wy 0 (.slice X b d) x∧VecS wy 0 (.slice Y c f) y∧Sm x∧Sm y∧Below wa.heap.size wa wy)
 case first =>
  have aI:=ax.out.hr;cases own with
  | false =>
   go_wp2;go_meet;exact⟨_,_,_,_,_,_,_,_,rfl,rfl,bE.out,bW.out,bn.out,bo.out,Below.refl _ _⟩
  | true =>
   have aw:=hid (Below.refl wa.heap.size wa);go_wp2_with fail
   with_reducible refine(bj.out _ ar.out aq.out).mono ?_
   rintro e v1 ⟨P,nP,cP,Q,nQ,cQ,D,nD,cD,rfl,hp,H,hd,a⟩;have ac:=hid (zad a KP.out);have ab:=hid (ar.out.below a);have V:=hid (aq.out.below a);have HP:=hid (show VecS v1 0 (.slice P nP cP) sx from hp);have HQ:=hid (show VecS v1 0 (.slice Q nQ cQ) sy from H);have t:=hid (aw.out.trans ((a).mono aw.out.size));obtain⟨bT,_,bU,_⟩:=bc2 ac.out;clear hp H hd a;have F:=zae v1 (.cells #[.int .i64 so,.slice P nP cP,.slice Q nQ cQ,.slice D nD cD,.int .i64 (sn:Int)] 36);have o:=hid (zad F ac.out)
   have m:=hid (ab.out.below F);have k:=hid (V.out.below F);have bN:=hid (HP.out.below F);have bK:=hid (HQ.out.below F);have j:=hid (t.out.trans ((F).mono t.out.size));obtain⟨aW,_,aX,_⟩:=bc2 o.out;have KR:=hid (zal v1 #[.int .i64 so,.slice P nP cP,.slice Q nQ cQ,.slice D nD cD,.int .i64 (sn:Int)] 36);obtain⟨_,_,aN,_,aO,_⟩:=bc5 KR.out;go_wp2_with fail
   refine zaS (S:=fun w'=>w'.cell? ⟨v1.heap.size,1,none⟩=some (.slice P nP cP)∧w'.cell? ⟨v1.heap.size,2,none⟩=some (.slice Q nQ cQ)) [] (h:=fun hHeld=>?_);refine zaw [0,1,2,3,4,5] ?_;repeat refine tkL (hS:=hHeld) (h:=?_)
   refine zao ?_;refine zaM (h:=?_);go_wp2;go_meet;exact⟨_,_,_,_,_,_,_,_,rfl,rfl,bN.out.drew,bK.out.drew,fun q H=>Nat.le_trans (ay.out.sx aI q H) (by decide),fun q H=>Nat.le_trans (ay.out.sy aI q H) (by decide),j.out.trans (zap _ 1 |>.mono j.out.size)⟩
 case rest =>
  rename World=>wy
  obtain⟨X,b,d,x,Y,c,f,y,rfl,rfl,I,J,zx,zy,hB⟩:=hcut;have ac:=hid (zad hB KP.out);have ab:=hid (ar.out.below hB);have V:=hid (aq.out.below hB);have HX:=hid (show VecS wy 0 (.slice X b d) x from I);have HY:=hid (show VecS wy 0 (.slice Y c f) y from J);have t:=hid (aV.out.trans ((hB).mono aV.out.size));obtain⟨bT,_,bU,_⟩:=bc2 ac.out;have z:=hid zx;have B:=hid zy;have i:=hid ax.out.good;clear hB I J zx zy;go_wp2_with fail
  cases hbb:yep nC cost rows y
  ·skip
   have HO:=hid (yeH (n:=nC) (cost:=cost) (rows:=rows) (x:=x) (y:=y) (.inl hbb));with_reducible refine(Ct.bounds_is C nC cC R nR cR cost rows Y c f y _ ab.out V.out HY.out i.out B.out v.out false hbb).mono ?_
   rintro e w6 ⟨g2,A2,m2,c2,D2,md2,cd2,rfl,G,a⟩;have g:=(a).alloc (a).size (.cells #[.bool g2,.slice A2 m2 c2,.slice D2 md2 cd2] 47);have o:=hid (zad g ac.out);have m:=hid (ab.out.below g);have k:=hid (V.out.below g);have r:=hid (HX.out.below g);have ag:=hid (HY.out.below g);have j:=hid (t.out.trans ((g).mono t.out.size));have au:=hid (zal w6 #[.bool g2,.slice A2 m2 c2,.slice D2 md2 cd2] 47);obtain⟨aW,_,aX,_⟩:=bc2 o.out;obtain⟨_,_,aN,_,aO,_⟩:=bc3 au.out;clear G a;go_wp2_with fail
   with_reducible refine(Ct.optimal_is C nC cC R nR cR cost rows X b d x Y c f y _ m.out k.out r.out ag.out i.out B.out z.out v.out).mono ?_
   rintro e w8 ⟨rfl,a⟩;have u:=hid (zad a o.out);have Z:=hid (m.out.below a);have aa:=hid (k.out.below a);have T:=hid (r.out.below a);have U:=hid (ag.out.below a);have s:=hid (j.out.trans ((a).mono j.out.size));obtain⟨aY,_,aZ,_⟩:=bc2 u.out;clear a;rw[HO.out];go_wp2;go_ret
   exact⟨rfl,s.out⟩
  ·skip
   have a6:=hid hbb;with_reducible refine(Ct.bounds_is C nC cC R nR cR cost rows Y c f y _ ab.out V.out HY.out i.out B.out v.out true hbb).mono ?_
   rintro e w6 ⟨g2,A2,m2,c2,D2,md2,cd2,rfl,G,a⟩;have g:=(a).alloc (a).size (.cells #[.bool g2,.slice A2 m2 c2,.slice D2 md2 cd2] 47);have o:=hid (zad g ac.out);have m:=hid (ab.out.below g);have k:=hid (V.out.below g);have r:=hid (HX.out.below g);have ag:=hid (HY.out.below g);have j:=hid (t.out.trans ((g).mono t.out.size));have au:=hid (zal w6 #[.bool g2,.slice A2 m2 c2,.slice D2 md2 cd2] 47);obtain⟨aW,_,aX,_⟩:=bc2 o.out;obtain⟨_,_,aN,_,aO,_⟩:=bc3 au.out;clear G a;go_wp2_with fail
   cases hff:znD cost rows x
   ·skip
    have HO:=hid (yeH (n:=nC) (cost:=cost) (rows:=rows) (x:=x) (y:=y) (.inr hff));with_reducible refine(Ct.fits_is C nC cC R nR cR cost rows X b d x _ m.out k.out r.out i.out z.out false hff).mono ?_
    rintro e w7 ⟨rfl,a⟩;have u:=hid (zad a o.out);have Z:=hid (m.out.below a);have aa:=hid (k.out.below a);have T:=hid (r.out.below a);have U:=hid (ag.out.below a);have s:=hid (j.out.trans ((a).mono j.out.size));obtain⟨aY,_,aZ,_⟩:=bc2 u.out;clear a;go_wp2_with fail
    with_reducible refine(Ct.optimal_is C nC cC R nR cR cost rows X b d x Y c f y _ Z.out aa.out T.out U.out i.out B.out z.out v.out).mono ?_
    rintro e w8 ⟨rfl,a⟩;have al:=hid (zad a u.out);have aP:=hid (Z.out.below a);have aQ:=hid (aa.out.below a);have aM:=hid (T.out.below a);have aL:=hid (U.out.below a);have am:=hid (s.out.trans ((a).mono s.out.size));obtain⟨bI,_,bJ,_⟩:=bc2 al.out;clear a;rw[HO.out];go_wp2;go_ret
    exact⟨rfl,am.out⟩
   ·skip
    have bm:=hid (yeK (x:=x) i.out.rw_ v.out i.out.kd a6.out hff);with_reducible refine(Ct.fits_is C nC cC R nR cR cost rows X b d x _ m.out k.out r.out i.out z.out true hff).mono ?_
    rintro e w7 ⟨rfl,a⟩;have u:=hid (zad a o.out);have Z:=hid (m.out.below a);have aa:=hid (k.out.below a);have T:=hid (r.out.below a);have U:=hid (ag.out.below a);have s:=hid (j.out.trans ((a).mono j.out.size));obtain⟨aY,_,aZ,_⟩:=bc2 u.out;clear a;go_wp2_with fail
    refine zaS (S:=fun w'=>w'.cell? ⟨O.heap.size,0,none⟩=some (.slice C nC cC)∧w'.cell? ⟨O.heap.size,1,none⟩=some (.slice R nR cR)) [] (h:=fun hHeld=>?_);refine zaw [0,1,2,4,5,6] ?_;repeat refine tkL (hS:=hHeld) (h:=?_)
    refine zao ?_;refine zaB 3 (h:=fun K hK=>?_);go_simp
    (go_at_call 14;(with_reducible refine(Ct.slack_is C nC cC R nR cR cost rows X b d x Y c f y _ Z.out.drew aa.out.drew T.out.drew U.out.drew i.out B.out z.out).mono ?_);rintro e v8 ⟨rfl,a⟩;have al:=hid (zad a u.out);have aP:=hid (Z.out.drew.below a);have aQ:=hid (aa.out.drew.below a);have aM:=hid (T.out.drew.below a);have aL:=hid (U.out.drew.below a);have am:=hid (s.out.trans ((It.bdrew0' a).mono s.out.size));obtain⟨bI,_,bJ,_⟩:=bc2 al.out;clear a)
    (try go_wp2_with fail)
    refine hK.out _ _ kp fun hHeld=>?_
    clear hK K;try simp only[Act.put,pu1,pu2,pu3,pu4,pu5,pu6]
    refine zaB 7 (h:=fun K hK=>?_);go_simp
    (go_at_call 13;(with_reducible refine(Ct.optimal_is C nC cC R nR cR cost rows X b d x Y c f y _ aP.out aQ.out aM.out aL.out i.out B.out z.out v.out).mono ?_);rintro e v9 ⟨rfl,a⟩;have bP:=hid (zad a al.out);have bO:=hid (am.out.trans ((a).mono am.out.size));obtain⟨bZ,_,b0,_⟩:=bc2 bP.out;clear a)
    (try go_wp2_with fail)
    refine hK.out _ _ kp fun hHeld=>?_
    clear hK K;try simp only[Act.put,pu1,pu2,pu3,pu4,pu5,pu6]
    refine zaw [8,9] ?_;repeat refine tkL (hS:=hHeld) (h:=?_)
    refine zao ?_;refine zaM (h:=?_);rw[bm.out];go_wp2;go_ret
    exact⟨by simp,bO.out⟩
