/- Contracts and lemmas: Csc. Conditions: as each says. -/
import Derived.Test.YtbdhheepakmgkaaGreatC20Zc
import Derived.Test.YtbdhheepakmgkaaGreatCs21Zc
import Derived.Test.YtbdhheepakmgkaaGreatCopyZc
import Derived.Test.YtbdhheepakmgkaaGreatLaw5Zc
set_option linter.all false
set_option maxHeartbeats 2000000
set_option maxRecDepth 100000
namespace Go.Proofs.YtbdhheepakmgkaaGreat
open Go.RowKit Am
open Lib (hid)
open Pr (z6X)
attribute [local go_sem ↓] Go.wp_at_zero Go.wp_at_succ
theorem yh0{xs:List Rat}{t:Int}{S:Nat}(f:0≤t)(g:t≤65536)(zx:∀q∈xs,mw q≤S):∀q∈scale ((t:Int):Rat) xs,mw q≤S+1:=fun q c=>by
 obtain⟨a,b,rfl⟩:=List.mem_map.1 c;have h1:=zx a b;have d:=zdI ((t:Int):Rat) a;have e:=zu9 t (by constructor<;>omega);omega
namespace Lw
theorem scales20(A:OA)(H cA:Nat)(L:OA)(I z:Nat)(cs:List (Int × Int))(ls:List LineV)(YY:OA)(ny cy:Nat)(ys:List (Int × Int))(an:Int)(own:Bool)(w:World)(hf:zcs w A cs)(aU:zex w L ls)(G:zcs w YY ys)(aV:ny=ys.length)(aR:ny≤1048576)(g:H=cs.length)(hm:I=ls.length)(a:H≤cA)(aP:I≤z)(hc:cA≤9223372036854775807)(aS:z≤9223372036854775807)(aN:0≤an)(aO:an<256) :
  Calls Tryz.prog 3 #[.agg #[.slice A H cA,.slice L I z],.slice YY ny cy,.int .u8 an,.bool own] w fun e w'=>e=.returned (.bool true)∧Below w.heap.size w w':=by
 have HN:=hid g;have HM:=hid hm;have bY:=hid a;have b0:=hid aP;have b1:=hid hc;have b2:=hid aS;have aF:=hid aV;have aC:=hid aR;have cB:=hid (zyq G);have aD:=hid aN;have aE:=hid aO;clear aN aO;clear g hm a aP hc aS aV aR;obtain⟨W,B⟩:∃W,(w.alloc (.cells #[.slice A H cA,.slice L I z] 25))=W:=⟨_,rfl⟩
 have cK:=hid (show W.heap[w.heap.size]? = some (.cells #[.slice A H cA,.slice L I z] 25 (0,0))by rw[←B];exact zam (by simp));have BB:=hid (show Below w.heap.size w W by rw[←B];exact zae w _);have HF:=hid (show zcs W A cs by rw[←B];exact(hf).alloc _);have HL:=hid (show zex W L ls by rw[←B];exact(aU).alloc _);have b9:=hid (show zcs W YY ys by rw[←B];exact(G).alloc _);clear hf aU G;go_enter Tryz.func3,Tryz.ntmps3;go_wp2_with fail
 clear B;with_reducible refine(awake _).mono ?_
 rintro e w1 ⟨rfl,a⟩;have en:=hid (zad a cK.out);have d1:=hid (HF.out.below a);have d2:=hid (HL.out.below a);have c8:=hid (b9.out.below a);have bQ:=hid (BB.out.trans ((a).mono BB.out.size));obtain⟨el,_,em,_⟩:=bc2 en.out;clear a;go_wp2_with fail
 with_reducible refine(zLD A H cA L I z cs ls _ d1.out d2.out HN.out HM.out bY.out b0.out b1.out b2.out).mono ?_
 rintro e w2 ⟨C,nC,cC,R,nR,cR,l,cost,rows,rfl,hv,hl,_,_,hgd,a⟩;have c9:=hid (c8.out.below a);have HC:=hid (show VecS w2 0 (.slice C nC cC) cost from(hv.base (Nat.zero_le _)));have HR:=hid (show RowsS w2 0 (.slice R nR cR) rows from(hl.toS.base (Nat.zero_le _)));have bR:=hid (bQ.out.trans ((a).mono bQ.out.size));have U:=hid hgd;have ad:=hid (show cost.length=nC from hv.len.symm);have ch:=hid (show rows.length=nR from hl.toS.len.symm);have aI:=hid (z6W hgd hv.len.symm hl.toS.len.symm)
 have co:=hid (fun(w:World) (h1:VecS w 0 (.slice C nC cC) cost) (h2:RowsS w 0 (.slice R nR cR) rows)=>z6X C nC cC R nR cR cost rows w h1 h2 hgd);generalize oO (sol nC nR cost rows)=so,oX nC nR rows (sol nC nR cost rows)=sx,oY nC nR cost rows (sol nC nR cost rows)=sy,oZ nC nR rows (sol nC nR cost rows)=sz,(sol nC nR cost rows).pivots=sn at *
 clear hv hl hgd a;go_wp2_with fail
 with_reducible refine(make YY ny cy ys _ aF.out c9.out aC.out).mono ?_
 rintro e N ⟨V0,m0,k0,rfl,hv,a⟩;have dZ:=hid (HC.out.below a);have dS:=hid (HR.out.below a);have cE:=hid (show VecS N 0 (.slice V0 m0 k0) (frs ys)from(hv.base (Nat.zero_le _)));have bS:=hid (bR.out.trans ((a).mono bR.out.size));clear hv a;have aj:=zae N (.cells #[.slice C nC cC,.slice R nR cR] 31);have aw:=hid (dZ.out.below aj);have aA:=hid (dS.out.below aj);have a6:=hid (cE.out.below aj);have bU:=hid (bS.out.trans ((aj).mono bS.out.size));have KP:=hid (zal N #[.slice C nC cC,.slice R nR cR] 31)
 obtain⟨eo,_,ep,_⟩:=bc2 KP.out;clear el em;go_upto_if 26 with fail
 generalize hwa:(N.alloc (.cells #[.slice C nC cC,.slice R nR cR] 31))=wa at *
 clear hwa;go_cut[10] (fun a1 wy=>∃(Y:OA) (v x:Nat) (y:List Rat),a1=.slice Y v x∧VecS wy 0 (.slice Y v x) y∧(∀q∈y,mw q≤1000002)∧v≤1048576∧Below wa.heap.size wa wy)
 case first =>
  have cU:=U.out.hr;cases own with
  | false =>
   go_wp2;go_meet;exact⟨_,_,_,_,rfl,a6.out,fun q c=>Nat.le_trans (cB.out q c) (by decide),by rw[a6.out.len,zuU,←aF.out];exact aC.out,Below.refl _ _⟩
  | true =>
   have ac:=hid (Below.refl wa.heap.size wa);have cI:=hid (show sy.length≤1048576 from by rcases aI.out.shows with ⟨_,h,_⟩ | ⟨_,_,h,_⟩ | ⟨_,h,_⟩;rw[h.1.ly];omega;rw[h.1.ly];omega;rw[h];exact Nat.zero_le _);go_wp2_with fail
   with_reducible refine(co.out _ aw.out aA.out).mono ?_
   rintro e v1 ⟨P,nP,cP,Q,nQ,cQ,D,nD,cD,rfl,hp,c,hd,a⟩;have az:=hid (zad a KP.out);have ax:=hid (aw.out.below a);have av:=hid (aA.out.below a);have HQ:=hid (show VecS v1 0 (.slice Q nQ cQ) sy from c);have ab:=hid (ac.out.trans ((a).mono ac.out.size));clear hp c hd a;have X:=zae v1 (.cells #[.int .i64 so,.slice P nP cP,.slice Q nQ cQ,.slice D nD cD,.int .i64 (sn:Int)] 36);have bT:=hid (zad X az.out);have bI:=hid (ax.out.below X);have bA:=hid (av.out.below X);have bx:=hid (HQ.out.below X)
   have ao:=hid (ab.out.trans ((X).mono ab.out.size));have KR:=hid (zal v1 #[.int .i64 so,.slice P nP cP,.slice Q nQ cQ,.slice D nD cD,.int .i64 (sn:Int)] 36);obtain⟨_,_,_,_,fH,_⟩:=bc5 KR.out;go_wp2;go_meet;exact⟨_,_,_,_,rfl,bx.out,fun q c=>Nat.le_trans (aI.out.sy cU q c) (by decide),by rw[bx.out.len];exact cI.out,ao.out⟩
 case rest =>
  rename World=>wy
  obtain⟨Y,v,x,y,rfl,G,zy,aW,b⟩:=hcut;have az:=hid (zad b KP.out);have ax:=hid (aw.out.below b);have av:=hid (aA.out.below b);have HY:=hid (show VecS wy 0 (.slice Y v x) y from G);have ab:=hid (bU.out.trans ((b).mono bU.out.size));have V:=hid zy;have cn:=hid aW;have f:=hid U.out.good;clear b G zy aW;obtain⟨T,hT⟩:∃T:Int,1+an=T:=⟨_,rfl⟩
  have u:=hid (show 0<T∧T≤65536 from⟨by rw[←hT];have:=aD.out;omega,by rw[←hT];have:=aE.out;omega⟩);have cz:=hid hT;obtain⟨t,F⟩:∃t:Rat,((T:Int):Rat)=t:=⟨_,rfl⟩
  have cx:=hid F;have aH:=hid (show 0<t by rw[←F];have h:=u.out.1;exact_mod_cast h);have ae:=hid (show mw t≤1 by rw[←F];exact zu9 T (by have:=u.out;constructor<;>omega));have aJ:=hid (show Sm (scale t y)from fun q c=>by rw[←F]at c;exact Nat.le_trans (yh0 (by have:=u.out;omega) u.out.2 V.out q c) (by decide));have cu:=hid (show Sm (scale t cost)from fun q c=>by rw[←F]at c;exact Nat.le_trans (yh0 (by have:=u.out;omega) u.out.2 U.out.sc q c) (by decide))
  have ca:=hid (show Good nC nR (scale t cost) rows from⟨f.out.hc,f.out.hr,cu.out,f.out.rw_,f.out.kd⟩);have cf:=hid (show(scale t cost).length=nC by rw[zfH];exact ad.out);have cb:=hid (yi6 (n:=nC) (y:=y) f.out.rw_ aH.out);have ac:=hid (yi5 (n:=nC) (cost:=cost) (y:=y) f.out.rw_ ad.out aH.out);have ct:=hid (show sb (scale t y) rows=t*sb y rows from yiC ..);have cl:=hid (yeX f.out.rw_ (yfg V.out) (by rw[ch.out];exact f.out.hr));have ev:=aD.out;have ew:=aE.out;clear hT F;go_wp2_with fail
  rw[cz.out];with_reducible refine(Rt.int T (by have:=u.out;omega) (by have:=u.out;omega) _).mono ?_
  rintro e O ⟨g7,A7,m7,c7,D7,md7,cd7,rfl,g,a⟩;have bT:=hid (zad a az.out);have bI:=hid (ax.out.below a);have bA:=hid (av.out.below a);have dK:=hid (HY.out.below a);have cw:=hid (show RatS O g7 (.slice A7 m7 c7) (.slice D7 md7 cd7) t from(cx.out▸g));have ao:=hid (ab.out.trans ((a).mono ab.out.size));clear g a;have E:=zae O (.cells #[.bool g7,.slice A7 m7 c7,.slice D7 md7 cd7] 47);have eq:=hid (zad E bT.out);have d3:=hid (bI.out.below E);have d0:=hid (bA.out.below E);have a5:=hid (dK.out.below E)
  have bf:=hid (cw.out.below E);have bW:=hid (ao.out.trans ((E).mono ao.out.size));have aL:=hid (zal O #[.bool g7,.slice A7 m7 c7,.slice D7 md7 cd7] 47);obtain⟨dT,_,dU,_,dV,_⟩:=bc3 aL.out;go_wp2_with fail
  with_reducible refine(Vc.scale g7 A7 m7 c7 D7 md7 cd7 t Y v x y 0 _ a5.out bf.out cn.out (fun q c=>Nat.le_trans (V.out q c) (by decide)) (Nat.le_trans ae.out (by decide))).mono ?_
  rintro e w8 ⟨Z,nZ,cZ,rfl,hv,a⟩;have bV:=hid (zad a eq.out);have dY:=hid (zad a aL.out);have bG:=hid (d3.out.below a);have bH:=hid (d0.out.below a);have c6:=hid (a5.out.below a);have dl:=hid (bf.out.below a);have cJ:=hid (show VecS w8 0 (.slice Z nZ cZ) (scale t y)from(hv.base (Nat.zero_le _)));have bE:=hid (bW.out.trans ((a).mono bW.out.size));obtain⟨er,_,es,_⟩:=bc2 bV.out;clear hv a;go_wp2_with fail
  with_reducible refine(Pb.copy C nC cC R nR cR cost rows _ bG.out bH.out f.out.hc f.out.hr (fun p hp=>by rw[(U.out.rw_ p hp).1];exact f.out.hc)).mono ?_
  rintro e o ⟨C2,cC2,R2,cR2,rfl,hv,hr2,a⟩;have bC:=hid (zad a bV.out);have bD:=hid (zad a dY.out);have bN:=hid (bG.out.below a);have eh:=hid (bH.out.below a);have db:=hid (c6.out.below a);have bg:=hid (dl.out.below a);have dm:=hid (cJ.out.below a);have cr:=hid (show RowsS o 0 (.slice R2 nR cR2) rows from(hr2.base (Nat.zero_le _)));have bF:=hid (bE.out.trans ((a).mono bE.out.size));clear hv hr2 a;have ai:=zae o (.cells #[.slice C2 nC cC2,.slice R2 nR cR2] 31);have ef:=hid (zad ai bC.out)
  have eg:=hid (zad ai bD.out);have ei:=hid (bN.out.below ai);have du:=hid (bg.out.below ai);obtain⟨ec,_⟩:=bc2 ef.out;obtain⟨ed,_,ee,_,ej,_⟩:=bc3 eg.out;have KQ:=hid (zal o #[.slice C2 nC cC2,.slice R2 nR cR2] 31);go_upto_region 12 with fail
  go_cut[] (fun wz=>∃(r:OA) (s:Nat),wz.heap[o.heap.size]? = some (.cells #[.slice r nC s,.slice R2 nR cR2] 31 (0,0))∧VecS wz 0 (.slice r nC s) (scale t cost)∧Below o.heap.size o wz)
  case first =>
   have b3:=hid (zae o (.cells #[.slice C2 nC cC2,.slice R2 nR cR2] 31));go_wp2_with fail
   with_reducible refine(Vc.scale g7 A7 m7 c7 D7 md7 cd7 t C nC cC cost 0 _ ei.out du.out (by have:=U.out.hc;omega) (fun q c=>Nat.le_trans (f.out.sc q c) (by decide)) (Nat.le_trans ae.out (by decide))).mono ?_
   rintro e cW ⟨r,nZ2,s,rfl,hv,a⟩;have ay:=hid (zad a KQ.out);have af:=hid (show VecS cW 0 (.slice r nZ2 s) (scale t cost)from(hv.base (Nat.zero_le _)));obtain⟨fE,_,e6,_⟩:=bf2 ay.out;have bZ:=hid (b3.out.trans (a.mono (by simp)));obtain rfl:nC=nZ2:=by rw[af.out.len,zfH,ad.out]
   clear hv a;go_wp2;go_meet;exact⟨r,s,zar _ ay.out,af.out.setT (p:=⟨o.heap.size,0,none⟩) ay.out (by decide) (by decide) _,bZ.out.setCell (p:=⟨o.heap.size,0,none⟩) (Nat.le_refl _) _⟩
  case rest =>
   rename World=>wz
   obtain⟨r,s,aQ,aX,b⟩:=hcut;have bz:=hid (zad b bC.out);have dX:=hid (zad b bD.out);have bd:=hid (bN.out.below b);have be:=hid (eh.out.below b);have a2:=hid (db.out.below b);have dv:=hid (bg.out.below b);have dE:=hid (dm.out.below b);have dr:=hid (cr.out.below b);have af:=hid (show VecS wz 0 (.slice r nC s) (scale t cost)from aX);have bK:=hid (bF.out.trans ((b).mono bF.out.size));obtain⟨fC,_,fD,_⟩:=bc2 bz.out;have cN:=hid aQ;clear aQ aX b;obtain⟨ib,ar⟩:∃ib,yeD nC rows y=ib:=⟨_,rfl⟩
   obtain⟨k,aq⟩:∃k,yep nC cost rows y=k:=⟨_,rfl⟩
   have cc:=hid ar;have cd:=hid (cb.out.trans ar);have b4:=hid aq;have b5:=hid (ac.out.trans aq);obtain⟨d,ak⟩:∃d,(if k=true then sb y rows else 0)=d:=⟨_,rfl⟩
   have cF:=hid ak;have cG:=hid (show(if k=true then sb (scale t y) rows else 0)=t*d by rw[←ak,ct.out];cases k;exact(Rat.mul_zero t).symm;rfl);have aG:=hid (show mw d≤100000000 by rw[←ak];cases k;exact Nat.le_trans mw0 (by decide);exact cl.out);have cg:=hid (show 4*(mw t+mw d)+8≤LIM by have:=ae.out;have:=aG.out;have:=zaP;omega);have ci:=hid (show 4*(mw (t*d)+mw (t*d))+8≤LIM by have:=ae.out;have:=aG.out;have:=zaP;have:=zdI t d;omega)
   have cv:=hid (show zA9 (t*d) (t*d)=true from decide_eq_true rfl);clear ar aq ak;go_wp2_with fail
   with_reducible refine(Ct.bounds_is C nC cC R nR cR cost rows Y v x y _ bd.out be.out a2.out f.out (yfg V.out) ad.out k b4.out).mono ?_
   rintro e J ⟨g11,A11,m11,c11,D11,md11,cd11,rfl,g,a⟩;have dW:=hid (zad a bz.out);have et:=hid (zad a dX.out);have d6:=hid (zad a cN.out);have dh:=hid (bd.out.below a);have dj:=hid (be.out.below a);have c1:=hid (a2.out.below a);have dw:=hid (dv.out.below a);have dF:=hid (dE.out.below a);have ds:=hid (dr.out.below a);have dC:=hid (af.out.below a);have HA:=hid (show RatS J g11 (.slice A11 m11 c11) (.slice D11 md11 cd11) d from(cF.out▸g));have bB:=hid (bK.out.trans ((a).mono bK.out.size));clear g a
   have i:=zae J (.cells #[.bool g11,.slice A11 m11 c11,.slice D11 md11 cd11] 47);have d4:=hid (zad i dW.out);have d5:=hid (zad i et.out);have bL:=hid (zad i d6.out);have di:=hid (dh.out.below i);have dk:=hid (dj.out.below i);have c2:=hid (c1.out.below i);have dx:=hid (dw.out.below i);have a8:=hid (dF.out.below i);have dt:=hid (ds.out.below i);have dD:=hid (dC.out.below i);have dc:=hid (HA.out.below i);have bJ:=hid (bB.out.trans ((i).mono bB.out.size));obtain⟨d7,_,d8,_⟩:=bc2 bL.out
   have cS:=hid (zal J #[.bool g11,.slice A11 m11 c11,.slice D11 md11 cd11] 47);go_wp2_with fail
   with_reducible refine(Ct.bounds_is r nC s R2 nR cR2 (scale t cost) rows Z nZ cZ (scale t y) _ dD.out dt.out a8.out ca.out aJ.out cf.out k b5.out).mono ?_
   rintro e M ⟨g12,A12,m12,c12,D12,md12,cd12,rfl,g,a⟩;have d9:=hid (zad a d4.out);have ea:=hid (zad a d5.out);have eb:=hid (zad a bL.out);have ek:=hid (zad a cS.out);have dP:=hid (di.out.below a);have c0:=hid (dk.out.below a);have c3:=hid (c2.out.below a);have dy:=hid (dx.out.below a);have dG:=hid (a8.out.below a);have dd:=hid (dc.out.below a);have b6:=hid (show RatS M g12 (.slice A12 m12 c12) (.slice D12 md12 cd12) (t*d)from(cG.out▸g));have bM:=hid (bJ.out.trans ((a).mono bJ.out.size))
   clear g a;have j:=zae M (.cells #[.bool g12,.slice A12 m12 c12,.slice D12 md12 cd12] 47);have bP:=hid (zad j d9.out);have bO:=hid (zad j ea.out);have bq:=hid (zad j eb.out);have a3:=hid (zad j ek.out);have bv:=hid (dP.out.below j);have bw:=hid (c0.out.below j);have c4:=hid (c3.out.below j);have dz:=hid (dy.out.below j);have dH:=hid (dG.out.below j);have de:=hid (dd.out.below j);have da:=hid (b6.out.below j);have bt:=hid (bM.out.trans ((j).mono bM.out.size));obtain⟨fF,_,fG,_⟩:=bc2 bP.out
   obtain⟨e7,_,e8,_,e9,_⟩:=bc3 bO.out;obtain⟨fu,_,fy,_⟩:=bc2 bq.out;obtain⟨eL,_,eN,_,eP,_⟩:=bc3 a3.out;have aK:=hid (zal M #[.bool g12,.slice A12 m12 c12,.slice D12 md12 cd12] 47);obtain⟨eV,_,e0,_,e5,_⟩:=bc3 aK.out;clear eo ep dT dU dV er es ec ed ee ej d7 d8;go_wp2_with fail
   have ex:decide (ib=ib)=true:=decide_eq_true rfl;have eu:decide (k=k)=true:=decide_eq_true rfl;cases ib<;>cases k
   all_goals
    refine zaS (S:=fun w'=>w'.cell? ⟨N.heap.size,0,none⟩=some (.slice C nC cC)∧w'.cell? ⟨N.heap.size,1,none⟩=some (.slice R nR cR)∧w'.cell? ⟨O.heap.size,0,none⟩=some (.bool g7)∧w'.cell? ⟨O.heap.size,1,none⟩=some (.slice A7 m7 c7)∧w'.cell? ⟨O.heap.size,2,none⟩=some (.slice D7 md7 cd7)∧w'.cell? ⟨o.heap.size,0,none⟩=some (.slice r nC s)∧w'.cell? ⟨o.heap.size,1,none⟩=some (.slice R2 nR cR2)∧w'.cell? ⟨J.heap.size,0,none⟩=some (.bool g11)∧w'.cell? ⟨J.heap.size,1,none⟩=some (.slice A11 m11 c11)∧w'.cell? ⟨J.heap.size,2,none⟩=some (.slice D11 md11 cd11)∧w'.cell? ⟨M.heap.size,0,none⟩=some (.bool g12)∧w'.cell? ⟨M.heap.size,1,none⟩=some (.slice A12 m12 c12)∧w'.cell? ⟨M.heap.size,2,none⟩=some (.slice D12 md12 cd12)) [] (h:=fun hHeld=>?_)
    refine zaw [0,1,3,4] ?_;repeat refine tkL (hS:=hHeld) (h:=?_)
    refine zao ?_;refine zaB 2 (h:=fun K m=>?_);go_simp
    (go_at_call 12;(with_reducible refine(Ct.infeasible_is C nC cC R nR cR cost rows Z nZ cZ (scale t y) _ bv.out.drew bw.out.drew dH.out.drew f.out aJ.out).mono ?_);rintro e v1 ⟨rfl,a⟩;have bh:=hid (zad a bP.out);have bm:=hid (zad a bO.out);have br:=hid (zad a bq.out);have a4:=hid (zad a a3.out);have a9:=hid (zad a aK.out);have dQ:=hid (bv.out.drew.below a);have dR:=hid (bw.out.drew.below a);have c5:=hid (c4.out.drew.below a);have dA:=hid (dz.out.drew.below a);have df:=hid (de.out.drew.below a);have dn:=hid (da.out.drew.below a);have bu:=hid (bt.out.trans ((It.bdrew0' a).mono bt.out.size));obtain⟨fe,_,ff,_⟩:=bc2 bh.out;obtain⟨fk,_,fn,_,fb,_⟩:=bc3 bm.out;obtain⟨fv,_,fz,_⟩:=bc2 br.out;obtain⟨eM,_,eO,_,eQ,_⟩:=bc3 a4.out;obtain⟨eW,_,e1,_,eR,_⟩:=bc3 a9.out;rw[cd.out];clear a)
    (try go_wp2_with fail)
    refine m.out _ _ kp fun hHeld=>?_
    clear m K;try simp only[Act.put,pu1,pu2,pu3,pu4,pu5,pu6]
    refine zaB 5 (h:=fun K m=>?_);go_simp
    (go_at_call 12;(with_reducible refine(Ct.infeasible_is C nC cC R nR cR cost rows Y v x y _ dQ.out dR.out c5.out f.out (yfg V.out)).mono ?_);rintro e v2 ⟨rfl,a⟩;have bi:=hid (zad a bh.out);have bj:=hid (zad a bm.out);have bs:=hid (zad a br.out);have a7:=hid (zad a a4.out);have ba:=hid (zad a a9.out);have dB:=hid (dA.out.below a);have dg:=hid (df.out.below a);have dp:=hid (dn.out.below a);have bn:=hid (bu.out.trans ((a).mono bu.out.size));obtain⟨fg,_,fi,_⟩:=bc2 bi.out;obtain⟨fl,_,fo,_,fc,_⟩:=bc3 bj.out;obtain⟨fw,_,fA,_⟩:=bc2 bs.out;obtain⟨eI,_,eJ,_,eK,_⟩:=bc3 a7.out;obtain⟨eX,_,e2,_,eS,_⟩:=bc3 ba.out;rw[cc.out];clear a)
    (try go_wp2_with fail)
    refine m.out _ _ kp fun hHeld=>?_
    clear m K;try simp only[Act.put,pu1,pu2,pu3,pu4,pu5,pu6]
    refine zaw [6,7,8,9,10,11,12,13,14,15] ?_;repeat refine tkL (hS:=hHeld) (h:=?_)
    refine zao ?_;refine zaB 16 (h:=fun K m=>?_);go_simp
    (go_at_call 14;(with_reducible refine(Rt.mul g7 A7 m7 c7 D7 md7 cd7 t g11 A11 m11 c11 D11 md11 cd11 d _ dB.out dg.out cg.out).mono ?_);rintro e v3 ⟨g13,A13,m13,c13,D13,md13,cd13,rfl,g,a⟩;have bk:=hid (zad a bi.out);have bl:=hid (zad a bj.out);have bo:=hid (zad a bs.out);have a0:=hid (zad a a7.out);have bc:=hid (zad a ba.out);have dq:=hid (dp.out.below a);have ck:=hid (show RatS v3 g13 (.slice A13 m13 c13) (.slice D13 md13 cd13) (t*d)from g);have bp:=hid (bn.out.trans ((a).mono bn.out.size));obtain⟨fh,_,fj,_⟩:=bc2 bk.out;obtain⟨fm,_,fa,_,fd,_⟩:=bc3 bl.out;obtain⟨fx,_,fB,_⟩:=bc2 bo.out;obtain⟨eC,_,eE,_,eG,_⟩:=bc3 a0.out;obtain⟨eY,_,e3,_,eT,_⟩:=bc3 bc.out;clear g a)
    (try go_wp2_with fail)
    refine m.out _ _ kp fun hHeld=>?_
    clear m K;try simp only[Act.put,pu1,pu2,pu3,pu4,pu5,pu6]
    refine zaB 17 (h:=fun K m=>?_);go_simp
    (go_at_call 13;(with_reducible refine(Rt.same g12 A12 m12 c12 D12 md12 cd12 (t*d) g13 A13 m13 c13 D13 md13 cd13 (t*d) _ dq.out ck.out ci.out).mono ?_);rintro e v4 ⟨rfl,a⟩;have dJ:=hid (zad a bk.out);have dL:=hid (zad a bl.out);have dN:=hid (zad a bo.out);have dO:=hid (zad a a0.out);have dI:=hid (zad a bc.out);have dM:=hid (bp.out.trans ((a).mono bp.out.size));obtain⟨fp,_,fq,_⟩:=bc2 dJ.out;obtain⟨fr,_,fs,_,ft,_⟩:=bc3 dL.out;obtain⟨eA,_,eB,_⟩:=bc2 dN.out;obtain⟨eD,_,eF,_,eH,_⟩:=bc3 dO.out;obtain⟨eZ,_,e4,_,eU,_⟩:=bc3 dI.out;rw[cv.out];clear a)
    (try go_wp2_with fail)
    refine m.out _ _ kp fun hHeld=>?_
    clear m K;try simp only[Act.put,pu1,pu2,pu3,pu4,pu5,pu6]
    refine zaw [18,19] ?_;repeat refine tkL (hS:=hHeld) (h:=?_)
    refine zao ?_;refine zaM (h:=?_);go_wp2;go_ret
    exact⟨rfl,dM.out⟩
