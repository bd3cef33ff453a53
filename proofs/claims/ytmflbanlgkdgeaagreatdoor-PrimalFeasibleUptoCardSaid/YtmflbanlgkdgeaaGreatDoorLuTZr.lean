/- Contracts and lemmas: LuT. Conditions: as each says. -/
import Derived.Test.YtmflbanlgkdgeaaGreatDoorMat4Zr
set_option linter.all false
set_option maxHeartbeats 8000000
set_option maxRecDepth 100000
namespace Go.Proofs.YtmflbanlgkdgeaaGreatDoor
open Go.RowKit Am
open Lib (hid)
attribute [local go_sem ↓] Go.wp_at_zero Go.wp_at_succ
namespace Lu
theorem solveT(H q n u s:Nat)(F:LUv)(A:OA)(cA:Nat)(b:List Rat)(H':Nat)(w:World)(hF:LuS w H q n F)(a:VecS w H' (.slice A n cA) b)(r:n≤64)(hp:∀i,i<n→F.perm.getD i 0<n)(hz:LUsz mw n u F)(hd:∀i,i<n→en F.up i i≠0)(zb:∀q∈b,mw q≤s)(hL:4*(4*xB n u s+u+1)+8≤LIM) :
  Calls Tryz.prog 114 #[.pointer (some ⟨q,0,none⟩),.slice A n cA] w (zcd w (zcq n F b) true):=by
 obtain⟨lA,lc,ll,uA,uc,ul,pA,pc,aK,cn,_,cu,_,_,ct⟩:=hF.ex;have aI:=hid hF.sq;have HN:=hid r;have HP:=hid hp;have HD:=hid hd;have b7:=hid a.len;have aD:=hid hL;have bG:∀i,i<n→mw (el b i)≤s:=fun i hi=>zb _ (List.mem_of_getElem? (zaH (by rw[←a.len];exact hi)))
 have b9:=hid (fun i (hi:i<n)=>zAT zo5 hz bG hi);have cd:=hid (fun i (hi:i<n)=>zJL zo5 hz bG hi);have cf:=hid hz;have dA:n≤9223372036854775807:=by omega
 have k0:w.cell? ⟨q,0,none⟩=some (.slice lA n lc):=zac aK 0;have k1:w.cell? ⟨q,1,none⟩=some (.slice uA n uc):=zac aK 1;have k2:w.cell? ⟨q,2,none⟩=some (.slice pA n pc):=zac aK 2;have KQ:=hid aK;have aE:=hid cn;have aw:=hid cu;have bv:=hid ct;have HB:=hid a;clear hF cn cu ct a r hp hz hd zb hL bG aK;go_enter Tryz.func114,Tryz.ntmps114;go_wp2_with fail
 refine(Vc.copy A n cA b H' _ HB.out (by have:=HN.out;omega)).mono ?_;rintro e w1 ⟨Az,cz,rfl,g,hb1⟩;have HO:=hid g;have cL:=hid hb1;have q0:=zab hb1 k0;have q1:=zab hb1 k1;have q2:=zab hb1 k2;clear g hb1;go_wp2;have BB:=hid (Below.refl w.heap.size w);have dB:=(Array.getElem?_eq_some_iff.1 KQ.out).1
 go_loopw [26] (fun i wr=>∃k:Nat,i=.int .i64 k∧k≤n∧VecS wr w.heap.size (.slice Az n cz) (ftO F b k)∧Below w.heap.size w wr)
  (fun i _=>n-(intOf i).toNat)
 case atStart=>exact⟨0,rfl,Nat.zero_le _,by rw[zxa];exact HO.out,cL.out⟩
 case round =>
  obtain⟨k,rfl,hk,g,d⟩:=hrel;by_cases M:k<n
  ·obtain⟨l,rfl,aL,_⟩:=g.has (by omega);have T:=hid g;have bx:=hid d;have be:k<b.length:=by rw[←b7.out];exact M
   have c5:=hid (zw9 F be);clear g be;have cH:=hid (aE.out.below d);have cI:=hid (aw.out.below d);have bs:=hid (bv.out.below d);have a2:=hid (BB.out.trans ((d).mono BB.out.size));have aB:=zab d k0;have cy:=zaa aB;have aC:=zab d k1;have cB:=zaa aC;have an:=zab d k2;have cC:=zaa an;clear d;have cj:(0:Int)≤(k:Int):=Int.natCast_nonneg _;have cm:(k:Int)<(n:Int):=by omega
   go_wp2
   go_loopw [30] (fun i wr=>∃j:Nat,i=.int .i64 j∧j≤k∧VecS wr w.heap.size (.slice (some ⟨l,0,none⟩) n cz) (ftI F b k j)∧Below w.heap.size w wr)
    (fun i _=>k-(intOf i).toNat)
   case atStart=>exact⟨0,rfl,Nat.zero_le _,by rw[c5.out];exact T.out,bx.out⟩
   case round =>
    rename World=>wz
    obtain⟨j,rfl,hj,g,d⟩:=hrel;have ak:j<n:=by omega
    have ae:F.up[j]? = some (F.up.getD j []):=zaO (by rw[aI.out.ul];exact ak);have af:=aI.out.ur j ak;have ad:en F.up j k=el (F.up.getD j []) k:=rfl;generalize F.up.getD j []=rw_ at ae af ad;have ac:=zaH (xs:=rw_) (j:=k) (by omega);rw[←ad]at ac;obtain⟨N,rfl,_,_⟩:=aw.out.has (by omega);obtain⟨Ar,cr,bJ,Y,O⟩:=(aw.out.below d).at_ ae;rw[af]at Y O bJ;obtain⟨o,rfl,_,_⟩:=O.has (by omega);have dy:=(aw.out.lt (List.mem_of_getElem? bJ) rfl).2;clear bJ;obtain⟨B,t,D,z,x,C,y,y0,y1,P,aj⟩:=O.at_ ac
    obtain⟨gk,E,mk,J,G,L,I,o0,o1,o2,ai⟩:=g.at_ (zAJ F b k j);have aA:=g.fro (k*3);have of1:=g.fro (k*3+1);have aO:=g.fro (k*3+2);have bg:mw (ftP F b k j)≤2*xB n u s:=by unfold ftP;rw[zaj fun i hi=>by rw[←znE F b (i:=i) (j:=k) (k:=n) (by omega) (by omega)]];exact(b9.out k M).2 j hj
    have bh:=cf.out.up j ak k M;have bH:(0:Int)≤(k:Int):=Int.natCast_nonneg _;have bI:(k:Int)<(n:Int):=by omega
    have c7:(0:Int)≤(j:Int):=Int.natCast_nonneg _;have c8:(j:Int)<(n:Int):=by omega
    by_cases ab:j<k
    ·obtain⟨V,Q,W,cc,R,X,U,z0,z1,z2,ax⟩:=g.at_ (zAK F b (j:=j) ab);have aa:=hid (show RatS wz B (.slice t D z) (.slice x C y) (en F.up j k)from aj);have av:=hid (show RatS wz gk (.slice E mk J) (.slice G L I) (ftP F b k j)from ai);have T:=hid (show VecS wz w.heap.size (.slice (some ⟨l,0,none⟩) n cz) (ftI F b k j)from g);have HW:=hid (show Bel w wz from Bel.mk d);have aG:=hid (show RatS wz V (.slice Q W cc) (.slice R X U) (el (zbX F b k) j)from ax);have a3:=zab d k0;have aP:=zaa a3
     have a4:=zab d k1;have aQ:=zaa a4;have a6:=zab d k2;have aR:=zaa a6;have a5:wz.cell? ⟨N,j,none⟩=some (.slice (some ⟨o,0,none⟩) n cr):=Y;have aS:=zaa a5;have a7:wz.cell? ⟨o,k*3,none⟩=some (.bool B):=y0;have aT:=zaa a7;have a9:wz.cell? ⟨o,k*3+1,none⟩=some (.slice t D z):=y1;have aU:=zaa a9;have ba:wz.cell? ⟨o,k*3+2,none⟩=some (.slice x C y):=P;have aV:=zaa ba;have bb:wz.cell? ⟨l,j*3,none⟩=some (.bool V):=z0;have aW:=zaa bb;have bc:wz.cell? ⟨l,j*3+1,none⟩=some (.slice Q W cc):=z1
     have aX:=zaa bc;have bd:wz.cell? ⟨l,j*3+2,none⟩=some (.slice R X U):=z2;have aY:=zaa bd;have b1:wz.cell? ⟨l,k*3,none⟩=some (.bool gk):=o0;have bR:=zaa b1;have b3:wz.cell? ⟨l,k*3+1,none⟩=some (.slice E mk J):=o1;have bS:=zaa b3;have b4:wz.cell? ⟨l,k*3+2,none⟩=some (.slice G L I):=o2;have bT:=zaa b4;have bw:=hid (zAL F b k j);have bf:=(b9.out j ak).1;rw[znE F b (i:=j) (j:=k) (k:=n) ab (by omega)]at bf;have L1:=hid (show 4*(mw (en F.up j k)+mw (el (zbX F b k) j))+8≤LIM by have:=aD.out;omega)
     have L2:=hid (show 4*(mw (ftP F b k j)+mw (en F.up j k*el (zbX F b k) j))+8≤LIM by have:=aD.out;have:=zdI (en F.up j k) (el (zbX F b k) j);omega);clear g d ae af ad ac O aj ax ai bf bg bh Y y0 y1 P z0 z1 z2;go_wp2_with fail
     refine za2 (S:=fun w'=>w'.cell? ⟨q,0,none⟩=some (.slice lA n lc)∧w'.cell? ⟨q,1,none⟩=some (.slice (some ⟨N,0,none⟩) n uc)∧w'.cell? ⟨q,2,none⟩=some (.slice pA n pc)∧w'.cell? ⟨N,j,none⟩=some (.slice (some ⟨o,0,none⟩) n cr)∧w'.cell? ⟨o,k*3,none⟩=some (.bool B)∧w'.cell? ⟨o,k*3+1,none⟩=some (.slice t D z)∧w'.cell? ⟨o,k*3+2,none⟩=some (.slice x C y)∧w'.cell? ⟨l,j*3,none⟩=some (.bool V)∧w'.cell? ⟨l,j*3+1,none⟩=some (.slice Q W cc)∧w'.cell? ⟨l,j*3+2,none⟩=some (.slice R X U)∧w'.cell? ⟨l,k*3,none⟩=some (.bool gk)∧w'.cell? ⟨l,k*3+1,none⟩=some (.slice E mk J)∧w'.cell? ⟨l,k*3+2,none⟩=some (.slice G L I)) 23 (h:=fun hHeld=>?_)
     refine zaw [0,1,2,3,4,5,6,7,8,9,10,11,12,13,14,15,16,17,18,19] ?_;repeat refine tkE (hS:=hHeld) (h:=?_)
     refine zao ?_;refine zaN 20 (h:=fun K m=>?_);go_simp
     (go_at_call 40;(with_reducible refine(Rt.mul B t D z x C y (en F.up j k) V Q W cc R X U (el (zbX F b k) j) _ aa.out.drew aG.out.drew L1.out).mono ?_);rintro e u1 ⟨g1,A1,m1,c1,D1,md1,cd1,rfl,r,a⟩;have bp:=hid (aa.out.drew.below a);have bn:=hid (av.out.drew.below a);have ag:=hid (T.out.drew.below a);have a8:=hid (HW.out.drew.below a);have b2:=hid (aG.out.drew.below a);have HM:=hid (show RatS u1 g1 (.slice A1 m1 c1) (.slice D1 md1 cd1) (en F.up j k*el (zbX F b k) j)from r);have bj:=zab a aP;have bk:=zab a aQ;have bl:=zab a aR;have ao:=zab a aS;have cD:=zaa ao;have bm:=zab a aT;have bo:=zab a aU;have bq:=zab a aV;have ap:=zab a aW;have cE:=zaa ap;have aq:=zab a aX;have cF:=zaa aq;have ar:=zab a aY;have cG:=zaa ar;have bX:=zab a bR;have bY:=zab a bS;have bZ:=zab a bT;clear r a)
     (try go_wp2_with fail)
     refine m.out _ _ kp fun hHeld=>?_
     clear m K;try simp only[Act.put,pu1,pu2,pu3,pu4,pu5,pu6]
     refine zaN 21 (h:=fun K m=>?_);go_simp
     (go_at_call 92;(with_reducible refine(Rt.sub gk E mk J G L I (ftP F b k j) g1 A1 m1 c1 D1 md1 cd1 (en F.up j k*el (zbX F b k) j) _ bn.out HM.out L2.out).mono ?_);rintro e u2 ⟨g2,A2,m2,c2,D2,md2,cd2,rfl,r,a⟩;have dr:=hid (bp.out.below a);have Z:=hid (ag.out.below a);have b5:=hid (a8.out.below a);have dq:=hid (b2.out.below a);have df:=hid (HM.out.below a);have HS:=hid (show RatS u2 g2 (.slice A2 m2 c2) (.slice D2 md2 cd2) (ftP F b k j-en F.up j k*el (zbX F b k) j)from r);have dg:=zab a bj;have dh:=zab a bk;have di:=zab a bl;have b0:=zab a ao;have db:=zaa b0;have dj:=zab a bm;have dk:=zab a bo;have dp:=zab a bq;have bU:=zab a ap;have dc:=zaa bU;have bV:=zab a aq;have dd:=zaa bV;have bW:=zab a ar;have de:=zaa bW;have dl:=zab a bX;have dm:=zab a bY;have dn:=zab a bZ;have aA:=Z.out.fro (k*3);have of1:=Z.out.fro (k*3+1);have aO:=Z.out.fro (k*3+2);clear r a)
     (try go_wp2_with fail)
     refine m.out _ _ kp fun hHeld=>?_
     clear m K;try simp only[Act.put,pu1,pu2,pu3,pu4,pu5,pu6]
     refine zaw [22] ?_;repeat refine tkE (hS:=hHeld) (h:=?_)
     refine zao ?_;refine zba (h:=fun K m=>?_);go_simp;refine m.out _ _ ?_;clear m K;try simp only[Act.put,pu1,pu2,pu3,pu4,pu5,pu6]
     refine za1 (h:=?_);go_wp2;go_roundw
     case rel=>exact⟨j+1,by go_num,by omega,by rw[←bw.out];exact Z.out.store k HS.out,(Bel.set3 b5.out aL _ _ _).b⟩
     case measure=>simp[intOf];omega
    ·obtain rfl:k=j:=by omega
     have aa:=hid (show RatS wz B (.slice t D z) (.slice x C y) (en F.up k k)from aj);have av:=hid (show RatS wz gk (.slice E mk J) (.slice G L I) (ftP F b k k)from ai);have T:=hid (show VecS wz w.heap.size (.slice (some ⟨l,0,none⟩) n cz) (ftI F b k k)from g);have HW:=hid (show Bel w wz from Bel.mk d);have a3:=zab d k0;have aP:=zaa a3;have a4:=zab d k1;have aQ:=zaa a4;have a6:=zab d k2;have aR:=zaa a6;have a5:wz.cell? ⟨N,k,none⟩=some (.slice (some ⟨o,0,none⟩) n cr):=Y;have aS:=zaa a5
     have a7:wz.cell? ⟨o,k*3,none⟩=some (.bool B):=y0;have aT:=zaa a7;have a9:wz.cell? ⟨o,k*3+1,none⟩=some (.slice t D z):=y1;have aU:=zaa a9;have ba:wz.cell? ⟨o,k*3+2,none⟩=some (.slice x C y):=P;have aV:=zaa ba;have bb:wz.cell? ⟨l,k*3,none⟩=some (.bool gk):=o0;have aW:=zaa bb;have bc:wz.cell? ⟨l,k*3+1,none⟩=some (.slice E mk J):=o1;have aX:=zaa bc;have bd:wz.cell? ⟨l,k*3+2,none⟩=some (.slice G L I):=o2;have aY:=zaa bd;have cW:=hid (zAI F b k);have cR:=hid (HD.out k M)
     have L1:=hid (show 4*(mw (ftP F b k k)+mw (en F.up k k))+8≤LIM by have:=aD.out;omega);clear g d ae af ad ac O aj ai bg bh Y y0 y1 P;go_wp2_with fail
     refine wp_region_held_drew (S:=fun w'=>w'.cell? ⟨q,0,none⟩=some (.slice lA n lc)∧w'.cell? ⟨q,1,none⟩=some (.slice (some ⟨N,0,none⟩) n uc)∧w'.cell? ⟨q,2,none⟩=some (.slice pA n pc)∧w'.cell? ⟨N,k,none⟩=some (.slice (some ⟨o,0,none⟩) n cr)∧w'.cell? ⟨o,k*3,none⟩=some (.bool B)∧w'.cell? ⟨o,k*3+1,none⟩=some (.slice t D z)∧w'.cell? ⟨o,k*3+2,none⟩=some (.slice x C y)) (by kernel_rfl) kp fun hHeld=>?_
     refine zaw [0,1,2,3,4,6,7,8,9,10,11,12,13,14,15] ?_;repeat refine tkH (hS:=hHeld) (h:=?_)
     refine zao ?_;refine wpAnyH_ready (rs:=[5]) (by kernel_rfl) (by simp) ?_;refine AllReadyH.cons rfl (fun K m=>?_) AllReadyH.nil;go_simp
     skip
     (try go_wp2_with fail)
     refine m.out _ _ kp fun hHeld=>?_
     clear m K;try simp only[Act.put,pu1,pu2,pu3,pu4,pu5,pu6]
     refine wpAnyH_ready (rs:=[16]) (by kernel_rfl) (by simp) ?_;refine AllReadyH.cons rfl (fun K m=>?_) AllReadyH.nil;go_simp
     (go_at_call 109;(with_reducible refine(Rt.div gk E mk J G L I (ftP F b k k) B t D z x C y (en F.up k k) _ av.out.drew aa.out.drew cR.out L1.out).mono ?_);rintro e u1 ⟨g2,A2,m2,c2,D2,md2,cd2,rfl,r,a⟩;have bp:=hid (aa.out.drew.below a);have bn:=hid (av.out.drew.below a);have ag:=hid (T.out.drew.below a);have a8:=hid (HW.out.drew.below a);have HS:=hid (show RatS u1 g2 (.slice A2 m2 c2) (.slice D2 md2 cd2) (ftP F b k k/en F.up k k)from r);have bj:=zab a aP;have bk:=zab a aQ;have bl:=zab a aR;have ao:=zab a aS;have cD:=zaa ao;have bm:=zab a aT;have bo:=zab a aU;have bq:=zab a aV;have ap:=zab a aW;have cE:=zaa ap;have aq:=zab a aX;have cF:=zaa aq;have ar:=zab a aY;have cG:=zaa ar;have aA:=ag.out.fro (k*3);have of1:=ag.out.fro (k*3+1);have aO:=ag.out.fro (k*3+2);clear r a)
     (try go_wp2_with fail)
     refine m.out _ _ kp fun hHeld=>?_
     clear m K;try simp only[Act.put,pu1,pu2,pu3,pu4,pu5,pu6]
     refine zaw [17,18,19,20] ?_;repeat refine tkH (hS:=hHeld) (h:=?_)
     refine zao ?_;refine wpAnyH_ready (rs:=[21]) (by kernel_rfl) (by simp) ?_;refine AllReadyH.cons rfl (fun K m=>?_) AllReadyH.nil;go_simp
     skip
     (try go_wp2_with fail)
     refine m.out _ _ kp fun hHeld=>?_
     clear m K;try simp only[Act.put,pu1,pu2,pu3,pu4,pu5,pu6]
     refine wpAnyH_done (by kernel_rfl) ?_ _;go_wp2;go_roundw
     case rel=>exact⟨k+1,by go_num,by omega,by rw[←cW.out];exact ag.out.store k HS.out,(Bel.set3 a8.out aL _ _ _).b⟩
     case measure=>simp[intOf];omega
  ·obtain rfl:n=k:=by omega
   have c0:=hid (show VecS _ w.heap.size (.slice Az n cz) (zbX F b n)by rw[←zAM F b7.out.symm];exact g);have cP:=hid d;clear g d;go_wp2
   go_loopw [10] (fun i wr=>∃k:Nat,i=.int .i64 ((k:Int)-1)∧k≤n∧VecS wr w.heap.size (.slice Az n cz) (btO F (zbX F b n) n k)∧Below w.heap.size w wr)
    (fun i _=>(intOf i+1).toNat)
   case atStart=>exact⟨n,rfl,Nat.le_refl _,by rw[zzm F (zbT _ _ _)];exact c0.out,cP.out⟩
   case round =>
    rename World=>wy
    obtain⟨k,rfl,hk,g,d⟩:=hrel;cases k with
    | zero =>
     rw[zwn]at g;have cH:=hid (aE.out.below d);have cI:=hid (aw.out.below d);have bs:=hid (bv.out.below d);have ce:=hid (show VecS wy w.heap.size (.slice Az n cz) (luW n F b)from g);have a2:=hid (BB.out.trans ((d).mono BB.out.size));have aB:=zab d k0;have cy:=zaa aB;have aC:=zab d k1;have cB:=zaa aC;have an:=zab d k2;have cC:=zaa an;clear g d;rw[show((0:Nat):Int)-1 = -1 from rfl]
     go_wp2_with (at_make;go_must (refine zdv rfl _ _ rfl n _ rfl rfl rfl (by have:=HN.out;omega) wy.heap.size rfl ?_;intro wq ho bE;have cT:=hid ho;have cM:=hid bE;have q3:=zab bE an;clear ho bE))
     go_loopw [118] (fun i wr=>∃k:Nat,i=.int .i64 k∧k≤n∧VecS wr wy.heap.size (.slice (some ⟨wy.heap.size,0,none⟩) n n) (back F.perm (luW n F b) k (List.replicate n 0))∧Below wy.heap.size wy wr)
      (fun i _=>n-(intOf i).toNat)
     case atStart=>exact⟨0,rfl,Nat.zero_le _,cT.out,cM.out⟩
     case round =>
      rename World=>wz
      obtain⟨k,rfl,dz,g,d⟩:=hrel;by_cases bK:k<n
      ·have bM:F.perm[k]? = some (F.perm.getD k 0):=zaO (by rw[aI.out.pl];exact bK);have c9:=HP.out k bK;have bN:(back F.perm (luW n F b) k (List.replicate n 0)).set (F.perm.getD k 0) (el (luW n F b) k)=back F.perm (luW n F b) (k+1) (List.replicate n 0):=rfl;generalize F.perm.getD k 0=p at bM c9 bN;have cX:=hid bN;have be:(back F.perm (luW n F b) k (List.replicate n 0)).length=n:=by rw[zjk];simp
       have cv:=zaH (xs:=back F.perm (luW n F b) k (List.replicate n 0)) (j:=p) (by omega);have cw:=zaH (xs:=luW n F b) (j:=k) (by rw[zAY];exact bK);obtain⟨bP,rfl,_,_⟩:=bs.out.has (by omega);obtain⟨l,rfl,aL,_⟩:=ce.out.has (by omega);have p0:=(bs.out.below d).at_ bM;obtain⟨ga,Aa,ma,ca,Da,bQ,bC,y0,y1,P,ch⟩:=(ce.out.below d).at_ cw;obtain⟨go,Ao,mo,co,Do,dC,du,o0,o1,o2,_⟩:=g.at_ cv;have aA:=g.fro (p*3);have of1:=g.fro (p*3+1);have aO:=g.fro (p*3+2)
       have HQ:=hid (show RatS wz ga (.slice Aa ma ca) (.slice Da bQ bC) (el (luW n F b) k)from ch);have c3:=hid (show VecS wz wy.heap.size (.slice (some ⟨wy.heap.size,0,none⟩) n n) (back F.perm (luW n F b) k (List.replicate n 0))from g);have c4:=hid (show Bel wy wz from Bel.mk d);have dI:=zab d aB;have dJ:=zab d aC;have dK:=zab d an;have dL:wz.cell? ⟨bP,k,none⟩=some (.int .i64 (p:Int)):=p0;have dM:wz.cell? ⟨l,k*3,none⟩=some (.bool ga):=y0
       have dN:wz.cell? ⟨l,k*3+1,none⟩=some (.slice Aa ma ca):=y1;have dO:wz.cell? ⟨l,k*3+2,none⟩=some (.slice Da bQ bC):=P;clear g d bM bN be cv cw ch p0 y0 y1 P;have cj:(0:Int)≤(k:Int):=Int.natCast_nonneg _;have cm:(k:Int)<(n:Int):=by omega
       have bH:(0:Int)≤(p:Int):=Int.natCast_nonneg _;have bI:(p:Int)<(n:Int):=by omega
       have dx:wz.drew.frozen? ⟨wy.heap.size,p*3,none⟩=false:=aA;have dw:=zaa o0;go_wp2_with fail
       refine za2 (S:=fun w'=>w'.cell? ⟨q,0,none⟩=some (.slice lA n lc)∧w'.cell? ⟨q,1,none⟩=some (.slice uA n uc)∧w'.cell? ⟨q,2,none⟩=some (.slice (some ⟨bP,0,none⟩) n pc)∧w'.cell? ⟨bP,k,none⟩=some (.int .i64 (p:Int))∧w'.cell? ⟨l,k*3,none⟩=some (.bool ga)∧w'.cell? ⟨l,k*3+1,none⟩=some (.slice Aa ma ca)∧w'.cell? ⟨l,k*3+2,none⟩=some (.slice Da bQ bC)) 13 (h:=fun hHeld=>?_);refine zaw [0,1,2,3,4,5,6,7,8,9,10,11,12] ?_;repeat refine tkE (hS:=hHeld) (h:=?_)
       refine zao ?_;refine zba (h:=fun K m=>?_);go_simp;refine m.out _ _ ?_;clear m K;try simp only[Act.put,pu1,pu2,pu3,pu4,pu5,pu6]
       refine za1 (h:=?_);go_wp2;go_roundw
       case rel=>exact⟨k+1,by go_num,by omega,by rw[←cX.out];exact c3.out.drew.store p HQ.out.drew,(Bel.set3 c4.out.drew (Nat.le_refl _) _ _ _).b⟩
       case measure=>simp[intOf];omega
      ·obtain rfl:n=k:=by omega
       have cY:=hid g;have cN:=hid (a2.out.trans (d.mono a2.out.size));have da:=a2.out.size;clear g d;go_wp2;refine bodyPost_ret (v:=.tuple #[.slice (some ⟨wy.heap.size,0,none⟩) n n,.bool true]) (by simp[results,Tryz.results114,go_sem]) rfl ?_;exact⟨_,_,_,rfl,cY.out.base da,cN.out⟩
    | succ k =>
     have M:k<n:=by omega
     rw[show((k+1:Nat):Int)-1=(k:Int)by omega];obtain⟨l,rfl,aL,_⟩:=g.has (by omega);have T:=hid g;have bx:=hid d;clear g;have cH:=hid (aE.out.below d);have cI:=hid (aw.out.below d);have bs:=hid (bv.out.below d);have a2:=hid (BB.out.trans ((d).mono BB.out.size));have aB:=zab d k0;have cy:=zaa aB;have aC:=zab d k1;have cB:=zaa aC;have an:=zab d k2;have cC:=zaa an;clear d;have cj:(0:Int)≤(k:Int):=Int.natCast_nonneg _;have cm:(k:Int)<(n:Int):=by omega
     go_wp2
     go_loopw [11] (fun i wr=>∃j:Nat,i=.int .i64 ((k+1+j:Nat):Int)∧k+1+j≤n∧VecS wr w.heap.size (.slice (some ⟨l,0,none⟩) n cz) (btI F (zbX F b n) n k j)∧Below w.heap.size w wr)
      (fun i _=>n-(intOf i).toNat)
     case atStart=>exact⟨0,by go_num,by omega,by rw[zwm F (zbT _ _ _) M];exact T.out,bx.out⟩
     case round =>
      rename World=>wz
      obtain⟨j,rfl,hj,g,d⟩:=hrel;by_cases ab:k+1+j<n
      ·have ae:F.lo[k+1+j]? = some (F.lo.getD (k+1+j) []):=zaO (by rw[aI.out.ll];exact ab);have af:=aI.out.lr (k+1+j) ab;have ad:en F.lo (k+1+j) k=el (F.lo.getD (k+1+j) []) k:=rfl;generalize F.lo.getD (k+1+j) []=rw_ at ae af ad;have ac:=zaH (xs:=rw_) (j:=k) (by omega);rw[←ad]at ac;obtain⟨N,rfl,_,_⟩:=aE.out.has (by omega);obtain⟨Ar,cr,_,Y,O⟩:=(aE.out.below d).at_ ae;rw[af]at Y O;obtain⟨o,rfl,_,_⟩:=O.has (by omega);obtain⟨B,t,D,z,x,C,y,y0,y1,P,aj⟩:=O.at_ ac
       obtain⟨gk,E,mk,J,G,L,I,o0,o1,o2,ai⟩:=g.at_ (zzk F j (zbT F b n) M);have aA:=g.fro (k*3);have of1:=g.fro (k*3+1);have aO:=g.fro (k*3+2);obtain⟨V,Q,W,cc,R,X,U,z0,z1,z2,ax⟩:=g.at_ (zwk F j (zbT F b n) ab);have bF:el (zlK F n (zbX F b n) (n-(k+1))) j=el (luW n F b) (k+1+j):=(zka F n (zbX F b n) (f:=n) (j:=k+1) (by omega) j).symm;rw[bF]at ax
       have cs:btP F (zbX F b n) n k j=el (zbX F b n) k-zai j (fun c=>en F.lo (k+1+c) k*el (luW n F b) (k+1+c)):=by unfold btP;rw[zaj fun c hc=>by rw[←zka F n (zbX F b n) (f:=n) (j:=k+1) (by omega) c]];rfl
       have bw:=hid (show(btI F (zbX F b n) n k j).set k (btP F (zbX F b n) n k j-en F.lo (k+1+j) k*el (luW n F b) (k+1+j))=btI F (zbX F b n) n k (j+1)by rw[←bF];exact zzl F j (zbT F b n) M);have bf:=(cd.out (k+1+j) ab).1;have bg:mw (btP F (zbX F b n) n k j)≤2*xB n u s:=by rw[cs];exact(cd.out k M).2 j (by omega)
       have bh:=cf.out.lo (k+1+j) ab k M;generalize hc0:k+1+j=c at *
       generalize btP F (zbX F b n) n k j=pk at *
       have b8:=hid hc0;have aa:=hid (show RatS wz B (.slice t D z) (.slice x C y) (en F.lo c k)from aj);have aG:=hid (show RatS wz V (.slice Q W cc) (.slice R X U) (el (luW n F b) c)from ax);have av:=hid (show RatS wz gk (.slice E mk J) (.slice G L I) pk from ai);have T:=hid (show VecS wz w.heap.size (.slice (some ⟨l,0,none⟩) n cz) (btI F (zbX F b n) n k j)from g);have HW:=hid (show Bel w wz from Bel.mk d);have a3:=zab d k0;have aP:=zaa a3;have a4:=zab d k1;have aQ:=zaa a4;have a6:=zab d k2
       have aR:=zaa a6;have a5:wz.cell? ⟨N,c,none⟩=some (.slice (some ⟨o,0,none⟩) n cr):=Y;have aS:=zaa a5;have a7:wz.cell? ⟨o,k*3,none⟩=some (.bool B):=y0;have aT:=zaa a7;have a9:wz.cell? ⟨o,k*3+1,none⟩=some (.slice t D z):=y1;have aU:=zaa a9;have ba:wz.cell? ⟨o,k*3+2,none⟩=some (.slice x C y):=P;have aV:=zaa ba;have bb:wz.cell? ⟨l,c*3,none⟩=some (.bool V):=z0;have aW:=zaa bb;have bc:wz.cell? ⟨l,c*3+1,none⟩=some (.slice Q W cc):=z1;have aX:=zaa bc
       have bd:wz.cell? ⟨l,c*3+2,none⟩=some (.slice R X U):=z2;have aY:=zaa bd;have b1:wz.cell? ⟨l,k*3,none⟩=some (.bool gk):=o0;have bR:=zaa b1;have b3:wz.cell? ⟨l,k*3+1,none⟩=some (.slice E mk J):=o1;have bS:=zaa b3;have b4:wz.cell? ⟨l,k*3+2,none⟩=some (.slice G L I):=o2;have bT:=zaa b4;have L1:=hid (show 4*(mw (en F.lo c k)+mw (el (luW n F b) c))+8≤LIM by have:=aD.out;omega)
       have L2:=hid (show 4*(mw pk+mw (en F.lo c k*el (luW n F b) c))+8≤LIM by have:=aD.out;have:=zdI (en F.lo c k) (el (luW n F b) c);omega);clear g d ae af ad ac O aj ax ai bf bg bh bF cs hc0 Y y0 y1 P z0 z1 z2;have bH:(0:Int)≤(k:Int):=Int.natCast_nonneg _;have bI:(k:Int)<(n:Int):=by omega
       have c7:(0:Int)≤(c:Int):=Int.natCast_nonneg _;have c8:(c:Int)<(n:Int):=by omega
       go_wp2_with fail
       refine za2 (S:=fun w'=>w'.cell? ⟨q,0,none⟩=some (.slice (some ⟨N,0,none⟩) n lc)∧w'.cell? ⟨q,1,none⟩=some (.slice uA n uc)∧w'.cell? ⟨q,2,none⟩=some (.slice pA n pc)∧w'.cell? ⟨N,c,none⟩=some (.slice (some ⟨o,0,none⟩) n cr)∧w'.cell? ⟨o,k*3,none⟩=some (.bool B)∧w'.cell? ⟨o,k*3+1,none⟩=some (.slice t D z)∧w'.cell? ⟨o,k*3+2,none⟩=some (.slice x C y)∧w'.cell? ⟨l,c*3,none⟩=some (.bool V)∧w'.cell? ⟨l,c*3+1,none⟩=some (.slice Q W cc)∧w'.cell? ⟨l,c*3+2,none⟩=some (.slice R X U)∧w'.cell? ⟨l,k*3,none⟩=some (.bool gk)∧w'.cell? ⟨l,k*3+1,none⟩=some (.slice E mk J)∧w'.cell? ⟨l,k*3+2,none⟩=some (.slice G L I)) 23 (h:=fun hHeld=>?_)
       refine zaw [0,1,2,3,4,5,6,7,8,9,10,11,12,13,14,15,16,17,18,19] ?_;repeat refine tkE (hS:=hHeld) (h:=?_)
       refine zao ?_;refine zaN 20 (h:=fun K m=>?_);go_simp
       (go_at_call 40;(with_reducible refine(Rt.mul B t D z x C y (en F.lo c k) V Q W cc R X U (el (luW n F b) c) _ aa.out.drew aG.out.drew L1.out).mono ?_);rintro e u1 ⟨g1,A1,m1,c1,D1,md1,cd1,rfl,r,a⟩;have bp:=hid (aa.out.drew.below a);have b2:=hid (aG.out.drew.below a);have bn:=hid (av.out.drew.below a);have ag:=hid (T.out.drew.below a);have a8:=hid (HW.out.drew.below a);have HM:=hid (show RatS u1 g1 (.slice A1 m1 c1) (.slice D1 md1 cd1) (en F.lo c k*el (luW n F b) c)from r);have bj:=zab a aP;have bk:=zab a aQ;have bl:=zab a aR;have ao:=zab a aS;have cD:=zaa ao;have bm:=zab a aT;have bo:=zab a aU;have bq:=zab a aV;have ap:=zab a aW;have cE:=zaa ap;have aq:=zab a aX;have cF:=zaa aq;have ar:=zab a aY;have cG:=zaa ar;have bX:=zab a bR;have bY:=zab a bS;have bZ:=zab a bT;clear r a)
       (try go_wp2_with fail)
       refine m.out _ _ kp fun hHeld=>?_
       clear m K;try simp only[Act.put,pu1,pu2,pu3,pu4,pu5,pu6]
       refine zaN 21 (h:=fun K m=>?_);go_simp
       (go_at_call 92;(with_reducible refine(Rt.sub gk E mk J G L I pk g1 A1 m1 c1 D1 md1 cd1 (en F.lo c k*el (luW n F b) c) _ bn.out HM.out L2.out).mono ?_);rintro e u2 ⟨g2,A2,m2,c2,D2,md2,cd2,rfl,r,a⟩;have dr:=hid (bp.out.below a);have dq:=hid (b2.out.below a);have Z:=hid (ag.out.below a);have b5:=hid (a8.out.below a);have df:=hid (HM.out.below a);have HS:=hid (show RatS u2 g2 (.slice A2 m2 c2) (.slice D2 md2 cd2) (pk-en F.lo c k*el (luW n F b) c)from r);have dg:=zab a bj;have dh:=zab a bk;have di:=zab a bl;have b0:=zab a ao;have db:=zaa b0;have dj:=zab a bm;have dk:=zab a bo;have dp:=zab a bq;have bU:=zab a ap;have dc:=zaa bU;have bV:=zab a aq;have dd:=zaa bV;have bW:=zab a ar;have de:=zaa bW;have dl:=zab a bX;have dm:=zab a bY;have dn:=zab a bZ;have aA:=Z.out.fro (k*3);have of1:=Z.out.fro (k*3+1);have aO:=Z.out.fro (k*3+2);clear r a)
       (try go_wp2_with fail)
       refine m.out _ _ kp fun hHeld=>?_
       clear m K;try simp only[Act.put,pu1,pu2,pu3,pu4,pu5,pu6]
       refine zaw [22] ?_;repeat refine tkE (hS:=hHeld) (h:=?_)
       refine zao ?_;refine zba (h:=fun K m=>?_);go_simp;refine m.out _ _ ?_;clear m K;try simp only[Act.put,pu1,pu2,pu3,pu4,pu5,pu6]
       refine za1 (h:=?_);go_wp2;go_roundw
       case rel=>exact⟨j+1,by have:=b8.out;subst this;go_num,by have:=b8.out;omega,by rw[←bw.out];exact Z.out.store k HS.out,(Bel.set3 b5.out aL _ _ _).b⟩
       case measure=>simp[intOf];omega
      ·have ak:j=n-(k+1):=by omega
       rw[ak,zwl F (zbT F b n) M]at g;have cZ:=hid g;have cO:=hid d;clear g d ak;have bH:(0:Int)≤(k:Int):=Int.natCast_nonneg _;have bI:(k:Int)<(n:Int):=by omega
       go_wp2;go_roundw
       case rel=>exact⟨k,by go_num,by omega,cZ.out,cO.out⟩
       case measure=>first | (simp[intOf];done) | (simp[intOf];omega)
