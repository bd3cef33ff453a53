/- Contracts and lemmas: LuT. Conditions: as each says. -/
import Derived.Test.YtdnippohkfdncaaGreatMat4Zk
set_option linter.all false
set_option maxHeartbeats 8000000
set_option maxRecDepth 100000
namespace Go.Proofs.YtdnippohkfdncaaGreat
open Go.RowKit Am
open Lib (hid)
attribute [local go_sem ↓] Go.wp_at_zero Go.wp_at_succ
namespace Lu
theorem solveT(H q n u s:Nat)(F:LUv)(A:OA)(cA:Nat)(b:List Rat)(H':Nat)(w:World)(hF:LuS w H q n F)(a:VecS w H' (.slice A n cA) b)(r:n≤64)(hp:∀i,i<n→F.perm.getD i 0<n)(hz:LUsz mw n u F)(hd:∀i,i<n→en F.up i i≠0)(zb:∀q∈b,mw q≤s)(hL:4*(4*xB n u s+u+1)+8≤LIM) :
  Calls Tryz.prog 165 #[.pointer (some ⟨q,0,none⟩),.slice A n cA] w (zcd w (zcq n F b) true):=by
 obtain⟨lA,lc,ll,uA,uc,ul,pA,pc,aL,cq,_,cw,_,_,cv⟩:=hF.ex;have aI:=hid hF.sq;have HN:=hid r;have HP:=hid hp;have HD:=hid hd;have b9:=hid a.len;have aD:=hid hL;have bI:∀i,i<n→mw (el b i)≤s:=fun i hi=>zb _ (List.mem_of_getElem? (zaH (by rw[←a.len];exact hi)))
 have cd:=hid (fun i (hi:i<n)=>zAT zo5 hz bI hi);have cf:=hid (fun i (hi:i<n)=>zJL zo5 hz bI hi);have ch:=hid hz;have dC:n≤9223372036854775807:=by omega
 have k0:w.cell? ⟨q,0,none⟩=some (.slice lA n lc):=zac aL 0;have k1:w.cell? ⟨q,1,none⟩=some (.slice uA n uc):=zac aL 1;have k2:w.cell? ⟨q,2,none⟩=some (.slice pA n pc):=zac aL 2;have KQ:=hid aL;have aE:=hid cq;have aw:=hid cw;have bw:=hid cv;have HB:=hid a;clear hF cq cw cv a r hp hz hd zb hL bI aL;go_enter Tryz.func165,Tryz.ntmps165;go_wp2_with fail
 refine(Vc.copy A n cA b H' _ HB.out (by have:=HN.out;omega)).mono ?_;rintro e w1 ⟨Az,cz,rfl,g,hb1⟩;have HO:=hid g;have cN:=hid hb1;have q0:=zab hb1 k0;have q1:=zab hb1 k1;have q2:=zab hb1 k2;clear g hb1;go_wp2;have BB:=hid (Below.refl w.heap.size w);have dD:=(Array.getElem?_eq_some_iff.1 KQ.out).1
 go_loopw [26] (fun i wr=>∃k:Nat,i=.int .i64 k∧k≤n∧VecS wr w.heap.size (.slice Az n cz) (ftO F b k)∧Below w.heap.size w wr)
  (fun i _=>n-(intOf i).toNat)
 case atStart=>exact⟨0,rfl,Nat.zero_le _,by rw[zxa];exact HO.out,cN.out⟩
 case round =>
  obtain⟨k,rfl,hk,g,d⟩:=hrel;by_cases M:k<n
  ·obtain⟨l,rfl,aM,_⟩:=g.has (by omega);have T:=hid g;have bA:=hid d;have bf:k<b.length:=by rw[←b9.out];exact M
   have c7:=hid (zw9 F bf);clear g bf;have cJ:=hid (aE.out.below d);have cK:=hid (aw.out.below d);have bt:=hid (bw.out.below d);have a3:=hid (BB.out.trans ((d).mono BB.out.size));have aB:=zab d k0;have cC:=zaa aB;have aC:=zab d k1;have cD:=zaa aC;have an:=zab d k2;have cE:=zaa an;clear d;have cn:(0:Int)≤(k:Int):=Int.natCast_nonneg _;have cp:(k:Int)<(n:Int):=by omega
   go_wp2
   go_loopw [30] (fun i wr=>∃j:Nat,i=.int .i64 j∧j≤k∧VecS wr w.heap.size (.slice (some ⟨l,0,none⟩) n cz) (ftI F b k j)∧Below w.heap.size w wr)
    (fun i _=>k-(intOf i).toNat)
   case atStart=>exact⟨0,rfl,Nat.zero_le _,by rw[c7.out];exact T.out,bA.out⟩
   case round =>
    rename World=>wz
    obtain⟨j,rfl,hj,g,d⟩:=hrel;have ak:j<n:=by omega
    have ae:F.up[j]? = some (F.up.getD j []):=zaO (by rw[aI.out.ul];exact ak);have af:=aI.out.ur j ak;have ad:en F.up j k=el (F.up.getD j []) k:=rfl;generalize F.up.getD j []=rw_ at ae af ad;have ac:=zaH (xs:=rw_) (j:=k) (by omega);rw[←ad]at ac;obtain⟨N,rfl,_,_⟩:=aw.out.has (by omega);obtain⟨Ar,cr,bM,Y,O⟩:=(aw.out.below d).at_ ae;rw[af]at Y O bM;obtain⟨o,rfl,_,_⟩:=O.has (by omega);have dA:=(aw.out.lt (List.mem_of_getElem? bM) rfl).2;clear bM;obtain⟨B,t,D,z,x,C,y,y0,y1,P,aj⟩:=O.at_ ac
    obtain⟨gk,E,mk,J,G,L,I,o0,o1,o2,ai⟩:=g.at_ (zAJ F b k j);have aA:=g.fro (k*3);have of1:=g.fro (k*3+1);have aP:=g.fro (k*3+2);have bh:mw (ftP F b k j)≤2*xB n u s:=by unfold ftP;rw[zaj fun i hi=>by rw[←znE F b (i:=i) (j:=k) (k:=n) (by omega) (by omega)]];exact(cd.out k M).2 j hj
    have bi:=ch.out.up j ak k M;have bJ:(0:Int)≤(k:Int):=Int.natCast_nonneg _;have bK:(k:Int)<(n:Int):=by omega
    have c9:(0:Int)≤(j:Int):=Int.natCast_nonneg _;have da:(j:Int)<(n:Int):=by omega
    by_cases ab:j<k
    ·obtain⟨V,Q,W,cc,R,X,U,z0,z1,z2,ax⟩:=g.at_ (zAK F b (j:=j) ab);have aa:=hid (show RatS wz B (.slice t D z) (.slice x C y) (en F.up j k)from aj);have av:=hid (show RatS wz gk (.slice E mk J) (.slice G L I) (ftP F b k j)from ai);have T:=hid (show VecS wz w.heap.size (.slice (some ⟨l,0,none⟩) n cz) (ftI F b k j)from g);have HW:=hid (show Bel w wz from Bel.mk d);have aG:=hid (show RatS wz V (.slice Q W cc) (.slice R X U) (el (zbX F b k) j)from ax);have a4:=zab d k0;have aQ:=zaa a4
     have a5:=zab d k1;have aR:=zaa a5;have a7:=zab d k2;have aS:=zaa a7;have a6:wz.cell? ⟨N,j,none⟩=some (.slice (some ⟨o,0,none⟩) n cr):=Y;have aT:=zaa a6;have a8:wz.cell? ⟨o,k*3,none⟩=some (.bool B):=y0;have aU:=zaa a8;have ba:wz.cell? ⟨o,k*3+1,none⟩=some (.slice t D z):=y1;have aV:=zaa ba;have bb:wz.cell? ⟨o,k*3+2,none⟩=some (.slice x C y):=P;have aW:=zaa bb;have bc:wz.cell? ⟨l,j*3,none⟩=some (.bool V):=z0;have aX:=zaa bc;have bd:wz.cell? ⟨l,j*3+1,none⟩=some (.slice Q W cc):=z1
     have aY:=zaa bd;have be:wz.cell? ⟨l,j*3+2,none⟩=some (.slice R X U):=z2;have aZ:=zaa be;have b3:wz.cell? ⟨l,k*3,none⟩=some (.bool gk):=o0;have bT:=zaa b3;have b5:wz.cell? ⟨l,k*3+1,none⟩=some (.slice E mk J):=o1;have bU:=zaa b5;have b6:wz.cell? ⟨l,k*3+2,none⟩=some (.slice G L I):=o2;have bV:=zaa b6;have bx:=hid (zAL F b k j);have bg:=(cd.out j ak).1;rw[znE F b (i:=j) (j:=k) (k:=n) ab (by omega)]at bg;have L1:=hid (show 4*(mw (en F.up j k)+mw (el (zbX F b k) j))+8≤LIM by have:=aD.out;omega)
     have L2:=hid (show 4*(mw (ftP F b k j)+mw (en F.up j k*el (zbX F b k) j))+8≤LIM by have:=aD.out;have:=zdI (en F.up j k) (el (zbX F b k) j);omega);clear g d ae af ad ac O aj ax ai bg bh bi Y y0 y1 P z0 z1 z2;go_wp2_with fail
     refine za2 (S:=fun w'=>w'.cell? ⟨q,0,none⟩=some (.slice lA n lc)∧w'.cell? ⟨q,1,none⟩=some (.slice (some ⟨N,0,none⟩) n uc)∧w'.cell? ⟨q,2,none⟩=some (.slice pA n pc)∧w'.cell? ⟨N,j,none⟩=some (.slice (some ⟨o,0,none⟩) n cr)∧w'.cell? ⟨o,k*3,none⟩=some (.bool B)∧w'.cell? ⟨o,k*3+1,none⟩=some (.slice t D z)∧w'.cell? ⟨o,k*3+2,none⟩=some (.slice x C y)∧w'.cell? ⟨l,j*3,none⟩=some (.bool V)∧w'.cell? ⟨l,j*3+1,none⟩=some (.slice Q W cc)∧w'.cell? ⟨l,j*3+2,none⟩=some (.slice R X U)∧w'.cell? ⟨l,k*3,none⟩=some (.bool gk)∧w'.cell? ⟨l,k*3+1,none⟩=some (.slice E mk J)∧w'.cell? ⟨l,k*3+2,none⟩=some (.slice G L I)) 23 (h:=fun hHeld=>?_)
     refine zaw [0,1,2,3,4,5,6,7,8,9,10,11,12,13,14,15,16,17,18,19] ?_;repeat refine tkE (hS:=hHeld) (h:=?_)
     refine zao ?_;refine zaN 20 (h:=fun K m=>?_);go_simp
     (go_at_call 21;(with_reducible refine(Rt.mul B t D z x C y (en F.up j k) V Q W cc R X U (el (zbX F b k) j) _ aa.out.drew aG.out.drew L1.out).mono ?_);rintro e u1 ⟨g1,A1,m1,c1,D1,md1,cd1,rfl,r,a⟩;have bq:=hid (aa.out.drew.below a);have bo:=hid (av.out.drew.below a);have ag:=hid (T.out.drew.below a);have a9:=hid (HW.out.drew.below a);have b4:=hid (aG.out.drew.below a);have HM:=hid (show RatS u1 g1 (.slice A1 m1 c1) (.slice D1 md1 cd1) (en F.up j k*el (zbX F b k) j)from r);have bk:=zab a aQ;have bl:=zab a aR;have bm:=zab a aS;have ao:=zab a aT;have cF:=zaa ao;have bn:=zab a aU;have bp:=zab a aV;have bs:=zab a aW;have ap:=zab a aX;have cG:=zaa ap;have aq:=zab a aY;have cH:=zaa aq;have ar:=zab a aZ;have cI:=zaa ar;have bZ:=zab a bT;have b0:=zab a bU;have b1:=zab a bV;clear r a)
     (try go_wp2_with fail)
     refine m.out _ _ kp fun hHeld=>?_
     clear m K;try simp only[Act.put,pu1,pu2,pu3,pu4,pu5,pu6]
     refine zaN 21 (h:=fun K m=>?_);go_simp
     (go_at_call 132;(with_reducible refine(Rt.sub gk E mk J G L I (ftP F b k j) g1 A1 m1 c1 D1 md1 cd1 (en F.up j k*el (zbX F b k) j) _ bo.out HM.out L2.out).mono ?_);rintro e u2 ⟨g2,A2,m2,c2,D2,md2,cd2,rfl,r,a⟩;have dt:=hid (bq.out.below a);have Z:=hid (ag.out.below a);have b7:=hid (a9.out.below a);have ds:=hid (b4.out.below a);have dh:=hid (HM.out.below a);have HS:=hid (show RatS u2 g2 (.slice A2 m2 c2) (.slice D2 md2 cd2) (ftP F b k j-en F.up j k*el (zbX F b k) j)from r);have di:=zab a bk;have dj:=zab a bl;have dk:=zab a bm;have b2:=zab a ao;have dd:=zaa b2;have dl:=zab a bn;have dm:=zab a bp;have dr:=zab a bs;have bW:=zab a ap;have de:=zaa bW;have bX:=zab a aq;have df:=zaa bX;have bY:=zab a ar;have dg:=zaa bY;have dn:=zab a bZ;have dp:=zab a b0;have dq:=zab a b1;have aA:=Z.out.fro (k*3);have of1:=Z.out.fro (k*3+1);have aP:=Z.out.fro (k*3+2);clear r a)
     (try go_wp2_with fail)
     refine m.out _ _ kp fun hHeld=>?_
     clear m K;try simp only[Act.put,pu1,pu2,pu3,pu4,pu5,pu6]
     refine zaw [22] ?_;repeat refine tkE (hS:=hHeld) (h:=?_)
     refine zao ?_;refine zba (h:=fun K m=>?_);go_simp;refine m.out _ _ ?_;clear m K;try simp only[Act.put,pu1,pu2,pu3,pu4,pu5,pu6]
     refine za1 (h:=?_);go_wp2;go_roundw
     case rel=>exact⟨j+1,by go_num,by omega,by rw[←bx.out];exact Z.out.store k HS.out,(Bel.set3 b7.out aM _ _ _).b⟩
     case measure=>simp[intOf];omega
    ·obtain rfl:k=j:=by omega
     have aa:=hid (show RatS wz B (.slice t D z) (.slice x C y) (en F.up k k)from aj);have av:=hid (show RatS wz gk (.slice E mk J) (.slice G L I) (ftP F b k k)from ai);have T:=hid (show VecS wz w.heap.size (.slice (some ⟨l,0,none⟩) n cz) (ftI F b k k)from g);have HW:=hid (show Bel w wz from Bel.mk d);have a4:=zab d k0;have aQ:=zaa a4;have a5:=zab d k1;have aR:=zaa a5;have a7:=zab d k2;have aS:=zaa a7;have a6:wz.cell? ⟨N,k,none⟩=some (.slice (some ⟨o,0,none⟩) n cr):=Y;have aT:=zaa a6
     have a8:wz.cell? ⟨o,k*3,none⟩=some (.bool B):=y0;have aU:=zaa a8;have ba:wz.cell? ⟨o,k*3+1,none⟩=some (.slice t D z):=y1;have aV:=zaa ba;have bb:wz.cell? ⟨o,k*3+2,none⟩=some (.slice x C y):=P;have aW:=zaa bb;have bc:wz.cell? ⟨l,k*3,none⟩=some (.bool gk):=o0;have aX:=zaa bc;have bd:wz.cell? ⟨l,k*3+1,none⟩=some (.slice E mk J):=o1;have aY:=zaa bd;have be:wz.cell? ⟨l,k*3+2,none⟩=some (.slice G L I):=o2;have aZ:=zaa be;have cY:=hid (zAI F b k);have cT:=hid (HD.out k M)
     have L1:=hid (show 4*(mw (ftP F b k k)+mw (en F.up k k))+8≤LIM by have:=aD.out;omega);clear g d ae af ad ac O aj ai bh bi Y y0 y1 P;go_wp2_with fail
     refine wp_region_held_drew (S:=fun w'=>w'.cell? ⟨q,0,none⟩=some (.slice lA n lc)∧w'.cell? ⟨q,1,none⟩=some (.slice (some ⟨N,0,none⟩) n uc)∧w'.cell? ⟨q,2,none⟩=some (.slice pA n pc)∧w'.cell? ⟨N,k,none⟩=some (.slice (some ⟨o,0,none⟩) n cr)∧w'.cell? ⟨o,k*3,none⟩=some (.bool B)∧w'.cell? ⟨o,k*3+1,none⟩=some (.slice t D z)∧w'.cell? ⟨o,k*3+2,none⟩=some (.slice x C y)) (by kernel_rfl) kp fun hHeld=>?_
     refine zaw [0,1,2,3,4,6,7,8,9,10,11,12,13,14,15] ?_;repeat refine tkH (hS:=hHeld) (h:=?_)
     refine zao ?_;refine wpAnyH_ready (rs:=[5]) (by kernel_rfl) (by simp) ?_;refine AllReadyH.cons rfl (fun K m=>?_) AllReadyH.nil;go_simp
     skip
     (try go_wp2_with fail)
     refine m.out _ _ kp fun hHeld=>?_
     clear m K;try simp only[Act.put,pu1,pu2,pu3,pu4,pu5,pu6]
     refine wpAnyH_ready (rs:=[16]) (by kernel_rfl) (by simp) ?_;refine AllReadyH.cons rfl (fun K m=>?_) AllReadyH.nil;go_simp
     (go_at_call 145;(with_reducible refine(Rt.div gk E mk J G L I (ftP F b k k) B t D z x C y (en F.up k k) _ av.out.drew aa.out.drew cT.out L1.out).mono ?_);rintro e u1 ⟨g2,A2,m2,c2,D2,md2,cd2,rfl,r,a⟩;have bq:=hid (aa.out.drew.below a);have bo:=hid (av.out.drew.below a);have ag:=hid (T.out.drew.below a);have a9:=hid (HW.out.drew.below a);have HS:=hid (show RatS u1 g2 (.slice A2 m2 c2) (.slice D2 md2 cd2) (ftP F b k k/en F.up k k)from r);have bk:=zab a aQ;have bl:=zab a aR;have bm:=zab a aS;have ao:=zab a aT;have cF:=zaa ao;have bn:=zab a aU;have bp:=zab a aV;have bs:=zab a aW;have ap:=zab a aX;have cG:=zaa ap;have aq:=zab a aY;have cH:=zaa aq;have ar:=zab a aZ;have cI:=zaa ar;have aA:=ag.out.fro (k*3);have of1:=ag.out.fro (k*3+1);have aP:=ag.out.fro (k*3+2);clear r a)
     (try go_wp2_with fail)
     refine m.out _ _ kp fun hHeld=>?_
     clear m K;try simp only[Act.put,pu1,pu2,pu3,pu4,pu5,pu6]
     refine zaw [17,18,19,20] ?_;repeat refine tkH (hS:=hHeld) (h:=?_)
     refine zao ?_;refine wpAnyH_ready (rs:=[21]) (by kernel_rfl) (by simp) ?_;refine AllReadyH.cons rfl (fun K m=>?_) AllReadyH.nil;go_simp
     skip
     (try go_wp2_with fail)
     refine m.out _ _ kp fun hHeld=>?_
     clear m K;try simp only[Act.put,pu1,pu2,pu3,pu4,pu5,pu6]
     refine wpAnyH_done (by kernel_rfl) ?_ _;go_wp2;go_roundw
     case rel=>exact⟨k+1,by go_num,by omega,by rw[←cY.out];exact ag.out.store k HS.out,(Bel.set3 a9.out aM _ _ _).b⟩
     case measure=>simp[intOf];omega
  ·obtain rfl:n=k:=by omega
   have c4:=hid (show VecS _ w.heap.size (.slice Az n cz) (zbX F b n)by rw[←zAM F b9.out.symm];exact g);have cR:=hid d;clear g d;go_wp2
   go_loopw [10] (fun i wr=>∃k:Nat,i=.int .i64 ((k:Int)-1)∧k≤n∧VecS wr w.heap.size (.slice Az n cz) (btO F (zbX F b n) n k)∧Below w.heap.size w wr)
    (fun i _=>(intOf i+1).toNat)
   case atStart=>exact⟨n,rfl,Nat.le_refl _,by rw[zzm F (zbT _ _ _)];exact c4.out,cR.out⟩
   case round =>
    rename World=>wy
    obtain⟨k,rfl,hk,g,d⟩:=hrel;cases k with
    | zero =>
     rw[zwn]at g;have cJ:=hid (aE.out.below d);have cK:=hid (aw.out.below d);have bt:=hid (bw.out.below d);have cg:=hid (show VecS wy w.heap.size (.slice Az n cz) (luW n F b)from g);have a3:=hid (BB.out.trans ((d).mono BB.out.size));have aB:=zab d k0;have cC:=zaa aB;have aC:=zab d k1;have cD:=zaa aC;have an:=zab d k2;have cE:=zaa an;clear g d;rw[show((0:Nat):Int)-1 = -1 from rfl]
     go_wp2_with (at_make;go_must (refine zdv rfl _ _ rfl n _ rfl rfl rfl (by have:=HN.out;omega) wy.heap.size rfl ?_;intro wq ho bG;have cV:=hid ho;have cO:=hid bG;have q3:=zab bG an;clear ho bG))
     go_loopw [118] (fun i wr=>∃k:Nat,i=.int .i64 k∧k≤n∧VecS wr wy.heap.size (.slice (some ⟨wy.heap.size,0,none⟩) n n) (back F.perm (luW n F b) k (List.replicate n 0))∧Below wy.heap.size wy wr)
      (fun i _=>n-(intOf i).toNat)
     case atStart=>exact⟨0,rfl,Nat.zero_le _,cV.out,cO.out⟩
     case round =>
      rename World=>wz
      obtain⟨k,rfl,dB,g,d⟩:=hrel;by_cases bN:k<n
      ·have bO:F.perm[k]? = some (F.perm.getD k 0):=zaO (by rw[aI.out.pl];exact bN);have db:=HP.out k bN;have bQ:(back F.perm (luW n F b) k (List.replicate n 0)).set (F.perm.getD k 0) (el (luW n F b) k)=back F.perm (luW n F b) (k+1) (List.replicate n 0):=rfl;generalize F.perm.getD k 0=p at bO db bQ;have cZ:=hid bQ;have bf:(back F.perm (luW n F b) k (List.replicate n 0)).length=n:=by rw[zjk];simp
       have cx:=zaH (xs:=back F.perm (luW n F b) k (List.replicate n 0)) (j:=p) (by omega);have cy:=zaH (xs:=luW n F b) (j:=k) (by rw[zAY];exact bN);obtain⟨bP,rfl,_,_⟩:=bt.out.has (by omega);obtain⟨l,rfl,aM,_⟩:=cg.out.has (by omega);have p0:=(bt.out.below d).at_ bO;obtain⟨ga,Aa,ma,ca,Da,bS,bE,y0,y1,P,cj⟩:=(cg.out.below d).at_ cy;obtain⟨go,Ao,mo,co,Do,dE,dw,o0,o1,o2,_⟩:=g.at_ cx;have aA:=g.fro (p*3);have of1:=g.fro (p*3+1);have aP:=g.fro (p*3+2)
       have HQ:=hid (show RatS wz ga (.slice Aa ma ca) (.slice Da bS bE) (el (luW n F b) k)from cj);have c5:=hid (show VecS wz wy.heap.size (.slice (some ⟨wy.heap.size,0,none⟩) n n) (back F.perm (luW n F b) k (List.replicate n 0))from g);have c6:=hid (show Bel wy wz from Bel.mk d);have dK:=zab d aB;have dL:=zab d aC;have dM:=zab d an;have dN:wz.cell? ⟨bP,k,none⟩=some (.int .i64 (p:Int)):=p0;have dO:wz.cell? ⟨l,k*3,none⟩=some (.bool ga):=y0
       have dP:wz.cell? ⟨l,k*3+1,none⟩=some (.slice Aa ma ca):=y1;have dQ:wz.cell? ⟨l,k*3+2,none⟩=some (.slice Da bS bE):=P;clear g d bO bQ bf cx cy cj p0 y0 y1 P;have cn:(0:Int)≤(k:Int):=Int.natCast_nonneg _;have cp:(k:Int)<(n:Int):=by omega
       have bJ:(0:Int)≤(p:Int):=Int.natCast_nonneg _;have bK:(p:Int)<(n:Int):=by omega
       have dz:wz.drew.frozen? ⟨wy.heap.size,p*3,none⟩=false:=aA;have dy:=zaa o0;go_wp2_with fail
       refine za2 (S:=fun w'=>w'.cell? ⟨q,0,none⟩=some (.slice lA n lc)∧w'.cell? ⟨q,1,none⟩=some (.slice uA n uc)∧w'.cell? ⟨q,2,none⟩=some (.slice (some ⟨bP,0,none⟩) n pc)∧w'.cell? ⟨bP,k,none⟩=some (.int .i64 (p:Int))∧w'.cell? ⟨l,k*3,none⟩=some (.bool ga)∧w'.cell? ⟨l,k*3+1,none⟩=some (.slice Aa ma ca)∧w'.cell? ⟨l,k*3+2,none⟩=some (.slice Da bS bE)) 13 (h:=fun hHeld=>?_);refine zaw [0,1,2,3,4,5,6,7,8,9,10,11,12] ?_;repeat refine tkE (hS:=hHeld) (h:=?_)
       refine zao ?_;refine zba (h:=fun K m=>?_);go_simp;refine m.out _ _ ?_;clear m K;try simp only[Act.put,pu1,pu2,pu3,pu4,pu5,pu6]
       refine za1 (h:=?_);go_wp2;go_roundw
       case rel=>exact⟨k+1,by go_num,by omega,by rw[←cZ.out];exact c5.out.drew.store p HQ.out.drew,(Bel.set3 c6.out.drew (Nat.le_refl _) _ _ _).b⟩
       case measure=>simp[intOf];omega
      ·obtain rfl:n=k:=by omega
       have c0:=hid g;have cP:=hid (a3.out.trans (d.mono a3.out.size));have dc:=a3.out.size;clear g d;go_wp2;refine bodyPost_ret (v:=.tuple #[.slice (some ⟨wy.heap.size,0,none⟩) n n,.bool true]) (by simp[results,Tryz.results165,go_sem]) rfl ?_;exact⟨_,_,_,rfl,c0.out.base dc,cP.out⟩
    | succ k =>
     have M:k<n:=by omega
     rw[show((k+1:Nat):Int)-1=(k:Int)by omega];obtain⟨l,rfl,aM,_⟩:=g.has (by omega);have T:=hid g;have bA:=hid d;clear g;have cJ:=hid (aE.out.below d);have cK:=hid (aw.out.below d);have bt:=hid (bw.out.below d);have a3:=hid (BB.out.trans ((d).mono BB.out.size));have aB:=zab d k0;have cC:=zaa aB;have aC:=zab d k1;have cD:=zaa aC;have an:=zab d k2;have cE:=zaa an;clear d;have cn:(0:Int)≤(k:Int):=Int.natCast_nonneg _;have cp:(k:Int)<(n:Int):=by omega
     go_wp2
     go_loopw [11] (fun i wr=>∃j:Nat,i=.int .i64 ((k+1+j:Nat):Int)∧k+1+j≤n∧VecS wr w.heap.size (.slice (some ⟨l,0,none⟩) n cz) (btI F (zbX F b n) n k j)∧Below w.heap.size w wr)
      (fun i _=>n-(intOf i).toNat)
     case atStart=>exact⟨0,by go_num,by omega,by rw[zwm F (zbT _ _ _) M];exact T.out,bA.out⟩
     case round =>
      rename World=>wz
      obtain⟨j,rfl,hj,g,d⟩:=hrel;by_cases ab:k+1+j<n
      ·have ae:F.lo[k+1+j]? = some (F.lo.getD (k+1+j) []):=zaO (by rw[aI.out.ll];exact ab);have af:=aI.out.lr (k+1+j) ab;have ad:en F.lo (k+1+j) k=el (F.lo.getD (k+1+j) []) k:=rfl;generalize F.lo.getD (k+1+j) []=rw_ at ae af ad;have ac:=zaH (xs:=rw_) (j:=k) (by omega);rw[←ad]at ac;obtain⟨N,rfl,_,_⟩:=aE.out.has (by omega);obtain⟨Ar,cr,_,Y,O⟩:=(aE.out.below d).at_ ae;rw[af]at Y O;obtain⟨o,rfl,_,_⟩:=O.has (by omega);obtain⟨B,t,D,z,x,C,y,y0,y1,P,aj⟩:=O.at_ ac
       obtain⟨gk,E,mk,J,G,L,I,o0,o1,o2,ai⟩:=g.at_ (zzk F j (zbT F b n) M);have aA:=g.fro (k*3);have of1:=g.fro (k*3+1);have aP:=g.fro (k*3+2);obtain⟨V,Q,W,cc,R,X,U,z0,z1,z2,ax⟩:=g.at_ (zwk F j (zbT F b n) ab);have bH:el (zlK F n (zbX F b n) (n-(k+1))) j=el (luW n F b) (k+1+j):=(zka F n (zbX F b n) (f:=n) (j:=k+1) (by omega) j).symm;rw[bH]at ax
       have cu:btP F (zbX F b n) n k j=el (zbX F b n) k-zai j (fun c=>en F.lo (k+1+c) k*el (luW n F b) (k+1+c)):=by unfold btP;rw[zaj fun c hc=>by rw[←zka F n (zbX F b n) (f:=n) (j:=k+1) (by omega) c]];rfl
       have bx:=hid (show(btI F (zbX F b n) n k j).set k (btP F (zbX F b n) n k j-en F.lo (k+1+j) k*el (luW n F b) (k+1+j))=btI F (zbX F b n) n k (j+1)by rw[←bH];exact zzl F j (zbT F b n) M);have bg:=(cf.out (k+1+j) ab).1;have bh:mw (btP F (zbX F b n) n k j)≤2*xB n u s:=by rw[cu];exact(cf.out k M).2 j (by omega)
       have bi:=ch.out.lo (k+1+j) ab k M;generalize hc0:k+1+j=c at *
       generalize btP F (zbX F b n) n k j=pk at *
       have cb:=hid hc0;have aa:=hid (show RatS wz B (.slice t D z) (.slice x C y) (en F.lo c k)from aj);have aG:=hid (show RatS wz V (.slice Q W cc) (.slice R X U) (el (luW n F b) c)from ax);have av:=hid (show RatS wz gk (.slice E mk J) (.slice G L I) pk from ai);have T:=hid (show VecS wz w.heap.size (.slice (some ⟨l,0,none⟩) n cz) (btI F (zbX F b n) n k j)from g);have HW:=hid (show Bel w wz from Bel.mk d);have a4:=zab d k0;have aQ:=zaa a4;have a5:=zab d k1;have aR:=zaa a5;have a7:=zab d k2
       have aS:=zaa a7;have a6:wz.cell? ⟨N,c,none⟩=some (.slice (some ⟨o,0,none⟩) n cr):=Y;have aT:=zaa a6;have a8:wz.cell? ⟨o,k*3,none⟩=some (.bool B):=y0;have aU:=zaa a8;have ba:wz.cell? ⟨o,k*3+1,none⟩=some (.slice t D z):=y1;have aV:=zaa ba;have bb:wz.cell? ⟨o,k*3+2,none⟩=some (.slice x C y):=P;have aW:=zaa bb;have bc:wz.cell? ⟨l,c*3,none⟩=some (.bool V):=z0;have aX:=zaa bc;have bd:wz.cell? ⟨l,c*3+1,none⟩=some (.slice Q W cc):=z1;have aY:=zaa bd
       have be:wz.cell? ⟨l,c*3+2,none⟩=some (.slice R X U):=z2;have aZ:=zaa be;have b3:wz.cell? ⟨l,k*3,none⟩=some (.bool gk):=o0;have bT:=zaa b3;have b5:wz.cell? ⟨l,k*3+1,none⟩=some (.slice E mk J):=o1;have bU:=zaa b5;have b6:wz.cell? ⟨l,k*3+2,none⟩=some (.slice G L I):=o2;have bV:=zaa b6;have L1:=hid (show 4*(mw (en F.lo c k)+mw (el (luW n F b) c))+8≤LIM by have:=aD.out;omega)
       have L2:=hid (show 4*(mw pk+mw (en F.lo c k*el (luW n F b) c))+8≤LIM by have:=aD.out;have:=zdI (en F.lo c k) (el (luW n F b) c);omega);clear g d ae af ad ac O aj ax ai bg bh bi bH cu hc0 Y y0 y1 P z0 z1 z2;have bJ:(0:Int)≤(k:Int):=Int.natCast_nonneg _;have bK:(k:Int)<(n:Int):=by omega
       have c9:(0:Int)≤(c:Int):=Int.natCast_nonneg _;have da:(c:Int)<(n:Int):=by omega
       go_wp2_with fail
       refine za2 (S:=fun w'=>w'.cell? ⟨q,0,none⟩=some (.slice (some ⟨N,0,none⟩) n lc)∧w'.cell? ⟨q,1,none⟩=some (.slice uA n uc)∧w'.cell? ⟨q,2,none⟩=some (.slice pA n pc)∧w'.cell? ⟨N,c,none⟩=some (.slice (some ⟨o,0,none⟩) n cr)∧w'.cell? ⟨o,k*3,none⟩=some (.bool B)∧w'.cell? ⟨o,k*3+1,none⟩=some (.slice t D z)∧w'.cell? ⟨o,k*3+2,none⟩=some (.slice x C y)∧w'.cell? ⟨l,c*3,none⟩=some (.bool V)∧w'.cell? ⟨l,c*3+1,none⟩=some (.slice Q W cc)∧w'.cell? ⟨l,c*3+2,none⟩=some (.slice R X U)∧w'.cell? ⟨l,k*3,none⟩=some (.bool gk)∧w'.cell? ⟨l,k*3+1,none⟩=some (.slice E mk J)∧w'.cell? ⟨l,k*3+2,none⟩=some (.slice G L I)) 23 (h:=fun hHeld=>?_)
       refine zaw [0,1,2,3,4,5,6,7,8,9,10,11,12,13,14,15,16,17,18,19] ?_;repeat refine tkE (hS:=hHeld) (h:=?_)
       refine zao ?_;refine zaN 20 (h:=fun K m=>?_);go_simp
       (go_at_call 21;(with_reducible refine(Rt.mul B t D z x C y (en F.lo c k) V Q W cc R X U (el (luW n F b) c) _ aa.out.drew aG.out.drew L1.out).mono ?_);rintro e u1 ⟨g1,A1,m1,c1,D1,md1,cd1,rfl,r,a⟩;have bq:=hid (aa.out.drew.below a);have b4:=hid (aG.out.drew.below a);have bo:=hid (av.out.drew.below a);have ag:=hid (T.out.drew.below a);have a9:=hid (HW.out.drew.below a);have HM:=hid (show RatS u1 g1 (.slice A1 m1 c1) (.slice D1 md1 cd1) (en F.lo c k*el (luW n F b) c)from r);have bk:=zab a aQ;have bl:=zab a aR;have bm:=zab a aS;have ao:=zab a aT;have cF:=zaa ao;have bn:=zab a aU;have bp:=zab a aV;have bs:=zab a aW;have ap:=zab a aX;have cG:=zaa ap;have aq:=zab a aY;have cH:=zaa aq;have ar:=zab a aZ;have cI:=zaa ar;have bZ:=zab a bT;have b0:=zab a bU;have b1:=zab a bV;clear r a)
       (try go_wp2_with fail)
       refine m.out _ _ kp fun hHeld=>?_
       clear m K;try simp only[Act.put,pu1,pu2,pu3,pu4,pu5,pu6]
       refine zaN 21 (h:=fun K m=>?_);go_simp
       (go_at_call 132;(with_reducible refine(Rt.sub gk E mk J G L I pk g1 A1 m1 c1 D1 md1 cd1 (en F.lo c k*el (luW n F b) c) _ bo.out HM.out L2.out).mono ?_);rintro e u2 ⟨g2,A2,m2,c2,D2,md2,cd2,rfl,r,a⟩;have dt:=hid (bq.out.below a);have ds:=hid (b4.out.below a);have Z:=hid (ag.out.below a);have b7:=hid (a9.out.below a);have dh:=hid (HM.out.below a);have HS:=hid (show RatS u2 g2 (.slice A2 m2 c2) (.slice D2 md2 cd2) (pk-en F.lo c k*el (luW n F b) c)from r);have di:=zab a bk;have dj:=zab a bl;have dk:=zab a bm;have b2:=zab a ao;have dd:=zaa b2;have dl:=zab a bn;have dm:=zab a bp;have dr:=zab a bs;have bW:=zab a ap;have de:=zaa bW;have bX:=zab a aq;have df:=zaa bX;have bY:=zab a ar;have dg:=zaa bY;have dn:=zab a bZ;have dp:=zab a b0;have dq:=zab a b1;have aA:=Z.out.fro (k*3);have of1:=Z.out.fro (k*3+1);have aP:=Z.out.fro (k*3+2);clear r a)
       (try go_wp2_with fail)
       refine m.out _ _ kp fun hHeld=>?_
       clear m K;try simp only[Act.put,pu1,pu2,pu3,pu4,pu5,pu6]
       refine zaw [22] ?_;repeat refine tkE (hS:=hHeld) (h:=?_)
       refine zao ?_;refine zba (h:=fun K m=>?_);go_simp;refine m.out _ _ ?_;clear m K;try simp only[Act.put,pu1,pu2,pu3,pu4,pu5,pu6]
       refine za1 (h:=?_);go_wp2;go_roundw
       case rel=>exact⟨j+1,by have:=cb.out;subst this;go_num,by have:=cb.out;omega,by rw[←bx.out];exact Z.out.store k HS.out,(Bel.set3 b7.out aM _ _ _).b⟩
       case measure=>simp[intOf];omega
      ·have ak:j=n-(k+1):=by omega
       rw[ak,zwl F (zbT F b n) M]at g;have c3:=hid g;have cQ:=hid d;clear g d ak;have bJ:(0:Int)≤(k:Int):=Int.natCast_nonneg _;have bK:(k:Int)<(n:Int):=by omega
       go_wp2;go_roundw
       case rel=>exact⟨k,by go_num,by omega,c3.out,cQ.out⟩
       case measure=>first | (simp[intOf];done) | (simp[intOf];omega)
