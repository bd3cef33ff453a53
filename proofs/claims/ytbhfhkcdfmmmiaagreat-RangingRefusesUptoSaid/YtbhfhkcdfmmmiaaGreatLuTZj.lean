/- Contracts and lemmas: LuT. Conditions: as each says. -/
import Derived.Test.YtbhfhkcdfmmmiaaGreatMat4Zj
set_option linter.all false
set_option maxHeartbeats 8000000
set_option maxRecDepth 100000
namespace Go.Proofs.YtbhfhkcdfmmmiaaGreat
open Go.RowKit Am Tryz
attribute [local go_sem ↓] Go.wp_at_zero Go.wp_at_succ
namespace Lu
theorem solveT(H q n u X:Nat)(F:LUv)(A:OA)(cA:Nat)(b:List Rat)(H':Nat)(w:World)(hF:LuS w H q n F)(a:VecS w H' (A,n,cA) b)(r:n≤64)(hp:∀i,i<n→F.perm.getD i 0<n)(hz:LUsz mw n u F)(hd:∀i,i<n→en F.up i i≠0)(hx:SolTLe mw n F b X)(hL:4*(4*X+u+1)+8≤LIM) :
  Calls prog 148 #[.pointer (some ⟨q,0,none⟩),(A,n,cA)] w (zcd w (zcq n F b) true):=by
 obtain⟨lA,lc,ll,uA,uc,ul,pA,pc,aK,cn,_,cu,_,_,ct⟩:=hF.ex;have aH:=un hF.sq;have HN:=un r;have HP:=un hp;have HD:=un hd;have b7:=un a.len;have aC:=un hL;have b9:=un hx.fw;have cd:=un hx.sv;have cf:=un hz;have dA:n≤9223372036854775807:=by omega
 have k0:w.cell? ⟨q,0,none⟩=some (lA,n,lc):=zac aK 0;have k1:w.cell? ⟨q,1,none⟩=some (uA,n,uc):=zac aK 1;have k2:w.cell? ⟨q,2,none⟩=some (pA,n,pc):=zac aK 2;have KQ:=un aK;have aD:=un cn;have aw:=un cu;have bu:=un ct;have HB:=un a;clear hF cn cu ct a r hp hz hd hx hL aK;go_enter func148,ntmps148;go_wp2_with fail
 refine(Vc.copy A n cA b H' _ HB.o (by have:=HN.o;omega)).mono ?_;rintro e w1 ⟨Az,cz,rfl,g,hb1⟩;have HO:=un g;have cM:=un hb1;have q0:=zab hb1 k0;have q1:=zab hb1 k1;have q2:=zab hb1 k2;clear g hb1;go_wp2;have BB:=un (Zg w.heap.size w);have dB:=(ZI.1 KQ.o).1
 go_loopw [26] (fun i wr=>∃k:Nat,i=.int .i64 k∧k≤n∧VecS wr w (Az,n,cz) (ftO F b k)∧Below w w wr)
  (fun i _=>n-(intOf i).toNat)
 case atStart=>exact⟨0,rfl,Zb _,by rw[zxa];exact HO.o,cM.o⟩
 case round =>
  obtain⟨k,rfl,hk,g,d⟩:=hrel;by_cases L:k<n
  ·obtain⟨l,rfl,aL,_⟩:=g.has (by omega);have R:=un g;have bw:=un d;have be:k<b.length:=by rw[←b7.o];exact L
   have c6:=un (zw9 F be);clear g be;have cI:=un (aD.o.below d);have cJ:=un (aw.o.below d);have bq:=un (bu.o.below d);have a2:=un (BB.o.trans ((d).mono BB.o.size));have aA:=zab d k0;have cB:=zaa aA;have aB:=zab d k1;have cC:=zaa aB;have an:=zab d k2;have cD:=zaa an;clear d;have cj:(0:Int)≤(k:Int):=Zf _;have cm:(k:Int)<(n:Int):=by omega
   go_wp2
   go_loopw [30] (fun i wr=>∃j:Nat,i=.int .i64 j∧j≤k∧VecS wr w (l,n,cz) (ftI F b k j)∧Below w w wr)
    (fun i _=>k-(intOf i).toNat)
   case atStart=>exact⟨0,rfl,Zb _,by rw[c6.o];exact R.o,bw.o⟩
   case round =>
    rename World=>wz
    obtain⟨j,rfl,hj,g,d⟩:=hrel;have ak:j<n:=by omega
    have ae:F.up[j]? = some (F.up.getD j []):=zaO (by rw[aH.o.ul];exact ak);have af:=aH.o.ur j ak;have ad:en F.up j k=el (F.up.getD j []) k:=rfl;generalize F.up.getD j []=rw_ at ae af ad;have ac:=zaH (xs:=rw_) (j:=k) (by omega);rw[←ad]at ac;obtain⟨M,rfl,_,_⟩:=aw.o.has (by omega);obtain⟨Ar,cr,bI,Y,N⟩:=(aw.o.below d).at_ ae;rw[af]at Y N bI;obtain⟨o,rfl,_,_⟩:=N.has (by omega);have dy:=(aw.o.lt (Zh bI) rfl).2;clear bI;obtain⟨z,s,C,y,t,B,x,y0,y1,O,aj⟩:=N.at_ ac
    obtain⟨gk,D,mk,I,E,J,G,o0,o1,o2,ai⟩:=g.at_ (zAJ F b k j);have az:=g.fro (k*3);have of1:=g.fro (k*3+1);have aO:=g.fro (k*3+2);have bg:mw (ftP F b k j)≤2*X:=by unfold ftP;rw[zaj fun i hi=>by rw[←znE F b (i:=i) (j:=k) (k:=n) (by omega) (by omega)]];exact(b9.o k L).2 j hj
    have bh:=cf.o.up j ak k L;have bG:(0:Int)≤(k:Int):=Zf _;have bH:(k:Int)<(n:Int):=by omega
    have c8:(0:Int)≤(j:Int):=Zf _;have c9:(j:Int)<(n:Int):=by omega
    by_cases ab:j<k
    ·obtain⟨U,P,V,cc,Q,W,T,z0,z1,z2,ax⟩:=g.at_ (zAK F b (j:=j) ab);have aa:=un (aj);have av:=un (ai);have R:=un (g);have HW:=un (Bel.mk d);have aF:=un (ax);have a3:=zab d k0;have aP:=zaa a3
     have a4:=zab d k1;have aQ:=zaa a4;have a6:=zab d k2;have aR:=zaa a6;have a5:=Y;have aS:=zaa a5;have a7:=y0;have aT:=zaa a7;have a9:=y1;have aU:=zaa a9;have ba:=O;have aV:=zaa ba;have bb:=z0;have aW:=zaa bb;have bc:=z1
     have aX:=zaa bc;have bd:=z2;have aY:=zaa bd;have b1:=o0;have bR:=zaa b1;have b3:=o1;have bS:=zaa b3;have b4:=o2;have bT:=zaa b4;have bv:=un (zAL F b k j);have bf:=(b9.o j ak).1;rw[znE F b (i:=j) (j:=k) (k:=n) ab (by omega)]at bf;have L1:=un (show 4*(mw (en F.up j k)+mw (el (zbX F b k) j))+8≤LIM by have:=aC.o;omega)
     have L2:=un (show 4*(mw (ftP F b k j)+mw (en F.up j k*el (zbX F b k) j))+8≤LIM by have:=aC.o;have:=zdI (en F.up j k) (el (zbX F b k) j);omega);clear g d ae af ad ac N aj ax ai bf bg bh Y y0 y1 O z0 z1 z2;go_wp2_with fail
     refine za2 (S:=fun w'=>w'.cell? ⟨q,0,none⟩=some (lA,n,lc)∧w'.cell? ⟨q,1,none⟩=some (M,n,uc)∧w'.cell? ⟨q,2,none⟩=some (pA,n,pc)∧w'.cell? ⟨M,j,none⟩=some (o,n,cr)∧w'.cell? ⟨o,k*3,none⟩=some (.bool z)∧w'.cell? ⟨o,k*3+1,none⟩=some (s,C,y)∧w'.cell? ⟨o,k*3+2,none⟩=some (t,B,x)∧w'.cell? ⟨l,j*3,none⟩=some (.bool U)∧w'.cell? ⟨l,j*3+1,none⟩=some (P,V,cc)∧w'.cell? ⟨l,j*3+2,none⟩=some (Q,W,T)∧w'.cell? ⟨l,k*3,none⟩=some (.bool gk)∧w'.cell? ⟨l,k*3+1,none⟩=some (D,mk,I)∧w'.cell? ⟨l,k*3+2,none⟩=some (E,J,G)) 23 (h:=fun hHeld=>?_)
     refine zaw [0,1,2,3,4,5,6,7,8,9,10,11,12,13,14,15,16,17,18,19] ?_;repeat refine tkE (hS:=hHeld) (h:=?_)
     refine zao ?_;refine zaN 20 (h:=fun K m=>?_);go_simp
     (go_at_call 15;(with_reducible refine(Rt.mul z s C y t B x (en F.up j k) U P V cc Q W T (el (zbX F b k) j) _ aa.o.drew aF.o.drew L1.o).mono ?_);rintro e u1 ⟨g1,A1,m1,c1,D1,md1,cd1,rfl,r,a⟩;have bo:=un (aa.o.drew.below a);have bm:=un (av.o.drew.below a);have ag:=un (R.o.drew.below a);have a8:=un (HW.o.drew.below a);have b2:=un (aF.o.drew.below a);have HM:=un (r);have bi:=zab a aP;have bj:=zab a aQ;have bk:=zab a aR;have ao:=zab a aS;have cE:=zaa ao;have bl:=zab a aT;have bn:=zab a aU;have bp:=zab a aV;have ap:=zab a aW;have cF:=zaa ap;have aq:=zab a aX;have cG:=zaa aq;have ar:=zab a aY;have cH:=zaa ar;have bX:=zab a bR;have bY:=zab a bS;have bZ:=zab a bT;clear r a)
     (try go_wp2_with fail)
     refine shutOn m fun hHeld=>?_
     clear m K
     refine zaN 21 (h:=fun K m=>?_);go_simp
     (go_at_call 37;(with_reducible refine(Rt.sub gk D mk I E J G (ftP F b k j) g1 A1 m1 c1 D1 md1 cd1 (en F.up j k*el (zbX F b k) j) _ bm.o HM.o L2.o).mono ?_);rintro e u2 ⟨g2,A2,m2,c2,D2,md2,cd2,rfl,r,a⟩;have ds:=un (bo.o.below a);have Z:=un (ag.o.below a);have b5:=un (a8.o.below a);have dr:=un (b2.o.below a);have dg:=un (HM.o.below a);have HS:=un (r);have dh:=zab a bi;have di:=zab a bj;have dj:=zab a bk;have b0:=zab a ao;have dc:=zaa b0;have dk:=zab a bl;have dl:=zab a bn;have dq:=zab a bp;have bU:=zab a ap;have dd:=zaa bU;have bV:=zab a aq;have de:=zaa bV;have bW:=zab a ar;have df:=zaa bW;have dm:=zab a bX;have dn:=zab a bY;have dp:=zab a bZ;have az:=Z.o.fro (k*3);have of1:=Z.o.fro (k*3+1);have aO:=Z.o.fro (k*3+2);clear r a)
     (try go_wp2_with fail)
     refine shutOn m fun hHeld=>?_
     clear m K
     refine zaw [22] ?_;repeat refine tkE (hS:=hHeld) (h:=?_)
     refine zao ?_;refine zba (h:=fun K m=>?_);go_simp;refine shutOff m ?_;clear m K
     refine za1 (h:=?_);go_wp2;go_roundw
     case rel=>exact⟨j+1,by go_num,by omega,by rw[←bv.o];exact Z.o.store k HS.o,(Bel.set3 b5.o aL _ _ _).b⟩
     case measure=>simp[intOf];omega
    ·obtain rfl:k=j:=by omega
     have aa:=un (aj);have av:=un (ai);have R:=un (g);have HW:=un (Bel.mk d);have a3:=zab d k0;have aP:=zaa a3;have a4:=zab d k1;have aQ:=zaa a4;have a6:=zab d k2;have aR:=zaa a6;have a5:=Y;have aS:=zaa a5
     have a7:=y0;have aT:=zaa a7;have a9:=y1;have aU:=zaa a9;have ba:=O;have aV:=zaa ba;have bb:=o0;have aW:=zaa bb;have bc:=o1;have aX:=zaa bc;have bd:=o2;have aY:=zaa bd;have cX:=un (zAI F b k);have cS:=un (HD.o k L)
     have L1:=un (show 4*(mw (ftP F b k k)+mw (en F.up k k))+8≤LIM by have:=aC.o;omega);clear g d ae af ad ac N aj ai bg bh Y y0 y1 O;go_wp2_with fail
     refine wp_region_held_drew (S:=fun w'=>w'.cell? ⟨q,0,none⟩=some (lA,n,lc)∧w'.cell? ⟨q,1,none⟩=some (M,n,uc)∧w'.cell? ⟨q,2,none⟩=some (pA,n,pc)∧w'.cell? ⟨M,k,none⟩=some (o,n,cr)∧w'.cell? ⟨o,k*3,none⟩=some (.bool z)∧w'.cell? ⟨o,k*3+1,none⟩=some (s,C,y)∧w'.cell? ⟨o,k*3+2,none⟩=some (t,B,x)) (by kernel_rfl) kp fun hHeld=>?_
     refine zaw [0,1,2,3,4,6,7,8,9,10,11,12,13,14,15] ?_;repeat refine tkH (hS:=hHeld) (h:=?_)
     refine zao ?_;refine wpAnyH_ready (rs:=[5]) (by kernel_rfl) (by simp) ?_;refine AllReadyH.cons rfl (fun K m=>?_) AllReadyH.nil;go_simp
     skip
     (try go_wp2_with fail)
     refine m.o _ _ kp fun hHeld=>?_
     clear m K;try simp only[Act.put,pu1,pu2,pu3,pu4,pu5,pu6]
     refine wpAnyH_ready (rs:=[16]) (by kernel_rfl) (by simp) ?_;refine AllReadyH.cons rfl (fun K m=>?_) AllReadyH.nil;go_simp
     (go_at_call 146;(with_reducible refine(Rt.div gk D mk I E J G (ftP F b k k) z s C y t B x (en F.up k k) _ av.o.drew aa.o.drew cS.o L1.o).mono ?_);rintro e u1 ⟨g2,A2,m2,c2,D2,md2,cd2,rfl,r,a⟩;have bo:=un (aa.o.drew.below a);have bm:=un (av.o.drew.below a);have ag:=un (R.o.drew.below a);have a8:=un (HW.o.drew.below a);have HS:=un (r);have bi:=zab a aP;have bj:=zab a aQ;have bk:=zab a aR;have ao:=zab a aS;have cE:=zaa ao;have bl:=zab a aT;have bn:=zab a aU;have bp:=zab a aV;have ap:=zab a aW;have cF:=zaa ap;have aq:=zab a aX;have cG:=zaa aq;have ar:=zab a aY;have cH:=zaa ar;have az:=ag.o.fro (k*3);have of1:=ag.o.fro (k*3+1);have aO:=ag.o.fro (k*3+2);clear r a)
     (try go_wp2_with fail)
     refine m.o _ _ kp fun hHeld=>?_
     clear m K;try simp only[Act.put,pu1,pu2,pu3,pu4,pu5,pu6]
     refine zaw [17,18,19,20] ?_;repeat refine tkH (hS:=hHeld) (h:=?_)
     refine zao ?_;refine wpAnyH_ready (rs:=[21]) (by kernel_rfl) (by simp) ?_;refine AllReadyH.cons rfl (fun K m=>?_) AllReadyH.nil;go_simp
     skip
     (try go_wp2_with fail)
     refine m.o _ _ kp fun hHeld=>?_
     clear m K;try simp only[Act.put,pu1,pu2,pu3,pu4,pu5,pu6]
     refine wpAnyH_done (by kernel_rfl) ?_ _;go_wp2;go_roundw
     case rel=>exact⟨k+1,by go_num,by omega,by rw[←cX.o];exact ag.o.store k HS.o,(Bel.set3 a8.o aL _ _ _).b⟩
     case measure=>simp[intOf];omega
  ·obtain rfl:n=k:=by omega
   have c3:=un (show VecS _ w (Az,n,cz) (zbX F b n)by rw[←zAM F b7.o.symm];exact g);have cQ:=un d;clear g d;go_wp2
   go_loopw [10] (fun i wr=>∃k:Nat,i=.int .i64 ((k:Int)-1)∧k≤n∧VecS wr w (Az,n,cz) (btO F (zbX F b n) n k)∧Below w w wr)
    (fun i _=>(intOf i+1).toNat)
   case atStart=>exact⟨n,rfl,Za _,by rw[zzm F (zbT _ _ _)];exact c3.o,cQ.o⟩
   case round =>
    rename World=>wy
    obtain⟨k,rfl,hk,g,d⟩:=hrel;cases k with
    | zero =>
     rw[zwn]at g;have cI:=un (aD.o.below d);have cJ:=un (aw.o.below d);have bq:=un (bu.o.below d);have ce:=un (show VecS wy w (Az,n,cz) (luW n F b)from g);have a2:=un (BB.o.trans ((d).mono BB.o.size));have aA:=zab d k0;have cB:=zaa aA;have aB:=zab d k1;have cC:=zaa aB;have an:=zab d k2;have cD:=zaa an;clear g d;rw[show((0:Nat):Int)-1 = -1 from rfl]
     go_wp2_with (at_make;go_must (refine zdv rfl _ _ rfl n _ rfl rfl rfl (by have:=HN.o;omega) wy.heap.size rfl ?_;intro wq ho bE;have cU:=un ho;have cN:=un bE;have q3:=zab bE an;clear ho bE))
     go_loopw [118] (fun i wr=>∃k:Nat,i=.int .i64 k∧k≤n∧VecS wr wy (wy.heap.size,n,n) (back F.perm (luW n F b) k (List.replicate n 0))∧Below wy wy wr)
      (fun i _=>n-(intOf i).toNat)
     case atStart=>exact⟨0,rfl,Zb _,cU.o,cN.o⟩
     case round =>
      rename World=>wz
      obtain⟨k,rfl,dz,g,d⟩:=hrel;by_cases bJ:k<n
      ·have bK:F.perm[k]? = some (F.perm.getD k 0):=zaO (by rw[aH.o.pl];exact bJ);have da:=HP.o k bJ;have bM:(back F.perm (luW n F b) k (List.replicate n 0)).set (F.perm.getD k 0) (el (luW n F b) k)=back F.perm (luW n F b) (k+1) (List.replicate n 0):=rfl;generalize F.perm.getD k 0=p at bK da bM;have cY:=un bM;have be:(back F.perm (luW n F b) k (List.replicate n 0)).length=n:=by rw[zjk];simp
       have cv:=zaH (xs:=back F.perm (luW n F b) k (List.replicate n 0)) (j:=p) (by omega);have cx:=zaH (xs:=luW n F b) (j:=k) (by rw[zAY];exact bJ);obtain⟨bP,rfl,_,_⟩:=bq.o.has (by omega);obtain⟨l,rfl,aL,_⟩:=ce.o.has (by omega);have p0:=(bq.o.below d).at_ bK;obtain⟨ga,Aa,ma,ca,Da,bQ,bC,y0,y1,O,ch⟩:=(ce.o.below d).at_ cx;obtain⟨go,Ao,mo,co,Do,dC,dv,o0,o1,o2,_⟩:=g.at_ cv;have az:=g.fro (p*3);have of1:=g.fro (p*3+1);have aO:=g.fro (p*3+2)
       have HQ:=un (ch);have c4:=un (g);have c5:=un (Bel.mk d);have dI:=zab d aA;have dJ:=zab d aB;have dK:=zab d an;have dL:wz.cell? ⟨bP,k,none⟩=some (.int .i64 (p:Int)):=p0;have dM:wz.cell? ⟨l,k*3,none⟩=some (.bool ga):=y0
       have dN:wz.cell? ⟨l,k*3+1,none⟩=some (Aa,ma,ca):=y1;have dO:wz.cell? ⟨l,k*3+2,none⟩=some (Da,bQ,bC):=O;clear g d bK bM be cv cx ch p0 y0 y1 O;have cj:(0:Int)≤(k:Int):=Zf _;have cm:(k:Int)<(n:Int):=by omega
       have bG:(0:Int)≤(p:Int):=Zf _;have bH:(p:Int)<(n:Int):=by omega
       have dx:wz.drew.frozen? ⟨wy,p*3,none⟩=false:=az;have dw:=zaa o0;go_wp2_with fail
       refine za2 (S:=fun w'=>w'.cell? ⟨q,0,none⟩=some (lA,n,lc)∧w'.cell? ⟨q,1,none⟩=some (uA,n,uc)∧w'.cell? ⟨q,2,none⟩=some (bP,n,pc)∧w'.cell? ⟨bP,k,none⟩=some (.int .i64 (p:Int))∧w'.cell? ⟨l,k*3,none⟩=some (.bool ga)∧w'.cell? ⟨l,k*3+1,none⟩=some (Aa,ma,ca)∧w'.cell? ⟨l,k*3+2,none⟩=some (Da,bQ,bC)) 13 (h:=fun hHeld=>?_);refine zaw [0,1,2,3,4,5,6,7,8,9,10,11,12] ?_;repeat refine tkE (hS:=hHeld) (h:=?_)
       refine zao ?_;refine zba (h:=fun K m=>?_);go_simp;refine shutOff m ?_;clear m K
       refine za1 (h:=?_);go_wp2;go_roundw
       case rel=>exact⟨k+1,by go_num,by omega,by rw[←cY.o];exact c4.o.drew.store p HQ.o.drew,(Bel.set3 c5.o.drew (Za _) _ _ _).b⟩
       case measure=>simp[intOf];omega
      ·obtain rfl:n=k:=by omega
       have cZ:=un g;have cO:=un (a2.o.trans (d.mono a2.o.size));have db:=a2.o.size;clear g d;go_wp2;refine Zd (v:=.tuple #[(wy.heap.size,n,n),true]) (by simp[results,results148,go_sem]) rfl ?_;exact⟨_,_,_,rfl,cZ.o.base db,cO.o⟩
    | succ k =>
     have L:k<n:=by omega
     rw[show((k+1:Nat):Int)-1=(k:Int)by omega];obtain⟨l,rfl,aL,_⟩:=g.has (by omega);have R:=un g;have bw:=un d;clear g;have cI:=un (aD.o.below d);have cJ:=un (aw.o.below d);have bq:=un (bu.o.below d);have a2:=un (BB.o.trans ((d).mono BB.o.size));have aA:=zab d k0;have cB:=zaa aA;have aB:=zab d k1;have cC:=zaa aB;have an:=zab d k2;have cD:=zaa an;clear d;have cj:(0:Int)≤(k:Int):=Zf _;have cm:(k:Int)<(n:Int):=by omega
     go_wp2
     go_loopw [11] (fun i wr=>∃j:Nat,i=((k+1+j:Nat):Int)∧k+1+j≤n∧VecS wr w (l,n,cz) (btI F (zbX F b n) n k j)∧Below w w wr)
      (fun i _=>n-(intOf i).toNat)
     case atStart=>exact⟨0,by go_num,by omega,by rw[zwm F (zbT _ _ _) L];exact R.o,bw.o⟩
     case round =>
      rename World=>wz
      obtain⟨j,rfl,hj,g,d⟩:=hrel;by_cases ab:k+1+j<n
      ·have ae:F.lo[k+1+j]? = some (F.lo.getD (k+1+j) []):=zaO (by rw[aH.o.ll];exact ab);have af:=aH.o.lr (k+1+j) ab;have ad:en F.lo (k+1+j) k=el (F.lo.getD (k+1+j) []) k:=rfl;generalize F.lo.getD (k+1+j) []=rw_ at ae af ad;have ac:=zaH (xs:=rw_) (j:=k) (by omega);rw[←ad]at ac;obtain⟨M,rfl,_,_⟩:=aD.o.has (by omega);obtain⟨Ar,cr,_,Y,N⟩:=(aD.o.below d).at_ ae;rw[af]at Y N;obtain⟨o,rfl,_,_⟩:=N.has (by omega);obtain⟨z,s,C,y,t,B,x,y0,y1,O,aj⟩:=N.at_ ac
       obtain⟨gk,D,mk,I,E,J,G,o0,o1,o2,ai⟩:=g.at_ (zzk F j (zbT F b n) L);have az:=g.fro (k*3);have of1:=g.fro (k*3+1);have aO:=g.fro (k*3+2);obtain⟨U,P,V,cc,Q,W,T,z0,z1,z2,ax⟩:=g.at_ (zwk F j (zbT F b n) ab);have bF:el (zlK F n (zbX F b n) (n-(k+1))) j=el (luW n F b) (k+1+j):=(zka F n (zbX F b n) (f:=n) (j:=k+1) (by omega) j).symm;rw[bF]at ax
       have cs:btP F (zbX F b n) n k j=el (zbX F b n) k-zai j (fun c=>en F.lo (k+1+c) k*el (luW n F b) (k+1+c)):=by unfold btP;rw[zaj fun c hc=>by rw[←zka F n (zbX F b n) (f:=n) (j:=k+1) (by omega) c]];rfl
       have bv:=un (show(btI F (zbX F b n) n k j).set k (btP F (zbX F b n) n k j-en F.lo (k+1+j) k*el (luW n F b) (k+1+j))=btI F (zbX F b n) n k (j+1)by rw[←bF];exact zzl F j (zbT F b n) L);have bf:=(cd.o (k+1+j) ab).1;have bg:mw (btP F (zbX F b n) n k j)≤2*X:=by rw[cs];exact(cd.o k L).2 j (by omega)
       have bh:=cf.o.lo (k+1+j) ab k L;generalize hc0:k+1+j=c at *
       generalize btP F (zbX F b n) n k j=pk at *
       have b8:=un hc0;have aa:=un (aj);have aF:=un (ax);have av:=un (ai);have R:=un (g);have HW:=un (Bel.mk d);have a3:=zab d k0;have aP:=zaa a3;have a4:=zab d k1;have aQ:=zaa a4;have a6:=zab d k2
       have aR:=zaa a6;have a5:=Y;have aS:=zaa a5;have a7:=y0;have aT:=zaa a7;have a9:=y1;have aU:=zaa a9;have ba:=O;have aV:=zaa ba;have bb:=z0;have aW:=zaa bb;have bc:=z1;have aX:=zaa bc
       have bd:=z2;have aY:=zaa bd;have b1:=o0;have bR:=zaa b1;have b3:=o1;have bS:=zaa b3;have b4:=o2;have bT:=zaa b4;have L1:=un (show 4*(mw (en F.lo c k)+mw (el (luW n F b) c))+8≤LIM by have:=aC.o;omega)
       have L2:=un (show 4*(mw pk+mw (en F.lo c k*el (luW n F b) c))+8≤LIM by have:=aC.o;have:=zdI (en F.lo c k) (el (luW n F b) c);omega);clear g d ae af ad ac N aj ax ai bf bg bh bF cs hc0 Y y0 y1 O z0 z1 z2;have bG:(0:Int)≤(k:Int):=Zf _;have bH:(k:Int)<(n:Int):=by omega
       have c8:(0:Int)≤(c:Int):=Zf _;have c9:(c:Int)<(n:Int):=by omega
       go_wp2_with fail
       refine za2 (S:=fun w'=>w'.cell? ⟨q,0,none⟩=some (M,n,lc)∧w'.cell? ⟨q,1,none⟩=some (uA,n,uc)∧w'.cell? ⟨q,2,none⟩=some (pA,n,pc)∧w'.cell? ⟨M,c,none⟩=some (o,n,cr)∧w'.cell? ⟨o,k*3,none⟩=some (.bool z)∧w'.cell? ⟨o,k*3+1,none⟩=some (s,C,y)∧w'.cell? ⟨o,k*3+2,none⟩=some (t,B,x)∧w'.cell? ⟨l,c*3,none⟩=some (.bool U)∧w'.cell? ⟨l,c*3+1,none⟩=some (P,V,cc)∧w'.cell? ⟨l,c*3+2,none⟩=some (Q,W,T)∧w'.cell? ⟨l,k*3,none⟩=some (.bool gk)∧w'.cell? ⟨l,k*3+1,none⟩=some (D,mk,I)∧w'.cell? ⟨l,k*3+2,none⟩=some (E,J,G)) 23 (h:=fun hHeld=>?_)
       refine zaw [0,1,2,3,4,5,6,7,8,9,10,11,12,13,14,15,16,17,18,19] ?_;repeat refine tkE (hS:=hHeld) (h:=?_)
       refine zao ?_;refine zaN 20 (h:=fun K m=>?_);go_simp
       (go_at_call 15;(with_reducible refine(Rt.mul z s C y t B x (en F.lo c k) U P V cc Q W T (el (luW n F b) c) _ aa.o.drew aF.o.drew L1.o).mono ?_);rintro e u1 ⟨g1,A1,m1,c1,D1,md1,cd1,rfl,r,a⟩;have bo:=un (aa.o.drew.below a);have b2:=un (aF.o.drew.below a);have bm:=un (av.o.drew.below a);have ag:=un (R.o.drew.below a);have a8:=un (HW.o.drew.below a);have HM:=un (r);have bi:=zab a aP;have bj:=zab a aQ;have bk:=zab a aR;have ao:=zab a aS;have cE:=zaa ao;have bl:=zab a aT;have bn:=zab a aU;have bp:=zab a aV;have ap:=zab a aW;have cF:=zaa ap;have aq:=zab a aX;have cG:=zaa aq;have ar:=zab a aY;have cH:=zaa ar;have bX:=zab a bR;have bY:=zab a bS;have bZ:=zab a bT;clear r a)
       (try go_wp2_with fail)
       refine shutOn m fun hHeld=>?_
       clear m K
       refine zaN 21 (h:=fun K m=>?_);go_simp
       (go_at_call 37;(with_reducible refine(Rt.sub gk D mk I E J G pk g1 A1 m1 c1 D1 md1 cd1 (en F.lo c k*el (luW n F b) c) _ bm.o HM.o L2.o).mono ?_);rintro e u2 ⟨g2,A2,m2,c2,D2,md2,cd2,rfl,r,a⟩;have ds:=un (bo.o.below a);have dr:=un (b2.o.below a);have Z:=un (ag.o.below a);have b5:=un (a8.o.below a);have dg:=un (HM.o.below a);have HS:=un (r);have dh:=zab a bi;have di:=zab a bj;have dj:=zab a bk;have b0:=zab a ao;have dc:=zaa b0;have dk:=zab a bl;have dl:=zab a bn;have dq:=zab a bp;have bU:=zab a ap;have dd:=zaa bU;have bV:=zab a aq;have de:=zaa bV;have bW:=zab a ar;have df:=zaa bW;have dm:=zab a bX;have dn:=zab a bY;have dp:=zab a bZ;have az:=Z.o.fro (k*3);have of1:=Z.o.fro (k*3+1);have aO:=Z.o.fro (k*3+2);clear r a)
       (try go_wp2_with fail)
       refine shutOn m fun hHeld=>?_
       clear m K
       refine zaw [22] ?_;repeat refine tkE (hS:=hHeld) (h:=?_)
       refine zao ?_;refine zba (h:=fun K m=>?_);go_simp;refine shutOff m ?_;clear m K
       refine za1 (h:=?_);go_wp2;go_roundw
       case rel=>exact⟨j+1,by have:=b8.o;subst this;go_num,by have:=b8.o;omega,by rw[←bv.o];exact Z.o.store k HS.o,(Bel.set3 b5.o aL _ _ _).b⟩
       case measure=>simp[intOf];omega
      ·have ak:j=n-(k+1):=by omega
       rw[ak,zwl F (zbT F b n) L]at g;have c0:=un g;have cP:=un d;clear g d ak;have bG:(0:Int)≤(k:Int):=Zf _;have bH:(k:Int)<(n:Int):=by omega
       go_wp2;go_roundw
       case rel=>exact⟨k,by go_num,by omega,c0.o,cP.o⟩
       case measure=>first | (simp[intOf];done) | (simp[intOf];omega)
