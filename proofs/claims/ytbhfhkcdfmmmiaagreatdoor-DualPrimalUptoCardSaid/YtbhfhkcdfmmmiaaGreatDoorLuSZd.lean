/- Contracts and lemmas: LuS zjE. Conditions: as each says. -/
import Derived.Test.YtbhfhkcdfmmmiaaGreatDoorBasMemZd
set_option linter.all false
set_option maxHeartbeats 8000000
set_option maxRecDepth 100000
namespace Go.Proofs.YtbhfhkcdfmmmiaaGreatDoor
open Go.RowKit Am
open Lib (hid)
attribute [local go_sem ↓] Go.wp_at_zero Go.wp_at_succ
namespace Lu
theorem solve(H q n u X:Nat)(F:LUv)(A:OA)(cA:Nat)(b:List Rat)(H':Nat)(w:World)(hF:LuS w H q n F)(a:VecS w H' (A,n,cA) b)(r:n≤64)(hp:∀i,i<n→F.perm.getD i 0<n)(hz:LUsz mw n u F)(hd:∀i,i<n→en F.up i i≠0)(hx:SolLe mw n F b X)(hL:4*(4*X+u+1)+8≤LIM) :
  Calls Tryz.prog 101 #[.pointer (some ⟨q,0,none⟩),(A,n,cA)] w (zcd w (zaR n F b) true):=by
 obtain⟨lA,lc,ll,uA,uc,ul,pA,pc,aF,b7,_,ce,_,_,cd⟩:=hF.ex;have aB:=hid hF.sq;have HN:=hid r;have HP:=hid hp;have HD:=hid hd;have cw:=hid a.len;have ax:=hid hL;have bW:=hid hx.fw;have bl:=hid hx.sv;have bn:=hid hz;have di:n≤9223372036854775807:=by omega
 have k0:w.cell? ⟨q,0,none⟩=some (lA,n,lc):=zac aF 0;have k1:w.cell? ⟨q,1,none⟩=some (uA,n,uc):=zac aF 1;have k2:w.cell? ⟨q,2,none⟩=some (pA,n,pc):=zac aF 2;have KQ:=hid aF;have bb:=hid b7;have aC:=hid ce;have bX:=hid cd;have HB:=hid a;clear hF b7 ce cd a r hp hz hd hx hL aF;go_enter Tryz.func101,Tryz.ntmps101
 go_wp2_with (at_make;go_must (refine zdv rfl _ _ rfl n _ rfl rfl rfl (by have:=HN.out;omega) w.heap.size rfl ?_;intro w1 ho aE;have HO:=hid ho;have cv:=hid aE;have q0:=zab aE k0;have q1:=zab aE k1;have q2:=zab aE k2;clear ho aE))
 go_wp2
 go_loopw [24] (fun i wr=>∃k:Nat,i=.int .i64 k∧k≤n∧VecS wr w.heap.size (w.heap.size,n,n) (fwO F b n k)∧Below w.heap.size w wr)
  (fun i _=>n-(intOf i).toNat)
 case atStart=>exact⟨0,rfl,Nat.zero_le _,by rw[zxc];exact HO.out,cv.out⟩
 case round =>
  obtain⟨k,rfl,hk,g,d⟩:=hrel;by_cases o:k<n
  ·have bt:F.perm[k]? = some (F.perm.getD k 0):=zaO (by rw[aB.out.pl];exact o);have cb:=HP.out k o;generalize ad:F.perm.getD k 0=p at bt cb;have b4:=zaH (xs:=b) (j:=p) (by rw[←cw.out];exact cb);obtain⟨bP,rfl,_,_⟩:=bX.out.has (by omega);obtain⟨bB,rfl,_,_⟩:=HB.out.has (by omega);have p0:=(bX.out.below d).at_ bt;obtain⟨ga,Aa,ma,ca,Da,ch,b0,y0,y1,N,b3⟩:=(HB.out.below d).at_ b4;obtain⟨go,Ao,mo,co,Do,dk,df,o0,o1,o2,_⟩:=g.at_ (zAR F b o);have aL:=g.fro (k*3);have of1:=g.fro (k*3+1)
   have aM:=g.fro (k*3+2);have c9:=hid (bb.out.below d);have da:=hid (aC.out.below d);have HQ:=hid (b3);have R:=hid (g);have HW:=hid (Bel.mk d);have bD:=zab d k0;have cQ:=zaa bD;have bE:=zab d k1;have cR:=zaa bE;have cZ:=zab d k2;have dq:=p0
   have dr:=y0;have ds:=y1;have dt:=N;have cF:=hid (show(fwO F b n k).set k (el b p)=fwI F b n k 0 by rw[←ad];exact zAS F b o);clear g d bt b4 b3 ad p0 y0 y1 N;have cK:(0:Int)≤(k:Int):=Int.natCast_nonneg _;have cL:(k:Int)<(n:Int):=by omega
   have cM:(0:Int)≤(p:Int):=Int.natCast_nonneg _;have cN:(p:Int)<(n:Int):=by omega
   go_wp2
   go_loopw [41] (fun i wr=>∃c:Nat,i=.int .i64 c∧c≤k∧VecS wr w.heap.size (w.heap.size,n,n) (fwI F b n k c)∧Below w.heap.size w wr)
    (fun i _=>k-(intOf i).toNat)
   case atStart=>exact⟨0,rfl,Nat.zero_le _,by rw[←cF.out];exact R.out.store k HQ.out,(Bel.set3 HW.out (Nat.le_refl _) _ _ _).b⟩
   case round =>
    rename World=>wz
    obtain⟨c,rfl,hc,g,d⟩:=hrel;by_cases au:c<k
    ·have ae:F.lo[k]? = some (F.lo.getD k []):=zaO (by rw[aB.out.ll];exact o);have af:=aB.out.lr k o;have V:en F.lo k c=el (F.lo.getD k []) c:=rfl;generalize F.lo.getD k []=rw_ at ae af V;have M:=zaH (xs:=rw_) (j:=c) (by omega);rw[←V]at M;obtain⟨O,rfl,_,_⟩:=bb.out.has (by omega);obtain⟨Ar,cr,_,Z,L⟩:=(bb.out.below d).at_ ae;rw[af]at Z L;obtain⟨m,rfl,_,_⟩:=L.has (by omega);obtain⟨z,s,C,y,t,B,x,y0,y1,N,ac⟩:=L.at_ M;obtain⟨U,P,W,cc,Q,Y,T,z0,z1,z2,ar⟩:=g.at_ (zAO F b (n:=n) (c:=c) au)
     obtain⟨gk,D,mk,I,E,J,G,o0,o1,o2,aj⟩:=g.at_ (zAN F b n k c);have aL:=g.fro (k*3);have of1:=g.fro (k*3+1);have aM:=g.fro (k*3+2);have ab:=hid (ac);have az:=hid (ar);have aq:=hid (aj);have R:=hid (g)
     have HW:=hid (Bel.mk d);have a0:=zab d k0;have aN:=zaa a0;have a1:=zab d k1;have aO:=zaa a1;have a3:=zab d k2;have aP:=zaa a3;have a2:=Z;have aQ:=zaa a2;have a4:=y0;have aR:=zaa a4;have a6:=y1;have aS:=zaa a6;have a7:=N;have aT:=zaa a7;have a8:=z0
     have aU:=zaa a8;have a9:=z1;have aV:=zaa a9;have ba:=z2;have aW:=zaa ba;have bK:=o0;have bv:=zaa bK;have bN:=o1;have bw:=zaa bN;have bO:=o2;have bx:=zaa bO;have bk:=hid (zAP F b n k c);have bc:=(bW.out c (by omega)).1
     rw[zrx F b (i:=c) (j:=k) (k:=n) au (by omega)]at bc;have aG:mw (fwP F b k c)≤2*X:=by unfold fwP;rw[zaj fun i hi=>by rw[←zrx F b (i:=i) (j:=k) (k:=n) (by omega) (by omega)]];exact(bW.out k o).2 c (by omega)
     have aH:=bn.out.lo k o c (by omega);have L1:=hid (show 4*(mw (en F.lo k c)+mw (el (fwd F b k) c))+8≤LIM by have:=ax.out;omega);have L2:=hid (show 4*(mw (fwP F b k c)+mw (en F.lo k c*el (fwd F b k) c))+8≤LIM by have:=ax.out;have:=zdI (en F.lo k c) (el (fwd F b k) c);omega);clear g d ae af V M L ac ar aj bc aG aH Z y0 y1 N z0 z1 z2;have cO:(0:Int)≤(c:Int):=Int.natCast_nonneg _;have cP:(c:Int)<(n:Int):=by omega
     go_wp2_with fail
     refine za2 (S:=fun w'=>w'.cell? ⟨q,0,none⟩=some (O,n,lc)∧w'.cell? ⟨q,1,none⟩=some (uA,n,uc)∧w'.cell? ⟨q,2,none⟩=some (bP,n,pc)∧w'.cell? ⟨O,k,none⟩=some (m,n,cr)∧w'.cell? ⟨m,c*3,none⟩=some (.bool z)∧w'.cell? ⟨m,c*3+1,none⟩=some (s,C,y)∧w'.cell? ⟨m,c*3+2,none⟩=some (t,B,x)∧w'.cell? ⟨w.heap.size,c*3,none⟩=some (.bool U)∧w'.cell? ⟨w.heap.size,c*3+1,none⟩=some (P,W,cc)∧w'.cell? ⟨w.heap.size,c*3+2,none⟩=some (Q,Y,T)∧w'.cell? ⟨w.heap.size,k*3,none⟩=some (.bool gk)∧w'.cell? ⟨w.heap.size,k*3+1,none⟩=some (D,mk,I)∧w'.cell? ⟨w.heap.size,k*3+2,none⟩=some (E,J,G)) 23 (h:=fun hHeld=>?_)
     refine zaw [0,1,2,3,4,5,6,7,8,9,10,11,12,13,14,15,16,17,18,19] ?_;repeat refine tkE (hS:=hHeld) (h:=?_)
     refine zao ?_;refine zaN 20 (h:=fun K l=>?_);go_simp
     (go_at_call 71;(with_reducible refine(Rt.mul z s C y t B x (en F.lo k c) U P W cc Q Y T (el (fwd F b k) c) _ ab.out.drew az.out.drew L1.out).mono ?_);rintro e u1 ⟨g1,A1,m1,c1,D1,md1,cd1,rfl,r,a⟩;have bi:=hid (ab.out.drew.below a);have bM:=hid (az.out.drew.below a);have bh:=hid (aq.out.drew.below a);have ag:=hid (R.out.drew.below a);have a5:=hid (HW.out.drew.below a);have HM:=hid (r);have bd:=zab a aN;have be:=zab a aO;have bf:=zab a aP;have bg:=zab a aQ;have ak:=zab a aR;have cj:=zaa ak;have al:=zab a aS;have cm:=zaa al;have am:=zab a aT;have cn:=zaa am;have an:=zab a aU;have cp:=zaa an;have ao:=zab a aV;have cq:=zaa ao;have ap:=zab a aW;have cs:=zaa ap;have bF:=zab a bv;have bG:=zab a bw;have bH:=zab a bx;clear r a)
     (try go_wp2_with fail)
     refine l.out _ _ kp fun hHeld=>?_
     clear l K;try simp only[Act.put,pu1,pu2,pu3,pu4,pu5,pu6]
     refine zaN 21 (h:=fun K l=>?_);go_simp
     (go_at_call 82;(with_reducible refine(Rt.sub gk D mk I E J G (fwP F b k c) g1 A1 m1 c1 D1 md1 cd1 (en F.lo k c*el (fwd F b k) c) _ bh.out HM.out L2.out).mono ?_);rintro e u2 ⟨g2,A2,m2,c2,D2,md2,cd2,rfl,r,a⟩;have dc:=hid (bi.out.below a);have db:=hid (bM.out.below a);have aa:=hid (ag.out.below a);have bQ:=hid (a5.out.below a);have cY:=hid (HM.out.below a);have HS:=hid (r);have c0:=zab a bd;have c3:=zab a be;have c4:=zab a bf;have c5:=zab a bg;have bI:=zab a ak;have cS:=zaa bI;have bJ:=zab a al;have cT:=zaa bJ;have bR:=zab a am;have cU:=zaa bR;have bz:=zab a an;have cV:=zaa bz;have bA:=zab a ao;have cW:=zaa bA;have bC:=zab a ap;have cX:=zaa bC;have c6:=zab a bF;have c7:=zab a bG;have c8:=zab a bH;have aL:=aa.out.fro (k*3);have of1:=aa.out.fro (k*3+1);have aM:=aa.out.fro (k*3+2);clear r a)
     (try go_wp2_with fail)
     refine l.out _ _ kp fun hHeld=>?_
     clear l K;try simp only[Act.put,pu1,pu2,pu3,pu4,pu5,pu6]
     refine zaw [22] ?_;repeat refine tkE (hS:=hHeld) (h:=?_)
     refine zao ?_;refine zba (h:=fun K l=>?_);go_simp;refine l.out _ _ ?_;clear l K;try simp only[Act.put,pu1,pu2,pu3,pu4,pu5,pu6]
     refine za1 (h:=?_);go_wp2;go_roundw
     case rel=>exact⟨c+1,by go_num,by omega,by rw[←bk.out];exact aa.out.store k HS.out,(Bel.set3 bQ.out (Nat.le_refl _) _ _ _).b⟩
     case measure=>simp[intOf];omega
    ·obtain rfl:k=c:=by omega
     have bm:=hid g;have bj:=hid d;clear g d;go_wp2;go_roundw
     case rel=>exact⟨k+1,by go_num,by omega,by rw[←zxb];exact bm.out,bj.out⟩
     case measure=>simp[intOf];omega
  ·obtain rfl:n=k:=by omega
   have bm:=hid g;have bj:=hid d;clear g d;go_wp2
   go_loopw [10] (fun i wr=>∃k:Nat,i=.int .i64 ((k:Int)-1)∧k≤n∧VecS wr w.heap.size (w.heap.size,n,n) (bwO F (fwd F b n) n k)∧Below w.heap.size w wr)
    (fun i _=>(intOf i+1).toNat)
   case atStart=>exact⟨n,rfl,Nat.le_refl _,by rw[zzq F (zcx _ _ _),←zAQ];exact bm.out,bj.out⟩
   case round =>
    rename World=>wy
    obtain⟨k,rfl,hk,g,d⟩:=hrel;cases k with
    | zero =>
     have cH:=hid g;have cx:=hid d;clear g d;rw[show((0:Nat):Int)-1 = -1 from rfl];go_wp2;refine bodyPost_ret (v:=.tuple #[(w.heap.size,n,n),true]) (by simp[results,Tryz.results101,go_sem]) rfl ?_;exact⟨_,_,_,rfl,by have h:=cH.out;rw[zwq]at h;exact h,cx.out⟩
    | succ k =>
     have o:k<n:=by omega
     rw[show((k+1:Nat):Int)-1=(k:Int)by omega];have R:=hid g;have cI:=hid d;clear g;have c9:=hid (bb.out.below d);have da:=hid (aC.out.below d);have bD:=zab d k0;have cQ:=zaa bD;have bE:=zab d k1;have cR:=zaa bE;have cZ:=zab d k2;clear d;have cK:(0:Int)≤(k:Int):=Int.natCast_nonneg _;have cL:(k:Int)<(n:Int):=by omega
     go_wp2
     go_loopw [11] (fun i wr=>∃j:Nat,i=((k+1+j:Nat):Int)∧k+1+j≤n∧VecS wr w.heap.size (w.heap.size,n,n) (bwI F (fwd F b n) n k j)∧Below w.heap.size w wr)
      (fun i _=>n-(intOf i).toNat)
     case atStart=>exact⟨0,by go_num,by omega,by rw[zwp F (zcx _ _ _) o];exact R.out,cI.out⟩
     case round =>
      rename World=>wz
      obtain⟨j,rfl,hj,g,d⟩:=hrel;have ae:F.up[k]? = some (F.up.getD k []):=zaO (by rw[aB.out.ul];exact o);have af:=aB.out.ur k o;have V:∀c,en F.up k c=el (F.up.getD k []) c:=fun _=>rfl
      generalize F.up.getD k []=rw_ at ae af V;obtain⟨O,rfl,_,_⟩:=aC.out.has (by omega);obtain⟨Ar,cr,bs,Z,L⟩:=(aC.out.below d).at_ ae;rw[af]at Z L bs;obtain⟨m,rfl,_,_⟩:=L.has (by omega);have dg:=(aC.out.lt (List.mem_of_getElem? bs) rfl).2;have dj:=(Array.getElem?_eq_some_iff.1 KQ.out).1;clear bs;obtain⟨gk,D,mk,I,E,J,G,o0,o1,o2,aj⟩:=g.at_ (zzo F j (zcx F b n) o);have aL:=g.fro (k*3);have of1:=g.fro (k*3+1);have aM:=g.fro (k*3+2);have cM:(0:Int)≤(k:Int):=Int.natCast_nonneg _
      have cN:(k:Int)<(n:Int):=by omega
      by_cases au:k+1+j<n
      ·have M:=zaH (xs:=rw_) (j:=k+1+j) (by omega);rw[←V]at M;obtain⟨z,s,C,y,t,B,x,y0,y1,N,ac⟩:=L.at_ M;obtain⟨U,P,W,cc,Q,Y,T,z0,z1,z2,ar⟩:=g.at_ (zwo F j (zcx F b n) au);have bq:el (bwd F n (fwd F b n) (n-(k+1))) j=el (zaR n F b) (k+1+j):=(zlL F n (fwd F b n) (f:=n) (j:=k+1) (by omega) j).symm;rw[bq]at ar
       have ad:bwP F (fwd F b n) n k j=el (fwd F b n) k-zai j (fun c=>en F.up k (k+1+c)*el (zaR n F b) (k+1+c)):=by unfold bwP;rw[zaj fun c hc=>by rw[←zlL F n (fwd F b n) (f:=n) (j:=k+1) (by omega) c]];rfl
       have bk:=hid (show(bwI F (fwd F b n) n k j).set k (bwP F (fwd F b n) n k j-en F.up k (k+1+j)*el (zaR n F b) (k+1+j))=bwI F (fwd F b n) n k (j+1)by rw[←bq];exact zzp F j (zcx F b n) o);have bc:=(bl.out (k+1+j) au).1;have aG:mw (bwP F (fwd F b n) n k j)≤2*X:=by rw[ad];exact(bl.out k o).2 j (by omega)
       have aH:=bn.out.up k o (k+1+j) au;generalize hc0:k+1+j=c at *
       generalize bwP F (fwd F b n) n k j=pk at *
       have bV:=hid hc0;have ab:=hid (ac);have az:=hid (ar);have aq:=hid (aj);have R:=hid (g);have HW:=hid (Bel.mk d);have a0:=zab d k0;have aN:=zaa a0;have a1:=zab d k1;have aO:=zaa a1
       have a3:=zab d k2;have aP:=zaa a3;have a2:=Z;have aQ:=zaa a2;have a4:=y0;have aR:=zaa a4;have a6:=y1;have aS:=zaa a6;have a7:=N;have aT:=zaa a7;have a8:=z0;have aU:=zaa a8;have a9:=z1;have aV:=zaa a9
       have ba:=z2;have aW:=zaa ba;have bK:=o0;have bv:=zaa bK;have bN:=o1;have bw:=zaa bN;have bO:=o2;have bx:=zaa bO;have L1:=hid (show 4*(mw (en F.up k c)+mw (el (zaR n F b) c))+8≤LIM by have:=ax.out;omega)
       have L2:=hid (show 4*(mw pk+mw (en F.up k c*el (zaR n F b) c))+8≤LIM by have:=ax.out;have:=zdI (en F.up k c) (el (zaR n F b) c);omega);clear g d ae af V M L ac ar aj bc aG aH bq ad hc0 Z y0 y1 N z0 z1 z2;have cO:(0:Int)≤(c:Int):=Int.natCast_nonneg _;have cP:(c:Int)<(n:Int):=by omega
       go_wp2_with fail
       refine za2 (S:=fun w'=>w'.cell? ⟨q,0,none⟩=some (lA,n,lc)∧w'.cell? ⟨q,1,none⟩=some (O,n,uc)∧w'.cell? ⟨q,2,none⟩=some (pA,n,pc)∧w'.cell? ⟨O,k,none⟩=some (m,n,cr)∧w'.cell? ⟨m,c*3,none⟩=some (.bool z)∧w'.cell? ⟨m,c*3+1,none⟩=some (s,C,y)∧w'.cell? ⟨m,c*3+2,none⟩=some (t,B,x)∧w'.cell? ⟨w.heap.size,c*3,none⟩=some (.bool U)∧w'.cell? ⟨w.heap.size,c*3+1,none⟩=some (P,W,cc)∧w'.cell? ⟨w.heap.size,c*3+2,none⟩=some (Q,Y,T)∧w'.cell? ⟨w.heap.size,k*3,none⟩=some (.bool gk)∧w'.cell? ⟨w.heap.size,k*3+1,none⟩=some (D,mk,I)∧w'.cell? ⟨w.heap.size,k*3+2,none⟩=some (E,J,G)) 23 (h:=fun hHeld=>?_)
       refine zaw [0,1,2,3,4,5,6,7,8,9,10,11,12,13,14,15,16,17,18,19] ?_;repeat refine tkE (hS:=hHeld) (h:=?_)
       refine zao ?_;refine zaN 20 (h:=fun K l=>?_);go_simp
       (go_at_call 71;(with_reducible refine(Rt.mul z s C y t B x (en F.up k c) U P W cc Q Y T (el (zaR n F b) c) _ ab.out.drew az.out.drew L1.out).mono ?_);rintro e u1 ⟨g1,A1,m1,c1,D1,md1,cd1,rfl,r,a⟩;have bi:=hid (ab.out.drew.below a);have bM:=hid (az.out.drew.below a);have bh:=hid (aq.out.drew.below a);have ag:=hid (R.out.drew.below a);have a5:=hid (HW.out.drew.below a);have HM:=hid (r);have bd:=zab a aN;have be:=zab a aO;have bf:=zab a aP;have bg:=zab a aQ;have ak:=zab a aR;have cj:=zaa ak;have al:=zab a aS;have cm:=zaa al;have am:=zab a aT;have cn:=zaa am;have an:=zab a aU;have cp:=zaa an;have ao:=zab a aV;have cq:=zaa ao;have ap:=zab a aW;have cs:=zaa ap;have bF:=zab a bv;have bG:=zab a bw;have bH:=zab a bx;clear r a)
       (try go_wp2_with fail)
       refine l.out _ _ kp fun hHeld=>?_
       clear l K;try simp only[Act.put,pu1,pu2,pu3,pu4,pu5,pu6]
       refine zaN 21 (h:=fun K l=>?_);go_simp
       (go_at_call 82;(with_reducible refine(Rt.sub gk D mk I E J G pk g1 A1 m1 c1 D1 md1 cd1 (en F.up k c*el (zaR n F b) c) _ bh.out HM.out L2.out).mono ?_);rintro e u2 ⟨g2,A2,m2,c2,D2,md2,cd2,rfl,r,a⟩;have dc:=hid (bi.out.below a);have db:=hid (bM.out.below a);have aa:=hid (ag.out.below a);have bQ:=hid (a5.out.below a);have cY:=hid (HM.out.below a);have HS:=hid (r);have c0:=zab a bd;have c3:=zab a be;have c4:=zab a bf;have c5:=zab a bg;have bI:=zab a ak;have cS:=zaa bI;have bJ:=zab a al;have cT:=zaa bJ;have bR:=zab a am;have cU:=zaa bR;have bz:=zab a an;have cV:=zaa bz;have bA:=zab a ao;have cW:=zaa bA;have bC:=zab a ap;have cX:=zaa bC;have c6:=zab a bF;have c7:=zab a bG;have c8:=zab a bH;have aL:=aa.out.fro (k*3);have of1:=aa.out.fro (k*3+1);have aM:=aa.out.fro (k*3+2);clear r a)
       (try go_wp2_with fail)
       refine l.out _ _ kp fun hHeld=>?_
       clear l K;try simp only[Act.put,pu1,pu2,pu3,pu4,pu5,pu6]
       refine zaw [22] ?_;repeat refine tkE (hS:=hHeld) (h:=?_)
       refine zao ?_;refine zba (h:=fun K l=>?_);go_simp;refine l.out _ _ ?_;clear l K;try simp only[Act.put,pu1,pu2,pu3,pu4,pu5,pu6]
       refine za1 (h:=?_);go_wp2;go_roundw
       case rel=>exact⟨j+1,by have:=bV.out;subst this;go_num,by have:=bV.out;omega,by rw[←bk.out];exact aa.out.store k HS.out,(Bel.set3 bQ.out (Nat.le_refl _) _ _ _).b⟩
       case measure=>simp[intOf];omega
      ·skip
       have b6:j=n-(k+1):=by omega
       have M:=zaH (xs:=rw_) (j:=k) (by omega);rw[←V]at M;obtain⟨z,s,C,y,t,B,x,y0,y1,N,ac⟩:=L.at_ M;have ad:bwP F (fwd F b n) n k j=el (fwd F b n) k-zai j (fun c=>en F.up k (k+1+c)*el (zaR n F b) (k+1+c)):=by unfold bwP;rw[zaj fun c hc=>by rw[←zlL F n (fwd F b n) (f:=n) (j:=k+1) (by omega) c]];rfl
       have cG:=hid (show(bwI F (fwd F b n) n k j).set k (bwP F (fwd F b n) n k j/en F.up k k)=bwO F (fwd F b n) n k by rw[b6];exact zzn F (zcx F b n) o);have aG:mw (bwP F (fwd F b n) n k j)≤2*X:=by rw[ad];exact(bl.out k o).2 j (by omega)
       have aH:=bn.out.up k o k o;have cz:=hid (HD.out k o);generalize bwP F (fwd F b n) n k j=pk at *
       have ab:=hid (ac);have aq:=hid (aj);have R:=hid (g);have HW:=hid (Bel.mk d);have a0:=zab d k0;have aN:=zaa a0;have a1:=zab d k1;have aO:=zaa a1;have a3:=zab d k2;have aP:=zaa a3;have a2:=Z
       have aQ:=zaa a2;have a4:=y0;have aR:=zaa a4;have a6:=y1;have aS:=zaa a6;have a7:=N;have aT:=zaa a7;have a8:=o0;have aU:=zaa a8;have a9:=o1;have aV:=zaa a9;have ba:=o2;have aW:=zaa ba
       have L1:=hid (show 4*(mw pk+mw (en F.up k k))+8≤LIM by have:=ax.out;omega);clear g d ae af V M L ac aj aG aH ad b6 Z y0 y1 N;go_wp2_with fail
       refine wp_region_held_drew (S:=fun w'=>w'.cell? ⟨q,0,none⟩=some (lA,n,lc)∧w'.cell? ⟨q,1,none⟩=some (O,n,uc)∧w'.cell? ⟨q,2,none⟩=some (pA,n,pc)∧w'.cell? ⟨O,k,none⟩=some (m,n,cr)∧w'.cell? ⟨m,k*3,none⟩=some (.bool z)∧w'.cell? ⟨m,k*3+1,none⟩=some (s,C,y)∧w'.cell? ⟨m,k*3+2,none⟩=some (t,B,x)) (by kernel_rfl) kp fun hHeld=>?_
       refine zaw [0,1,2,3,4,6,7,8,9,10,11,12,13,14,15] ?_;repeat refine tkH (hS:=hHeld) (h:=?_)
       refine zao ?_;refine wpAnyH_ready (rs:=[5]) (by kernel_rfl) (by simp) ?_;refine AllReadyH.cons rfl (fun K l=>?_) AllReadyH.nil;go_simp
       skip
       (try go_wp2_with fail)
       refine l.out _ _ kp fun hHeld=>?_
       clear l K;try simp only[Act.put,pu1,pu2,pu3,pu4,pu5,pu6]
       refine wpAnyH_ready (rs:=[16]) (by kernel_rfl) (by simp) ?_;refine AllReadyH.cons rfl (fun K l=>?_) AllReadyH.nil;go_simp
       (go_at_call 102;(with_reducible refine(Rt.div gk D mk I E J G pk z s C y t B x (en F.up k k) _ aq.out.drew ab.out.drew cz.out L1.out).mono ?_);rintro e u1 ⟨g2,A2,m2,c2,D2,md2,cd2,rfl,r,a⟩;have bi:=hid (ab.out.drew.below a);have bh:=hid (aq.out.drew.below a);have ag:=hid (R.out.drew.below a);have a5:=hid (HW.out.drew.below a);have HS:=hid (r);have bd:=zab a aN;have be:=zab a aO;have bf:=zab a aP;have bg:=zab a aQ;have ak:=zab a aR;have cj:=zaa ak;have al:=zab a aS;have cm:=zaa al;have am:=zab a aT;have cn:=zaa am;have an:=zab a aU;have cp:=zaa an;have ao:=zab a aV;have cq:=zaa ao;have ap:=zab a aW;have cs:=zaa ap;have aL:=ag.out.fro (k*3);have of1:=ag.out.fro (k*3+1);have aM:=ag.out.fro (k*3+2);clear r a)
       (try go_wp2_with fail)
       refine l.out _ _ kp fun hHeld=>?_
       clear l K;try simp only[Act.put,pu1,pu2,pu3,pu4,pu5,pu6]
       refine zaw [17,18,19,20] ?_;repeat refine tkH (hS:=hHeld) (h:=?_)
       refine zao ?_;refine wpAnyH_ready (rs:=[21]) (by kernel_rfl) (by simp) ?_;refine AllReadyH.cons rfl (fun K l=>?_) AllReadyH.nil;go_simp
       skip
       (try go_wp2_with fail)
       refine l.out _ _ kp fun hHeld=>?_
       clear l K;try simp only[Act.put,pu1,pu2,pu3,pu4,pu5,pu6]
       refine wpAnyH_done (by kernel_rfl) ?_ _;go_wp2;go_roundw
       case rel=>exact⟨k,by go_num,by omega,by rw[←cG.out];exact ag.out.store k HS.out,(Bel.set3 a5.out (Nat.le_refl _) _ _ _).b⟩
       case measure=>first | (simp[intOf];done) | (simp[intOf];omega)
end Lu
theorem zpB{w:World}{b a i j k:Nat}{o:Obj}(h:w.heap[a]? = some o)(c:a≠b)(u v x:Value):(((w.setCell ⟨b,i,none⟩ u).setCell ⟨b,j,none⟩ v).setCell ⟨b,k,none⟩ x).heap[a]? = some o:=by
 rw[Below.heap_setCell _ _ _ _ c,Below.heap_setCell _ _ _ _ c,Below.heap_setCell _ _ _ _ c];exact h
namespace Bs
theorem solve(H q n S T:Nat)(C:List (List Rat))(A:OA)(cA:Nat)(v:List Rat)(H':Nat)(w:World)(g:zjE w H q n S C)(d:VecS w H' (A,n,cA) v)(r:n≤64)(zv:∀x∈v,mw x≤T)(hT:1≤T)(bk:zpS n S T≤LIM) :
  Calls Tryz.prog 62 #[.pointer (some ⟨q,0,none⟩),(A,n,cA)] w (zcd w (zes n C v) true):=by
 obtain⟨b4,cc,lc,K,ql,F,D,eA,ec,le,es,o⟩:=g;have aN:=zoC o.right.base.1 o.right.base.2.1 o.right.base.2.2 o.fac;have HN:=hid r;have HF:=hid aN;have dD:=hid zv;have dC:=hid hT;have aD:=hid bk;have dL:es.length≤9223372036854775807:=by have:=o.few;omega
 have dS:n≤9223372036854775807:=by omega
 have E:=hid o;have bO:=hid d;have BB:=hid (Below.refl w.heap.size w);obtain⟨k0,_,k1,_,k2,dV⟩:=bc3 o.blk;have bM:=hid (zvq o.right v);have bN:=hid (fun t (ht:t≤es.length)=>zsc (t:=t) zo5 o.right (v:=v) (T:=T) (fun i hi=>zrz zv (by rw[←d.len];exact hi)) ht);have bL:=hid (ywm zo5 aN.1 (yv8 o.right.base.1 o.right.base.2.2) (fun i (hi:i<n)=>zrz zv (by rw[←d.len];exact hi)));have bz:=hid (fun t e (y:es[t]? = some e)=>zrn zo5 o.right y);clear o d r aN zv hT bk;go_enter Tryz.func62,Tryz.ntmps62
 go_wp2_with fail
 with_reducible refine(Lu.solve K ql n (uB n S) (sB n S T) F A cA v H' _ E.out.lu bO.out HN.out HF.out.1.pr HF.out.2 HF.out.1.piv bL.out (zHx aD.out)).mono ?_
 rintro e w1 ⟨B,n1,c1,rfl,hv1,hb⟩;have HX:=hid (hv1);have cK:=hid (BB.out.trans ((hb).mono BB.out.size));have cM:=zab hb k2;have dW:=zaa cM;clear hv1 hb;obtain rfl:n=n1:=by rw[HX.out.len,zlb]
 have bS:=hid (show VecS w1 w.heap.size (B,n,c1) (zix n (es.take 0) (zes n D v))by rw[zxE E.out.fac];exact HX.out);go_wp2
 go_loopw [27] (fun i wr=>∃t:Nat,i=.int .i64 t∧t≤es.length∧VecS wr w.heap.size (B,n,c1) (zix n (es.take t) (zes n D v))∧Below w.heap.size w wr)
  (fun i _=>es.length-(intOf i).toNat)
 case atStart=>exact⟨0,rfl,Nat.zero_le _,bS.out,cK.out⟩
 case round =>
  obtain⟨t,rfl,ht,d,g⟩:=hrel;by_cases b9:t<es.length
  ·obtain⟨⟨k,a⟩,y⟩:∃e,es[t]? = some e:=⟨es[t],List.getElem?_eq_getElem b9⟩
   obtain⟨hk,J,aQ,aT⟩:=bz.out t _ y
   dsimp only at hk J aQ aT
   have aV:=bN.out t ht;have al:=zsd (n:=n) y (zes n D v)
   dsimp only at al
   have aU:(zix n (es.take t) (zes n D v)).length=n:=d.len.symm;obtain⟨X,hX⟩:∃X,X=zix n (es.take t) (zes n D v):=⟨_,rfl⟩
   rw[←hX]at d aV al aU;have bD:=hid al;have bT:=hid aU;have aK:=hid aV;have aJ:=hid aT;have bQ:=hid J;have bE:=hid aQ;obtain⟨W,rfl,_,_⟩:=E.out.etas.has (by omega);obtain⟨Ae,m,y0,y1,u⟩:=(E.out.etas.below g).at_ y
   dsimp only at y0 y1 u
   rw[J]at y1 u;obtain⟨c,rfl,dI,dJ⟩:=u.has (by omega);obtain⟨bu,b5,_,az,I⟩:=E.out.etas.at_ y
   dsimp only at az I
   rw[J]at az I;have bn:Value.slice bu n b5=.slice (some ⟨c,0,none⟩) n m:=by have h1:=zab g az;rw[y1]at h1;injection h1 with h1;exact h1.symm
   rw[bn]at I;have bR:=hid I;clear bn I az;obtain⟨f,rfl,bj,dK⟩:=d.has (by omega);have bl:=zaH (xs:=a) (j:=k) (by omega);have bm:=zaH (xs:=X) (j:=k) (by omega);obtain⟨ga,L,ma,Y,P,aq,aa,a0,a1,a2,ba⟩:=d.at_ bm;obtain⟨gb,M,mb,Z,Q,ar,ab,b0,b1,b2,bb⟩:=u.at_ bl;have HV:=hid (show VecS wr w.heap.size (f,n,c1) X from d);have bF:=hid (show RatS wr ga (L,ma,Y) (P,aq,aa) (el X k)from ba);have bG:=hid (show RatS wr gb (M,mb,Z) (Q,ar,ab) (el a k)from bb)
   have HW:=hid (show Bel w wr from Bel.mk g);have cL:=zab g k0;have cO:wr.cell? ⟨W,t*2,none⟩=some (.int .i64 (k:Int)):=y0;have cP:wr.cell? ⟨W,t*2+1,none⟩=some (c,n,m):=y1;have cQ:wr.cell? ⟨f,k*3,none⟩=some (.bool ga):=a0;have cU:wr.cell? ⟨f,k*3+1,none⟩=some (L,ma,Y):=a1;have cW:wr.cell? ⟨f,k*3+2,none⟩=some (P,aq,aa):=a2;have cZ:wr.cell? ⟨c,k*3,none⟩=some (.bool gb):=b0;have da:wr.cell? ⟨c,k*3+1,none⟩=some (M,mb,Z):=b1
   have dk:wr.cell? ⟨c,k*3+2,none⟩=some (Q,ar,ab):=b2;have L1:=hid (show 4*(mw (el X k)+mw (el a k))+8≤LIM by have h1:=aK.out k hk;have h2:=aJ.out k hk;have h3:=zyh aD.out;omega)
   have L2:=hid (show ∀j,j<n→4*(mw (el a j)+mw (el X k/el a k))+8≤LIM∧4*(mw (el X j)+mw (el a j*(el X k/el a k)))+8≤LIM from fun j hj=>by have h1:=aK.out k hk;have h2:=aJ.out k hk;have h3:=zyh aD.out;have h4:=zo5.div (el X k) (el a k);have h5:=aK.out j hj;have h6:=aJ.out j hj;have h7:=zdI (el a j) (el X k/el a k);omega);have bU:=hid (zuG (k:=k) (w:=a) bT.out);clear d g y J aQ aT aV al aU hX u bl bm ba bb y0 y1 a0 a1 a2 b0 b1 b2;have dM:(0:Int)≤(t:Int):=Int.natCast_nonneg _
   have dN:(t:Int)<(es.length:Int):=by omega
   have dO:(0:Int)≤(k:Int):=Int.natCast_nonneg _;have dP:(k:Int)<(n:Int):=by omega
   have bi:f≠wr.heap.size:=by omega
   go_wp2_with fail
   have p:=zae wr (.cells #[(k:Int),(c,n,m)] 177);have dn:=hid (HV.out.below p);have dz:=hid (bF.out.below p);have dA:=hid (bG.out.below p);have dl:=hid (HW.out.below p);have cN:=zab p cL;have ch:=zaa cN;have cR:=zab p cO;have cn:=zaa cR;have cT:=zab p cP;have cp:=zaa cT;have cS:=zab p cQ;have cr:=zaa cS;have cV:=zab p cU;have ct:=zaa cV;have cY:=zab p cW;have cw:=zaa cY;have c0:=zab p cZ;have cy:=zaa c0;have c3:=zab p da;have cB:=zaa c3;have c4:=zab p dk
   have cD:=zaa c4;have db:(wr.alloc (.cells #[(k:Int),(c,n,m)] 177)).cell? ⟨wr.heap.size,0,none⟩=some (.int .i64 (k:Int)):=zac (zal _ _ _) 0;have cF:=zaa db;have c6:(wr.alloc (.cells #[(k:Int),(c,n,m)] 177)).cell? ⟨wr.heap.size,1,none⟩=some (c,n,m):=zac (zal _ _ _) 1;have cl:=zaa c6;have KE:=hid (zal wr #[(k:Int),(c,n,m)] 177)
   go_cut[] (fun wy=>VecS wy w.heap.size (f,n,c1) (zoA n k a X 0)∧wy.heap[wr.heap.size]? = some (.cells #[(k:Int),(c,n,m)] 177 (0,0))∧Below w.heap.size w wy)
   case first =>
    refine za2 (S:=fun w'=>w'.cell? ⟨q,0,none⟩=some (b4,n,cc)∧w'.cell? ⟨W,t*2,none⟩=some (.int .i64 (k:Int))∧w'.cell? ⟨W,t*2+1,none⟩=some (c,n,m)∧w'.cell? ⟨f,k*3,none⟩=some (.bool ga)∧w'.cell? ⟨f,k*3+1,none⟩=some (L,ma,Y)∧w'.cell? ⟨f,k*3+2,none⟩=some (P,aq,aa)∧w'.cell? ⟨c,k*3,none⟩=some (.bool gb)∧w'.cell? ⟨c,k*3+1,none⟩=some (M,mb,Z)∧w'.cell? ⟨c,k*3+2,none⟩=some (Q,ar,ab)∧w'.cell? ⟨wr.heap.size,0,none⟩=some (.int .i64 (k:Int))∧w'.cell? ⟨wr.heap.size,1,none⟩=some (c,n,m)) 19 (h:=fun hHeld=>?_)
    refine zaw [0,1,2,3,4,5,6,7,8,9,10,11,12,13] ?_;repeat refine tkE (hS:=hHeld) (h:=?_)
    refine zao ?_;refine zaN 14 (h:=fun K l=>?_);go_simp
    (go_at_call 102;(with_reducible refine(Rt.div ga L ma Y P aq aa (el X k) gb M mb Z Q ar ab (el a k) _ dz.out.drew dA.out.drew bE.out L1.out).mono ?_);rintro e u1 ⟨g2,A2,m2,c2,D2,md2,cd2,rfl,r,hb⟩;have aA:=hid (dn.out.drew.below hb);have cX:=hid (dl.out.drew.below hb);have HS:=hid (show RatS u1 g2 (A2,m2,c2) (D2,md2,cd2) (el X k/el a k)from r);have d7:=zab hb ch;have d8:=zab hb cn;have d9:=zab hb cp;have ea:=zab hb cr;have eb:=zab hb ct;have ee:=zab hb cw;have ef:=zab hb cy;have eg:=zab hb cB;have eh:=zab hb cD;have ei:=zab hb cF;have ed:=zab hb cl;have bW:=hid (zad hb KE.out);have cf:=aA.out.fro (k*3);have of1:=aA.out.fro (k*3+1);have cg:=aA.out.fro (k*3+2);clear r hb)
    (try go_wp2_with fail)
    refine l.out _ _ kp fun hHeld=>?_
    clear l K;try simp only[Act.put,pu1,pu2,pu3,pu4,pu5,pu6]
    refine zaw [15,16] ?_;repeat refine tkE (hS:=hHeld) (h:=?_)
    refine zao ?_;refine zfQ (i:=17) (v:=?_) rfl (by kernel_rfl) (fun _ _ _ h=>h) (Or.inl ⟨by rfl,?_⟩) ?_
    rotate_left
    ·((intro w b8;(try dsimp only at b8);go_simp);(try with_reducible rfl))
    try simp only[Act.put,pu1,pu2,pu3,pu4,pu5,pu6]
    refine zaw [18] ?_;repeat refine tkE (hS:=hHeld) (h:=?_)
    refine zao ?_;refine zba (h:=fun K l=>?_);go_simp;refine l.out _ _ ?_;clear l K;try simp only[Act.put,pu1,pu2,pu3,pu4,pu5,pu6]
    refine za1 (h:=?_);go_wp2;go_meet
    case rel=>exact⟨by rw[←bU.out];exact aA.out.store k HS.out,zpB bW.out (Ne.symm bi) _ _ _,(Bel.set3 cX.out bj _ _ _).b⟩
   case rest =>
    rename World=>wy
    obtain⟨d,s,g⟩:=hcut;have bP:=hid d;have bA:=hid s;have bv:=hid g;clear d s g;go_wp2
    go_loopw [52] (fun i aW=>∃j:Nat,i=.int .i64 j∧j≤n∧VecS aW w.heap.size (f,n,c1) (zoA n k a X j)∧aW.heap[wr.heap.size]? = some (.cells #[(k:Int),(c,n,m)] 177 (0,0))∧Below w.heap.size w aW)
     (fun i _=>n-(intOf i).toNat)
    case atStart=>exact⟨0,rfl,Nat.zero_le _,bP.out,bA.out,bv.out⟩
    case round =>
     rename World=>wz
     obtain⟨j,rfl,hj,d,s,g⟩:=hrel;by_cases aP:j<n
     ·have u:=bR.out.below g;have aR:=zaH (xs:=a) (j:=j) (by have:=bQ.out;omega);have am:(zoA n k a X j)[j]? = some (if j=k then el X k/el a k else if j<j then el X j-el a j*(el X k/el a k)else el X j):=zkJ aP;have an:(zoA n k a X j)[k]? = some (if k=k then el X k/el a k else if k<j then el X k-el a k*(el X k/el a k)else el X k):=zkJ hk;rw[if_pos rfl]at an;have e0:=zac s 0;have e1:=zac s 1;simp only[List.getElem?_toArray,List.getElem?_cons_zero,List.getElem?_cons_succ]at e0 e1
      have dQ:(0:Int)≤(j:Int):=Int.natCast_nonneg _;have dR:(j:Int)<(n:Int):=by omega
      by_cases ak:j=k
      ·obtain rfl:k=j:=ak.symm;have G:=hid d;have aF:=hid s;have z:=hid g;clear d s g am an aR u;go_wp2;go_roundw
       case rel=>exact⟨k+1,by go_num,by omega,by rw[←zuF];exact G.out,aF.out,z.out⟩
       case measure=>simp[intOf];omega
      ·rw[if_neg ak,if_neg (Nat.lt_irrefl j)]at am;obtain⟨gj,N,mj,cj,R,au,ac,p0,p1,p2,bc⟩:=d.at_ am;obtain⟨gk,O,mk,ck,U,av,ad,r0,r1,r2,bd⟩:=d.at_ an;obtain⟨gv,Av,mv,cv,V,aw,ae,s0,s1,s2,bf⟩:=u.at_ aR;have bK:=hid (zwI (n:=n) (k:=k) (w:=a) (x:=X) ak aP);have aZ:=hid (L2.out j aP);have dT:((j:Int) == (k:Int))=false:=by simp;omega
       have HV:=hid (show VecS wz w.heap.size (f,n,c1) (zoA n k a X j)from d);have bH:=hid (show RatS wz gj (N,mj,cj) (R,au,ac) (el X j)from bc);have bI:=hid (show RatS wz gk (O,mk,ck) (U,av,ad) (el X k/el a k)from bd);have bJ:=hid (show RatS wz gv (Av,mv,cv) (V,aw,ae) (el a j)from bf);have HW:=hid (show Bel w wz from Bel.mk g);have c5:=e0;have ci:=zaa c5
       have c7:wz.cell? ⟨wr.heap.size,1,none⟩=some (c,n,m):=e1;have co:=zaa c7;have dq:wz.cell? ⟨f,j*3,none⟩=some (.bool gj):=p0;have cq:=zaa dq;have dr:wz.cell? ⟨f,j*3+1,none⟩=some (N,mj,cj):=p1;have cs:=zaa dr;have ds:wz.cell? ⟨f,j*3+2,none⟩=some (R,au,ac):=p2;have cu:=zaa ds;have dt:wz.cell? ⟨f,k*3,none⟩=some (.bool gk):=r0;have cx:=zaa dt;have du:wz.cell? ⟨f,k*3+1,none⟩=some (O,mk,ck):=r1;have cz:=zaa du
       have dv:wz.cell? ⟨f,k*3+2,none⟩=some (U,av,ad):=r2;have cC:=zaa dv;have cI:wz.cell? ⟨c,j*3,none⟩=some (.bool gv):=s0;have cE:=zaa cI;have cJ:wz.cell? ⟨c,j*3+1,none⟩=some (Av,mv,cv):=s1;have cG:=zaa cJ;have dp:wz.cell? ⟨c,j*3+2,none⟩=some (V,aw,ae):=s2;have cm:=zaa dp;have aF:=hid s;clear d s g am an aR u bc bd bf e0 e1 p0 p1 p2 r0 r1 r2 s0 s1 s2 ak;go_wp2_with fail
       refine za2 (S:=fun w'=>w'.cell? ⟨wr.heap.size,0,none⟩=some (.int .i64 (k:Int))∧w'.cell? ⟨wr.heap.size,1,none⟩=some (c,n,m)∧w'.cell? ⟨f,j*3,none⟩=some (.bool gj)∧w'.cell? ⟨f,j*3+1,none⟩=some (N,mj,cj)∧w'.cell? ⟨f,j*3+2,none⟩=some (R,au,ac)∧w'.cell? ⟨f,k*3,none⟩=some (.bool gk)∧w'.cell? ⟨f,k*3+1,none⟩=some (O,mk,ck)∧w'.cell? ⟨f,k*3+2,none⟩=some (U,av,ad)∧w'.cell? ⟨c,j*3,none⟩=some (.bool gv)∧w'.cell? ⟨c,j*3+1,none⟩=some (Av,mv,cv)∧w'.cell? ⟨c,j*3+2,none⟩=some (V,aw,ae)) 19 (h:=fun hHeld=>?_)
       refine zaw [0,1,2,3,4,5,6,7,8,9,10,11,12,13,14,15] ?_;repeat refine tkE (hS:=hHeld) (h:=?_)
       refine zao ?_;refine zaN 16 (h:=fun K l=>?_);go_simp
       (go_at_call 71;(with_reducible refine(Rt.mul gv Av mv cv V aw ae (el a j) gk O mk ck U av ad (el X k/el a k) _ bJ.out.drew bI.out.drew aZ.out.1).mono ?_);rintro e u1 ⟨g1,A1,m1,c1_,D1,md1,cd1,rfl,r,hb⟩;have c8:=hid (HV.out.drew.below hb);have cH:=hid (bH.out.drew.below hb);have dm:=hid (HW.out.drew.below hb);have HM:=hid (show RatS u1 g1 (A1,m1,c1_) (D1,md1,cd1) (el a j*(el X k/el a k))from r);have dc:=zab hb ci;have dd:=zab hb co;have de:=zab hb cq;have df:=zab hb cs;have dg:=zab hb cu;have dh:=zab hb cx;have di:=zab hb cz;have dj:=zab hb cC;have dw:=zab hb cE;have dx:=zab hb cG;have c9:=zab hb cm;have bX:=hid (zad hb (show wz.drew.heap[wr.heap.size]? = _ from aF.out));clear r hb)
       (try go_wp2_with fail)
       refine l.out _ _ kp fun hHeld=>?_
       clear l K;try simp only[Act.put,pu1,pu2,pu3,pu4,pu5,pu6]
       refine zaN 17 (h:=fun K l=>?_);go_simp
       (go_at_call 82;(with_reducible refine(Rt.sub gj N mj cj R au ac (el X j) g1 A1 m1 c1_ D1 md1 cd1 (el a j*(el X k/el a k)) _ cH.out HM.out aZ.out.2).mono ?_);rintro e u2 ⟨g2,A2,m2,c2,D2,md2,cd2,rfl,r,hb⟩;have aB:=hid (c8.out.below hb);have dy:=hid (dm.out.below hb);have HS:=hid (show RatS u2 g2 (A2,m2,c2) (D2,md2,cd2) (el X j-el a j*(el X k/el a k))from r);have d3:=zab hb dc;have d4:=zab hb dd;have d5:=zab hb de;have d6:=zab hb df;have dX:=zab hb dg;have dY:=zab hb dh;have dZ:=zab hb di;have d0:=zab hb dj;have d1:=zab hb dw;have d2:=zab hb dx;have ej:=zab hb c9;have bY:=hid (zad hb bX.out);have cf:=aB.out.fro (j*3);have of1:=aB.out.fro (j*3+1);have cg:=aB.out.fro (j*3+2);clear r hb)
       (try go_wp2_with fail)
       refine l.out _ _ kp fun hHeld=>?_
       clear l K;try simp only[Act.put,pu1,pu2,pu3,pu4,pu5,pu6]
       refine zaw [18] ?_;repeat refine tkE (hS:=hHeld) (h:=?_)
       refine zao ?_;refine zba (h:=fun K l=>?_);go_simp;refine l.out _ _ ?_;clear l K;try simp only[Act.put,pu1,pu2,pu3,pu4,pu5,pu6]
       refine za1 (h:=?_);go_wp2;go_roundw
       case rel=>exact⟨j+1,by go_num,by omega,by rw[←bK.out];exact aB.out.store j HS.out,zpB bY.out (Ne.symm bi) _ _ _,(Bel.set3 dy.out bj _ _ _).b⟩
       case measure=>simp[intOf];omega
     ·obtain rfl:n=j:=by omega
      have G:=hid d;have z:=hid g;clear d s g;go_wp2;go_roundw
      case rel=>exact⟨t+1,by go_num,by omega,by rw[bD.out,←zuE];exact G.out,z.out⟩
      case measure=>simp[intOf];omega
  ·obtain rfl:es.length=t:=by omega
   have G:=hid d;have z:=hid g;clear d g;go_wp2;refine bodyPost_ret (v:=.tuple #[(B,n,c1),true]) (by simp[results,Tryz.results62,go_sem]) rfl ?_;exact⟨_,_,_,rfl,by have h:=G.out;rw[List.take_length,bM.out]at h;exact h,z.out⟩
