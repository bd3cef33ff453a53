/- basis.SolveT by its contract. Conditions: as it says. tab.Basis,Values,Weights,Line,Column,Duals,Prices by their contracts. Conditions: as each says. tab.Duals,Prices by their contracts. Conditions: as each says. Conditions: as they say. -/
import Derived.Test.YtdbgbaiekpbaoaaGreatDoorLuSZp
import Derived.Test.YtdbgbaiekpbaoaaGreatDoorBoolsZp
import Derived.Test.YtdbgbaiekpbaoaaGreatDoorStdZp
import Derived.Test.YtdbgbaiekpbaoaaGreatDoorMat5Zp
set_option linter.all false
namespace Go.Proofs.YtdbgbaiekpbaoaaGreatDoor
open Go.RowKit Am
open Lib (hid)
attribute [local go_sem ↓] Go.wp_at_zero Go.wp_at_succ
set_option maxHeartbeats 8000000
set_option maxRecDepth 100000
namespace Bs
theorem solveT (H q n S T:Nat) (C:List (List Rat)) (A:Option Addr) (cA:Nat) (v:List Rat) (H':Nat) (w:World) (hB:zjE w H q n S C) (hv:VecS w H' (.slice A n cA) v) (hn:n ≤ 64) (zv:∀ x ∈ v,mw x ≤ T) (hcap:zpS n S T ≤ LIM) :
  Calls Tryz.prog 87 #[.pointer (some ⟨q,0,none⟩), .slice A n cA] w (zcd w (zlA n C v) true):=by
 obtain ⟨cA',cc,lc,K,ql,F,D,eA,ec,le,es,hP⟩:=hB
 have hfr:=zoC hP.right.base.1 hP.right.base.2.1 hP.right.base.2.2 hP.fac
 have HN:=hid hn
 have HF:=hid hfr
 have HCAP:=hid hcap
 have hesb:es.length ≤ 9223372036854775807:=by have:=hP.few;omega
 have hnb:n ≤ 9223372036854775807:=by omega
 have HP:=hid hP
 have HV0:=hid hv
 have BB:=hid (Below.refl w.heap.size w)
 obtain ⟨k0,_,k1,_,k2,k2d⟩:=bc3 hP.blk
 have HSOL:=hid (zo1 hP.right (v:=v) hv.len.symm)
 have HSZ:=hid (fun t (ht:t ≤ es.length) => zr1 (t:=t) zo5 hP.right (v:=v) (T:=T) hv.len.symm (fun i hi => zrz zv (by rw [← hv.len];exact hi)) ht)
 have HEZ:=hid (fun t e (he:es[t]? = some e) => zrn zo5 hP.right he)
 clear hP hv hn hfr zv hcap
 go_enter Tryz.func87,Tryz.ntmps87
 go_wp2_with fail
 with_reducible refine (Vc.copy A n cA v H' _ HV0.out (by have:=HN.out;omega)).mono ?_
 rintro e w1 ⟨B,c1,rfl,hv1,hb⟩
 have HX:=hid (show VecS w1 w.heap.size (.slice B n c1) v from hv1)
 have zaQ:=hid (BB.out.trans ((hb).mono BB.out.size))
 have zcb:=zab hb k2
 have x2_1d:=zaa zcb
 clear hv1 hb
 have HX0:=hid (show VecS w1 w.heap.size (.slice B n c1) (zep n (es.drop es.length) v) by rw [zuL];exact HX.out)
 go_wp2
 go_loopw [7] (fun i wr => ∃ t:Nat,i = .int .i64 ((t:Int) - 1) ∧ t ≤ es.length ∧ VecS wr w.heap.size (.slice B n c1) (zep n (es.drop t) v) ∧ Below w.heap.size w wr)
  (fun i _ => (intOf i + 1).toNat)
 case atStart => exact ⟨es.length,rfl,Nat.le_refl _,HX0.out,zaQ.out⟩
 case round =>
  obtain ⟨t1,rfl,ht,hv,hB⟩:=hrel
  cases t1 with
  | zero =>
   have HVz:=hid hv
   have HBz:=hid hB
   have k1z:=zab hB k1
   clear hv hB
   rw [show ((0:Nat):Int) - 1 = -1 from rfl]
   go_wp2_with fail
   refine (Lu.solveT K ql n (uB n S) (tB n S T) F B c1 (zep n (es.drop 0) v) w.heap.size _ (HP.out.lu.below HBz.out) HVz.out HN.out HF.out.1.pr HF.out.2 HF.out.1.piv (zrD HVz.out.len.symm (HSZ.out 0 (Nat.zero_le _))) (zC4 HCAP.out)).mono ?_
   rintro e w2 ⟨B2,n2,c2,rfl,hv2,hb2⟩
   have HV2:=hid hv2
   have HB2:=hid hb2
   clear hv2 hb2
   go_wp2
   refine bodyPost_ret (v := .tuple #[.slice B2 n2 c2, .bool true]) (by simp [results,Tryz.results87,go_sem]) rfl ?_
   exact ⟨_,_,_,rfl,by have h:=HV2.out.base HBz.out.size;rw [List.drop_zero, ← zxF HP.out.fac,HSOL.out] at h;exact h,HBz.out.trans (HB2.out.mono HBz.out.size)⟩
  | succ t =>
   have hlt:t < es.length:=by omega
   rw [show ((t + 1:Nat):Int) - 1 = (t:Int) by omega]
   obtain ⟨⟨k,wv⟩,he⟩:∃ e,es[t]? = some e:=⟨es[t],List.getElem?_eq_getElem hlt⟩
   obtain ⟨hk,hwl,hpv,hwz⟩:=HEZ.out t _ he
   dsimp only at hk hwl hpv hwz
   have hxz:=HSZ.out (t + 1) ht
   have hnx:=zsb (n:=n) he v
   dsimp only at hnx
   have hxl:(zep n (es.drop (t + 1)) v).length = n:=hv.len.symm
   obtain ⟨X,hX⟩:∃ X,X = zep n (es.drop (t + 1)) v:=⟨_,rfl⟩
   rw [← hX] at hv hxz hnx hxl
   have HNX:=hid hnx
   have HXL:=hid hxl
   have HXZ:=hid hxz
   have HWZ:=hid hwz
   have HWL:=hid hwl
   have HPV:=hid hpv
   obtain ⟨be,rfl,_,_⟩:=HP.out.etas.has (by omega)
   obtain ⟨Ae,ce,y0,y1,hWv⟩:=(HP.out.etas.below hB).at_ he
   dsimp only at y0 y1 hWv
   rw [hwl] at y1 hWv
   obtain ⟨bw,rfl,hbw0,hbw1⟩:=hWv.has (by omega)
   obtain ⟨Ae0,ce0,_,y10,hWv0⟩:=HP.out.etas.at_ he
   dsimp only at y10 hWv0
   rw [hwl] at y10 hWv0
   have hse:Value.slice Ae0 n ce0 = .slice (some ⟨bw,0,none⟩) n ce:=by have h1:=zab hB y10;rw [y1] at h1;injection h1 with h1;exact h1.symm
   rw [hse] at hWv0
   have HWV0:=hid hWv0
   clear hse hWv0 y10
   obtain ⟨bx,rfl,hbx0,hbx1⟩:=hv.has (by omega)
   have HV:=hid (show VecS wr w.heap.size (.slice (some ⟨bx,0,none⟩) n c1) X from hv)
   have HW:=hid (show Bel w wr from Bel.mk hB)
   have zdq:=zab hB k2
   have zej:wr.cell? ⟨be,t * 2,none⟩ = some (.int .i64 (k:Int)):=y0
   have zfa:wr.cell? ⟨be,t * 2 + 1,none⟩ = some (.slice (some ⟨bw,0,none⟩) n ce):=y1
   have L2:=hid (show ∀ j,j < n → 4 * (mw (el wv j) + mw (el X j)) + 8 ≤ LIM ∧ 4 * (mw (zhB k wv X j) + mw (el wv j * el X j)) + 8 ≤ LIM from fun j hj => by have h3:=zC2 HCAP.out;have h5:=HXZ.out j hj;have h6:=HWZ.out j hj;have h7:=zdI (el wv j) (el X j);have h8:=zl2 zo5 HWZ.out HXZ.out hk (Nat.le_of_lt hj);omega)
   have L1:=hid (show 4 * (mw (zhB k wv X n) + mw (el wv k)) + 8 ≤ LIM by have h3:=zC2 HCAP.out;have h6:=HWZ.out k hk;have h8:=zl2 zo5 HWZ.out HXZ.out hk (Nat.le_refl n);omega)
   clear hv hB he hwl hpv hwz hxz hnx hxl hX hWv y0 y1
   have hi1:(0:Int) ≤ (t:Int):=Int.natCast_nonneg _
   have hi2:(t:Int) < (es.length:Int):=by omega
   have hi3:(0:Int) ≤ (k:Int):=Int.natCast_nonneg _
   have hi4:(k:Int) < (n:Int):=by omega
   have hbe:bx ≠ wr.heap.size:=by omega
   go_wp2_with fail
   have hb3z:=zae wr (.cells #[.int .i64 (k:Int), .slice (some ⟨bw,0,none⟩) n ce] 208)
   have zv0:=hid (HV.out.below hb3z)
   have zrZ:=hid (HW.out.below hb3z)
   have KE:=hid (zal wr #[.int .i64 (k:Int), .slice (some ⟨bw,0,none⟩) n ce] 208)
   have HVY:=hid zv0.out
   have HBY:=hid zrZ.out.b
   have KE:=hid (zal wr #[.int .i64 (k:Int), .slice (some ⟨bw,0,none⟩) n ce] 208)
   go_wp2
   go_loopw [39] (fun i wr' => ∃ j:Nat,i = .int .i64 j ∧ j ≤ n ∧ VecS wr' w.heap.size (.slice (some ⟨bx,0,none⟩) n c1) (zeJ k wv X j) ∧ wr'.heap[wr.heap.size]? = some (.cells #[.int .i64 (k:Int), .slice (some ⟨bw,0,none⟩) n ce] 208 (0,0)) ∧ Below w.heap.size w wr')
    (fun i _ => n - (intOf i).toNat)
   case atStart => exact ⟨0,rfl,Nat.zero_le _,by rw [zsa];exact HVY.out,KE.out,HBY.out⟩
   case round =>
    rename World => wz
    obtain ⟨j,rfl,hj,hv,hke,hB⟩:=hrel
    have hWv:=HWV0.out.below hB
    have hxk:(zeJ k wv X j)[k]? = some (zhB k wv X j):=zuI (by rw [HXL.out];exact hk)
    have e0:=zac hke 0
    have e1:=zac hke 1
    simp only [List.getElem?_toArray,List.getElem?_cons_zero,List.getElem?_cons_succ] at e0 e1
    by_cases hjn:j < n
    ·have hqj:=zaH (xs:=wv) (j:=j) (by have:=HWL.out;omega)
     have hj1:(0:Int) ≤ (j:Int):=Int.natCast_nonneg _
     have hj2:(j:Int) < (n:Int):=by omega
     by_cases hjk:j = k
     ·obtain rfl:k = j:=hjk.symm
      have HVz:=hid hv
      have HKz:=hid hke
      have HBz:=hid hB
      clear hv hke hB hxk hqj hWv
      go_wp2
      go_roundw
      case rel => exact ⟨k + 1,by go_num,by omega,by rw [← zr9];exact HVz.out,HKz.out,HBz.out⟩
      case measure => simp [intOf];omega
     ·have hxj:(zeJ k wv X j)[j]? = some (el X j):=zuH hjk (by rw [HXL.out];exact hjn)
      obtain ⟨gj,Aj,mj,cj,Dj,mdj,cdj,p0,p1,p2,hRj⟩:=hv.at_ hxj
      obtain ⟨gk,Ak,mk,ck,Dk,mdk,cdk,r0,r1,r2,hRk⟩:=hv.at_ hxk
      obtain ⟨gv,Av,mv,cv,Dv,mdv,cdv,s0,s1,s2,hRv⟩:=hWv.at_ hqj
      have HSET:=hid (zuJ (k:=k) (w:=wv) (z:=X) hjk)
      have HL2:=hid (L2.out j hjn)
      have hne2:((j:Int) == (k:Int)) = false:=by simp;omega
      generalize zhB k wv X j = pk at hxk hRk HSET HL2
      have HV:=hid (show VecS wz w.heap.size (.slice (some ⟨bx,0,none⟩) n c1) (zeJ k wv X j) from hv)
      have HRj:=hid (show RatS wz gj (.slice Aj mj cj) (.slice Dj mdj cdj) (el X j) from hRj)
      have HRk:=hid (show RatS wz gk (.slice Ak mk ck) (.slice Dk mdk cdk) pk from hRk)
      have HRv:=hid (show RatS wz gv (.slice Av mv cv) (.slice Dv mdv cdv) (el wv j) from hRv)
      have HW:=hid (show Bel w wz from Bel.mk hB)
      have zmq:=hid (BB.out.trans ((hB).mono BB.out.size))
      have znX:wz.cell? ⟨wr.heap.size,0,none⟩ = some (.int .i64 (k:Int)):=e0
      have x0_51d:=zaa znX
      have znZ:wz.cell? ⟨wr.heap.size,1,none⟩ = some (.slice (some ⟨bw,0,none⟩) n ce):=e1
      have x1_51d:=zaa znZ
      have zvI:wz.cell? ⟨bx,j * 3,none⟩ = some (.bool gj):=p0
      have x2_51d:=zaa zvI
      have zvJ:wz.cell? ⟨bx,j * 3 + 1,none⟩ = some (.slice Aj mj cj):=p1
      have x3_51d:=zaa zvJ
      have zvK:wz.cell? ⟨bx,j * 3 + 2,none⟩ = some (.slice Dj mdj cdj):=p2
      have x4_51d:=zaa zvK
      have zvL:wz.cell? ⟨bx,k * 3,none⟩ = some (.bool gk):=r0
      have x5_51d:=zaa zvL
      have zvM:wz.cell? ⟨bx,k * 3 + 1,none⟩ = some (.slice Ak mk ck):=r1
      have x6_51d:=zaa zvM
      have zvN:wz.cell? ⟨bx,k * 3 + 2,none⟩ = some (.slice Dk mdk cdk):=r2
      have x7_51d:=zaa zvN
      have zBL:wz.cell? ⟨bw,j * 3,none⟩ = some (.bool gv):=s0
      have x8_51d:=zaa zBL
      have zBQ:wz.cell? ⟨bw,j * 3 + 1,none⟩ = some (.slice Av mv cv):=s1
      have x9_51d:=zaa zBQ
      have zvE:wz.cell? ⟨bw,j * 3 + 2,none⟩ = some (.slice Dv mdv cdv):=s2
      have x10_51d:=zaa zvE
      have HKz:=hid hke
      clear hv hke hB hxj hxk hqj hWv hRj hRk hRv e0 e1 p0 p1 p2 r0 r1 r2 s0 s1 s2 hjk
      go_wp2_with fail
      refine za2 (S:=fun w' => w'.cell? ⟨wr.heap.size,0,none⟩ = some (.int .i64 (k:Int)) ∧ w'.cell? ⟨wr.heap.size,1,none⟩ = some (.slice (some ⟨bw,0,none⟩) n ce) ∧ w'.cell? ⟨bx,j * 3,none⟩ = some (.bool gj) ∧ w'.cell? ⟨bx,j * 3 + 1,none⟩ = some (.slice Aj mj cj) ∧ w'.cell? ⟨bx,j * 3 + 2,none⟩ = some (.slice Dj mdj cdj) ∧ w'.cell? ⟨bx,k * 3,none⟩ = some (.bool gk) ∧ w'.cell? ⟨bx,k * 3 + 1,none⟩ = some (.slice Ak mk ck) ∧ w'.cell? ⟨bx,k * 3 + 2,none⟩ = some (.slice Dk mdk cdk) ∧ w'.cell? ⟨bw,j * 3,none⟩ = some (.bool gv) ∧ w'.cell? ⟨bw,j * 3 + 1,none⟩ = some (.slice Av mv cv) ∧ w'.cell? ⟨bw,j * 3 + 2,none⟩ = some (.slice Dv mdv cdv)) 20 (h:=fun hHeld => ?_)
      refine zaw [0,1,2,3,4,5,6,7,8,9,10,11,12,13,14,15,16] ?_
      repeat refine tkE (hS:=hHeld) (h:=?_)
      refine zao ?_
      refine zaN 17 (h:=fun K hK => ?_)
      go_simp
      (go_at_call 14;(with_reducible refine (Rt.mul gv Av mv cv Dv mdv cdv (el wv j) gj Aj mj cj Dj mdj cdj (el X j) _ HRv.out.drew HRj.out.drew HL2.out.1).mono ?_);rintro e u1 ⟨g1,A1,m1,c1_,D1,md1,cd1,rfl,hn,hb⟩;have zob:=hid (HV.out.drew.below hb);have zx0:=hid (HRk.out.drew.below hb);have zCa:=hid (HRv.out.drew.below hb);have zsN:=hid (HW.out.drew.below hb);have HM:=hid (show RatS u1 g1 (.slice A1 m1 c1_) (.slice D1 md1 cd1) (el wv j * el X j) from hn);have zFQ:=hid (zmq.out.trans ((It.bdrew0' hb).mono zmq.out.size));have zqK:=zab hb x0_51d;have zqT:=zab hb x1_51d;have zqU:=zab hb x2_51d;have zqV:=zab hb x3_51d;have zqW:=zab hb x4_51d;have zqX:=zab hb x5_51d;have zqY:=zab hb x6_51d;have zqZ:=zab hb x7_51d;have zvO:=zab hb x8_51d;have zvP:=zab hb x9_51d;have zpg:=zab hb x10_51d;have KZ1:=hid (zad hb (show wz.drew.heap[wr.heap.size]? = _ from HKz.out));clear hn hb)
      (try go_wp2_with fail)
      refine hK.out _ _ kp fun hHeld => ?_
      clear hK K
      try simp only [Act.put,pu1,pu2,pu3,pu4,pu5,pu6]
      refine zaN 18 (h:=fun K hK => ?_)
      go_simp
      (go_at_call 131;(with_reducible refine (Rt.sub gk Ak mk ck Dk mdk cdk pk g1 A1 m1 c1_ D1 md1 cd1 (el wv j * el X j) _ zx0.out HM.out HL2.out.2).mono ?_);rintro e u2 ⟨g2,A2,m2,c2,D2,md2,cd2,rfl,hn,hb⟩;have zmv:=hid (zob.out.below hb);have zy7:=hid (zsN.out.below hb);have HS:=hid (show RatS u2 g2 (.slice A2 m2 c2) (.slice D2 md2 cd2) (pk - el wv j * el X j) from hn);have zBt:=zab hb zqK;have zBu:=zab hb zqT;have zBw:=zab hb zqU;have zBy:=zab hb zqV;have zBA:=zab hb zqW;have zBC:=zab hb zqX;have zBE:=zab hb zqY;have zBH:=zab hb zqZ;have zBM:=zab hb zvO;have zBR:=zab hb zvP;have zvF:=zab hb zpg;have KZ2:=hid (zad hb KZ1.out);have of0:=zmv.out.fro (k * 3);have of1:=zmv.out.fro (k * 3 + 1);have of2:=zmv.out.fro (k * 3 + 2);clear hn hb)
      (try go_wp2_with fail)
      refine hK.out _ _ kp fun hHeld => ?_
      clear hK K
      try simp only [Act.put,pu1,pu2,pu3,pu4,pu5,pu6]
      refine zaw [19] ?_
      repeat refine tkE (hS:=hHeld) (h:=?_)
      refine zao ?_
      refine zba (h:=fun K hK => ?_)
      go_simp
      refine hK.out _ _ ?_
      clear hK K
      try simp only [Act.put,pu1,pu2,pu3,pu4,pu5,pu6]
      refine za1 (h:=?_)
      go_wp2
      go_roundw
      case rel => exact ⟨j + 1,by go_num,by omega,by rw [← HSET.out];exact zmv.out.store k HS.out,zpB KZ2.out (Ne.symm hbe) _ _ _,(Bel.set3 zy7.out hbx0 _ _ _).b⟩
      case measure => simp [intOf];omega
    ·obtain rfl:n = j:=by omega
     have hqk:=zaH (xs:=wv) (j:=k) (by have:=HWL.out;omega)
     obtain ⟨gk,Ak,mk,ck,Dk,mdk,cdk,r0,r1,r2,hRk⟩:=hv.at_ hxk
     obtain ⟨gv,Av,mv,cv,Dv,mdv,cdv,s0,s1,s2,hRv⟩:=hWv.at_ hqk
     have HSET:=hid (zr8 (k:=k) (w:=wv) HXL.out)
     have HL1:=hid L1.out
     generalize zhB k wv X n = pk at hxk hRk HSET HL1
     have HV:=hid (show VecS wz w.heap.size (.slice (some ⟨bx,0,none⟩) n c1) (zeJ k wv X n) from hv)
     have HRk:=hid (show RatS wz gk (.slice Ak mk ck) (.slice Dk mdk cdk) pk from hRk)
     have HRv:=hid (show RatS wz gv (.slice Av mv cv) (.slice Dv mdv cdv) (el wv k) from hRv)
     have HW:=hid (show Bel w wz from Bel.mk hB)
     have zmq:=hid (BB.out.trans ((hB).mono BB.out.size))
     have znX:wz.cell? ⟨wr.heap.size,0,none⟩ = some (.int .i64 (k:Int)):=e0
     have x0_51d:=zaa znX
     have znZ:wz.cell? ⟨wr.heap.size,1,none⟩ = some (.slice (some ⟨bw,0,none⟩) n ce):=e1
     have x1_51d:=zaa znZ
     have zvI:wz.cell? ⟨bx,k * 3,none⟩ = some (.bool gk):=r0
     have x2_51d:=zaa zvI
     have zvJ:wz.cell? ⟨bx,k * 3 + 1,none⟩ = some (.slice Ak mk ck):=r1
     have x3_51d:=zaa zvJ
     have zvK:wz.cell? ⟨bx,k * 3 + 2,none⟩ = some (.slice Dk mdk cdk):=r2
     have x4_51d:=zaa zvK
     have zvL:wz.cell? ⟨bw,k * 3,none⟩ = some (.bool gv):=s0
     have x5_51d:=zaa zvL
     have zvM:wz.cell? ⟨bw,k * 3 + 1,none⟩ = some (.slice Av mv cv):=s1
     have x6_51d:=zaa zvM
     have zvN:wz.cell? ⟨bw,k * 3 + 2,none⟩ = some (.slice Dv mdv cdv):=s2
     have x7_51d:=zaa zvN
     clear hv hke hB hxk hqk hWv hRk hRv e0 e1 r0 r1 r2 s0 s1 s2
     go_wp2_with fail
     refine za2 (S:=fun w' => w'.cell? ⟨wr.heap.size,0,none⟩ = some (.int .i64 (k:Int)) ∧ w'.cell? ⟨wr.heap.size,1,none⟩ = some (.slice (some ⟨bw,0,none⟩) n ce) ∧ w'.cell? ⟨bx,k * 3,none⟩ = some (.bool gk) ∧ w'.cell? ⟨bx,k * 3 + 1,none⟩ = some (.slice Ak mk ck) ∧ w'.cell? ⟨bx,k * 3 + 2,none⟩ = some (.slice Dk mdk cdk) ∧ w'.cell? ⟨bw,k * 3,none⟩ = some (.bool gv) ∧ w'.cell? ⟨bw,k * 3 + 1,none⟩ = some (.slice Av mv cv) ∧ w'.cell? ⟨bw,k * 3 + 2,none⟩ = some (.slice Dv mdv cdv)) 19 (h:=fun hHeld => ?_)
     refine zaw [0,1,2,3,4,5,6,7,8,9,10,11,12,13] ?_
     repeat refine tkE (hS:=hHeld) (h:=?_)
     refine zao ?_
     refine zaN 14 (h:=fun K hK => ?_)
     go_simp
     (go_at_call 51;(with_reducible refine (Rt.div gk Ak mk ck Dk mdk cdk pk gv Av mv cv Dv mdv cdv (el wv k) _ HRk.out.drew HRv.out.drew HPV.out HL1.out).mono ?_);rintro e u1 ⟨g2,A2,m2,c2,D2,md2,cd2,rfl,hn,hb⟩;have zob:=hid (HV.out.drew.below hb);have zx0:=hid (HRk.out.drew.below hb);have zCa:=hid (HRv.out.drew.below hb);have zsN:=hid (HW.out.drew.below hb);have HS:=hid (show RatS u1 g2 (.slice A2 m2 c2) (.slice D2 md2 cd2) (pk / el wv k) from hn);have zFQ:=hid (zmq.out.trans ((It.bdrew0' hb).mono zmq.out.size));have zqK:=zab hb x0_51d;have zqT:=zab hb x1_51d;have zqU:=zab hb x2_51d;have zqV:=zab hb x3_51d;have zqW:=zab hb x4_51d;have zqX:=zab hb x5_51d;have zqY:=zab hb x6_51d;have zqZ:=zab hb x7_51d;have of0:=zob.out.fro (k * 3);have of1:=zob.out.fro (k * 3 + 1);have of2:=zob.out.fro (k * 3 + 2);clear hn hb)
     (try go_wp2_with fail)
     refine hK.out _ _ kp fun hHeld => ?_
     clear hK K
     try simp only [Act.put,pu1,pu2,pu3,pu4,pu5,pu6]
     refine zaw [15,16] ?_
     repeat refine tkE (hS:=hHeld) (h:=?_)
     refine zao ?_
     refine zfQ (i:=17) (v:=?_) rfl (by kernel_rfl) (fun _ _ _ h => h) (Or.inl ⟨by rfl,?_⟩) ?_
     rotate_left
     ·((intro w hSw;(try dsimp only at hSw);go_simp);(try with_reducible rfl))
     try simp only [Act.put,pu1,pu2,pu3,pu4,pu5,pu6]
     refine zaw [18] ?_
     repeat refine tkE (hS:=hHeld) (h:=?_)
     refine zao ?_
     refine zba (h:=fun K hK => ?_)
     go_simp
     refine hK.out _ _ ?_
     clear hK K
     try simp only [Act.put,pu1,pu2,pu3,pu4,pu5,pu6]
     refine za1 (h:=?_)
     go_wp2
     go_roundw
     case rel => exact ⟨t,by go_num,by omega,by rw [HNX.out, ← HSET.out];exact zob.out.store k HS.out,(Bel.set3 zsN.out hbx0 _ _ _).b⟩
     case measure => first | (simp [intOf];done) | (simp [intOf];omega)
end Bs
end Go.Proofs.YtdbgbaiekpbaoaaGreatDoor
namespace Go.Proofs.YtdbgbaiekpbaoaaGreatDoor
open Go.RowKit Am
open Lib (hid)
attribute [local go_sem ↓] Go.wp_at_zero Go.wp_at_succ
set_option maxHeartbeats 4000000
set_option maxRecDepth 100000
def pB (m S:Nat):Nat:=64 * (sB m S S + S + 1) + 1
def zor (m S:Nat):Nat:=zpS m S S + 40 * pB m S + 100
theorem ziY {m S:Nat} (h:zor m S ≤ LIM):zpS m S S ≤ LIM:=by unfold zor at h;omega
theorem zos {m S:Nat} (h:zor m S ≤ LIM):40 * pB m S + 100 ≤ LIM:=by unfold zor at h;omega
theorem zt3 {N m S T:Nat} {A:List (List Rat)} {y:List Rat} (hl:A.length = m) (hm:m ≤ 64) (zA:∀ r ∈ A, ∀ q ∈ r,mw q ≤ T) (zy:∀ q ∈ y,mw q ≤ S) (h1:1 ≤ S) (h2:1 ≤ T):∀ q ∈ byL N A y,mw q ≤ 64 * (S + T + 1) + 1:=fun q hq => by
 rw [← zq8] at hq
 have:=zu8 zy zA h1 h2 A.length q hq
 have:=Nat.mul_le_mul_right (S + T + 1) (show A.length ≤ 64 by omega)
 omega
theorem zw7 (m:Nat):1 ≤ 4 ^ m:=Nat.pow_pos (by omega)
theorem zma (m S T:Nat):1 ≤ sB m S T:=by
 unfold sB xB
 have:=zw7 m
 have:=Nat.mul_le_mul_right (T + 4 * uB m S + 4) this
 omega
theorem zqF {m r S:Nat} (hS:1 ≤ S) (hr:r < m):∀ x ∈ zdL m r,mw x ≤ S:=zrD (zfM m r) fun i hi => by
 rw [zge hr];split
 ·exact Nat.le_trans mw1 hS
 ·exact Nat.le_trans mw0 hS
section
variable {W0 w:World} {H q:Nat} {rA:Option Addr} {rc:Nat} {lA:List Value} {bA:Option Addr} {bc_:Nat} {kA:Option Addr} {kc:Nat} {eA:Option Addr} {ec m N S own:Nat} {A:List (List Rat)} {b c:List Rat} {left:List Int}
  {tA:Option Addr} {tc:Nat} {cols:List Nat}
theorem ziO (hB:Basis m N A cols) (hz:zhg mw m S (bc A cols)) (hS:1 ≤ S) {r:Nat} (hr:r < m):∀ x ∈ zbf A cols r,mw x ≤ sB m S S:=by
 have hl:=hB.len
 unfold zbf
 rw [hl]
 refine zrD (ze1 hB.sq hB.reg _).2 (zlj zo5 hB.sq hB.reg hz fun i hi => ?_)
 exact zqF hS hr _ (List.mem_of_getElem? (zaH (by rw [zfM];exact hi)))
theorem zoT {cs:List Rat} (hB:Basis m N A cols) (hc:cs.length = N) {T:Nat} (hz:∀ x ∈ cs,mw x ≤ T):∀ x ∈ cols.map (fun j => el cs j),mw x ≤ T:=fun x hx => by
 obtain ⟨j,hj,rfl⟩:=List.mem_map.1 hx
 obtain ⟨i,hi⟩:=List.mem_iff_getElem?.1 hj
 have h1:=hB.lt i (by rw [← hB.len];exact (List.getElem?_eq_some_iff.1 hi).1)
 rw [getD_some (d:=0) hi] at h1
 exact zrz hz (by omega)
theorem znb (hB:Basis m N A cols) (hz:zhg mw m S (bc A cols)) {cs:List Rat} (hc:cs.length = N) (zc:∀ x ∈ cs,mw x ≤ S):∀ x ∈ zcl A cols cs,mw x ≤ sB m S S:=by
 have hl:=hB.len
 unfold zcl
 rw [hl]
 refine zrD (ze1 hB.sq hB.reg _).2 (zlj zo5 hB.sq hB.reg hz fun i hi => ?_)
 exact zoT hB hc zc _ (List.mem_of_getElem? (zaH (by rw [List.length_map,hl];exact hi)))
namespace Tb
theorem basis (h:zhi W0 w H q rA rc lA bA bc_ kA kc eA ec m N S own A b c left tA tc cols) :
  Calls Tryz.prog 85 #[.pointer (some ⟨q,0,none⟩)] w fun e w' => ∃ (A':Option Addr) (c':Nat),e = .returned (.slice A' m c') ∧ IntsS w' w.heap.size (.slice A' m c') cols ∧ Below w.heap.size w w':=by
 obtain ⟨qb,xA,xc,hP⟩:=h
 have HP:=hid hP
 have hm64:=hP.std.hm
 obtain ⟨_,_,_,_,_,_,_,_,_,_,_,_,k6,_⟩:=bc9 hP.blk
 clear hP
 go_enter Tryz.func85,Tryz.ntmps85
 go_wp2_with fail
 refine (Sl.clone tA m tc (cols.map fun (x:Nat) => (x:Int)) H _ HP.out.colsI.toZ (by omega)).mono ?_
 rintro e w1 ⟨A1,c1,rfl,hv,hb⟩
 have HL:=hid (show (cols.map fun (x:Nat) => (x:Int)).length = m by rw [List.length_map,HP.out.basis.len])
 have HV:=hid hv
 have HB:=hid hb
 clear hv hb
 go_wp2
 go_ret
 exact ⟨A1,c1,by rw [← HP.out.basis.len];rfl,by have h:=HV.out.toS;rw [HL.out] at h;exact h,HB.out⟩
theorem values (h:zhi W0 w H q rA rc lA bA bc_ kA kc eA ec m N S own A b c left tA tc cols) :
  Calls Tryz.prog 30 #[.pointer (some ⟨q,0,none⟩)] w fun e w' => ∃ (A':Option Addr) (c':Nat),e = .returned (.slice A' m c') ∧ VecS w' w.heap.size (.slice A' m c') (za5 A b cols) ∧ Below w.heap.size w w':=by
 obtain ⟨qb,xA,xc,hP⟩:=h
 have HP:=hid hP
 have hm64:=hP.std.hm
 obtain ⟨_,_,_,_,_,_,_,_,_,_,_,_,_,_,_,_,k8,_⟩:=bc9 hP.blk
 clear hP
 go_enter Tryz.func30,Tryz.ntmps30
 go_wp2_with fail
 refine (Vc.copy xA m xc (za5 A b cols) H _ HP.out.x (by omega)).mono ?_
 rintro e w1 ⟨A1,c1,rfl,hv,hb⟩
 have HV:=hid hv
 have HB:=hid hb
 clear hv hb
 go_wp2
 go_ret
 exact ⟨A1,c1,rfl,HV.out,HB.out⟩
theorem weights (h:zhi W0 w H q rA rc lA bA bc_ kA kc eA ec m N S own A b c left tA tc cols) (r:Nat) (hr:r < m) (hcap:zor m S ≤ LIM) :
  Calls Tryz.prog 63 #[.pointer (some ⟨q,0,none⟩), .int .i64 (r:Int)] w (zcd w (zbf A cols r) true):=by
 obtain ⟨qb,xA,xc,hP⟩:=h
 have HP:=hid hP
 have hm64:=hP.std.hm
 have BB:=hid (Below.refl w.heap.size w)
 obtain ⟨_,_,_,_,_,_,_,_,_,_,_,_,k6,_,k7,_⟩:=bc9 hP.blk
 clear hP
 have HR:=hid hr
 have HCAP:=hid hcap
 clear hr hcap
 go_enter Tryz.func63,Tryz.ntmps63
 go_wp2_with fail
 with_reducible refine (Vc.unit m r (by omega) HR.out _).mono ?_
 rintro e w1 ⟨B,n1,c1,rfl,hv1,hb⟩
 have zjH:=hid (HP.out.below hb)
 have HU:=hid (show VecS w1 w.heap.size (.slice B n1 c1) (zdL m r) from hv1)
 have zaQ:=hid (BB.out.trans ((hb).mono BB.out.size))
 have zlv:=zab hb k7
 clear hv1 hb
 obtain rfl:m = n1:=by rw [HU.out.len,zfM]
 go_wp2_with fail
 with_reducible refine (Bs.solveT H qb m S S (bc A cols) B c1 (zdL m r) w.heap.size _ zjH.out.bas HU.out (by omega) (zqF HP.out.std.hS HR.out) (ziY HCAP.out)).mono ?_
 rintro e w2 ⟨B2,n2,c2,rfl,hv2,hb⟩
 have HW2:=hid (show VecS w2 w1.heap.size (.slice B2 n2 c2) (zlA m (bc A cols) (zdL m r)) from hv2)
 have zbj:=hid (zaQ.out.trans ((hb).mono zaQ.out.size))
 clear hv2 hb
 have HWL:=hid (show zlA m (bc A cols) (zdL m r) = zbf A cols r by unfold zbf;rw [HP.out.basis.len])
 obtain rfl:m = n2:=by rw [HW2.out.len,(ze1 HP.out.basis.sq HP.out.basis.reg _).2]
 have HZ1:=hid (show w.heap.size ≤ w1.heap.size from zaQ.out.size)
 go_wp2
 refine bodyPost_ret (v := .tuple #[.slice B2 m c2, .bool true]) (by simp [results,Tryz.results63,go_sem]) rfl ?_
 exact ⟨_,_,_,rfl,by rw [← HWL.out];exact HW2.out.base HZ1.out,zbj.out⟩
theorem line (h:zhi W0 w H q rA rc lA bA bc_ kA kc eA ec m N S own A b c left tA tc cols) (r:Nat) (hr:r < m) (hcap:zor m S ≤ LIM) :
  Calls Tryz.prog 28 #[.pointer (some ⟨q,0,none⟩), .int .i64 (r:Int)] w (zcd w (zk8 N A cols r) true):=by
 obtain ⟨qb,xA,xc,hP⟩:=h
 have HP:=hid hP
 have hm64:=hP.std.hm
 have hN64:=hP.std.hN
 have BB:=hid (Below.refl w.heap.size w)
 obtain ⟨k0,_,k1,_,_,_,_,_,_,_,_,_,k6,_,k7,_⟩:=bc9 hP.blk
 clear hP
 have HR:=hid hr
 have HCAP:=hid hcap
 clear hr hcap
 go_enter Tryz.func28,Tryz.ntmps28
 go_wp2_with fail
 with_reducible refine (Vc.unit m r (by omega) HR.out _).mono ?_
 rintro e w1 ⟨B,n1,c1,rfl,hv1,hb⟩
 have zjH:=hid (HP.out.below hb)
 have HU:=hid (show VecS w1 w.heap.size (.slice B n1 c1) (zdL m r) from hv1)
 have zaQ:=hid (BB.out.trans ((hb).mono BB.out.size))
 have zbJ:=zab hb k0
 have zbY:=zab hb k1
 have zlv:=zab hb k7
 clear hv1 hb
 obtain rfl:m = n1:=by rw [HU.out.len,zfM]
 go_wp2_with fail
 with_reducible refine (Bs.solveT H qb m S S (bc A cols) B c1 (zdL m r) w.heap.size _ zjH.out.bas HU.out (by omega) (zqF HP.out.std.hS HR.out) (ziY HCAP.out)).mono ?_
 rintro e w2 ⟨B2,n2,c2,rfl,hv2,hb⟩
 have zjI:=hid (zjH.out.below hb)
 have HW2:=hid (show VecS w2 w1.heap.size (.slice B2 n2 c2) (zlA m (bc A cols) (zdL m r)) from hv2)
 have zbj:=hid (zaQ.out.trans ((hb).mono zaQ.out.size))
 have zcX:=zab hb zbJ
 have zdq:=zab hb zbY
 clear hv2 hb
 have HWL:=hid (show zlA m (bc A cols) (zdL m r) = zbf A cols r by unfold zbf;rw [HP.out.basis.len])
 obtain rfl:m = n2:=by rw [HW2.out.len,(ze1 HP.out.basis.sq HP.out.basis.reg _).2]
 go_wp2_with fail
 with_reducible refine (Mt.by_ N m rc rA lA A 0 B2 m c2 (zlA m (bc A cols) (zdL m r)) w1.heap.size (sB m S S) S _ zjI.out.stdN.rows HP.out.std.rl HW2.out (by omega) (by omega) HP.out.std.zA (by rw [HWL.out];exact ziO HP.out.basis HP.out.bas.good.2.2 HP.out.std.hS HR.out) (zma m S S) HP.out.std.hS (by have h1:=zos HCAP.out;unfold pB at h1;omega)).mono ?_
 rintro e w3 ⟨B3,n3,c3,rfl,hv3,hb⟩
 have HL3:=hid (show VecS w3 w2.heap.size (.slice B3 n3 c3) (byL N A (zlA m (bc A cols) (zdL m r))) from hv3)
 have zcc:=hid (zbj.out.trans ((hb).mono zbj.out.size))
 clear hv3 hb
 have HZ2:=hid (show w.heap.size ≤ w2.heap.size from zbj.out.size)
 go_wp2
 refine bodyPost_ret (v := .tuple #[.slice B3 n3 c3, .bool true]) (by simp [results,Tryz.results28,go_sem]) rfl ?_
 exact ⟨_,_,_,rfl,by have h:=HL3.out.base HZ2.out;rw [HWL.out] at h;exact h,zcc.out⟩
theorem column (h:zhi W0 w H q rA rc lA bA bc_ kA kc eA ec m N S own A b c left tA tc cols) (j:Nat) (hj:j < N) (hcap:zor m S ≤ LIM) :
  Calls Tryz.prog 149 #[.pointer (some ⟨q,0,none⟩), .int .i64 (j:Int)] w (zcd w (zav A cols j) true):=by
 obtain ⟨qb,xA,xc,hP⟩:=h
 have HP:=hid hP
 have hm64:=hP.std.hm
 have hN64:=hP.std.hN
 have BB:=hid (Below.refl w.heap.size w)
 obtain ⟨k0,_,k1,_,_,_,_,_,_,_,_,_,_,_,k7,_⟩:=bc9 hP.blk
 clear hP
 have HJ:=hid hj
 have HCAP:=hid hcap
 clear hj hcap
 go_enter Tryz.func149,Tryz.ntmps149
 go_wp2_with fail
 with_reducible refine (Mt.col N m rc rA lA A 0 j _ HP.out.stdN.rows HP.out.std.rl HJ.out (by omega) (by omega)).mono ?_
 rintro e w1 ⟨B,n1,c1,rfl,hv1,hb⟩
 have zjH:=hid (HP.out.below hb)
 have HU:=hid (show VecS w1 w.heap.size (.slice B n1 c1) (zb4 A j) from hv1)
 have zaQ:=hid (BB.out.trans ((hb).mono BB.out.size))
 have zlv:=zab hb k7
 clear hv1 hb
 obtain rfl:m = n1:=by rw [HU.out.len,zbH, ← HP.out.std.rows.nlen]
 go_wp2_with fail
 with_reducible refine (Bs.solve H qb m S S (bc A cols) B c1 (zb4 A j) w.heap.size _ zjH.out.bas HU.out (by omega) (HP.out.std.zcol HJ.out) HP.out.std.hS (ziY HCAP.out)).mono ?_
 rintro e w2 ⟨B2,n2,c2,rfl,hv2,hb⟩
 have HW2:=hid (show VecS w2 w1.heap.size (.slice B2 n2 c2) (zes m (bc A cols) (zb4 A j)) from hv2)
 have zbj:=hid (zaQ.out.trans ((hb).mono zaQ.out.size))
 clear hv2 hb
 have HWL:=hid (show zes m (bc A cols) (zb4 A j) = zav A cols j by unfold zav;rw [HP.out.basis.len])
 have HZ1:=hid (show w.heap.size ≤ w1.heap.size from zaQ.out.size)
 go_wp2
 refine bodyPost_ret (v := .tuple #[.slice B2 n2 c2, .bool true]) (by simp [results,Tryz.results149,go_sem]) rfl ?_
 exact ⟨_,_,_,rfl,by rw [← HWL.out];exact HW2.out.base HZ1.out,zbj.out⟩
end Tb
end
section
variable {W0 w:World} {H q:Nat} {rA:Option Addr} {rc:Nat} {lA:List Value} {bA:Option Addr} {bc_:Nat} {kA:Option Addr} {kc:Nat} {eA:Option Addr} {ec m N S own:Nat} {A:List (List Rat)} {b c:List Rat} {left:List Int}
  {tA:Option Addr} {tc:Nat} {cols:List Nat}
namespace Tb
theorem duals (h:zhi W0 w H q rA rc lA bA bc_ kA kc eA ec m N S own A b c left tA tc cols) (sA:Option Addr) (sc:Nat) (cs:List Rat) (H':Nat) (hv:VecS w H' (.slice sA N sc) cs) (zc:∀ x ∈ cs,mw x ≤ S) (hcap:zor m S ≤ LIM) :
  Calls Tryz.prog 64 #[.pointer (some ⟨q,0,none⟩), .slice sA N sc] w (zcd w (zcl A cols cs) true):=by
 obtain ⟨qb,xA,xc,hP⟩:=h
 have HP:=hid hP
 have hm64:=hP.std.hm
 have hN64:=hP.std.hN
 have BB:=hid (Below.refl w.heap.size w)
 obtain ⟨k0,k0d,k1,_,k2,k2d,_,_,_,_,k5,k5d,k6,k6d,k7,_,k8,k8d⟩:=bc9 hP.blk
 clear hP
 have HS0:=hid hv
 have HZS:=hid zc
 have HCAP:=hid hcap
 have HCL:=hid hv.len.symm
 clear hv zc hcap
 go_enter Tryz.func64,Tryz.ntmps64
 go_wp2_with fail
 with_reducible refine (Mt.cols N m rc rA _).mono ?_
 rintro e w1 ⟨rfl,hb⟩
 have zjH:=hid (HP.out.below hb)
 have zyT:=hid (HS0.out.below hb)
 have zaQ:=hid (BB.out.trans ((hb).mono BB.out.size))
 have zbJ:=zab hb k0
 have x0_1d:=zaa zbJ
 have zcb:=zab hb k2
 have x2_1d:=zaa zcb
 have zfc:=zab hb k5
 have x5_1d:=zaa zfc
 have zhe:=zab hb k6
 have x6_1d:=zaa zhe
 have zlv:=zab hb k7
 have zn2:=zab hb k8
 have x8_1d:=zaa zn2
 clear hb
 have hmb:m ≤ 9223372036854775807:=by omega
 go_wp2_with (at_make;go_must (refine zdv rfl _ _ rfl m _ rfl rfl rfl (by omega) w1.heap.size rfl ?_;intro w2 ho hb1;have HO:=hid ho;have HB1:=hid hb1;have m6:=zab hb1 zhe;clear ho hb1))
 go_loopw [29] (fun i wr => ∃ k:Nat,i = .int .i64 k ∧ k ≤ m ∧ VecS wr w1.heap.size (.slice (some ⟨w1.heap.size,0,none⟩) m m) (mix (cols.map fun j => el cs j) k) ∧ Below w1.heap.size w1 wr)
  (fun i _ => m - (intOf i).toNat)
 case atStart => exact ⟨0,rfl,Nat.zero_le _,by rw [zhW,List.length_map,HP.out.basis.len];exact HO.out,HB1.out⟩
 case round =>
  obtain ⟨k,rfl,hk,hv,hB⟩:=hrel
  by_cases hlt:k < m
  ·obtain ⟨j,hj⟩:∃ j,cols[k]? = some j:=⟨cols[k]'(by rw [HP.out.basis.len];exact hlt),List.getElem?_eq_getElem _⟩
   have hjN:j < N:=by have:=HP.out.basis.lt k hlt;rw [getD_some (d:=0) hj] at this;exact this
   have hq:=zaH (xs:=cs) (j:=j) (by rw [HCL.out];exact hjN)
   obtain ⟨bt,rfl,_,_⟩:=HP.out.colsI.has (by omega)
   obtain ⟨bs,rfl,_,_⟩:=HS0.out.has (by omega)
   have p0:=(zjH.out.colsI.below hB).at_ hj
   obtain ⟨ga,Aa,ma,ca,Da,mda,cda,a0,a1,a2,hRa⟩:=(zyT.out.below hB).at_ hq
   have hmx:=zld (k:=k) (rs:=cols.map fun j => el cs j) (by rw [List.length_map,HP.out.basis.len];exact hlt)
   obtain ⟨go,Ao,mo,co,Do,mdo,cdo,o0,o1,o2,_⟩:=hv.at_ hmx
   have of0:=hv.fro (k * 3)
   have of1:=hv.fro (k * 3 + 1)
   have of2:=hv.fro (k * 3 + 2)
   have HV:=hid hv
   have HBw:=hid (Bel.mk hB)
   have HRa:=hid hRa
   have HMS:=hid (zhV (rs:=cols.map fun j => el cs j) (k:=k) (q:=el cs j) (by rw [List.getElem?_map,hj];rfl))
   clear hv hB hRa hmx hq
   have hi1:(0:Int) ≤ (k:Int):=Int.natCast_nonneg _
   have hi2:(k:Int) < (m:Int):=by omega
   have hi3:(0:Int) ≤ (j:Int):=Int.natCast_nonneg _
   have hi4:(j:Int) < (N:Int):=by omega
   go_wp2
   go_roundw
   case rel => exact ⟨k + 1,by go_num,by omega,by rw [← HMS.out];exact HV.out.store k HRa.out,(Bel.set3 HBw.out (Nat.le_refl _) _ _ _).b⟩
   case measure => simp [intOf];omega
  ·obtain rfl:k = m:=by omega
   have HM:=hid (show mix (cols.map fun j => el cs j) k = cols.map fun j => el cs j by have h:=zlc (cols.map fun j => el cs j);rw [List.length_map,HP.out.basis.len] at h;exact h)
   rw [HM.out] at hv
   have zjI:=hid (zjH.out.below hB)
   have HV:=hid (show VecS wr w1.heap.size (.slice (some ⟨w1.heap.size,0,none⟩) k k) (cols.map fun j => el cs j) from hv)
   have zbj:=hid (zaQ.out.trans ((hB).mono zaQ.out.size))
   have zcX:=zab hB zlv
   clear hv hB
   go_wp2_with fail
   with_reducible refine (Bs.solveT H qb k S S (bc A cols) (some ⟨w1.heap.size,0,none⟩) k (cols.map fun j => el cs j) w1.heap.size _ zjI.out.bas HV.out (by omega) (zoT HP.out.basis HCL.out HZS.out) (ziY HCAP.out)).mono ?_
   rintro e w3 ⟨B3,n3,c3,rfl,hv3,hb⟩
   have HR3:=hid (show VecS w3 wr.heap.size (.slice B3 n3 c3) (zlA k (bc A cols) (cols.map fun j => el cs j)) from hv3)
   have zcc:=hid (zbj.out.trans ((hb).mono zbj.out.size))
   clear hv3 hb
   have HZ2:=hid (show w.heap.size ≤ wr.heap.size from zbj.out.size)
   go_wp2
   refine bodyPost_ret (v := .tuple #[.slice B3 n3 c3, .bool true]) (by simp [results,Tryz.results64,go_sem]) rfl ?_
   exact ⟨_,_,_,rfl,by have h:=HR3.out.base HZ2.out;unfold zcl;rw [HP.out.basis.len];exact h,zcc.out⟩
theorem prices (h:zhi W0 w H q rA rc lA bA bc_ kA kc eA ec m N S own A b c left tA tc cols) (sA:Option Addr) (sc:Nat) (cs:List Rat) (H':Nat) (hv:VecS w H' (.slice sA N sc) cs) (zc:∀ x ∈ cs,mw x ≤ S) (hcap:zor m S ≤ LIM) :
  Calls Tryz.prog 80 #[.pointer (some ⟨q,0,none⟩), .slice sA N sc] w (zcd w (zaC N A cols cs) true):=by
 obtain ⟨qb,xA,xc,hP⟩:=h
 have HP:=hid hP
 have hm64:=hP.std.hm
 have hN64:=hP.std.hN
 have BB:=hid (Below.refl w.heap.size w)
 obtain ⟨k0,_,k1,_⟩:=bc9 hP.blk
 clear hP
 have HS0:=hid hv
 have HZS:=hid zc
 have HCAP:=hid hcap
 have HCL:=hid hv.len.symm
 clear hv zc hcap
 go_enter Tryz.func80,Tryz.ntmps80
 go_wp2_with fail
 with_reducible refine (duals HP.out.toS sA sc cs H' HS0.out HZS.out HCAP.out).mono ?_
 rintro e w1 ⟨B,n1,c1,rfl,hv1,hb⟩
 have zjH:=hid (HP.out.below hb)
 have zyT:=hid (HS0.out.below hb)
 have HU:=hid (show VecS w1 w.heap.size (.slice B n1 c1) (zcl A cols cs) from hv1)
 have zaQ:=hid (BB.out.trans ((hb).mono BB.out.size))
 have zbJ:=zab hb k0
 have zbY:=zab hb k1
 clear hv1 hb
 obtain rfl:m = n1:=by rw [HU.out.len];exact (HP.out.basis.duals_ok cs).2.symm
 go_wp2_with fail
 with_reducible refine (Mt.by_ N m rc rA lA A 0 B m c1 (zcl A cols cs) w.heap.size (sB m S S) S _ zjH.out.stdN.rows HP.out.std.rl HU.out (by omega) (by omega) HP.out.std.zA (znb HP.out.basis HP.out.bas.good.2.2 HCL.out HZS.out) (zma m S S) HP.out.std.hS (by have h1:=zos HCAP.out;unfold pB at h1;omega)).mono ?_
 rintro e w3 ⟨B3,n3,c3,rfl,hv3,hb⟩
 have zGn:=hid (zyT.out.below hb)
 have HL3:=hid (show VecS w3 w1.heap.size (.slice B3 n3 c3) (byL N A (zcl A cols cs)) from hv3)
 have zbj:=hid (zaQ.out.trans ((hb).mono zaQ.out.size))
 clear hv3 hb
 obtain rfl:N = n3:=by rw [HL3.out.len,zkb]
 go_wp2_with fail
 with_reducible refine (Vc.subS (pB m S) (by have h1:=zos HCAP.out;omega) (by unfold pB;omega) sA N sc cs B3 N c3 (byL N A (zcl A cols cs)) H' w1.heap.size _ zGn.out HL3.out (by rw [HCL.out,zkb]) (by omega) (fun x hx => Nat.le_trans (HZS.out x hx) (by unfold pB;omega)) (zt3 HP.out.basis.rect.len (by omega) HP.out.std.zA (znb HP.out.basis HP.out.bas.good.2.2 HCL.out HZS.out) (zma m S S) HP.out.std.hS)).mono ?_
 rintro e w4 ⟨B4,n4,c4,rfl,hv4,hb⟩
 have HL4:=hid (show VecS w4 w3.heap.size (.slice B4 n4 c4) (zly cs (-1) (byL N A (zcl A cols cs))) from hv4)
 have zcc:=hid (zbj.out.trans ((hb).mono zbj.out.size))
 clear hv4 hb
 have HZ2:=hid (show w.heap.size ≤ w3.heap.size from zbj.out.size)
 go_wp2
 refine bodyPost_ret (v := .tuple #[.slice B4 n4 c4, .bool true]) (by simp [results,Tryz.results80,go_sem]) rfl ?_
 exact ⟨_,_,_,rfl,HL4.out.base HZ2.out,zcc.out⟩
end Tb
end
end Go.Proofs.YtdbgbaiekpbaoaaGreatDoor
