/- lu.Solve by its contract. Conditions: as it says. basis.Solve by its contract. Conditions: as it says. Conditions: as they say. -/
import Derived.Test.YtdbgbaiekpbaoaaGreatDoorMat2Zp
import Derived.Test.YtdbgbaiekpbaoaaGreatDoorEtaZp
import Derived.Test.YtdbgbaiekpbaoaaGreatDoorBasMemZp
import Derived.Test.YtdbgbaiekpbaoaaGreatDoorRat6Zp
import Derived.Test.YtdbgbaiekpbaoaaGreatDoorLp2Zp
set_option linter.all false
namespace Go.Proofs.YtdbgbaiekpbaoaaGreatDoor
open Go.RowKit Am
open Lib (hid)
attribute [local go_sem ↓] Go.wp_at_zero Go.wp_at_succ
set_option maxHeartbeats 8000000
set_option maxRecDepth 100000
namespace Lu
theorem solve (H q n u s:Nat) (F:LUv) (A:Option Addr) (cA:Nat) (b:List Rat) (H':Nat) (w:World) (hF:LuS w H q n F) (hb:VecS w H' (.slice A n cA) b) (hn:n ≤ 64) (hp:∀ i,i < n → F.perm.getD i 0 < n) (hz:LUsz mw n u F) (hd:∀ i,i < n → en F.up i i ≠ 0) (zb:∀ q ∈ b,mw q ≤ s) (hs:1 ≤ s) (hL:4 * (4 * xB n u s + u + 1) + 8 ≤ LIM) :
  Calls Tryz.prog 130 #[.pointer (some ⟨q,0,none⟩), .slice A n cA] w (zcd w (zaR n F b) true):=by
 obtain ⟨lA,lc,ll,uA,uc,ul,pA,pc,hblk,hlo,_,hup,_,_,hpm⟩:=hF.ex
 have HSQ:=hid hF.sq
 have HN:=hid hn
 have HP:=hid hp
 have HD:=hid hd
 have HBL:=hid hb.len
 have HLIM:=hid hL
 have hbz:∀ i,i < n → mw (el b i) ≤ s:=fun i hi => zb _ (List.mem_of_getElem? (zaH (by rw [← hb.len];exact hi)))
 have HFW:=hid (fun i (hi:i < n) => zDC zo5 hz hp hbz hi)
 have HSV:=hid (fun i (hi:i < n) => zrR zo5 hz hp hbz hi)
 have HZ0:=hid hz
 have hnb:n ≤ 9223372036854775807:=by omega
 have k0:w.cell? ⟨q,0,none⟩ = some (.slice lA n lc):=zac hblk 0
 have k1:w.cell? ⟨q,1,none⟩ = some (.slice uA n uc):=zac hblk 1
 have k2:w.cell? ⟨q,2,none⟩ = some (.slice pA n pc):=zac hblk 2
 have KQ:=hid hblk
 have HLO:=hid hlo
 have HUP:=hid hup
 have HPM:=hid hpm
 have HB:=hid hb
 clear hF hlo hup hpm hb hn hp hz hd zb hs hL hbz hblk
 go_enter Tryz.func130,Tryz.ntmps130
 go_wp2_with (at_make;go_must (refine zdv rfl _ _ rfl n _ rfl rfl rfl (by have:=HN.out;omega) w.heap.size rfl ?_;intro w1 ho hb1;have HO:=hid ho;have HB1:=hid hb1;have q0:=zab hb1 k0;have q1:=zab hb1 k1;have q2:=zab hb1 k2;clear ho hb1))
 go_wp2
 go_loopw [24] (fun i wr => ∃ k:Nat,i = .int .i64 k ∧ k ≤ n ∧ VecS wr w.heap.size (.slice (some ⟨w.heap.size,0,none⟩) n n) (fwO F b n k) ∧ Below w.heap.size w wr)
  (fun i _ => n - (intOf i).toNat)
 case atStart => exact ⟨0,rfl,Nat.zero_le _,by rw [zxc];exact HO.out,HB1.out⟩
 case round =>
  obtain ⟨k,rfl,hk,hv,hB⟩:=hrel
  by_cases hlt:k < n
  ·have hpk:F.perm[k]? = some (F.perm.getD k 0):=zaO (by rw [HSQ.out.pl];exact hlt)
   have hpl:=HP.out k hlt
   generalize hpe:F.perm.getD k 0 = p at hpk hpl
   have hbp:=zaH (xs:=b) (j:=p) (by rw [← HBL.out];exact hpl)
   obtain ⟨bP,rfl,_,_⟩:=HPM.out.has (by omega)
   obtain ⟨bB,rfl,_,_⟩:=HB.out.has (by omega)
   have p0:=(HPM.out.below hB).at_ hpk
   obtain ⟨ga,Aa,ma,ca,Da,mda,cda,y0,y1,y2,hRa⟩:=(HB.out.below hB).at_ hbp
   obtain ⟨go,Ao,mo,co,Do,mdo,cdo,o0,o1,o2,_⟩:=hv.at_ (zAR F b hlt)
   have of0:=hv.fro (k * 3)
   have of1:=hv.fro (k * 3 + 1)
   have of2:=hv.fro (k * 3 + 2)
   have zvU:=hid (HLO.out.below hB)
   have zvZ:=hid (HUP.out.below hB)
   have HQ:=hid (show RatS wr ga (.slice Aa ma ca) (.slice Da mda cda) (el b p) from hRa)
   have HV:=hid (show VecS wr w.heap.size (.slice (some ⟨w.heap.size,0,none⟩) n n) (fwO F b n k) from hv)
   have HW:=hid (show Bel w wr from Bel.mk hB)
   have zbJ:=zab hB k0
   have x0_1d:=zaa zbJ
   have zbY:=zab hB k1
   have x1_1d:=zaa zbY
   have zcb:=zab hB k2
   have zd7:wr.cell? ⟨bP,k,none⟩ = some (.int .i64 (p:Int)):=p0
   have zfb:wr.cell? ⟨bB,p * 3,none⟩ = some (.bool ga):=y0
   have zfc:wr.cell? ⟨bB,p * 3 + 1,none⟩ = some (.slice Aa ma ca):=y1
   have zhe:wr.cell? ⟨bB,p * 3 + 2,none⟩ = some (.slice Da mda cda):=y2
   have HST:=hid (show (fwO F b n k).set k (el b p) = fwI F b n k 0 by rw [← hpe];exact zAS F b hlt)
   clear hv hB hpk hbp hRa hpe p0 y0 y1 y2
   have hi1:(0:Int) ≤ (k:Int):=Int.natCast_nonneg _
   have hi2:(k:Int) < (n:Int):=by omega
   have hi3:(0:Int) ≤ (p:Int):=Int.natCast_nonneg _
   have hi4:(p:Int) < (n:Int):=by omega
   go_wp2
   go_loopw [41] (fun i wr => ∃ c:Nat,i = .int .i64 c ∧ c ≤ k ∧ VecS wr w.heap.size (.slice (some ⟨w.heap.size,0,none⟩) n n) (fwI F b n k c) ∧ Below w.heap.size w wr)
    (fun i _ => k - (intOf i).toNat)
   case atStart => exact ⟨0,rfl,Nat.zero_le _,by rw [← HST.out];exact HV.out.store k HQ.out,(Bel.set3 HW.out (Nat.le_refl _) _ _ _).b⟩
   case round =>
    rename World => wz
    obtain ⟨c,rfl,hc,hv,hB⟩:=hrel
    by_cases hck:c < k
    ·have hrk:F.lo[k]? = some (F.lo.getD k []):=zaO (by rw [HSQ.out.ll];exact hlt)
     have hrl:=HSQ.out.lr k hlt
     have hen:en F.lo k c = el (F.lo.getD k []) c:=rfl
     generalize F.lo.getD k [] = rw_ at hrk hrl hen
     have hcl:=zaH (xs:=rw_) (j:=c) (by omega)
     rw [← hen] at hcl
     obtain ⟨bL,rfl,_,_⟩:=HLO.out.has (by omega)
     obtain ⟨Ar,cr,_,r0,hVr⟩:=(HLO.out.below hB).at_ hrk
     rw [hrl] at r0 hVr
     obtain ⟨br,rfl,_,_⟩:=hVr.has (by omega)
     obtain ⟨gl,Al,ml,cl,Dl,mdl,cdl,y0,y1,y2,hRl⟩:=hVr.at_ hcl
     obtain ⟨gc,Ac,mc,cc,Dc,mdc,cdc,z0,z1,z2,hRc⟩:=hv.at_ (zAO F b (n:=n) (c:=c) hck)
     obtain ⟨gk,Ak,mk,ck,Dk,mdk,cdk,o0,o1,o2,hRk⟩:=hv.at_ (zAN F b n k c)
     have of0:=hv.fro (k * 3)
     have of1:=hv.fro (k * 3 + 1)
     have of2:=hv.fro (k * 3 + 2)
     have HQl:=hid (show RatS wz gl (.slice Al ml cl) (.slice Dl mdl cdl) (en F.lo k c) from hRl)
     have HQc:=hid (show RatS wz gc (.slice Ac mc cc) (.slice Dc mdc cdc) (el (fwd F b k) c) from hRc)
     have HQk:=hid (show RatS wz gk (.slice Ak mk ck) (.slice Dk mdk cdk) (fwP F b k c) from hRk)
     have HV:=hid (show VecS wz w.heap.size (.slice (some ⟨w.heap.size,0,none⟩) n n) (fwI F b n k c) from hv)
     have HW:=hid (show Bel w wz from Bel.mk hB)
     have zdO:=zab hB k0
     have x0_3d:=zaa zdO
     have zfd:=zab hB k1
     have x1_3d:=zaa zfd
     have zgl:=zab hB k2
     have x2_3d:=zaa zgl
     have zg9:wz.cell? ⟨bL,k,none⟩ = some (.slice (some ⟨br,0,none⟩) n cr):=r0
     have x3_3d:=zaa zg9
     have zhb:wz.cell? ⟨br,c * 3,none⟩ = some (.bool gl):=y0
     have x4_3d:=zaa zhb
     have zje:wz.cell? ⟨br,c * 3 + 1,none⟩ = some (.slice Al ml cl):=y1
     have x5_3d:=zaa zje
     have zml:wz.cell? ⟨br,c * 3 + 2,none⟩ = some (.slice Dl mdl cdl):=y2
     have x6_3d:=zaa zml
     have zmm:wz.cell? ⟨w.heap.size,c * 3,none⟩ = some (.bool gc):=z0
     have x7_3d:=zaa zmm
     have zmn:wz.cell? ⟨w.heap.size,c * 3 + 1,none⟩ = some (.slice Ac mc cc):=z1
     have x8_3d:=zaa zmn
     have zpj:wz.cell? ⟨w.heap.size,c * 3 + 2,none⟩ = some (.slice Dc mdc cdc):=z2
     have x9_3d:=zaa zpj
     have znY:wz.cell? ⟨w.heap.size,k * 3,none⟩ = some (.bool gk):=o0
     have x10_3d:=zaa znY
     have zqP:wz.cell? ⟨w.heap.size,k * 3 + 1,none⟩ = some (.slice Ak mk ck):=o1
     have x11_3d:=zaa zqP
     have zqR:wz.cell? ⟨w.heap.size,k * 3 + 2,none⟩ = some (.slice Dk mdk cdk):=o2
     have x12_3d:=zaa zqR
     have HST2:=hid (zAP F b n k c)
     have hf1:=(HFW.out c (by omega)).1
     rw [zrx F b (i:=c) (j:=k) (k:=n) hck (by omega)] at hf1
     have hf2:mw (fwP F b k c) ≤ 2 * xB n u s:=by unfold fwP;rw [zaj fun i hi => by rw [← zrx F b (i:=i) (j:=k) (k:=n) (by omega) (by omega)]];exact (HFW.out k hlt).2 c (by omega)
     have hl1:=HZ0.out.lo k hlt c (by omega)
     have L1:=hid (show 4 * (mw (en F.lo k c) + mw (el (fwd F b k) c)) + 8 ≤ LIM by have:=HLIM.out;omega)
     have L2:=hid (show 4 * (mw (fwP F b k c) + mw (en F.lo k c * el (fwd F b k) c)) + 8 ≤ LIM by have:=HLIM.out;have:=zdI (en F.lo k c) (el (fwd F b k) c);omega)
     clear hv hB hrk hrl hen hcl hVr hRl hRc hRk hf1 hf2 hl1 r0 y0 y1 y2 z0 z1 z2
     have hi5:(0:Int) ≤ (c:Int):=Int.natCast_nonneg _
     have hi6:(c:Int) < (n:Int):=by omega
     go_wp2_with fail
     refine za2 (S:=fun w' => w'.cell? ⟨q,0,none⟩ = some (.slice (some ⟨bL,0,none⟩) n lc) ∧ w'.cell? ⟨q,1,none⟩ = some (.slice uA n uc) ∧ w'.cell? ⟨q,2,none⟩ = some (.slice (some ⟨bP,0,none⟩) n pc) ∧ w'.cell? ⟨bL,k,none⟩ = some (.slice (some ⟨br,0,none⟩) n cr) ∧ w'.cell? ⟨br,c * 3,none⟩ = some (.bool gl) ∧ w'.cell? ⟨br,c * 3 + 1,none⟩ = some (.slice Al ml cl) ∧ w'.cell? ⟨br,c * 3 + 2,none⟩ = some (.slice Dl mdl cdl) ∧ w'.cell? ⟨w.heap.size,c * 3,none⟩ = some (.bool gc) ∧ w'.cell? ⟨w.heap.size,c * 3 + 1,none⟩ = some (.slice Ac mc cc) ∧ w'.cell? ⟨w.heap.size,c * 3 + 2,none⟩ = some (.slice Dc mdc cdc) ∧ w'.cell? ⟨w.heap.size,k * 3,none⟩ = some (.bool gk) ∧ w'.cell? ⟨w.heap.size,k * 3 + 1,none⟩ = some (.slice Ak mk ck) ∧ w'.cell? ⟨w.heap.size,k * 3 + 2,none⟩ = some (.slice Dk mdk cdk)) 23 (h:=fun hHeld => ?_)
     refine zaw [0,1,2,3,4,5,6,7,8,9,10,11,12,13,14,15,16,17,18,19] ?_
     repeat refine tkE (hS:=hHeld) (h:=?_)
     refine zao ?_
     refine zaN 20 (h:=fun K hK => ?_)
     go_simp
     (go_at_call 14;(with_reducible refine (Rt.mul gl Al ml cl Dl mdl cdl (en F.lo k c) gc Ac mc cc Dc mdc cdc (el (fwd F b k) c) _ HQl.out.drew HQc.out.drew L1.out).mono ?_);rintro e u1 ⟨g1,A1,m1,c1,D1,md1,cd1,rfl,hn,hb⟩;have zmt:=hid (HQl.out.drew.below hb);have zpk:=hid (HQc.out.drew.below hb);have zie:=hid (HQk.out.drew.below hb);have ziS:=hid (HV.out.drew.below hb);have zhh:=hid (HW.out.drew.below hb);have HM:=hid (show RatS u1 g1 (.slice A1 m1 c1) (.slice D1 md1 cd1) (en F.lo k c * el (fwd F b k) c) from hn);have zd6:=zab hb x0_3d;have zfT:=zab hb x1_3d;have zgs:=zab hb x2_3d;have zha:=zab hb x3_3d;have zhc:=zab hb x4_3d;have x4_4d:=zaa zhc;have zlB:=zab hb x5_3d;have x5_4d:=zaa zlB;have zn0:=zab hb x6_3d;have x6_4d:=zaa zn0;have zn1:=zab hb x7_3d;have x7_4d:=zaa zn1;have zn3:=zab hb x8_3d;have x8_4d:=zaa zn3;have zn4:=zab hb x9_3d;have x9_4d:=zaa zn4;have ziQ:=zab hb x10_3d;have zls:=zab hb x11_3d;have zlt:=zab hb x12_3d;clear hn hb)
     (try go_wp2_with fail)
     refine hK.out _ _ kp fun hHeld => ?_
     clear hK K
     try simp only [Act.put,pu1,pu2,pu3,pu4,pu5,pu6]
     refine zaN 21 (h:=fun K hK => ?_)
     go_simp
     (go_at_call 131;(with_reducible refine (Rt.sub gk Ak mk ck Dk mdk cdk (fwP F b k c) g1 A1 m1 c1 D1 md1 cd1 (en F.lo k c * el (fwd F b k) c) _ zie.out HM.out L2.out).mono ?_);rintro e u2 ⟨g2,A2,m2,c2,D2,md2,cd2,rfl,hn,hb⟩;have zyO:=hid (zmt.out.below hb);have zyM:=hid (zpk.out.below hb);have zlx:=hid (ziS.out.below hb);have zsB:=hid (zhh.out.below hb);have zB2:=hid (HM.out.below hb);have HS:=hid (show RatS u2 g2 (.slice A2 m2 c2) (.slice D2 md2 cd2) (fwP F b k c - en F.lo k c * el (fwd F b k) c) from hn);have zid:=zab hb zd6;have zlu:=zab hb zfT;have zmh:=zab hb zgs;have zmi:=zab hb zha;have zmj:=zab hb zhc;have x4_5d:=zaa zmj;have zmk:=zab hb zlB;have x5_5d:=zaa zmk;have zvT:=zab hb zn0;have x6_5d:=zaa zvT;have zBG:=zab hb zn1;have x7_5d:=zaa zBG;have zBK:=zab hb zn3;have x8_5d:=zaa zBK;have zBP:=zab hb zn4;have x9_5d:=zaa zBP;have zqM:=zab hb ziQ;have zqQ:=zab hb zls;have zqS:=zab hb zlt;have of0:=zlx.out.fro (k * 3);have of1:=zlx.out.fro (k * 3 + 1);have of2:=zlx.out.fro (k * 3 + 2);clear hn hb)
     (try go_wp2_with fail)
     refine hK.out _ _ kp fun hHeld => ?_
     clear hK K
     try simp only [Act.put,pu1,pu2,pu3,pu4,pu5,pu6]
     refine zaw [22] ?_
     repeat refine tkE (hS:=hHeld) (h:=?_)
     refine zao ?_
     refine zba (h:=fun K hK => ?_)
     go_simp
     refine hK.out _ _ ?_
     clear hK K
     try simp only [Act.put,pu1,pu2,pu3,pu4,pu5,pu6]
     refine za1 (h:=?_)
     go_wp2
     go_roundw
     case rel => exact ⟨c + 1,by go_num,by omega,by rw [← HST2.out];exact zlx.out.store k HS.out,(Bel.set3 zsB.out (Nat.le_refl _) _ _ _).b⟩
     case measure => simp [intOf];omega
    ·obtain rfl:k = c:=by omega
     have HVx:=hid hv
     have HBx:=hid hB
     clear hv hB
     go_wp2
     go_roundw
     case rel => exact ⟨k + 1,by go_num,by omega,by rw [← zxb];exact HVx.out,HBx.out⟩
     case measure => simp [intOf];omega
  ·obtain rfl:n = k:=by omega
   have HVx:=hid hv
   have HBx:=hid hB
   clear hv hB
   go_wp2
   go_loopw [10] (fun i wr => ∃ k:Nat,i = .int .i64 ((k:Int) - 1) ∧ k ≤ n ∧ VecS wr w.heap.size (.slice (some ⟨w.heap.size,0,none⟩) n n) (bwO F (fwd F b n) n k) ∧ Below w.heap.size w wr)
    (fun i _ => (intOf i + 1).toNat)
   case atStart => exact ⟨n,rfl,Nat.le_refl _,by rw [zzq F (zcx _ _ _), ← zAQ];exact HVx.out,HBx.out⟩
   case round =>
    rename World => wy
    obtain ⟨k,rfl,hk,hv,hB⟩:=hrel
    cases k with
    | zero =>
     have HVz:=hid hv
     have HBz:=hid hB
     clear hv hB
     rw [show ((0:Nat):Int) - 1 = -1 from rfl]
     go_wp2
     refine bodyPost_ret (v := .tuple #[.slice (some ⟨w.heap.size,0,none⟩) n n, .bool true]) (by simp [results,Tryz.results130,go_sem]) rfl ?_
     exact ⟨_,_,_,rfl,by have h:=HVz.out;rw [zwq] at h;exact h,HBz.out⟩
    | succ k =>
     have hlt:k < n:=by omega
     rw [show ((k + 1:Nat):Int) - 1 = (k:Int) by omega]
     have HV:=hid hv
     have HW0:=hid hB
     clear hv
     have zvU:=hid (HLO.out.below hB)
     have zvZ:=hid (HUP.out.below hB)
     have zbJ:=zab hB k0
     have x0_1d:=zaa zbJ
     have zbY:=zab hB k1
     have x1_1d:=zaa zbY
     have zcb:=zab hB k2
     clear hB
     have hi1:(0:Int) ≤ (k:Int):=Int.natCast_nonneg _
     have hi2:(k:Int) < (n:Int):=by omega
     go_wp2
     go_loopw [11] (fun i wr => ∃ j:Nat,i = .int .i64 ((k + 1 + j:Nat):Int) ∧ k + 1 + j ≤ n ∧ VecS wr w.heap.size (.slice (some ⟨w.heap.size,0,none⟩) n n) (bwI F (fwd F b n) n k j) ∧ Below w.heap.size w wr)
      (fun i _ => n - (intOf i).toNat)
     case atStart => exact ⟨0,by go_num,by omega,by rw [zwp F (zcx _ _ _) hlt];exact HV.out,HW0.out⟩
     case round =>
      rename World => wz
      obtain ⟨j,rfl,hj,hv,hB⟩:=hrel
      have hrk:F.up[k]? = some (F.up.getD k []):=zaO (by rw [HSQ.out.ul];exact hlt)
      have hrl:=HSQ.out.ur k hlt
      have hen:∀ c,en F.up k c = el (F.up.getD k []) c:=fun _ => rfl
      generalize F.up.getD k [] = rw_ at hrk hrl hen
      obtain ⟨bL,rfl,_,_⟩:=HUP.out.has (by omega)
      obtain ⟨Ar,cr,hlk,r0,hVr⟩:=(HUP.out.below hB).at_ hrk
      rw [hrl] at r0 hVr hlk
      obtain ⟨br,rfl,_,_⟩:=hVr.has (by omega)
      have hbr:=(HUP.out.lt (List.mem_of_getElem? hlk) rfl).2
      have hqw:=(Array.getElem?_eq_some_iff.1 KQ.out).1
      clear hlk
      obtain ⟨gk,Ak,mk,ck,Dk,mdk,cdk,o0,o1,o2,hRk⟩:=hv.at_ (zzo F j (zcx F b n) hlt)
      have of0:=hv.fro (k * 3)
      have of1:=hv.fro (k * 3 + 1)
      have of2:=hv.fro (k * 3 + 2)
      have hi3:(0:Int) ≤ (k:Int):=Int.natCast_nonneg _
      have hi4:(k:Int) < (n:Int):=by omega
      by_cases hck:k + 1 + j < n
      ·have hcl:=zaH (xs:=rw_) (j:=k + 1 + j) (by omega)
       rw [← hen] at hcl
       obtain ⟨gl,Al,ml,cl,Dl,mdl,cdl,y0,y1,y2,hRl⟩:=hVr.at_ hcl
       obtain ⟨gc,Ac,mc,cc,Dc,mdc,cdc,z0,z1,z2,hRc⟩:=hv.at_ (zwo F j (zcx F b n) hck)
       have hbe:el (bwd F n (fwd F b n) (n - (k + 1))) j = el (zaR n F b) (k + 1 + j):=(zlL F n (fwd F b n) (f:=n) (j:=k + 1) (by omega) j).symm
       rw [hbe] at hRc
       have hpe:bwP F (fwd F b n) n k j = el (fwd F b n) k - zai j (fun c => en F.up k (k + 1 + c) * el (zaR n F b) (k + 1 + c)):=by unfold bwP;rw [zaj fun c hc => by rw [← zlL F n (fwd F b n) (f:=n) (j:=k + 1) (by omega) c]];rfl
       have HST2:=hid (show (bwI F (fwd F b n) n k j).set k (bwP F (fwd F b n) n k j - en F.up k (k + 1 + j) * el (zaR n F b) (k + 1 + j)) = bwI F (fwd F b n) n k (j + 1) by rw [← hbe];exact zzp F j (zcx F b n) hlt)
       have hf1:=(HSV.out (k + 1 + j) hck).1
       have hf2:mw (bwP F (fwd F b n) n k j) ≤ 2 * xB n u s:=by rw [hpe];exact (HSV.out k hlt).2 j (by omega)
       have hl1:=HZ0.out.up k hlt (k + 1 + j) hck
       generalize hc0:k + 1 + j = c at *
       generalize bwP F (fwd F b n) n k j = pk at *
       have HC0:=hid hc0
       have HQl:=hid (show RatS wz gl (.slice Al ml cl) (.slice Dl mdl cdl) (en F.up k c) from hRl)
       have HQc:=hid (show RatS wz gc (.slice Ac mc cc) (.slice Dc mdc cdc) (el (zaR n F b) c) from hRc)
       have HQk:=hid (show RatS wz gk (.slice Ak mk ck) (.slice Dk mdk cdk) pk from hRk)
       have HV:=hid (show VecS wz w.heap.size (.slice (some ⟨w.heap.size,0,none⟩) n n) (bwI F (fwd F b n) n k j) from hv)
       have HW:=hid (show Bel w wz from Bel.mk hB)
       have zdO:=zab hB k0
       have x0_3d:=zaa zdO
       have zfd:=zab hB k1
       have x1_3d:=zaa zfd
       have zgl:=zab hB k2
       have x2_3d:=zaa zgl
       have zg9:wz.cell? ⟨bL,k,none⟩ = some (.slice (some ⟨br,0,none⟩) n cr):=r0
       have x3_3d:=zaa zg9
       have zhb:wz.cell? ⟨br,c * 3,none⟩ = some (.bool gl):=y0
       have x4_3d:=zaa zhb
       have zje:wz.cell? ⟨br,c * 3 + 1,none⟩ = some (.slice Al ml cl):=y1
       have x5_3d:=zaa zje
       have zml:wz.cell? ⟨br,c * 3 + 2,none⟩ = some (.slice Dl mdl cdl):=y2
       have x6_3d:=zaa zml
       have zmm:wz.cell? ⟨w.heap.size,c * 3,none⟩ = some (.bool gc):=z0
       have x7_3d:=zaa zmm
       have zmn:wz.cell? ⟨w.heap.size,c * 3 + 1,none⟩ = some (.slice Ac mc cc):=z1
       have x8_3d:=zaa zmn
       have zpj:wz.cell? ⟨w.heap.size,c * 3 + 2,none⟩ = some (.slice Dc mdc cdc):=z2
       have x9_3d:=zaa zpj
       have znY:wz.cell? ⟨w.heap.size,k * 3,none⟩ = some (.bool gk):=o0
       have x10_3d:=zaa znY
       have zqP:wz.cell? ⟨w.heap.size,k * 3 + 1,none⟩ = some (.slice Ak mk ck):=o1
       have x11_3d:=zaa zqP
       have zqR:wz.cell? ⟨w.heap.size,k * 3 + 2,none⟩ = some (.slice Dk mdk cdk):=o2
       have x12_3d:=zaa zqR
       have L1:=hid (show 4 * (mw (en F.up k c) + mw (el (zaR n F b) c)) + 8 ≤ LIM by have:=HLIM.out;omega)
       have L2:=hid (show 4 * (mw pk + mw (en F.up k c * el (zaR n F b) c)) + 8 ≤ LIM by have:=HLIM.out;have:=zdI (en F.up k c) (el (zaR n F b) c);omega)
       clear hv hB hrk hrl hen hcl hVr hRl hRc hRk hf1 hf2 hl1 hbe hpe hc0 r0 y0 y1 y2 z0 z1 z2
       have hi5:(0:Int) ≤ (c:Int):=Int.natCast_nonneg _
       have hi6:(c:Int) < (n:Int):=by omega
       go_wp2_with fail
       refine za2 (S:=fun w' => w'.cell? ⟨q,0,none⟩ = some (.slice lA n lc) ∧ w'.cell? ⟨q,1,none⟩ = some (.slice (some ⟨bL,0,none⟩) n uc) ∧ w'.cell? ⟨q,2,none⟩ = some (.slice pA n pc) ∧ w'.cell? ⟨bL,k,none⟩ = some (.slice (some ⟨br,0,none⟩) n cr) ∧ w'.cell? ⟨br,c * 3,none⟩ = some (.bool gl) ∧ w'.cell? ⟨br,c * 3 + 1,none⟩ = some (.slice Al ml cl) ∧ w'.cell? ⟨br,c * 3 + 2,none⟩ = some (.slice Dl mdl cdl) ∧ w'.cell? ⟨w.heap.size,c * 3,none⟩ = some (.bool gc) ∧ w'.cell? ⟨w.heap.size,c * 3 + 1,none⟩ = some (.slice Ac mc cc) ∧ w'.cell? ⟨w.heap.size,c * 3 + 2,none⟩ = some (.slice Dc mdc cdc) ∧ w'.cell? ⟨w.heap.size,k * 3,none⟩ = some (.bool gk) ∧ w'.cell? ⟨w.heap.size,k * 3 + 1,none⟩ = some (.slice Ak mk ck) ∧ w'.cell? ⟨w.heap.size,k * 3 + 2,none⟩ = some (.slice Dk mdk cdk)) 23 (h:=fun hHeld => ?_)
       refine zaw [0,1,2,3,4,5,6,7,8,9,10,11,12,13,14,15,16,17,18,19] ?_
       repeat refine tkE (hS:=hHeld) (h:=?_)
       refine zao ?_
       refine zaN 20 (h:=fun K hK => ?_)
       go_simp
       (go_at_call 14;(with_reducible refine (Rt.mul gl Al ml cl Dl mdl cdl (en F.up k c) gc Ac mc cc Dc mdc cdc (el (zaR n F b) c) _ HQl.out.drew HQc.out.drew L1.out).mono ?_);rintro e u1 ⟨g1,A1,m1,c1,D1,md1,cd1,rfl,hn,hb⟩;have zmt:=hid (HQl.out.drew.below hb);have zpk:=hid (HQc.out.drew.below hb);have zie:=hid (HQk.out.drew.below hb);have ziS:=hid (HV.out.drew.below hb);have zhh:=hid (HW.out.drew.below hb);have HM:=hid (show RatS u1 g1 (.slice A1 m1 c1) (.slice D1 md1 cd1) (en F.up k c * el (zaR n F b) c) from hn);have zd6:=zab hb x0_3d;have zfT:=zab hb x1_3d;have zgs:=zab hb x2_3d;have zha:=zab hb x3_3d;have zhc:=zab hb x4_3d;have x4_4d:=zaa zhc;have zlB:=zab hb x5_3d;have x5_4d:=zaa zlB;have zn0:=zab hb x6_3d;have x6_4d:=zaa zn0;have zn1:=zab hb x7_3d;have x7_4d:=zaa zn1;have zn3:=zab hb x8_3d;have x8_4d:=zaa zn3;have zn4:=zab hb x9_3d;have x9_4d:=zaa zn4;have ziQ:=zab hb x10_3d;have zls:=zab hb x11_3d;have zlt:=zab hb x12_3d;clear hn hb)
       (try go_wp2_with fail)
       refine hK.out _ _ kp fun hHeld => ?_
       clear hK K
       try simp only [Act.put,pu1,pu2,pu3,pu4,pu5,pu6]
       refine zaN 21 (h:=fun K hK => ?_)
       go_simp
       (go_at_call 131;(with_reducible refine (Rt.sub gk Ak mk ck Dk mdk cdk pk g1 A1 m1 c1 D1 md1 cd1 (en F.up k c * el (zaR n F b) c) _ zie.out HM.out L2.out).mono ?_);rintro e u2 ⟨g2,A2,m2,c2,D2,md2,cd2,rfl,hn,hb⟩;have zyO:=hid (zmt.out.below hb);have zyM:=hid (zpk.out.below hb);have zlx:=hid (ziS.out.below hb);have zsB:=hid (zhh.out.below hb);have zB2:=hid (HM.out.below hb);have HS:=hid (show RatS u2 g2 (.slice A2 m2 c2) (.slice D2 md2 cd2) (pk - en F.up k c * el (zaR n F b) c) from hn);have zid:=zab hb zd6;have zlu:=zab hb zfT;have zmh:=zab hb zgs;have zmi:=zab hb zha;have zmj:=zab hb zhc;have x4_5d:=zaa zmj;have zmk:=zab hb zlB;have x5_5d:=zaa zmk;have zvT:=zab hb zn0;have x6_5d:=zaa zvT;have zBG:=zab hb zn1;have x7_5d:=zaa zBG;have zBK:=zab hb zn3;have x8_5d:=zaa zBK;have zBP:=zab hb zn4;have x9_5d:=zaa zBP;have zqM:=zab hb ziQ;have zqQ:=zab hb zls;have zqS:=zab hb zlt;have of0:=zlx.out.fro (k * 3);have of1:=zlx.out.fro (k * 3 + 1);have of2:=zlx.out.fro (k * 3 + 2);clear hn hb)
       (try go_wp2_with fail)
       refine hK.out _ _ kp fun hHeld => ?_
       clear hK K
       try simp only [Act.put,pu1,pu2,pu3,pu4,pu5,pu6]
       refine zaw [22] ?_
       repeat refine tkE (hS:=hHeld) (h:=?_)
       refine zao ?_
       refine zba (h:=fun K hK => ?_)
       go_simp
       refine hK.out _ _ ?_
       clear hK K
       try simp only [Act.put,pu1,pu2,pu3,pu4,pu5,pu6]
       refine za1 (h:=?_)
       go_wp2
       go_roundw
       case rel => exact ⟨j + 1,by have:=HC0.out;subst this;go_num,by have:=HC0.out;omega,by rw [← HST2.out];exact zlx.out.store k HS.out,(Bel.set3 zsB.out (Nat.le_refl _) _ _ _).b⟩
       case measure => simp [intOf];omega
      ·skip
       have hjn:j = n - (k + 1):=by omega
       have hcl:=zaH (xs:=rw_) (j:=k) (by omega)
       rw [← hen] at hcl
       obtain ⟨gl,Al,ml,cl,Dl,mdl,cdl,y0,y1,y2,hRl⟩:=hVr.at_ hcl
       have hpe:bwP F (fwd F b n) n k j = el (fwd F b n) k - zai j (fun c => en F.up k (k + 1 + c) * el (zaR n F b) (k + 1 + c)):=by unfold bwP;rw [zaj fun c hc => by rw [← zlL F n (fwd F b n) (f:=n) (j:=k + 1) (by omega) c]];rfl
       have HST3:=hid (show (bwI F (fwd F b n) n k j).set k (bwP F (fwd F b n) n k j / en F.up k k) = bwO F (fwd F b n) n k by rw [hjn];exact zzn F (zcx F b n) hlt)
       have hf2:mw (bwP F (fwd F b n) n k j) ≤ 2 * xB n u s:=by rw [hpe];exact (HSV.out k hlt).2 j (by omega)
       have hl1:=HZ0.out.up k hlt k hlt
       have HDK:=hid (HD.out k hlt)
       generalize bwP F (fwd F b n) n k j = pk at *
       have HQl:=hid (show RatS wz gl (.slice Al ml cl) (.slice Dl mdl cdl) (en F.up k k) from hRl)
       have HQk:=hid (show RatS wz gk (.slice Ak mk ck) (.slice Dk mdk cdk) pk from hRk)
       have HV:=hid (show VecS wz w.heap.size (.slice (some ⟨w.heap.size,0,none⟩) n n) (bwI F (fwd F b n) n k j) from hv)
       have HW:=hid (show Bel w wz from Bel.mk hB)
       have zdO:=zab hB k0
       have x0_3d:=zaa zdO
       have zfd:=zab hB k1
       have x1_3d:=zaa zfd
       have zgl:=zab hB k2
       have x2_3d:=zaa zgl
       have zg9:wz.cell? ⟨bL,k,none⟩ = some (.slice (some ⟨br,0,none⟩) n cr):=r0
       have x3_3d:=zaa zg9
       have zhb:wz.cell? ⟨br,k * 3,none⟩ = some (.bool gl):=y0
       have x4_3d:=zaa zhb
       have zje:wz.cell? ⟨br,k * 3 + 1,none⟩ = some (.slice Al ml cl):=y1
       have x5_3d:=zaa zje
       have zml:wz.cell? ⟨br,k * 3 + 2,none⟩ = some (.slice Dl mdl cdl):=y2
       have x6_3d:=zaa zml
       have zmm:wz.cell? ⟨w.heap.size,k * 3,none⟩ = some (.bool gk):=o0
       have x7_3d:=zaa zmm
       have zmn:wz.cell? ⟨w.heap.size,k * 3 + 1,none⟩ = some (.slice Ak mk ck):=o1
       have x8_3d:=zaa zmn
       have zpj:wz.cell? ⟨w.heap.size,k * 3 + 2,none⟩ = some (.slice Dk mdk cdk):=o2
       have x9_3d:=zaa zpj
       have L1:=hid (show 4 * (mw pk + mw (en F.up k k)) + 8 ≤ LIM by have:=HLIM.out;omega)
       clear hv hB hrk hrl hen hcl hVr hRl hRk hf2 hl1 hpe hjn r0 y0 y1 y2
       go_wp2_with fail
       refine wp_region_held_drew (S:=fun w' => w'.cell? ⟨q,0,none⟩ = some (.slice lA n lc) ∧ w'.cell? ⟨q,1,none⟩ = some (.slice (some ⟨bL,0,none⟩) n uc) ∧ w'.cell? ⟨q,2,none⟩ = some (.slice pA n pc) ∧ w'.cell? ⟨bL,k,none⟩ = some (.slice (some ⟨br,0,none⟩) n cr) ∧ w'.cell? ⟨br,k * 3,none⟩ = some (.bool gl) ∧ w'.cell? ⟨br,k * 3 + 1,none⟩ = some (.slice Al ml cl) ∧ w'.cell? ⟨br,k * 3 + 2,none⟩ = some (.slice Dl mdl cdl)) (by kernel_rfl) kp fun hHeld => ?_
       refine zaw [0,1,2,3,4,6,7,8,9,10,11,12,13,14,15] ?_
       repeat refine tkH (hS:=hHeld) (h:=?_)
       refine zao ?_
       refine wpAnyH_ready (rs:=[5]) (by kernel_rfl) (by simp) ?_
       refine AllReadyH.cons rfl (fun K hK => ?_) AllReadyH.nil
       go_simp
       skip
       (try go_wp2_with fail)
       refine hK.out _ _ kp fun hHeld => ?_
       clear hK K
       try simp only [Act.put,pu1,pu2,pu3,pu4,pu5,pu6]
       refine wpAnyH_ready (rs:=[16]) (by kernel_rfl) (by simp) ?_
       refine AllReadyH.cons rfl (fun K hK => ?_) AllReadyH.nil
       go_simp
       (go_at_call 51;(with_reducible refine (Rt.div gk Ak mk ck Dk mdk cdk pk gl Al ml cl Dl mdl cdl (en F.up k k) _ HQk.out.drew HQl.out.drew HDK.out L1.out).mono ?_);rintro e u1 ⟨g2,A2,m2,c2,D2,md2,cd2,rfl,hn,hb⟩;have zmt:=hid (HQl.out.drew.below hb);have zie:=hid (HQk.out.drew.below hb);have ziS:=hid (HV.out.drew.below hb);have zhh:=hid (HW.out.drew.below hb);have HS:=hid (show RatS u1 g2 (.slice A2 m2 c2) (.slice D2 md2 cd2) (pk / en F.up k k) from hn);have zd6:=zab hb x0_3d;have zfT:=zab hb x1_3d;have zgs:=zab hb x2_3d;have zha:=zab hb x3_3d;have zhc:=zab hb x4_3d;have x4_4d:=zaa zhc;have zlB:=zab hb x5_3d;have x5_4d:=zaa zlB;have zn0:=zab hb x6_3d;have x6_4d:=zaa zn0;have zn1:=zab hb x7_3d;have x7_4d:=zaa zn1;have zn3:=zab hb x8_3d;have x8_4d:=zaa zn3;have zn4:=zab hb x9_3d;have x9_4d:=zaa zn4;have of0:=ziS.out.fro (k * 3);have of1:=ziS.out.fro (k * 3 + 1);have of2:=ziS.out.fro (k * 3 + 2);clear hn hb)
       (try go_wp2_with fail)
       refine hK.out _ _ kp fun hHeld => ?_
       clear hK K
       try simp only [Act.put,pu1,pu2,pu3,pu4,pu5,pu6]
       refine zaw [17,18,19,20] ?_
       repeat refine tkH (hS:=hHeld) (h:=?_)
       refine zao ?_
       refine wpAnyH_ready (rs:=[21]) (by kernel_rfl) (by simp) ?_
       refine AllReadyH.cons rfl (fun K hK => ?_) AllReadyH.nil
       go_simp
       skip
       (try go_wp2_with fail)
       refine hK.out _ _ kp fun hHeld => ?_
       clear hK K
       try simp only [Act.put,pu1,pu2,pu3,pu4,pu5,pu6]
       refine wpAnyH_done (by kernel_rfl) ?_ _
       go_wp2
       go_roundw
       case rel => exact ⟨k,by go_num,by omega,by rw [← HST3.out];exact ziS.out.store k HS.out,(Bel.set3 zhh.out (Nat.le_refl _) _ _ _).b⟩
       case measure => first | (simp [intOf];done) | (simp [intOf];omega)
end Lu
theorem zpB {w:World} {b b7 i j k:Nat} {o:Obj} (h:w.heap[b7]? = some o) (hne:b7 ≠ b) (u v x:Value):(((w.setCell ⟨b,i,none⟩ u).setCell ⟨b,j,none⟩ v).setCell ⟨b,k,none⟩ x).heap[b7]? = some o:=by
 rw [Below.heap_setCell _ _ _ _ hne,Below.heap_setCell _ _ _ _ hne,Below.heap_setCell _ _ _ _ hne];exact h
namespace Bs
theorem solve (H q n S T:Nat) (C:List (List Rat)) (A:Option Addr) (cA:Nat) (v:List Rat) (H':Nat) (w:World) (hB:zjE w H q n S C) (hv:VecS w H' (.slice A n cA) v) (hn:n ≤ 64) (zv:∀ x ∈ v,mw x ≤ T) (hT:1 ≤ T) (hcap:zpS n S T ≤ LIM) :
  Calls Tryz.prog 79 #[.pointer (some ⟨q,0,none⟩), .slice A n cA] w (zcd w (zes n C v) true):=by
 obtain ⟨cA',cc,lc,K,ql,F,D,eA,ec,le,es,hP⟩:=hB
 have hfr:=zoC hP.right.base.1 hP.right.base.2.1 hP.right.base.2.2 hP.fac
 have HN:=hid hn
 have HF:=hid hfr
 have HZV:=hid zv
 have HT1:=hid hT
 have HCAP:=hid hcap
 have hesb:es.length ≤ 9223372036854775807:=by have:=hP.few;omega
 have hnb:n ≤ 9223372036854775807:=by omega
 have HP:=hid hP
 have HV0:=hid hv
 have BB:=hid (Below.refl w.heap.size w)
 obtain ⟨k0,_,k1,_,k2,k2d⟩:=bc3 hP.blk
 have HSOL:=hid (zvq hP.right v)
 have HSZ:=hid (fun t (ht:t ≤ es.length) => zsc (t:=t) zo5 hP.right (v:=v) (T:=T) (fun i hi => zrz zv (by rw [← hv.len];exact hi)) ht)
 have HEZ:=hid (fun t e (he:es[t]? = some e) => zrn zo5 hP.right he)
 clear hP hv hn hfr zv hT hcap
 go_enter Tryz.func79,Tryz.ntmps79
 go_wp2_with fail
 with_reducible refine (Lu.solve K ql n (uB n S) T F A cA v H' _ HP.out.lu HV0.out HN.out HF.out.1.pr HF.out.2 HF.out.1.piv HZV.out HT1.out (zHx HCAP.out)).mono ?_
 rintro e w1 ⟨B,n1,c1,rfl,hv1,hb⟩
 have HX:=hid (show VecS w1 w.heap.size (.slice B n1 c1) (zaR n F v) from hv1)
 have zaQ:=hid (BB.out.trans ((hb).mono BB.out.size))
 have zcb:=zab hb k2
 have x2_1d:=zaa zcb
 clear hv1 hb
 obtain rfl:n = n1:=by rw [HX.out.len,zlb]
 have HX0:=hid (show VecS w1 w.heap.size (.slice B n c1) (zix n (es.take 0) (zes n D v)) by rw [zxE HP.out.fac];exact HX.out)
 go_wp2
 go_loopw [27] (fun i wr => ∃ t:Nat,i = .int .i64 t ∧ t ≤ es.length ∧ VecS wr w.heap.size (.slice B n c1) (zix n (es.take t) (zes n D v)) ∧ Below w.heap.size w wr)
  (fun i _ => es.length - (intOf i).toNat)
 case atStart => exact ⟨0,rfl,Nat.zero_le _,HX0.out,zaQ.out⟩
 case round =>
  obtain ⟨t,rfl,ht,hv,hB⟩:=hrel
  by_cases hlt:t < es.length
  ·obtain ⟨⟨k,wv⟩,he⟩:∃ e,es[t]? = some e:=⟨es[t],List.getElem?_eq_getElem hlt⟩
   obtain ⟨hk,hwl,hpv,hwz⟩:=HEZ.out t _ he
   dsimp only at hk hwl hpv hwz
   have hxz:=HSZ.out t ht
   have hnx:=zsd (n:=n) he (zes n D v)
   dsimp only at hnx
   have hxl:(zix n (es.take t) (zes n D v)).length = n:=hv.len.symm
   obtain ⟨X,hX⟩:∃ X,X = zix n (es.take t) (zes n D v):=⟨_,rfl⟩
   rw [← hX] at hv hxz hnx hxl
   have HNX:=hid hnx
   have HXL:=hid hxl
   have HXZ:=hid hxz
   have HWZ:=hid hwz
   have HWL:=hid hwl
   have HPV:=hid hpv
   obtain ⟨be,rfl,_,_⟩:=HP.out.etas.has (by omega)
   obtain ⟨Ae,ce,y0,y1,hWv⟩:=(HP.out.etas.below hB).at_ he
   dsimp only at y0 y1 hWv
   rw [hwl] at y1 hWv
   obtain ⟨bw,rfl,hbw0,hbw1⟩:=hWv.has (by omega)
   obtain ⟨Ae0,ce0,_,y10,hWv0⟩:=HP.out.etas.at_ he
   dsimp only at y10 hWv0
   rw [hwl] at y10 hWv0
   have hse:Value.slice Ae0 n ce0 = .slice (some ⟨bw,0,none⟩) n ce:=by have h1:=zab hB y10;rw [y1] at h1;injection h1 with h1;exact h1.symm
   rw [hse] at hWv0
   have HWV0:=hid hWv0
   clear hse hWv0 y10
   obtain ⟨bx,rfl,hbx0,hbx1⟩:=hv.has (by omega)
   have hqw:=zaH (xs:=wv) (j:=k) (by omega)
   have hqx:=zaH (xs:=X) (j:=k) (by omega)
   obtain ⟨ga,Aa,ma,ca,Da,mda,cda,a0,a1,a2,hRa⟩:=hv.at_ hqx
   obtain ⟨gb,Ab,mb,cb,Db,mdb,cdb,b0,b1,b2,hRb⟩:=hWv.at_ hqw
   have HV:=hid (show VecS wr w.heap.size (.slice (some ⟨bx,0,none⟩) n c1) X from hv)
   have HRa:=hid (show RatS wr ga (.slice Aa ma ca) (.slice Da mda cda) (el X k) from hRa)
   have HRb:=hid (show RatS wr gb (.slice Ab mb cb) (.slice Db mdb cdb) (el wv k) from hRb)
   have HW:=hid (show Bel w wr from Bel.mk hB)
   have zcX:=zab hB k0
   have zdq:wr.cell? ⟨be,t * 2,none⟩ = some (.int .i64 (k:Int)):=y0
   have zej:wr.cell? ⟨be,t * 2 + 1,none⟩ = some (.slice (some ⟨bw,0,none⟩) n ce):=y1
   have zfa:wr.cell? ⟨bx,k * 3,none⟩ = some (.bool ga):=a0
   have zgt:wr.cell? ⟨bx,k * 3 + 1,none⟩ = some (.slice Aa ma ca):=a1
   have zhd:wr.cell? ⟨bx,k * 3 + 2,none⟩ = some (.slice Da mda cda):=a2
   have zlC:wr.cell? ⟨bw,k * 3,none⟩ = some (.bool gb):=b0
   have zpi:wr.cell? ⟨bw,k * 3 + 1,none⟩ = some (.slice Ab mb cb):=b1
   have zrW:wr.cell? ⟨bw,k * 3 + 2,none⟩ = some (.slice Db mdb cdb):=b2
   have L1:=hid (show 4 * (mw (el X k) + mw (el wv k)) + 8 ≤ LIM by have h1:=HXZ.out k hk;have h2:=HWZ.out k hk;have h3:=zyh HCAP.out;omega)
   have L2:=hid (show ∀ j,j < n → 4 * (mw (el wv j) + mw (el X k / el wv k)) + 8 ≤ LIM ∧ 4 * (mw (el X j) + mw (el wv j * (el X k / el wv k))) + 8 ≤ LIM from fun j hj => by have h1:=HXZ.out k hk;have h2:=HWZ.out k hk;have h3:=zyh HCAP.out;have h4:=zo5.div (el X k) (el wv k);have h5:=HXZ.out j hj;have h6:=HWZ.out j hj;have h7:=zdI (el wv j) (el X k / el wv k);omega)
   have HZ0:=hid (zuG (k:=k) (w:=wv) HXL.out)
   clear hv hB he hwl hpv hwz hxz hnx hxl hX hWv hqw hqx hRa hRb y0 y1 a0 a1 a2 b0 b1 b2
   have hi1:(0:Int) ≤ (t:Int):=Int.natCast_nonneg _
   have hi2:(t:Int) < (es.length:Int):=by omega
   have hi3:(0:Int) ≤ (k:Int):=Int.natCast_nonneg _
   have hi4:(k:Int) < (n:Int):=by omega
   have hbe:bx ≠ wr.heap.size:=by omega
   go_wp2_with fail
   have hb3z:=zae wr (.cells #[.int .i64 (k:Int), .slice (some ⟨bw,0,none⟩) n ce] 208)
   have zv0:=hid (HV.out.below hb3z)
   have zyR:=hid (HRa.out.below hb3z)
   have zyS:=hid (HRb.out.below hb3z)
   have zrZ:=hid (HW.out.below hb3z)
   have zdO:=zab hb3z zcX
   have x0_3d:=zaa zdO
   have zfd:=zab hb3z zdq
   have x1_3d:=zaa zfd
   have zgl:=zab hb3z zej
   have x2_3d:=zaa zgl
   have zg9:=zab hb3z zfa
   have x3_3d:=zaa zg9
   have zhb:=zab hb3z zgt
   have x4_3d:=zaa zhb
   have zje:=zab hb3z zhd
   have x5_3d:=zaa zje
   have zml:=zab hb3z zlC
   have x6_3d:=zaa zml
   have zmm:=zab hb3z zpi
   have x7_3d:=zaa zmm
   have zmn:=zab hb3z zrW
   have x8_3d:=zaa zmn
   have zpj:(wr.alloc (.cells #[.int .i64 (k:Int), .slice (some ⟨bw,0,none⟩) n ce] 208)).cell? ⟨wr.heap.size,0,none⟩ = some (.int .i64 (k:Int)):=zac (zal _ _ _) 0
   have x9_3d:=zaa zpj
   have znY:(wr.alloc (.cells #[.int .i64 (k:Int), .slice (some ⟨bw,0,none⟩) n ce] 208)).cell? ⟨wr.heap.size,1,none⟩ = some (.slice (some ⟨bw,0,none⟩) n ce):=zac (zal _ _ _) 1
   have x10_3d:=zaa znY
   have KE:=hid (zal wr #[.int .i64 (k:Int), .slice (some ⟨bw,0,none⟩) n ce] 208)
   go_cut [] (fun wy => VecS wy w.heap.size (.slice (some ⟨bx,0,none⟩) n c1) (zoA n k wv X 0) ∧ wy.heap[wr.heap.size]? = some (.cells #[.int .i64 (k:Int), .slice (some ⟨bw,0,none⟩) n ce] 208 (0,0)) ∧ Below w.heap.size w wy)
   case first =>
    refine za2 (S:=fun w' => w'.cell? ⟨q,0,none⟩ = some (.slice cA' n cc) ∧ w'.cell? ⟨be,t * 2,none⟩ = some (.int .i64 (k:Int)) ∧ w'.cell? ⟨be,t * 2 + 1,none⟩ = some (.slice (some ⟨bw,0,none⟩) n ce) ∧ w'.cell? ⟨bx,k * 3,none⟩ = some (.bool ga) ∧ w'.cell? ⟨bx,k * 3 + 1,none⟩ = some (.slice Aa ma ca) ∧ w'.cell? ⟨bx,k * 3 + 2,none⟩ = some (.slice Da mda cda) ∧ w'.cell? ⟨bw,k * 3,none⟩ = some (.bool gb) ∧ w'.cell? ⟨bw,k * 3 + 1,none⟩ = some (.slice Ab mb cb) ∧ w'.cell? ⟨bw,k * 3 + 2,none⟩ = some (.slice Db mdb cdb) ∧ w'.cell? ⟨wr.heap.size,0,none⟩ = some (.int .i64 (k:Int)) ∧ w'.cell? ⟨wr.heap.size,1,none⟩ = some (.slice (some ⟨bw,0,none⟩) n ce)) 19 (h:=fun hHeld => ?_)
    refine zaw [0,1,2,3,4,5,6,7,8,9,10,11,12,13] ?_
    repeat refine tkE (hS:=hHeld) (h:=?_)
    refine zao ?_
    refine zaN 14 (h:=fun K hK => ?_)
    go_simp
    (go_at_call 51;(with_reducible refine (Rt.div ga Aa ma ca Da mda cda (el X k) gb Ab mb cb Db mdb cdb (el wv k) _ zyR.out.drew zyS.out.drew HPV.out L1.out).mono ?_);rintro e u1 ⟨g2,A2,m2,c2,D2,md2,cd2,rfl,hn,hb⟩;have ziS:=hid (zv0.out.drew.below hb);have zhh:=hid (zrZ.out.drew.below hb);have HS:=hid (show RatS u1 g2 (.slice A2 m2 c2) (.slice D2 md2 cd2) (el X k / el wv k) from hn);have zd6:=zab hb x0_3d;have zfT:=zab hb x1_3d;have zgs:=zab hb x2_3d;have zha:=zab hb x3_3d;have zhc:=zab hb x4_3d;have zlB:=zab hb x5_3d;have zn0:=zab hb x6_3d;have zn1:=zab hb x7_3d;have zn3:=zab hb x8_3d;have zn4:=zab hb x9_3d;have ziQ:=zab hb x10_3d;have KE2:=hid (zad hb KE.out);have of0:=ziS.out.fro (k * 3);have of1:=ziS.out.fro (k * 3 + 1);have of2:=ziS.out.fro (k * 3 + 2);clear hn hb)
    (try go_wp2_with fail)
    refine hK.out _ _ kp fun hHeld => ?_
    clear hK K
    try simp only [Act.put,pu1,pu2,pu3,pu4,pu5,pu6]
    refine zaw [15,16] ?_
    repeat refine tkE (hS:=hHeld) (h:=?_)
    refine zao ?_
    refine zfQ (i:=17) (v:=?_) rfl (by kernel_rfl) (fun _ _ _ h => h) (Or.inl ⟨by rfl,?_⟩) ?_
    rotate_left
    ·((intro w hSw;(try dsimp only at hSw);go_simp);(try with_reducible rfl))
    try simp only [Act.put,pu1,pu2,pu3,pu4,pu5,pu6]
    refine zaw [18] ?_
    repeat refine tkE (hS:=hHeld) (h:=?_)
    refine zao ?_
    refine zba (h:=fun K hK => ?_)
    go_simp
    refine hK.out _ _ ?_
    clear hK K
    try simp only [Act.put,pu1,pu2,pu3,pu4,pu5,pu6]
    refine za1 (h:=?_)
    go_wp2
    go_meet
    case rel => exact ⟨by rw [← HZ0.out];exact ziS.out.store k HS.out,zpB KE2.out (Ne.symm hbe) _ _ _,(Bel.set3 zhh.out hbx0 _ _ _).b⟩
   case rest =>
    rename World => wy
    obtain ⟨hv,hke,hB⟩:=hcut
    have HVY:=hid hv
    have HKE:=hid hke
    have HBY:=hid hB
    clear hv hke hB
    go_wp2
    go_loopw [52] (fun i wr' => ∃ j:Nat,i = .int .i64 j ∧ j ≤ n ∧ VecS wr' w.heap.size (.slice (some ⟨bx,0,none⟩) n c1) (zoA n k wv X j) ∧ wr'.heap[wr.heap.size]? = some (.cells #[.int .i64 (k:Int), .slice (some ⟨bw,0,none⟩) n ce] 208 (0,0)) ∧ Below w.heap.size w wr')
     (fun i _ => n - (intOf i).toNat)
    case atStart => exact ⟨0,rfl,Nat.zero_le _,HVY.out,HKE.out,HBY.out⟩
    case round =>
     rename World => wz
     obtain ⟨j,rfl,hj,hv,hke,hB⟩:=hrel
     by_cases hjn:j < n
     ·have hWv:=HWV0.out.below hB
      have hqj:=zaH (xs:=wv) (j:=j) (by have:=HWL.out;omega)
      have hxj:(zoA n k wv X j)[j]? = some (if j = k then el X k / el wv k else if j < j then el X j - el wv j * (el X k / el wv k) else el X j):=zkJ hjn
      have hxk:(zoA n k wv X j)[k]? = some (if k = k then el X k / el wv k else if k < j then el X k - el wv k * (el X k / el wv k) else el X k):=zkJ hk
      rw [if_pos rfl] at hxk
      have e0:=zac hke 0
      have e1:=zac hke 1
      simp only [List.getElem?_toArray,List.getElem?_cons_zero,List.getElem?_cons_succ] at e0 e1
      have hj1:(0:Int) ≤ (j:Int):=Int.natCast_nonneg _
      have hj2:(j:Int) < (n:Int):=by omega
      by_cases hjk:j = k
      ·obtain rfl:k = j:=hjk.symm
       have HVz:=hid hv
       have HKz:=hid hke
       have HBz:=hid hB
       clear hv hke hB hxj hxk hqj hWv
       go_wp2
       go_roundw
       case rel => exact ⟨k + 1,by go_num,by omega,by rw [← zuF];exact HVz.out,HKz.out,HBz.out⟩
       case measure => simp [intOf];omega
      ·rw [if_neg hjk,if_neg (Nat.lt_irrefl j)] at hxj
       obtain ⟨gj,Aj,mj,cj,Dj,mdj,cdj,p0,p1,p2,hRj⟩:=hv.at_ hxj
       obtain ⟨gk,Ak,mk,ck,Dk,mdk,cdk,r0,r1,r2,hRk⟩:=hv.at_ hxk
       obtain ⟨gv,Av,mv,cv,Dv,mdv,cdv,s0,s1,s2,hRv⟩:=hWv.at_ hqj
       have HSET:=hid (zwI (n:=n) (k:=k) (w:=wv) (x:=X) hjk hjn)
       have HL2:=hid (L2.out j hjn)
       have hne2:((j:Int) == (k:Int)) = false:=by simp;omega
       have HV:=hid (show VecS wz w.heap.size (.slice (some ⟨bx,0,none⟩) n c1) (zoA n k wv X j) from hv)
       have HRj:=hid (show RatS wz gj (.slice Aj mj cj) (.slice Dj mdj cdj) (el X j) from hRj)
       have HRk:=hid (show RatS wz gk (.slice Ak mk ck) (.slice Dk mdk cdk) (el X k / el wv k) from hRk)
       have HRv:=hid (show RatS wz gv (.slice Av mv cv) (.slice Dv mdv cdv) (el wv j) from hRv)
       have HW:=hid (show Bel w wz from Bel.mk hB)
       have znX:wz.cell? ⟨wr.heap.size,0,none⟩ = some (.int .i64 (k:Int)):=e0
       have x0_51d:=zaa znX
       have znZ:wz.cell? ⟨wr.heap.size,1,none⟩ = some (.slice (some ⟨bw,0,none⟩) n ce):=e1
       have x1_51d:=zaa znZ
       have zvI:wz.cell? ⟨bx,j * 3,none⟩ = some (.bool gj):=p0
       have x2_51d:=zaa zvI
       have zvJ:wz.cell? ⟨bx,j * 3 + 1,none⟩ = some (.slice Aj mj cj):=p1
       have x3_51d:=zaa zvJ
       have zvK:wz.cell? ⟨bx,j * 3 + 2,none⟩ = some (.slice Dj mdj cdj):=p2
       have x4_51d:=zaa zvK
       have zvL:wz.cell? ⟨bx,k * 3,none⟩ = some (.bool gk):=r0
       have x5_51d:=zaa zvL
       have zvM:wz.cell? ⟨bx,k * 3 + 1,none⟩ = some (.slice Ak mk ck):=r1
       have x6_51d:=zaa zvM
       have zvN:wz.cell? ⟨bx,k * 3 + 2,none⟩ = some (.slice Dk mdk cdk):=r2
       have x7_51d:=zaa zvN
       have zBL:wz.cell? ⟨bw,j * 3,none⟩ = some (.bool gv):=s0
       have x8_51d:=zaa zBL
       have zBQ:wz.cell? ⟨bw,j * 3 + 1,none⟩ = some (.slice Av mv cv):=s1
       have x9_51d:=zaa zBQ
       have zvE:wz.cell? ⟨bw,j * 3 + 2,none⟩ = some (.slice Dv mdv cdv):=s2
       have x10_51d:=zaa zvE
       have HKz:=hid hke
       clear hv hke hB hxj hxk hqj hWv hRj hRk hRv e0 e1 p0 p1 p2 r0 r1 r2 s0 s1 s2 hjk
       go_wp2_with fail
       refine za2 (S:=fun w' => w'.cell? ⟨wr.heap.size,0,none⟩ = some (.int .i64 (k:Int)) ∧ w'.cell? ⟨wr.heap.size,1,none⟩ = some (.slice (some ⟨bw,0,none⟩) n ce) ∧ w'.cell? ⟨bx,j * 3,none⟩ = some (.bool gj) ∧ w'.cell? ⟨bx,j * 3 + 1,none⟩ = some (.slice Aj mj cj) ∧ w'.cell? ⟨bx,j * 3 + 2,none⟩ = some (.slice Dj mdj cdj) ∧ w'.cell? ⟨bx,k * 3,none⟩ = some (.bool gk) ∧ w'.cell? ⟨bx,k * 3 + 1,none⟩ = some (.slice Ak mk ck) ∧ w'.cell? ⟨bx,k * 3 + 2,none⟩ = some (.slice Dk mdk cdk) ∧ w'.cell? ⟨bw,j * 3,none⟩ = some (.bool gv) ∧ w'.cell? ⟨bw,j * 3 + 1,none⟩ = some (.slice Av mv cv) ∧ w'.cell? ⟨bw,j * 3 + 2,none⟩ = some (.slice Dv mdv cdv)) 19 (h:=fun hHeld => ?_)
       refine zaw [0,1,2,3,4,5,6,7,8,9,10,11,12,13,14,15] ?_
       repeat refine tkE (hS:=hHeld) (h:=?_)
       refine zao ?_
       refine zaN 16 (h:=fun K hK => ?_)
       go_simp
       (go_at_call 14;(with_reducible refine (Rt.mul gv Av mv cv Dv mdv cdv (el wv j) gk Ak mk ck Dk mdk cdk (el X k / el wv k) _ HRv.out.drew HRk.out.drew HL2.out.1).mono ?_);rintro e u1 ⟨g1,A1,m1,c1_,D1,md1,cd1,rfl,hn,hb⟩;have zob:=hid (HV.out.drew.below hb);have zB9:=hid (HRj.out.drew.below hb);have zsN:=hid (HW.out.drew.below hb);have HM:=hid (show RatS u1 g1 (.slice A1 m1 c1_) (.slice D1 md1 cd1) (el wv j * (el X k / el wv k)) from hn);have zqK:=zab hb x0_51d;have zqT:=zab hb x1_51d;have zqU:=zab hb x2_51d;have zqV:=zab hb x3_51d;have zqW:=zab hb x4_51d;have zqX:=zab hb x5_51d;have zqY:=zab hb x6_51d;have zqZ:=zab hb x7_51d;have zvO:=zab hb x8_51d;have zvP:=zab hb x9_51d;have zpg:=zab hb x10_51d;have KZ1:=hid (zad hb (show wz.drew.heap[wr.heap.size]? = _ from HKz.out));clear hn hb)
       (try go_wp2_with fail)
       refine hK.out _ _ kp fun hHeld => ?_
       clear hK K
       try simp only [Act.put,pu1,pu2,pu3,pu4,pu5,pu6]
       refine zaN 17 (h:=fun K hK => ?_)
       go_simp
       (go_at_call 131;(with_reducible refine (Rt.sub gj Aj mj cj Dj mdj cdj (el X j) g1 A1 m1 c1_ D1 md1 cd1 (el wv j * (el X k / el wv k)) _ zB9.out HM.out HL2.out.2).mono ?_);rintro e u2 ⟨g2,A2,m2,c2,D2,md2,cd2,rfl,hn,hb⟩;have zmv:=hid (zob.out.below hb);have zy7:=hid (zsN.out.below hb);have HS:=hid (show RatS u2 g2 (.slice A2 m2 c2) (.slice D2 md2 cd2) (el X j - el wv j * (el X k / el wv k)) from hn);have zBt:=zab hb zqK;have zBu:=zab hb zqT;have zBw:=zab hb zqU;have zBy:=zab hb zqV;have zBA:=zab hb zqW;have zBC:=zab hb zqX;have zBE:=zab hb zqY;have zBH:=zab hb zqZ;have zBM:=zab hb zvO;have zBR:=zab hb zvP;have zvF:=zab hb zpg;have KZ2:=hid (zad hb KZ1.out);have of0:=zmv.out.fro (j * 3);have of1:=zmv.out.fro (j * 3 + 1);have of2:=zmv.out.fro (j * 3 + 2);clear hn hb)
       (try go_wp2_with fail)
       refine hK.out _ _ kp fun hHeld => ?_
       clear hK K
       try simp only [Act.put,pu1,pu2,pu3,pu4,pu5,pu6]
       refine zaw [18] ?_
       repeat refine tkE (hS:=hHeld) (h:=?_)
       refine zao ?_
       refine zba (h:=fun K hK => ?_)
       go_simp
       refine hK.out _ _ ?_
       clear hK K
       try simp only [Act.put,pu1,pu2,pu3,pu4,pu5,pu6]
       refine za1 (h:=?_)
       go_wp2
       go_roundw
       case rel => exact ⟨j + 1,by go_num,by omega,by rw [← HSET.out];exact zmv.out.store j HS.out,zpB KZ2.out (Ne.symm hbe) _ _ _,(Bel.set3 zy7.out hbx0 _ _ _).b⟩
       case measure => simp [intOf];omega
     ·obtain rfl:n = j:=by omega
      have HVz:=hid hv
      have HBz:=hid hB
      clear hv hke hB
      go_wp2
      go_roundw
      case rel => exact ⟨t + 1,by go_num,by omega,by rw [HNX.out, ← zuE];exact HVz.out,HBz.out⟩
      case measure => simp [intOf];omega
  ·obtain rfl:es.length = t:=by omega
   have HVz:=hid hv
   have HBz:=hid hB
   clear hv hB
   go_wp2
   refine bodyPost_ret (v := .tuple #[.slice B n c1, .bool true]) (by simp [results,Tryz.results79,go_sem]) rfl ?_
   exact ⟨_,_,_,rfl,by have h:=HVz.out;rw [List.take_length,HSOL.out] at h;exact h,HBz.out⟩
end Bs
end Go.Proofs.YtdbgbaiekpbaoaaGreatDoor
