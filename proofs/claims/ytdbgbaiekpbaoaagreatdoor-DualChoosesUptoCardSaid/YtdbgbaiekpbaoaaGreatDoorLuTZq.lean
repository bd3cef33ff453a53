/- lu.SolveT by its contract. Conditions: as it says. -/
import Derived.Test.YtdbgbaiekpbaoaaGreatDoorMat2Zq
import Derived.Test.YtdbgbaiekpbaoaaGreatDoorEtaZq
import Derived.Test.YtdbgbaiekpbaoaaGreatDoorBasMemZq
import Derived.Test.YtdbgbaiekpbaoaaGreatDoorFrameZq
set_option linter.all false
namespace Go.Proofs.YtdbgbaiekpbaoaaGreatDoor
open Go.RowKit Am
open Lib (hid)
attribute [local go_sem ↓] Go.wp_at_zero Go.wp_at_succ
set_option maxHeartbeats 8000000
set_option maxRecDepth 100000
namespace Lu
theorem solveT (H q n u s:Nat) (F:LUv) (A:Option Addr) (cA:Nat) (b:List Rat) (H':Nat) (w:World) (hF:LuS w H q n F) (hb:VecS w H' (.slice A n cA) b) (hn:n ≤ 64) (hp:∀ i,i < n → F.perm.getD i 0 < n) (hz:LUsz mw n u F) (hd:∀ i,i < n → en F.up i i ≠ 0) (zb:∀ q ∈ b,mw q ≤ s) (hL:4 * (4 * xB n u s + u + 1) + 8 ≤ LIM) :
  Calls Tryz.prog 134 #[.pointer (some ⟨q,0,none⟩), .slice A n cA] w (zcd w (zcq n F b) true):=by
 obtain ⟨lA,lc,ll,uA,uc,ul,pA,pc,hblk,hlo,_,hup,_,_,hpm⟩:=hF.ex
 have HSQ:=hid hF.sq
 have HN:=hid hn
 have HP:=hid hp
 have HD:=hid hd
 have HBL:=hid hb.len
 have HLIM:=hid hL
 have hbz:∀ i,i < n → mw (el b i) ≤ s:=fun i hi => zb _ (List.mem_of_getElem? (zaH (by rw [← hb.len];exact hi)))
 have HFW:=hid (fun i (hi:i < n) => zAT zo5 hz hbz hi)
 have HSV:=hid (fun i (hi:i < n) => zJL zo5 hz hbz hi)
 have HZ0:=hid hz
 have hnb:n ≤ 9223372036854775807:=by omega
 have k0:w.cell? ⟨q,0,none⟩ = some (.slice lA n lc):=zac hblk 0
 have k1:w.cell? ⟨q,1,none⟩ = some (.slice uA n uc):=zac hblk 1
 have k2:w.cell? ⟨q,2,none⟩ = some (.slice pA n pc):=zac hblk 2
 have KQ:=hid hblk
 have HLO:=hid hlo
 have HUP:=hid hup
 have HPM:=hid hpm
 have HB:=hid hb
 clear hF hlo hup hpm hb hn hp hz hd zb hL hbz hblk
 go_enter Tryz.func134,Tryz.ntmps134
 go_wp2_with fail
 refine (Vc.copy A n cA b H' _ HB.out (by have:=HN.out;omega)).mono ?_
 rintro e w1 ⟨Az,cz,rfl,hv,hb1⟩
 have HO:=hid hv
 have HB1:=hid hb1
 have q0:=zab hb1 k0
 have q1:=zab hb1 k1
 have q2:=zab hb1 k2
 clear hv hb1
 go_wp2
 have BB:=hid (Below.refl w.heap.size w)
 have hqw:=(Array.getElem?_eq_some_iff.1 KQ.out).1
 go_loopw [26] (fun i wr => ∃ k:Nat,i = .int .i64 k ∧ k ≤ n ∧ VecS wr w.heap.size (.slice Az n cz) (ftO F b k) ∧ Below w.heap.size w wr)
  (fun i _ => n - (intOf i).toNat)
 case atStart => exact ⟨0,rfl,Nat.zero_le _,by rw [zxa];exact HO.out,HB1.out⟩
 case round =>
  obtain ⟨k,rfl,hk,hv,hB⟩:=hrel
  by_cases hlt:k < n
  ·obtain ⟨bz,rfl,hbz0,_⟩:=hv.has (by omega)
   have HV:=hid hv
   have HW0:=hid hB
   have hbl:k < b.length:=by rw [← HBL.out];exact hlt
   have HZ1:=hid (zw9 F hbl)
   clear hv hbl
   have zvU:=hid (HLO.out.below hB)
   have zvZ:=hid (HUP.out.below hB)
   have zrX:=hid (HPM.out.below hB)
   have zaQ:=hid (BB.out.trans ((hB).mono BB.out.size))
   have zbJ:=zab hB k0
   have x0_1d:=zaa zbJ
   have zbY:=zab hB k1
   have x1_1d:=zaa zbY
   have zcb:=zab hB k2
   have x2_1d:=zaa zcb
   clear hB
   have hi1:(0:Int) ≤ (k:Int):=Int.natCast_nonneg _
   have hi2:(k:Int) < (n:Int):=by omega
   go_wp2
   go_loopw [30] (fun i wr => ∃ j:Nat,i = .int .i64 j ∧ j ≤ k ∧ VecS wr w.heap.size (.slice (some ⟨bz,0,none⟩) n cz) (ftI F b k j) ∧ Below w.heap.size w wr)
    (fun i _ => k - (intOf i).toNat)
   case atStart => exact ⟨0,rfl,Nat.zero_le _,by rw [HZ1.out];exact HV.out,HW0.out⟩
   case round =>
    rename World => wz
    obtain ⟨j,rfl,hj,hv,hB⟩:=hrel
    have hjn:j < n:=by omega
    have hrk:F.up[j]? = some (F.up.getD j []):=zaO (by rw [HSQ.out.ul];exact hjn)
    have hrl:=HSQ.out.ur j hjn
    have hen:en F.up j k = el (F.up.getD j []) k:=rfl
    generalize F.up.getD j [] = rw_ at hrk hrl hen
    have hcl:=zaH (xs:=rw_) (j:=k) (by omega)
    rw [← hen] at hcl
    obtain ⟨bL,rfl,_,_⟩:=HUP.out.has (by omega)
    obtain ⟨Ar,cr,hlk,r0,hVr⟩:=(HUP.out.below hB).at_ hrk
    rw [hrl] at r0 hVr hlk
    obtain ⟨br,rfl,_,_⟩:=hVr.has (by omega)
    have hbr:=(HUP.out.lt (List.mem_of_getElem? hlk) rfl).2
    clear hlk
    obtain ⟨gl,Al,ml,cl,Dl,mdl,cdl,y0,y1,y2,hRl⟩:=hVr.at_ hcl
    obtain ⟨gk,Ak,mk,ck,Dk,mdk,cdk,o0,o1,o2,hRk⟩:=hv.at_ (zAJ F b k j)
    have of0:=hv.fro (k * 3)
    have of1:=hv.fro (k * 3 + 1)
    have of2:=hv.fro (k * 3 + 2)
    have hf2:mw (ftP F b k j) ≤ 2 * xB n u s:=by unfold ftP;rw [zaj fun i hi => by rw [← znE F b (i:=i) (j:=k) (k:=n) (by omega) (by omega)]];exact (HFW.out k hlt).2 j hj
    have hl1:=HZ0.out.up j hjn k hlt
    have hi3:(0:Int) ≤ (k:Int):=Int.natCast_nonneg _
    have hi4:(k:Int) < (n:Int):=by omega
    have hi5:(0:Int) ≤ (j:Int):=Int.natCast_nonneg _
    have hi6:(j:Int) < (n:Int):=by omega
    by_cases hck:j < k
    ·obtain ⟨gc,Ac,mc,cc,Dc,mdc,cdc,z0,z1,z2,hRc⟩:=hv.at_ (zAK F b (j:=j) hck)
     have zjF:=hid (HLO.out.below hB)
     have zjJ:=hid (HUP.out.below hB)
     have zjG:=hid (HPM.out.below hB)
     have HQl:=hid (show RatS wz gl (.slice Al ml cl) (.slice Dl mdl cdl) (en F.up j k) from hRl)
     have HQk:=hid (show RatS wz gk (.slice Ak mk ck) (.slice Dk mdk cdk) (ftP F b k j) from hRk)
     have HV:=hid (show VecS wz w.heap.size (.slice (some ⟨bz,0,none⟩) n cz) (ftI F b k j) from hv)
     have HW:=hid (show Bel w wz from Bel.mk hB)
     have HQc:=hid (show RatS wz gc (.slice Ac mc cc) (.slice Dc mdc cdc) (el (zbX F b k) j) from hRc)
     have zcc:=hid (BB.out.trans ((hB).mono BB.out.size))
     have zdO:=zab hB k0
     have x0_3d:=zaa zdO
     have zfd:=zab hB k1
     have x1_3d:=zaa zfd
     have zgl:=zab hB k2
     have x2_3d:=zaa zgl
     have zg9:wz.cell? ⟨bL,j,none⟩ = some (.slice (some ⟨br,0,none⟩) n cr):=r0
     have x3_3d:=zaa zg9
     have zhb:wz.cell? ⟨br,k * 3,none⟩ = some (.bool gl):=y0
     have x4_3d:=zaa zhb
     have zje:wz.cell? ⟨br,k * 3 + 1,none⟩ = some (.slice Al ml cl):=y1
     have x5_3d:=zaa zje
     have zml:wz.cell? ⟨br,k * 3 + 2,none⟩ = some (.slice Dl mdl cdl):=y2
     have x6_3d:=zaa zml
     have zmm:wz.cell? ⟨bz,j * 3,none⟩ = some (.bool gc):=z0
     have x7_3d:=zaa zmm
     have zmn:wz.cell? ⟨bz,j * 3 + 1,none⟩ = some (.slice Ac mc cc):=z1
     have x8_3d:=zaa zmn
     have zpj:wz.cell? ⟨bz,j * 3 + 2,none⟩ = some (.slice Dc mdc cdc):=z2
     have x9_3d:=zaa zpj
     have znY:wz.cell? ⟨bz,k * 3,none⟩ = some (.bool gk):=o0
     have x10_3d:=zaa znY
     have zqP:wz.cell? ⟨bz,k * 3 + 1,none⟩ = some (.slice Ak mk ck):=o1
     have x11_3d:=zaa zqP
     have zqR:wz.cell? ⟨bz,k * 3 + 2,none⟩ = some (.slice Dk mdk cdk):=o2
     have x12_3d:=zaa zqR
     have HST2:=hid (zAL F b k j)
     have hf1:=(HFW.out j hjn).1
     rw [znE F b (i:=j) (j:=k) (k:=n) hck (by omega)] at hf1
     have L1:=hid (show 4 * (mw (en F.up j k) + mw (el (zbX F b k) j)) + 8 ≤ LIM by have:=HLIM.out;omega)
     have L2:=hid (show 4 * (mw (ftP F b k j) + mw (en F.up j k * el (zbX F b k) j)) + 8 ≤ LIM by have:=HLIM.out;have:=zdI (en F.up j k) (el (zbX F b k) j);omega)
     clear hv hB hrk hrl hen hcl hVr hRl hRc hRk hf1 hf2 hl1 r0 y0 y1 y2 z0 z1 z2
     go_wp2_with fail
     refine za2 (S:=fun w' => w'.cell? ⟨q,0,none⟩ = some (.slice lA n lc) ∧ w'.cell? ⟨q,1,none⟩ = some (.slice (some ⟨bL,0,none⟩) n uc) ∧ w'.cell? ⟨q,2,none⟩ = some (.slice pA n pc) ∧ w'.cell? ⟨bL,j,none⟩ = some (.slice (some ⟨br,0,none⟩) n cr) ∧ w'.cell? ⟨br,k * 3,none⟩ = some (.bool gl) ∧ w'.cell? ⟨br,k * 3 + 1,none⟩ = some (.slice Al ml cl) ∧ w'.cell? ⟨br,k * 3 + 2,none⟩ = some (.slice Dl mdl cdl) ∧ w'.cell? ⟨bz,j * 3,none⟩ = some (.bool gc) ∧ w'.cell? ⟨bz,j * 3 + 1,none⟩ = some (.slice Ac mc cc) ∧ w'.cell? ⟨bz,j * 3 + 2,none⟩ = some (.slice Dc mdc cdc) ∧ w'.cell? ⟨bz,k * 3,none⟩ = some (.bool gk) ∧ w'.cell? ⟨bz,k * 3 + 1,none⟩ = some (.slice Ak mk ck) ∧ w'.cell? ⟨bz,k * 3 + 2,none⟩ = some (.slice Dk mdk cdk)) 23 (by kernel_rfl) ?_ (fun hHeld => ?_)
     ·((try go_split_ands);(try simp only [World.cell?_drew]);with_reducible repeat' first | assumption | apply And.intro | refine zah (by omega) ?_ | refine zaf ?_)
     refine zaw [0,1,2,3,4,5,6,7,8,9,10,11,12,13,14,15,16,17,18,19] ?_
     repeat (refine tkE (v:=?_) rfl (by kernel_rfl) (fun _ _ _ h => h) (by rfl) ?_ hHeld ?_;rotate_left;(focus ((intro w hSw;(try dsimp only at hSw);go_simp);(try with_reducible rfl)));try simp only [Act.put,pu1,pu2,pu3,pu4,pu5,pu6])
     refine zao ?_
     refine zaN (i:=20) rfl (by kernel_rfl) (fun K hK => ?_)
     go_simp
     (go_at_call 14;(with_reducible refine (Rt.mul gl Al ml cl Dl mdl cdl (en F.up j k) gc Ac mc cc Dc mdc cdc (el (zbX F b k) j) _ HQl.out.drew HQc.out.drew L1.out).mono ?_);rintro e u1 ⟨g1,A1,m1,c1,D1,md1,cd1,rfl,hn,hb⟩;have zmr:=hid (zjF.out.drew.below hb);have zmu:=hid (zjJ.out.drew.below hb);have zms:=hid (zjG.out.drew.below hb);have zmt:=hid (HQl.out.drew.below hb);have zie:=hid (HQk.out.drew.below hb);have ziS:=hid (HV.out.drew.below hb);have zhh:=hid (HW.out.drew.below hb);have zpk:=hid (HQc.out.drew.below hb);have HM:=hid (show RatS u1 g1 (.slice A1 m1 c1) (.slice D1 md1 cd1) (en F.up j k * el (zbX F b k) j) from hn);have zdf:=hid (zcc.out.trans ((It.bdrew0' hb).mono zcc.out.size));have zd6:=zab hb x0_3d;have x0_4d:=zaa zd6;have zfT:=zab hb x1_3d;have x1_4d:=zaa zfT;have zgs:=zab hb x2_3d;have x2_4d:=zaa zgs;have zha:=zab hb x3_3d;have x3_4d:=zaa zha;have zhc:=zab hb x4_3d;have x4_4d:=zaa zhc;have zlB:=zab hb x5_3d;have x5_4d:=zaa zlB;have zn0:=zab hb x6_3d;have x6_4d:=zaa zn0;have zn1:=zab hb x7_3d;have x7_4d:=zaa zn1;have zn3:=zab hb x8_3d;have x8_4d:=zaa zn3;have zn4:=zab hb x9_3d;have x9_4d:=zaa zn4;have ziQ:=zab hb x10_3d;have x10_4d:=zaa ziQ;have zls:=zab hb x11_3d;have x11_4d:=zaa zls;have zlt:=zab hb x12_3d;have x12_4d:=zaa zlt;clear hn hb)
     (try go_wp2_with fail)
     refine hK.out _ _ ?_ (fun hHeld => ?_)
     ·((try go_split_ands);(try simp only [World.cell?_drew]);with_reducible repeat' first | assumption | apply And.intro | refine zah (by omega) ?_ | refine zaf ?_)
     clear hK K
     try simp only [Act.put,pu1,pu2,pu3,pu4,pu5,pu6]
     refine zaN (i:=21) rfl (by kernel_rfl) (fun K hK => ?_)
     go_simp
     (go_at_call 131;(with_reducible refine (Rt.sub gk Ak mk ck Dk mdk cdk (ftP F b k j) g1 A1 m1 c1 D1 md1 cd1 (en F.up j k * el (zbX F b k) j) _ zie.out HM.out L2.out).mono ?_);rintro e u2 ⟨g2,A2,m2,c2,D2,md2,cd2,rfl,hn,hb⟩;have zyH:=hid (zmr.out.below hb);have zyV:=hid (zmu.out.below hb);have zyI:=hid (zms.out.below hb);have zyO:=hid (zmt.out.below hb);have zyN:=hid (zie.out.below hb);have zlx:=hid (ziS.out.below hb);have zsB:=hid (zhh.out.below hb);have zyM:=hid (zpk.out.below hb);have zB2:=hid (HM.out.below hb);have HS:=hid (show RatS u2 g2 (.slice A2 m2 c2) (.slice D2 md2 cd2) (ftP F b k j - en F.up j k * el (zbX F b k) j) from hn);have ze3:=hid (zdf.out.trans ((hb).mono zdf.out.size));have zid:=zab hb zd6;have x0_5d:=zaa zid;have zlu:=zab hb zfT;have x1_5d:=zaa zlu;have zmh:=zab hb zgs;have x2_5d:=zaa zmh;have zmi:=zab hb zha;have x3_5d:=zaa zmi;have zmj:=zab hb zhc;have x4_5d:=zaa zmj;have zmk:=zab hb zlB;have x5_5d:=zaa zmk;have zvT:=zab hb zn0;have x6_5d:=zaa zvT;have zBG:=zab hb zn1;have x7_5d:=zaa zBG;have zBK:=zab hb zn3;have x8_5d:=zaa zBK;have zBP:=zab hb zn4;have x9_5d:=zaa zBP;have zqM:=zab hb ziQ;have x10_5d:=zaa zqM;have zqQ:=zab hb zls;have x11_5d:=zaa zqQ;have zqS:=zab hb zlt;have x12_5d:=zaa zqS;have of0:=zlx.out.fro (k * 3);have of1:=zlx.out.fro (k * 3 + 1);have of2:=zlx.out.fro (k * 3 + 2);clear hn hb)
     (try go_wp2_with fail)
     refine hK.out _ _ ?_ (fun hHeld => ?_)
     ·((try go_split_ands);(try simp only [World.cell?_drew]);with_reducible repeat' first | assumption | apply And.intro | refine zah (by omega) ?_ | refine zaf ?_)
     clear hK K
     try simp only [Act.put,pu1,pu2,pu3,pu4,pu5,pu6]
     refine zaw [22] ?_
     repeat (refine tkE (v:=?_) rfl (by kernel_rfl) (fun _ _ _ h => h) (by rfl) ?_ hHeld ?_;rotate_left;(focus ((intro w hSw;(try dsimp only at hSw);go_simp);(try with_reducible rfl)));try simp only [Act.put,pu1,pu2,pu3,pu4,pu5,pu6])
     refine zao ?_
     refine zba rfl (by kernel_rfl) (fun K hK => ?_)
     go_simp
     refine hK.out _ _ ?_
     clear hK K
     try simp only [Act.put,pu1,pu2,pu3,pu4,pu5,pu6]
     refine za1 (by kernel_rfl) ?_ _
     go_wp2
     go_roundw
     case rel => exact ⟨j + 1,by go_num,by omega,by rw [← HST2.out];exact zlx.out.store k HS.out,(Bel.set3 zsB.out hbz0 _ _ _).b⟩
     case measure => simp [intOf];omega
    ·obtain rfl:k = j:=by omega
     have zjF:=hid (HLO.out.below hB)
     have zjJ:=hid (HUP.out.below hB)
     have zjG:=hid (HPM.out.below hB)
     have HQl:=hid (show RatS wz gl (.slice Al ml cl) (.slice Dl mdl cdl) (en F.up k k) from hRl)
     have HQk:=hid (show RatS wz gk (.slice Ak mk ck) (.slice Dk mdk cdk) (ftP F b k k) from hRk)
     have HV:=hid (show VecS wz w.heap.size (.slice (some ⟨bz,0,none⟩) n cz) (ftI F b k k) from hv)
     have HW:=hid (show Bel w wz from Bel.mk hB)
     have zcc:=hid (BB.out.trans ((hB).mono BB.out.size))
     have zdO:=zab hB k0
     have x0_3d:=zaa zdO
     have zfd:=zab hB k1
     have x1_3d:=zaa zfd
     have zgl:=zab hB k2
     have x2_3d:=zaa zgl
     have zg9:wz.cell? ⟨bL,k,none⟩ = some (.slice (some ⟨br,0,none⟩) n cr):=r0
     have x3_3d:=zaa zg9
     have zhb:wz.cell? ⟨br,k * 3,none⟩ = some (.bool gl):=y0
     have x4_3d:=zaa zhb
     have zje:wz.cell? ⟨br,k * 3 + 1,none⟩ = some (.slice Al ml cl):=y1
     have x5_3d:=zaa zje
     have zml:wz.cell? ⟨br,k * 3 + 2,none⟩ = some (.slice Dl mdl cdl):=y2
     have x6_3d:=zaa zml
     have zmm:wz.cell? ⟨bz,k * 3,none⟩ = some (.bool gk):=o0
     have x7_3d:=zaa zmm
     have zmn:wz.cell? ⟨bz,k * 3 + 1,none⟩ = some (.slice Ak mk ck):=o1
     have x8_3d:=zaa zmn
     have zpj:wz.cell? ⟨bz,k * 3 + 2,none⟩ = some (.slice Dk mdk cdk):=o2
     have x9_3d:=zaa zpj
     have HST3:=hid (zAI F b k)
     have HDK:=hid (HD.out k hlt)
     have L1:=hid (show 4 * (mw (ftP F b k k) + mw (en F.up k k)) + 8 ≤ LIM by have:=HLIM.out;omega)
     clear hv hB hrk hrl hen hcl hVr hRl hRk hf2 hl1 r0 y0 y1 y2
     go_wp2_with fail
     refine wp_region_held_drew (S:=fun w' => w'.cell? ⟨q,0,none⟩ = some (.slice lA n lc) ∧ w'.cell? ⟨q,1,none⟩ = some (.slice (some ⟨bL,0,none⟩) n uc) ∧ w'.cell? ⟨q,2,none⟩ = some (.slice pA n pc) ∧ w'.cell? ⟨bL,k,none⟩ = some (.slice (some ⟨br,0,none⟩) n cr) ∧ w'.cell? ⟨br,k * 3,none⟩ = some (.bool gl) ∧ w'.cell? ⟨br,k * 3 + 1,none⟩ = some (.slice Al ml cl) ∧ w'.cell? ⟨br,k * 3 + 2,none⟩ = some (.slice Dl mdl cdl)) (by kernel_rfl) ?_ (fun hHeld => ?_)
     ·((try go_split_ands);(try simp only [World.cell?_drew]);with_reducible repeat' first | assumption | apply And.intro | refine zah (by omega) ?_ | refine zaf ?_)
     refine zaw [0,1,2,3,4,6,7,8,9,10,11,12,13,14,15] ?_
     repeat (refine tkH (v:=?_) rfl (by kernel_rfl) (fun _ _ _ h => h) (by rfl) ?_ hHeld ?_;rotate_left;(focus ((intro w hSw;(try dsimp only at hSw);go_simp);(try with_reducible rfl)));try simp only [Act.put,pu1,pu2,pu3,pu4,pu5,pu6])
     refine zao ?_
     refine wpAnyH_ready (rs:=[5]) (by kernel_rfl) (by simp) ?_
     refine AllReadyH.cons rfl (fun K hK => ?_) AllReadyH.nil
     go_simp
     skip
     (try go_wp2_with fail)
     refine hK.out _ _ ?_ (fun hHeld => ?_)
     ·((try go_split_ands);(try simp only [World.cell?_drew]);with_reducible repeat' first | assumption | apply And.intro | refine zah (by omega) ?_ | refine zaf ?_)
     clear hK K
     try simp only [Act.put,pu1,pu2,pu3,pu4,pu5,pu6]
     refine wpAnyH_ready (rs:=[16]) (by kernel_rfl) (by simp) ?_
     refine AllReadyH.cons rfl (fun K hK => ?_) AllReadyH.nil
     go_simp
     (go_at_call 51;(with_reducible refine (Rt.div gk Ak mk ck Dk mdk cdk (ftP F b k k) gl Al ml cl Dl mdl cdl (en F.up k k) _ HQk.out.drew HQl.out.drew HDK.out L1.out).mono ?_);rintro e u1 ⟨g2,A2,m2,c2,D2,md2,cd2,rfl,hn,hb⟩;have zmr:=hid (zjF.out.drew.below hb);have zmu:=hid (zjJ.out.drew.below hb);have zms:=hid (zjG.out.drew.below hb);have zmt:=hid (HQl.out.drew.below hb);have zie:=hid (HQk.out.drew.below hb);have ziS:=hid (HV.out.drew.below hb);have zhh:=hid (HW.out.drew.below hb);have HS:=hid (show RatS u1 g2 (.slice A2 m2 c2) (.slice D2 md2 cd2) (ftP F b k k / en F.up k k) from hn);have zdf:=hid (zcc.out.trans ((It.bdrew0' hb).mono zcc.out.size));have zd6:=zab hb x0_3d;have x0_4d:=zaa zd6;have zfT:=zab hb x1_3d;have x1_4d:=zaa zfT;have zgs:=zab hb x2_3d;have x2_4d:=zaa zgs;have zha:=zab hb x3_3d;have x3_4d:=zaa zha;have zhc:=zab hb x4_3d;have x4_4d:=zaa zhc;have zlB:=zab hb x5_3d;have x5_4d:=zaa zlB;have zn0:=zab hb x6_3d;have x6_4d:=zaa zn0;have zn1:=zab hb x7_3d;have x7_4d:=zaa zn1;have zn3:=zab hb x8_3d;have x8_4d:=zaa zn3;have zn4:=zab hb x9_3d;have x9_4d:=zaa zn4;have of0:=ziS.out.fro (k * 3);have of1:=ziS.out.fro (k * 3 + 1);have of2:=ziS.out.fro (k * 3 + 2);clear hn hb)
     (try go_wp2_with fail)
     refine hK.out _ _ ?_ (fun hHeld => ?_)
     ·((try go_split_ands);(try simp only [World.cell?_drew]);with_reducible repeat' first | assumption | apply And.intro | refine zah (by omega) ?_ | refine zaf ?_)
     clear hK K
     try simp only [Act.put,pu1,pu2,pu3,pu4,pu5,pu6]
     refine zaw [17,18,19,20] ?_
     repeat (refine tkH (v:=?_) rfl (by kernel_rfl) (fun _ _ _ h => h) (by rfl) ?_ hHeld ?_;rotate_left;(focus ((intro w hSw;(try dsimp only at hSw);go_simp);(try with_reducible rfl)));try simp only [Act.put,pu1,pu2,pu3,pu4,pu5,pu6])
     refine zao ?_
     refine wpAnyH_ready (rs:=[21]) (by kernel_rfl) (by simp) ?_
     refine AllReadyH.cons rfl (fun K hK => ?_) AllReadyH.nil
     go_simp
     skip
     (try go_wp2_with fail)
     refine hK.out _ _ ?_ (fun hHeld => ?_)
     ·((try go_split_ands);(try simp only [World.cell?_drew]);with_reducible repeat' first | assumption | apply And.intro | refine zah (by omega) ?_ | refine zaf ?_)
     clear hK K
     try simp only [Act.put,pu1,pu2,pu3,pu4,pu5,pu6]
     refine wpAnyH_done (by kernel_rfl) ?_ _
     go_wp2
     go_roundw
     case rel => exact ⟨k + 1,by go_num,by omega,by rw [← HST3.out];exact ziS.out.store k HS.out,(Bel.set3 zhh.out hbz0 _ _ _).b⟩
     case measure => simp [intOf];omega
  ·obtain rfl:n = k:=by omega
   have HVx:=hid (show VecS _ w.heap.size (.slice Az n cz) (zbX F b n) by rw [← zAM F HBL.out.symm];exact hv)
   have HBx:=hid hB
   clear hv hB
   go_wp2
   go_loopw [10] (fun i wr => ∃ k:Nat,i = .int .i64 ((k:Int) - 1) ∧ k ≤ n ∧ VecS wr w.heap.size (.slice Az n cz) (btO F (zbX F b n) n k) ∧ Below w.heap.size w wr)
    (fun i _ => (intOf i + 1).toNat)
   case atStart => exact ⟨n,rfl,Nat.le_refl _,by rw [zzm F (zbT _ _ _)];exact HVx.out,HBx.out⟩
   case round =>
    rename World => wy
    obtain ⟨k,rfl,hk,hv,hB⟩:=hrel
    cases k with
    | zero =>
     rw [zwn] at hv
     have zvU:=hid (HLO.out.below hB)
     have zvZ:=hid (HUP.out.below hB)
     have zrX:=hid (HPM.out.below hB)
     have HW3:=hid (show VecS wy w.heap.size (.slice Az n cz) (luW n F b) from hv)
     have zaQ:=hid (BB.out.trans ((hB).mono BB.out.size))
     have zbJ:=zab hB k0
     have x0_1d:=zaa zbJ
     have zbY:=zab hB k1
     have x1_1d:=zaa zbY
     have zcb:=zab hB k2
     have x2_1d:=zaa zcb
     have HBz:=hid hB
     clear hv hB
     rw [show ((0:Nat):Int) - 1 = -1 from rfl]
     go_wp2_with (at_make;go_must (refine zdv rfl _ _ rfl n _ rfl rfl rfl (by have:=HN.out;omega) wy.heap.size rfl ?_;intro wq ho hb2;have HO2:=hid ho;have HB2:=hid hb2;have q3:=zab hb2 zcb;clear ho hb2))
     go_loopw [118] (fun i wr => ∃ k:Nat,i = .int .i64 k ∧ k ≤ n ∧ VecS wr wy.heap.size (.slice (some ⟨wy.heap.size,0,none⟩) n n) (back F.perm (luW n F b) k (List.replicate n 0)) ∧ Below wy.heap.size wy wr)
      (fun i _ => n - (intOf i).toNat)
     case atStart => exact ⟨0,rfl,Nat.zero_le _,HO2.out,HB2.out⟩
     case round =>
      rename World => wz
      obtain ⟨k,rfl,hk2,hv,hB⟩:=hrel
      by_cases hlt2:k < n
      ·have hpk:F.perm[k]? = some (F.perm.getD k 0):=zaO (by rw [HSQ.out.pl];exact hlt2)
       have hpl:=HP.out k hlt2
       have hst:(back F.perm (luW n F b) k (List.replicate n 0)).set (F.perm.getD k 0) (el (luW n F b) k) = back F.perm (luW n F b) (k + 1) (List.replicate n 0):=rfl
       generalize F.perm.getD k 0 = p at hpk hpl hst
       have HST4:=hid hst
       have hbl:(back F.perm (luW n F b) k (List.replicate n 0)).length = n:=by rw [zjk];simp
       have hyp:=zaH (xs:=back F.perm (luW n F b) k (List.replicate n 0)) (j:=p) (by omega)
       have hzp:=zaH (xs:=luW n F b) (j:=k) (by rw [zAY];exact hlt2)
       obtain ⟨bP,rfl,_,_⟩:=zrX.out.has (by omega)
       obtain ⟨bz,rfl,hbz0,_⟩:=HW3.out.has (by omega)
       have p0:=(zrX.out.below hB).at_ hpk
       obtain ⟨ga,Aa,ma,ca,Da,mda,cda,y0,y1,y2,hRa⟩:=(HW3.out.below hB).at_ hzp
       obtain ⟨go,Ao,mo,co,Do,mdo,cdo,o0,o1,o2,_⟩:=hv.at_ hyp
       have of0:=hv.fro (p * 3)
       have of1:=hv.fro (p * 3 + 1)
       have of2:=hv.fro (p * 3 + 2)
       have HQ:=hid (show RatS wz ga (.slice Aa ma ca) (.slice Da mda cda) (el (luW n F b) k) from hRa)
       have HVy:=hid (show VecS wz wy.heap.size (.slice (some ⟨wy.heap.size,0,none⟩) n n) (back F.perm (luW n F b) k (List.replicate n 0)) from hv)
       have HWy:=hid (show Bel wy wz from Bel.mk hB)
       have zcX:=zab hB zbJ
       have x0_2d:=zaa zcX
       have zdq:=zab hB zbY
       have x1_2d:=zaa zdq
       have zej:=zab hB zcb
       have x2_2d:=zaa zej
       have zfa:wz.cell? ⟨bP,k,none⟩ = some (.int .i64 (p:Int)):=p0
       have x3_2d:=zaa zfa
       have zgt:wz.cell? ⟨bz,k * 3,none⟩ = some (.bool ga):=y0
       have x4_2d:=zaa zgt
       have zhd:wz.cell? ⟨bz,k * 3 + 1,none⟩ = some (.slice Aa ma ca):=y1
       have x5_2d:=zaa zhd
       have zlC:wz.cell? ⟨bz,k * 3 + 2,none⟩ = some (.slice Da mda cda):=y2
       have x6_2d:=zaa zlC
       clear hv hB hpk hst hbl hyp hzp hRa p0 y0 y1 y2
       have hi1:(0:Int) ≤ (k:Int):=Int.natCast_nonneg _
       have hi2:(k:Int) < (n:Int):=by omega
       have hi3:(0:Int) ≤ (p:Int):=Int.natCast_nonneg _
       have hi4:(p:Int) < (n:Int):=by omega
       have dof0:wz.drew.frozen? ⟨wy.heap.size,p * 3,none⟩ = false:=of0
       have do0:=zaa o0
       have dof1:wz.drew.frozen? ⟨wy.heap.size,p * 3 + 1,none⟩ = false:=of1
       have do1:=zaa o1
       have dof2:wz.drew.frozen? ⟨wy.heap.size,p * 3 + 2,none⟩ = false:=of2
       have do2:=zaa o2
       go_wp2_with fail
       refine za2 (S:=fun w' => w'.cell? ⟨q,0,none⟩ = some (.slice lA n lc) ∧ w'.cell? ⟨q,1,none⟩ = some (.slice uA n uc) ∧ w'.cell? ⟨q,2,none⟩ = some (.slice (some ⟨bP,0,none⟩) n pc) ∧ w'.cell? ⟨bP,k,none⟩ = some (.int .i64 (p:Int)) ∧ w'.cell? ⟨bz,k * 3,none⟩ = some (.bool ga) ∧ w'.cell? ⟨bz,k * 3 + 1,none⟩ = some (.slice Aa ma ca) ∧ w'.cell? ⟨bz,k * 3 + 2,none⟩ = some (.slice Da mda cda)) 13 (by kernel_rfl) ?_ (fun hHeld => ?_)
       ·((try go_split_ands);(try simp only [World.cell?_drew]);with_reducible repeat' first | assumption | apply And.intro | refine zah (by omega) ?_ | refine zaf ?_)
       refine zaw [0,1,2,3,4,5,6,7,8,9,10,11,12] ?_
       repeat (refine tkE (v:=?_) rfl (by kernel_rfl) (fun _ _ _ h => h) (by rfl) ?_ hHeld ?_;rotate_left;(focus ((intro w hSw;(try dsimp only at hSw);go_simp);(try with_reducible rfl)));try simp only [Act.put,pu1,pu2,pu3,pu4,pu5,pu6])
       refine zao ?_
       refine zba rfl (by kernel_rfl) (fun K hK => ?_)
       go_simp
       refine hK.out _ _ ?_
       clear hK K
       try simp only [Act.put,pu1,pu2,pu3,pu4,pu5,pu6]
       refine za1 (by kernel_rfl) ?_ _
       go_wp2
       go_roundw
       case rel => exact ⟨k + 1,by go_num,by omega,by rw [← HST4.out];exact HVy.out.drew.store p HQ.out.drew,(Bel.set3 HWy.out.drew (Nat.le_refl _) _ _ _).b⟩
       case measure => simp [intOf];omega
      ·obtain rfl:n = k:=by omega
       have HVf:=hid hv
       have HBf:=hid (zaQ.out.trans (hB.mono zaQ.out.size))
       have hzf:=zaQ.out.size
       clear hv hB
       go_wp2
       refine bodyPost_ret (v := .tuple #[.slice (some ⟨wy.heap.size,0,none⟩) n n, .bool true]) (by simp [results,Tryz.results134,go_sem]) rfl ?_
       exact ⟨_,_,_,rfl,HVf.out.base hzf,HBf.out⟩
    | succ k =>
     have hlt:k < n:=by omega
     rw [show ((k + 1:Nat):Int) - 1 = (k:Int) by omega]
     obtain ⟨bz,rfl,hbz0,_⟩:=hv.has (by omega)
     have HV:=hid hv
     have HW0:=hid hB
     clear hv
     have zvU:=hid (HLO.out.below hB)
     have zvZ:=hid (HUP.out.below hB)
     have zrX:=hid (HPM.out.below hB)
     have zaQ:=hid (BB.out.trans ((hB).mono BB.out.size))
     have zbJ:=zab hB k0
     have x0_1d:=zaa zbJ
     have zbY:=zab hB k1
     have x1_1d:=zaa zbY
     have zcb:=zab hB k2
     have x2_1d:=zaa zcb
     clear hB
     have hi1:(0:Int) ≤ (k:Int):=Int.natCast_nonneg _
     have hi2:(k:Int) < (n:Int):=by omega
     go_wp2
     go_loopw [11] (fun i wr => ∃ j:Nat,i = .int .i64 ((k + 1 + j:Nat):Int) ∧ k + 1 + j ≤ n ∧ VecS wr w.heap.size (.slice (some ⟨bz,0,none⟩) n cz) (btI F (zbX F b n) n k j) ∧ Below w.heap.size w wr)
      (fun i _ => n - (intOf i).toNat)
     case atStart => exact ⟨0,by go_num,by omega,by rw [zwm F (zbT _ _ _) hlt];exact HV.out,HW0.out⟩
     case round =>
      rename World => wz
      obtain ⟨j,rfl,hj,hv,hB⟩:=hrel
      by_cases hck:k + 1 + j < n
      ·have hrk:F.lo[k + 1 + j]? = some (F.lo.getD (k + 1 + j) []):=zaO (by rw [HSQ.out.ll];exact hck)
       have hrl:=HSQ.out.lr (k + 1 + j) hck
       have hen:en F.lo (k + 1 + j) k = el (F.lo.getD (k + 1 + j) []) k:=rfl
       generalize F.lo.getD (k + 1 + j) [] = rw_ at hrk hrl hen
       have hcl:=zaH (xs:=rw_) (j:=k) (by omega)
       rw [← hen] at hcl
       obtain ⟨bL,rfl,_,_⟩:=HLO.out.has (by omega)
       obtain ⟨Ar,cr,_,r0,hVr⟩:=(HLO.out.below hB).at_ hrk
       rw [hrl] at r0 hVr
       obtain ⟨br,rfl,_,_⟩:=hVr.has (by omega)
       obtain ⟨gl,Al,ml,cl,Dl,mdl,cdl,y0,y1,y2,hRl⟩:=hVr.at_ hcl
       obtain ⟨gk,Ak,mk,ck,Dk,mdk,cdk,o0,o1,o2,hRk⟩:=hv.at_ (zzk F j (zbT F b n) hlt)
       have of0:=hv.fro (k * 3)
       have of1:=hv.fro (k * 3 + 1)
       have of2:=hv.fro (k * 3 + 2)
       obtain ⟨gc,Ac,mc,cc,Dc,mdc,cdc,z0,z1,z2,hRc⟩:=hv.at_ (zwk F j (zbT F b n) hck)
       have hbe:el (zlK F n (zbX F b n) (n - (k + 1))) j = el (luW n F b) (k + 1 + j):=(zka F n (zbX F b n) (f:=n) (j:=k + 1) (by omega) j).symm
       rw [hbe] at hRc
       have hpe:btP F (zbX F b n) n k j = el (zbX F b n) k - zai j (fun c => en F.lo (k + 1 + c) k * el (luW n F b) (k + 1 + c)):=by unfold btP;rw [zaj fun c hc => by rw [← zka F n (zbX F b n) (f:=n) (j:=k + 1) (by omega) c]];rfl
       have HST2:=hid (show (btI F (zbX F b n) n k j).set k (btP F (zbX F b n) n k j - en F.lo (k + 1 + j) k * el (luW n F b) (k + 1 + j)) = btI F (zbX F b n) n k (j + 1) by rw [← hbe];exact zzl F j (zbT F b n) hlt)
       have hf1:=(HSV.out (k + 1 + j) hck).1
       have hf2:mw (btP F (zbX F b n) n k j) ≤ 2 * xB n u s:=by rw [hpe];exact (HSV.out k hlt).2 j (by omega)
       have hl1:=HZ0.out.lo (k + 1 + j) hck k hlt
       generalize hc0:k + 1 + j = c at *
       generalize btP F (zbX F b n) n k j = pk at *
       have HC0:=hid hc0
       have zjF:=hid (HLO.out.below hB)
       have zjJ:=hid (HUP.out.below hB)
       have zjG:=hid (HPM.out.below hB)
       have HQl:=hid (show RatS wz gl (.slice Al ml cl) (.slice Dl mdl cdl) (en F.lo c k) from hRl)
       have HQc:=hid (show RatS wz gc (.slice Ac mc cc) (.slice Dc mdc cdc) (el (luW n F b) c) from hRc)
       have HQk:=hid (show RatS wz gk (.slice Ak mk ck) (.slice Dk mdk cdk) pk from hRk)
       have HV:=hid (show VecS wz w.heap.size (.slice (some ⟨bz,0,none⟩) n cz) (btI F (zbX F b n) n k j) from hv)
       have HW:=hid (show Bel w wz from Bel.mk hB)
       have zcc:=hid (BB.out.trans ((hB).mono BB.out.size))
       have zdO:=zab hB k0
       have x0_3d:=zaa zdO
       have zfd:=zab hB k1
       have x1_3d:=zaa zfd
       have zgl:=zab hB k2
       have x2_3d:=zaa zgl
       have zg9:wz.cell? ⟨bL,c,none⟩ = some (.slice (some ⟨br,0,none⟩) n cr):=r0
       have x3_3d:=zaa zg9
       have zhb:wz.cell? ⟨br,k * 3,none⟩ = some (.bool gl):=y0
       have x4_3d:=zaa zhb
       have zje:wz.cell? ⟨br,k * 3 + 1,none⟩ = some (.slice Al ml cl):=y1
       have x5_3d:=zaa zje
       have zml:wz.cell? ⟨br,k * 3 + 2,none⟩ = some (.slice Dl mdl cdl):=y2
       have x6_3d:=zaa zml
       have zmm:wz.cell? ⟨bz,c * 3,none⟩ = some (.bool gc):=z0
       have x7_3d:=zaa zmm
       have zmn:wz.cell? ⟨bz,c * 3 + 1,none⟩ = some (.slice Ac mc cc):=z1
       have x8_3d:=zaa zmn
       have zpj:wz.cell? ⟨bz,c * 3 + 2,none⟩ = some (.slice Dc mdc cdc):=z2
       have x9_3d:=zaa zpj
       have znY:wz.cell? ⟨bz,k * 3,none⟩ = some (.bool gk):=o0
       have x10_3d:=zaa znY
       have zqP:wz.cell? ⟨bz,k * 3 + 1,none⟩ = some (.slice Ak mk ck):=o1
       have x11_3d:=zaa zqP
       have zqR:wz.cell? ⟨bz,k * 3 + 2,none⟩ = some (.slice Dk mdk cdk):=o2
       have x12_3d:=zaa zqR
       have L1:=hid (show 4 * (mw (en F.lo c k) + mw (el (luW n F b) c)) + 8 ≤ LIM by have:=HLIM.out;omega)
       have L2:=hid (show 4 * (mw pk + mw (en F.lo c k * el (luW n F b) c)) + 8 ≤ LIM by have:=HLIM.out;have:=zdI (en F.lo c k) (el (luW n F b) c);omega)
       clear hv hB hrk hrl hen hcl hVr hRl hRc hRk hf1 hf2 hl1 hbe hpe hc0 r0 y0 y1 y2 z0 z1 z2
       have hi3:(0:Int) ≤ (k:Int):=Int.natCast_nonneg _
       have hi4:(k:Int) < (n:Int):=by omega
       have hi5:(0:Int) ≤ (c:Int):=Int.natCast_nonneg _
       have hi6:(c:Int) < (n:Int):=by omega
       go_wp2_with fail
       refine za2 (S:=fun w' => w'.cell? ⟨q,0,none⟩ = some (.slice (some ⟨bL,0,none⟩) n lc) ∧ w'.cell? ⟨q,1,none⟩ = some (.slice uA n uc) ∧ w'.cell? ⟨q,2,none⟩ = some (.slice pA n pc) ∧ w'.cell? ⟨bL,c,none⟩ = some (.slice (some ⟨br,0,none⟩) n cr) ∧ w'.cell? ⟨br,k * 3,none⟩ = some (.bool gl) ∧ w'.cell? ⟨br,k * 3 + 1,none⟩ = some (.slice Al ml cl) ∧ w'.cell? ⟨br,k * 3 + 2,none⟩ = some (.slice Dl mdl cdl) ∧ w'.cell? ⟨bz,c * 3,none⟩ = some (.bool gc) ∧ w'.cell? ⟨bz,c * 3 + 1,none⟩ = some (.slice Ac mc cc) ∧ w'.cell? ⟨bz,c * 3 + 2,none⟩ = some (.slice Dc mdc cdc) ∧ w'.cell? ⟨bz,k * 3,none⟩ = some (.bool gk) ∧ w'.cell? ⟨bz,k * 3 + 1,none⟩ = some (.slice Ak mk ck) ∧ w'.cell? ⟨bz,k * 3 + 2,none⟩ = some (.slice Dk mdk cdk)) 23 (by kernel_rfl) ?_ (fun hHeld => ?_)
       ·((try go_split_ands);(try simp only [World.cell?_drew]);with_reducible repeat' first | assumption | apply And.intro | refine zah (by omega) ?_ | refine zaf ?_)
       refine zaw [0,1,2,3,4,5,6,7,8,9,10,11,12,13,14,15,16,17,18,19] ?_
       repeat (refine tkE (v:=?_) rfl (by kernel_rfl) (fun _ _ _ h => h) (by rfl) ?_ hHeld ?_;rotate_left;(focus ((intro w hSw;(try dsimp only at hSw);go_simp);(try with_reducible rfl)));try simp only [Act.put,pu1,pu2,pu3,pu4,pu5,pu6])
       refine zao ?_
       refine zaN (i:=20) rfl (by kernel_rfl) (fun K hK => ?_)
       go_simp
       (go_at_call 14;(with_reducible refine (Rt.mul gl Al ml cl Dl mdl cdl (en F.lo c k) gc Ac mc cc Dc mdc cdc (el (luW n F b) c) _ HQl.out.drew HQc.out.drew L1.out).mono ?_);rintro e u1 ⟨g1,A1,m1,c1,D1,md1,cd1,rfl,hn,hb⟩;have zmr:=hid (zjF.out.drew.below hb);have zmu:=hid (zjJ.out.drew.below hb);have zms:=hid (zjG.out.drew.below hb);have zmt:=hid (HQl.out.drew.below hb);have zpk:=hid (HQc.out.drew.below hb);have zie:=hid (HQk.out.drew.below hb);have ziS:=hid (HV.out.drew.below hb);have zhh:=hid (HW.out.drew.below hb);have HM:=hid (show RatS u1 g1 (.slice A1 m1 c1) (.slice D1 md1 cd1) (en F.lo c k * el (luW n F b) c) from hn);have zdf:=hid (zcc.out.trans ((It.bdrew0' hb).mono zcc.out.size));have zd6:=zab hb x0_3d;have x0_4d:=zaa zd6;have zfT:=zab hb x1_3d;have x1_4d:=zaa zfT;have zgs:=zab hb x2_3d;have x2_4d:=zaa zgs;have zha:=zab hb x3_3d;have x3_4d:=zaa zha;have zhc:=zab hb x4_3d;have x4_4d:=zaa zhc;have zlB:=zab hb x5_3d;have x5_4d:=zaa zlB;have zn0:=zab hb x6_3d;have x6_4d:=zaa zn0;have zn1:=zab hb x7_3d;have x7_4d:=zaa zn1;have zn3:=zab hb x8_3d;have x8_4d:=zaa zn3;have zn4:=zab hb x9_3d;have x9_4d:=zaa zn4;have ziQ:=zab hb x10_3d;have x10_4d:=zaa ziQ;have zls:=zab hb x11_3d;have x11_4d:=zaa zls;have zlt:=zab hb x12_3d;have x12_4d:=zaa zlt;clear hn hb)
       (try go_wp2_with fail)
       refine hK.out _ _ ?_ (fun hHeld => ?_)
       ·((try go_split_ands);(try simp only [World.cell?_drew]);with_reducible repeat' first | assumption | apply And.intro | refine zah (by omega) ?_ | refine zaf ?_)
       clear hK K
       try simp only [Act.put,pu1,pu2,pu3,pu4,pu5,pu6]
       refine zaN (i:=21) rfl (by kernel_rfl) (fun K hK => ?_)
       go_simp
       (go_at_call 131;(with_reducible refine (Rt.sub gk Ak mk ck Dk mdk cdk pk g1 A1 m1 c1 D1 md1 cd1 (en F.lo c k * el (luW n F b) c) _ zie.out HM.out L2.out).mono ?_);rintro e u2 ⟨g2,A2,m2,c2,D2,md2,cd2,rfl,hn,hb⟩;have zyH:=hid (zmr.out.below hb);have zyV:=hid (zmu.out.below hb);have zyI:=hid (zms.out.below hb);have zyO:=hid (zmt.out.below hb);have zyM:=hid (zpk.out.below hb);have zyN:=hid (zie.out.below hb);have zlx:=hid (ziS.out.below hb);have zsB:=hid (zhh.out.below hb);have zB2:=hid (HM.out.below hb);have HS:=hid (show RatS u2 g2 (.slice A2 m2 c2) (.slice D2 md2 cd2) (pk - en F.lo c k * el (luW n F b) c) from hn);have ze3:=hid (zdf.out.trans ((hb).mono zdf.out.size));have zid:=zab hb zd6;have x0_5d:=zaa zid;have zlu:=zab hb zfT;have x1_5d:=zaa zlu;have zmh:=zab hb zgs;have x2_5d:=zaa zmh;have zmi:=zab hb zha;have x3_5d:=zaa zmi;have zmj:=zab hb zhc;have x4_5d:=zaa zmj;have zmk:=zab hb zlB;have x5_5d:=zaa zmk;have zvT:=zab hb zn0;have x6_5d:=zaa zvT;have zBG:=zab hb zn1;have x7_5d:=zaa zBG;have zBK:=zab hb zn3;have x8_5d:=zaa zBK;have zBP:=zab hb zn4;have x9_5d:=zaa zBP;have zqM:=zab hb ziQ;have x10_5d:=zaa zqM;have zqQ:=zab hb zls;have x11_5d:=zaa zqQ;have zqS:=zab hb zlt;have x12_5d:=zaa zqS;have of0:=zlx.out.fro (k * 3);have of1:=zlx.out.fro (k * 3 + 1);have of2:=zlx.out.fro (k * 3 + 2);clear hn hb)
       (try go_wp2_with fail)
       refine hK.out _ _ ?_ (fun hHeld => ?_)
       ·((try go_split_ands);(try simp only [World.cell?_drew]);with_reducible repeat' first | assumption | apply And.intro | refine zah (by omega) ?_ | refine zaf ?_)
       clear hK K
       try simp only [Act.put,pu1,pu2,pu3,pu4,pu5,pu6]
       refine zaw [22] ?_
       repeat (refine tkE (v:=?_) rfl (by kernel_rfl) (fun _ _ _ h => h) (by rfl) ?_ hHeld ?_;rotate_left;(focus ((intro w hSw;(try dsimp only at hSw);go_simp);(try with_reducible rfl)));try simp only [Act.put,pu1,pu2,pu3,pu4,pu5,pu6])
       refine zao ?_
       refine zba rfl (by kernel_rfl) (fun K hK => ?_)
       go_simp
       refine hK.out _ _ ?_
       clear hK K
       try simp only [Act.put,pu1,pu2,pu3,pu4,pu5,pu6]
       refine za1 (by kernel_rfl) ?_ _
       go_wp2
       go_roundw
       case rel => exact ⟨j + 1,by have:=HC0.out;subst this;go_num,by have:=HC0.out;omega,by rw [← HST2.out];exact zlx.out.store k HS.out,(Bel.set3 zsB.out hbz0 _ _ _).b⟩
       case measure => simp [intOf];omega
      ·have hjn:j = n - (k + 1):=by omega
       rw [hjn,zwl F (zbT F b n) hlt] at hv
       have HVw:=hid hv
       have HBw:=hid hB
       clear hv hB hjn
       have hi3:(0:Int) ≤ (k:Int):=Int.natCast_nonneg _
       have hi4:(k:Int) < (n:Int):=by omega
       go_wp2
       go_roundw
       case rel => exact ⟨k,by go_num,by omega,HVw.out,HBw.out⟩
       case measure => first | (simp [intOf];done) | (simp [intOf];omega)
end Lu
end Go.Proofs.YtdbgbaiekpbaoaaGreatDoor
