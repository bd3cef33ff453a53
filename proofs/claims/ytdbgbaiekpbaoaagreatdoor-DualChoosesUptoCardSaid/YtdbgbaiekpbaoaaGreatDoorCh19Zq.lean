/- actuarylaw19.DualChooses hands back true. Conditions: as it says;errors.errorType holds its handle. -/
import Derived.Test.YtdbgbaiekpbaoaaGreatDoorAw19Zq
import Derived.Test.YtdbgbaiekpbaoaaGreatDoorOpenZq
set_option linter.all false
namespace Go.Proofs.YtdbgbaiekpbaoaaGreatDoor
open Go.RowKit Am
open Lib (hid)
attribute [local go_sem ↓] Go.wp_at_zero Go.wp_at_succ
set_option maxHeartbeats 2000000
set_option maxRecDepth 100000
theorem cross {p q l m:Rat} (hl:l < 0) (hm:m < 0):zlX (p * -m) (q * -l) < 0 ↔ p / -l < q / -m:=by
 rw [zm9,zox (by grind) (by grind)]
namespace Lw
theorem chooses (A:Option Addr) (nA cA:Nat) (ps:List (Int × Int)) (B:Option Addr) (nB cB:Nat) (ls:List (Int × Int)) (M:Option Addr) (nm cm:Nat) (may:List Bool) (n:Int) (w:World) (hg:w.cell? ⟨0,0,none⟩ = some Err.HandleV)
  (hp:zcs w A ps) (hl:zcs w B ls) (hm:zgu w M may) (hnA:nA = ps.length) (hnB:nB = ls.length) (hnm:nm = may.length) (hbA:nA ≤ 1048576) (hbB:nB ≤ 1048576) (hbm:nm ≤ 1048576) :
  Calls Tryz.prog 3 #[.slice A nA cA, .slice B nB cB, .slice M nm cm, .int .i64 n] w fun e w' => e = .returned (.bool true) ∧ Below w.heap.size w w':=by
 have HG:=hid hg
 have HA:=hid hp
 have HB_:=hid hl
 have HM:=hid hm
 have HNA:=hid hnA
 have HNB:=hid hnB
 have HNM:=hid hnm
 have ZP:=hid (zyq hp)
 have ZL:=hid (zyq hl)
 have HBA:=hid hbA
 have HBB:=hid hbB
 have HBM:=hid hbm
 clear hp hl hm hg
 have BB:=hid (Below.refl w.heap.size w)
 have hW:w = w:=rfl
 clear hnA hnB hnm hbA hbB hbm
 go_enter Tryz.func3,Tryz.ntmps3
 go_wp2_with fail
 clear hW
 with_reducible refine (zzh _ HG.out).mono ?_
 rintro e w1 ⟨rfl,hb⟩
 have zFS:=hid (HA.out.below hb)
 have HB__1:=hid (HB_.out.below hb)
 have zJS:=hid (HM.out.below hb)
 have zaQ:=hid (BB.out.trans ((hb).mono BB.out.size))
 clear hb
 go_wp2_with fail
 with_reducible refine (make A nA cA ps _ HNA.out zFS.out HBA.out).mono ?_
 rintro e w2 ⟨P,nP,cP,rfl,hv,hb⟩
 have HB__2:=hid (HB__1.out.below hb)
 have zJT:=hid (zJS.out.below hb)
 have HPV:=hid (show VecS w2 0 (.slice P nP cP) (frs ps) from (hv.base (Nat.zero_le _)))
 have zbj:=hid (zaQ.out.trans ((hb).mono zaQ.out.size))
 clear hv hb
 go_wp2_with fail
 with_reducible refine (make B nB cB ls _ HNB.out HB__2.out HBB.out).mono ?_
 rintro e w3 ⟨L,nL,cL,rfl,hv,hb⟩
 have zI1:=hid (zJT.out.below hb)
 have zyK:=hid (HPV.out.below hb)
 have HLV:=hid (show VecS w3 0 (.slice L nL cL) (frs ls) from (hv.base (Nat.zero_le _)))
 have zcc:=hid (zbj.out.trans ((hb).mono zbj.out.size))
 clear hv hb
 have HNP:=hid (show nP = (frs ps).length from zyK.out.len)
 have HNL:=hid (show nL = (frs ls).length from HLV.out.len)
 go_wp2_with fail
 with_reducible refine (Du.enter 1 (by rw [zaP];decide) P nP cP (frs ps) 0 L nL cL (frs ls) 0 M nm cm may _ zyK.out HLV.out HNM.out (by have:=HBM.out;omega) zI1.out ZP.out ZL.out).mono ?_
 rintro e w4 ⟨rfl,hb⟩
 have zEx:=hid (zI1.out.below hb)
 have zvW:=hid (zyK.out.below hb)
 have zvV:=hid (HLV.out.below hb)
 have zdf:=hid (zcc.out.trans ((hb).mono zcc.out.size))
 clear hb
 have hnb1:nP ≤ 9223372036854775807:=by have h:=HNP.out;rw [zuU] at h;have:=HNA.out;have:=HBA.out;omega
 have hnb2:nL ≤ 9223372036854775807:=by have h:=HNL.out;rw [zuU] at h;have:=HNB.out;have:=HBB.out;omega
 have hnb3:nm ≤ 9223372036854775807:=by have:=HBM.out;omega
 obtain ⟨N,hN⟩:∃ N,N = min nP (min nL nm):=⟨_,rfl⟩
 have HN:=hid hN
 have hN1:N ≤ nP:=by omega
 have hN2:N ≤ nL:=by omega
 have hN3:N ≤ nm:=by omega
 clear hN
 have HEN:=hid (show zhy (frs ps) (frs ls) may = za4 (frs ps) (frs ls) may N by unfold zhy;rw [← HNP.out, ← HNL.out, ← HNM.out, ← HN.out])
 generalize hj:zbh (zhy (frs ps) (frs ls) may) = J
 have HJ:=hid hj
 clear hj
 go_wp2
 go_loopw [12,13] (fun bv i wr => ∃ k:Nat,i = .int .i64 k ∧ bv = .int .i64 (zbh (za4 (frs ps) (frs ls) may k)) ∧ k ≤ N ∧ Below w4.heap.size w4 wr)
  (fun _ i _ => N - (intOf i).toNat)
 case atStart => exact ⟨0,rfl,rfl,Nat.zero_le _,Below.refl _ _⟩
 case round =>
  obtain ⟨k,rfl,rfl,hk,hB⟩:=hrel
  have HB:=hid hB
  by_cases hlt:k < N
  ·have hk1:k < nP:=by omega
   have hk2:k < nL:=by omega
   have hk3:k < nm:=by omega
   have hi1:(0:Int) ≤ (k:Int):=Int.natCast_nonneg _
   have hi3:(k:Int) < (nP:Int):=by omega
   have hi4:(k:Int) < (nL:Int):=by omega
   have hi5:(k:Int) < (nm:Int):=by omega
   obtain ⟨bp,rfl,_,_⟩:=zvW.out.has (by omega)
   obtain ⟨bl,rfl,_,_⟩:=zvV.out.has (by omega)
   obtain ⟨bm,om,rfl,_⟩:=zEx.out k _ (zaO (L:=may) (d:=false) (by rw [← HNM.out];exact hk3))
   have hpk:=zaH (xs:=frs ps) (j:=k) (by rw [← HNP.out];exact hk1)
   have hlk:=zaH (xs:=frs ls) (j:=k) (by rw [← HNL.out];exact hk2)
   have hmk:may[k]? = some (may.getD k false):=zaO (by rw [← HNM.out];exact hk3)
   obtain ⟨ga,Aa,ma,ca,Da,mda,cda,y0,y1,y2,hRa⟩:=(zvW.out.below hB).at_ hpk
   obtain ⟨gb,Ab,mb,cb,Db,mdb,cdb,z0,z1,z2,hRb⟩:=(zvV.out.below hB).at_ hlk
   obtain ⟨bm',om',hbm',m0⟩:=(zEx.out.below hB) k _ hmk
   injection hbm' with hbm';injection hbm' with hbm1 hbm2
   subst hbm1 hbm2
   generalize hme:may.getD k false = mv at m0
   have hz1:=ZP.out _ (List.mem_of_getElem? hpk)
   have hz2:=ZL.out _ (List.mem_of_getElem? hlk)
   have zB2:=hid (zEx.out.below hB)
   have zB4:=hid (zvW.out.below hB)
   have zB1:=hid (zvV.out.below hB)
   have HRa:=hid (show RatS wr ga (.slice Aa ma ca) (.slice Da mda cda) (el (frs ps) k) from hRa)
   have HRb:=hid (show RatS wr gb (.slice Ab mb cb) (.slice Db mdb cdb) (el (frs ls) k) from hRb)
   have HW:=hid (show Bel w4 wr from Bel.mk hB)
   have ze3:=hid (zdf.out.trans ((hB).mono zdf.out.size))
   have zid:wr.cell? ⟨bp,k * 3,none⟩ = some (.bool ga):=y0
   have x0_5d:=zaa zid
   have zlu:wr.cell? ⟨bp,k * 3 + 1,none⟩ = some (.slice Aa ma ca):=y1
   have x1_5d:=zaa zlu
   have zmh:wr.cell? ⟨bp,k * 3 + 2,none⟩ = some (.slice Da mda cda):=y2
   have x2_5d:=zaa zmh
   have zmi:wr.cell? ⟨bl,k * 3,none⟩ = some (.bool gb):=z0
   have x3_5d:=zaa zmi
   have zmj:wr.cell? ⟨bl,k * 3 + 1,none⟩ = some (.slice Ab mb cb):=z1
   have x4_5d:=zaa zmj
   have zmk:wr.cell? ⟨bl,k * 3 + 2,none⟩ = some (.slice Db mdb cdb):=z2
   have x5_5d:=zaa zmk
   have zvT:wr.cell? ⟨bm,om + k,none⟩ = some (.bool mv):=m0
   have x6_5d:=zaa zvT
   have HME:=hid hme
   have HZ1:=hid hz1
   have HZ2:=hid hz2
   clear hB hpk hlk hmk hme y0 y1 y2 z0 z1 z2 m0 hRa hRb hz1 hz2
   cases mv with
   | false =>
    have HF:=hid (zdV (p:=frs ps) (l:=frs ls) (may:=may) (k:=k) (by rw [HME.out];intro h;cases h.1))
    go_wp2
    go_roundw
    case rel => exact ⟨k + 1,by go_num,by rw [HF.out],by omega,HW.out.b⟩
    case measure => simp [intOf];omega
   | true =>
    go_wp2_with fail
    with_reducible refine (Rt.sign gb Ab mb cb Db mdb cdb (el (frs ls) k) _ HRb.out).mono ?_
    rintro e v1 ⟨rfl,hb⟩
    have zF8:=hid (zB4.out.below hb)
    have zF1:=hid (zB1.out.below hb)
    have zGf:=hid (HRa.out.below hb)
    have zGh:=hid (HRb.out.below hb)
    have zGz:=hid (HW.out.below hb)
    have zlw:=hid (ze3.out.trans ((hb).mono ze3.out.size))
    have zqL:=zab hb zid
    have x0_6d:=zaa zqL
    have zvH:=zab hb zlu
    have x1_6d:=zaa zvH
    have zxR:=zab hb zmh
    have x2_6d:=zaa zxR
    have zxS:=zab hb zmi
    have x3_6d:=zaa zxS
    have zxT:=zab hb zmj
    have x4_6d:=zaa zxT
    have zxU:=zab hb zmk
    have x5_6d:=zaa zxU
    have zxV:=zab hb zvT
    have x6_6d:=zaa zxV
    clear hb
    by_cases hq0:el (frs ls) k < 0
    ·have hs:=zrN hq0
     have hs1:=zeh.2 hq0
     have hs2:¬ 0 ≤ (el (frs ls) k).num.sign:=by omega
     have hs3:¬ 0 ≤ (el (frs ls) k).num:=by omega
     have hs4:¬ 0 ≤ el (frs ls) k:=Rat.not_le.2 hq0
     have hs5:decide (0 ≤ el (frs ls) k) = false:=decide_eq_false hs4
     have HCO:=hid (show may.getD k false = true ∧ el (frs ls) k < 0 from ⟨HME.out,hq0⟩)
     clear hq0
     go_upto_region 10 with fail
     cases hbe:za4 (frs ps) (frs ls) may k with
     | none =>
      have hp:zbh none = -1:=rfl
      rw [hp]
      have HBE:=hid hbe
      clear hbe
      refine wp_region_noPanic ?_
      refine wp_region_held_drew (S:=fun w' => w'.cell? ⟨bp,k * 3,none⟩ = some (.bool ga)) (by kernel_rfl) ?_ (fun hHeld => ?_)
      ·((try go_split_ands);(try simp only [World.cell?_drew]);with_reducible repeat' first | assumption | apply And.intro | refine zah (by omega) ?_ | refine zaf ?_)
      refine zaw [0,1,2] ?_
      repeat (refine tkH (v:=?_) rfl (by kernel_rfl) (fun _ _ _ h => h) (by rfl) ?_ hHeld ?_;rotate_left;(focus ((intro w hSw;(try dsimp only at hSw);go_simp);(try with_reducible rfl)));try simp only [Act.put,pu1,pu2,pu3,pu4,pu5,pu6])
      refine zao ?_
      refine wpAnyH_take (i:=3) (v:=undef) rfl (by kernel_rfl) (by kernel_rfl) (by kernel_rfl) (fun _ _ _ h => h) (Or.inr ⟨by rfl,rfl⟩) hHeld ?_
      try simp only [Act.put,pu1,pu2,pu3,pu4,pu5,pu6]
      refine wpAnyH_take (i:=4) (v:=undef) rfl (by kernel_rfl) (by kernel_rfl) (by kernel_rfl) (fun _ _ _ h => h) (Or.inr ⟨by rfl,rfl⟩) hHeld ?_
      try simp only [Act.put,pu1,pu2,pu3,pu4,pu5,pu6]
      refine wpAnyH_take (i:=5) (v:=undef) rfl (by kernel_rfl) (by kernel_rfl) (by kernel_rfl) (fun _ _ _ h => h) (Or.inr ⟨by rfl,rfl⟩) hHeld ?_
      try simp only [Act.put,pu1,pu2,pu3,pu4,pu5,pu6]
      refine wpAnyH_take (i:=6) (v:=undef) rfl (by kernel_rfl) (by kernel_rfl) (by kernel_rfl) (fun _ _ _ h => h) (Or.inr ⟨by rfl,rfl⟩) hHeld ?_
      try simp only [Act.put,pu1,pu2,pu3,pu4,pu5,pu6]
      refine wpAnyH_take (i:=7) (v:=undef) rfl (by kernel_rfl) (by kernel_rfl) (by kernel_rfl) (fun _ _ _ h => h) (Or.inr ⟨by rfl,rfl⟩) hHeld ?_
      try simp only [Act.put,pu1,pu2,pu3,pu4,pu5,pu6]
      refine wpAnyH_take (i:=8) (v:=undef) rfl (by kernel_rfl) (by kernel_rfl) (by kernel_rfl) (fun _ _ _ h => h) (Or.inr ⟨by rfl,rfl⟩) hHeld ?_
      try simp only [Act.put,pu1,pu2,pu3,pu4,pu5,pu6]
      refine wpAnyH_take (i:=9) (v:=undef) rfl (by kernel_rfl) (by kernel_rfl) (by kernel_rfl) (fun _ _ _ h => h) (Or.inr ⟨by rfl,rfl⟩) hHeld ?_
      try simp only [Act.put,pu1,pu2,pu3,pu4,pu5,pu6]
      refine wpAnyH_take (i:=10) (v:=undef) rfl (by kernel_rfl) (by kernel_rfl) (by kernel_rfl) (fun _ _ _ h => h) (Or.inr ⟨by rfl,rfl⟩) hHeld ?_
      try simp only [Act.put,pu1,pu2,pu3,pu4,pu5,pu6]
      refine wpAnyH_take (i:=11) (v:=undef) rfl (by kernel_rfl) (by kernel_rfl) (by kernel_rfl) (fun _ _ _ h => h) (Or.inr ⟨by rfl,rfl⟩) hHeld ?_
      try simp only [Act.put,pu1,pu2,pu3,pu4,pu5,pu6]
      refine wpAnyH_take (i:=12) (v:=undef) rfl (by kernel_rfl) (by kernel_rfl) (by kernel_rfl) (fun _ _ _ h => h) (Or.inr ⟨by rfl,rfl⟩) hHeld ?_
      try simp only [Act.put,pu1,pu2,pu3,pu4,pu5,pu6]
      refine wpAnyH_take (i:=13) (v:=undef) rfl (by kernel_rfl) (by kernel_rfl) (by kernel_rfl) (fun _ _ _ h => h) (Or.inr ⟨by rfl,rfl⟩) hHeld ?_
      try simp only [Act.put,pu1,pu2,pu3,pu4,pu5,pu6]
      refine wpAnyH_take (i:=14) (v:=undef) rfl (by kernel_rfl) (by kernel_rfl) (by kernel_rfl) (fun _ _ _ h => h) (Or.inr ⟨by rfl,rfl⟩) hHeld ?_
      try simp only [Act.put,pu1,pu2,pu3,pu4,pu5,pu6]
      refine wpAnyH_take (i:=15) (v:=undef) rfl (by kernel_rfl) (by kernel_rfl) (by kernel_rfl) (fun _ _ _ h => h) (Or.inr ⟨by rfl,rfl⟩) hHeld ?_
      try simp only [Act.put,pu1,pu2,pu3,pu4,pu5,pu6]
      refine wpAnyH_take (i:=16) (v:=undef) rfl (by kernel_rfl) (by kernel_rfl) (by kernel_rfl) (fun _ _ _ h => h) (Or.inr ⟨by rfl,rfl⟩) hHeld ?_
      try simp only [Act.put,pu1,pu2,pu3,pu4,pu5,pu6]
      refine wpAnyH_take (i:=17) (v:=undef) rfl (by kernel_rfl) (by kernel_rfl) (by kernel_rfl) (fun _ _ _ h => h) (Or.inr ⟨by rfl,rfl⟩) hHeld ?_
      try simp only [Act.put,pu1,pu2,pu3,pu4,pu5,pu6]
      refine wpAnyH_take (i:=18) (v:=undef) rfl (by kernel_rfl) (by kernel_rfl) (by kernel_rfl) (fun _ _ _ h => h) (Or.inr ⟨by rfl,rfl⟩) hHeld ?_
      try simp only [Act.put,pu1,pu2,pu3,pu4,pu5,pu6]
      refine wpAnyH_take (i:=19) (v:=undef) rfl (by kernel_rfl) (by kernel_rfl) (by kernel_rfl) (fun _ _ _ h => h) (Or.inr ⟨by rfl,rfl⟩) hHeld ?_
      try simp only [Act.put,pu1,pu2,pu3,pu4,pu5,pu6]
      refine wpAnyH_take (i:=20) (v:=undef) rfl (by kernel_rfl) (by kernel_rfl) (by kernel_rfl) (fun _ _ _ h => h) (Or.inr ⟨by rfl,rfl⟩) hHeld ?_
      try simp only [Act.put,pu1,pu2,pu3,pu4,pu5,pu6]
      refine wpAnyH_take (i:=21) (v:=undef) rfl (by kernel_rfl) (by kernel_rfl) (by kernel_rfl) (fun _ _ _ h => h) (Or.inr ⟨by rfl,rfl⟩) hHeld ?_
      try simp only [Act.put,pu1,pu2,pu3,pu4,pu5,pu6]
      refine wpAnyH_take (i:=22) (v:=undef) rfl (by kernel_rfl) (by kernel_rfl) (by kernel_rfl) (fun _ _ _ h => h) (Or.inr ⟨by rfl,rfl⟩) hHeld ?_
      try simp only [Act.put,pu1,pu2,pu3,pu4,pu5,pu6]
      refine wpAnyH_take (i:=23) (v:=undef) rfl (by kernel_rfl) (by kernel_rfl) (by kernel_rfl) (fun _ _ _ h => h) (Or.inr ⟨by rfl,rfl⟩) hHeld ?_
      try simp only [Act.put,pu1,pu2,pu3,pu4,pu5,pu6]
      refine wpAnyH_take (i:=24) (v:=undef) rfl (by kernel_rfl) (by kernel_rfl) (by kernel_rfl) (fun _ _ _ h => h) (Or.inr ⟨by rfl,rfl⟩) hHeld ?_
      try simp only [Act.put,pu1,pu2,pu3,pu4,pu5,pu6]
      refine zaw [25] ?_
      repeat (refine tkH (v:=?_) rfl (by kernel_rfl) (fun _ _ _ h => h) (by rfl) ?_ hHeld ?_;rotate_left;(focus ((intro w hSw;(try dsimp only at hSw);go_simp);(try with_reducible rfl)));try simp only [Act.put,pu1,pu2,pu3,pu4,pu5,pu6])
      refine zao ?_
      refine wpAnyH_done (by kernel_rfl) ?_ _
      refine NoPanic.normal ?_
      have HFN:=hid (zkI HCO.out HBE.out)
      go_wp2
      go_roundw
      case rel => exact ⟨k + 1,by go_num,by rw [HFN.out];rfl,by omega,zGz.out.drew.b⟩
      case measure => simp [intOf];omega
     | some b0 =>
      have hp:zbh (some b0) = (b0:Int):=rfl
      rw [hp]
      have HBE:=hid hbe
      have hb0:=zhA hbe
      have hbs:=zdW (frs ps) (frs ls) may k
      rw [hbe] at hbs
      have HLB:=hid hbs.2.2.1
      clear hbe hp hbs
      have hi6:¬ (b0:Int) < 0:=by omega
      have hi7:(0:Int) ≤ (b0:Int):=Int.natCast_nonneg _
      have hi8:(b0:Int) < (nP:Int):=by omega
      have hi9:(b0:Int) < (nL:Int):=by omega
      have hpb:=zaH (xs:=frs ps) (j:=b0) (by rw [← HNP.out];omega)
      have hlb:=zaH (xs:=frs ls) (j:=b0) (by rw [← HNL.out];omega)
      obtain ⟨gc,Ac,mc,cc,Dc,mdc,cdc,y0,y1,y2,hRc⟩:=zF8.out.at_ hpb
      obtain ⟨gd,Ad,md_,cd_,Dd,mdd,cdd,z0,z1,z2,hRd⟩:=zF1.out.at_ hlb
      have HZ3:=hid (ZP.out _ (List.mem_of_getElem? hpb))
      have HZ4:=hid (ZL.out _ (List.mem_of_getElem? hlb))
      have HRc:=hid hRc
      have HRd:=hid hRd
      clear hpb hlb hRc hRd
      have y0d:=zaa y0
      have y1d:=zaa y1
      have y2d:=zaa y2
      have z0d:=zaa z0
      have z1d:=zaa z1
      have z2d:=zaa z2
      have HXR:=hid (cross (p:=el (frs ps) k) (q:=el (frs ps) b0) HCO.out.2 HLB.out)
      refine zaS (S:=fun w' => w'.cell? ⟨bp,k * 3,none⟩ = some (.bool ga) ∧ w'.cell? ⟨bp,k * 3 + 1,none⟩ = some (.slice Aa ma ca) ∧ w'.cell? ⟨bp,k * 3 + 2,none⟩ = some (.slice Da mda cda) ∧ w'.cell? ⟨bl,k * 3,none⟩ = some (.bool gb) ∧ w'.cell? ⟨bl,k * 3 + 1,none⟩ = some (.slice Ab mb cb) ∧ w'.cell? ⟨bl,k * 3 + 2,none⟩ = some (.slice Db mdb cdb) ∧ w'.cell? ⟨bp,b0 * 3,none⟩ = some (.bool gc) ∧ w'.cell? ⟨bp,b0 * 3 + 1,none⟩ = some (.slice Ac mc cc) ∧ w'.cell? ⟨bp,b0 * 3 + 2,none⟩ = some (.slice Dc mdc cdc) ∧ w'.cell? ⟨bl,b0 * 3,none⟩ = some (.bool gd) ∧ w'.cell? ⟨bl,b0 * 3 + 1,none⟩ = some (.slice Ad md_ cd_) ∧ w'.cell? ⟨bl,b0 * 3 + 2,none⟩ = some (.slice Dd mdd cdd)) [] (by kernel_rfl) ?_ (fun hHeld => ?_)
      ·((try go_split_ands);(try simp only [World.cell?_drew]);with_reducible repeat' first | assumption | apply And.intro | refine zah (by omega) ?_ | refine zaf ?_)
      refine zaw [0,1,2,3,4,5,6,7,8,9,10,13,14,15,16,17,18,19,20] ?_
      repeat (refine tkL (v:=?_) rfl (by kernel_rfl) (fun _ _ _ h => h) (by rfl) ?_ hHeld ?_;rotate_left;(focus ((intro w hSw;(try dsimp only at hSw);go_simp);(try with_reducible rfl)));try simp only [Act.put,pu1,pu2,pu3,pu4,pu5,pu6])
      refine zao ?_
      refine zaB (i:=11) rfl (by kernel_rfl) (fun K hK => ?_)
      go_simp
      (go_at_call 15;(with_reducible refine (Rt.neg gd Ad md_ cd_ Dd mdd cdd (el (frs ls) b0) _ HRd.out.drew).mono ?_);rintro e u1 ⟨g1,A1,m1,c1,D1,md1,cd1,rfl,hn,hb⟩;have zGg:=hid (zGf.out.drew.below hb);have zGi:=hid (zGh.out.drew.below hb);have zJ3:=hid (zGz.out.drew.below hb);have zGk:=hid (HRc.out.drew.below hb);have HN1:=hid (show RatS u1 g1 (.slice A1 m1 c1) (.slice D1 md1 cd1) (-el (frs ls) b0) from hn);have zsG:=zab hb x0_6d;have x0_7d:=zaa zsG;have zBv:=zab hb x1_6d;have x1_7d:=zaa zBv;have zBx:=zab hb x2_6d;have x2_7d:=zaa zBx;have zBz:=zab hb x3_6d;have x3_7d:=zaa zBz;have zBB:=zab hb x4_6d;have x4_7d:=zaa zBB;have zBD:=zab hb x5_6d;have x5_7d:=zaa zBD;have zBF:=zab hb y0d;have x6_7d:=zaa zBF;have zBJ:=zab hb y1d;have x7_7d:=zaa zBJ;have zBO:=zab hb y2d;have x8_7d:=zaa zBO;have zBT:=zab hb z0d;have x9_7d:=zaa zBT;have zqO:=zab hb z1d;have x10_7d:=zaa zqO;have zDZ:=zab hb z2d;have x11_7d:=zaa zDZ;clear hn hb)
      (try go_wp2_with fail)
      refine hK.out _ _ ?_ (fun hHeld => ?_)
      ·((try go_split_ands);(try simp only [World.cell?_drew]);with_reducible repeat' first | assumption | apply And.intro | refine zah (by omega) ?_ | refine zaf ?_)
      clear hK K
      try simp only [Act.put,pu1,pu2,pu3,pu4,pu5,pu6]
      refine zaB (i:=12) rfl (by kernel_rfl) (fun K hK => ?_)
      go_simp
      (go_at_call 14;(with_reducible refine (Rt.mul ga Aa ma ca Da mda cda (el (frs ps) k) g1 A1 m1 c1 D1 md1 cd1 (-el (frs ls) b0) _ zGg.out HN1.out (by rw [zhY,zaP];have:=HZ1.out;have:=HZ4.out;omega)).mono ?_);rintro e u2 ⟨g2,A2,m2,c2,D2,md2,cd2,rfl,hn,hb⟩;have zGj:=hid (zGi.out.below hb);have zJ4:=hid (zJ3.out.below hb);have zGl:=hid (zGk.out.below hb);have HN2:=hid (show RatS u2 g2 (.slice A2 m2 c2) (.slice D2 md2 cd2) (el (frs ps) k * -el (frs ls) b0) from hn);have zvD:=zab hb zsG;have x0_8d:=zaa zvD;have zD9:=zab hb zBv;have x1_8d:=zaa zD9;have zEc:=zab hb zBx;have x2_8d:=zaa zEc;have zEf:=zab hb zBz;have x3_8d:=zaa zEf;have zEi:=zab hb zBB;have x4_8d:=zaa zEi;have zEl:=zab hb zBD;have x5_8d:=zaa zEl;have zEn:=zab hb zBF;have x6_8d:=zaa zEn;have zEp:=zab hb zBJ;have x7_8d:=zaa zEp;have zEr:=zab hb zBO;have x8_8d:=zaa zEr;have zEt:=zab hb zBT;have x9_8d:=zaa zEt;have zvG:=zab hb zqO;have x10_8d:=zaa zvG;have zD0:=zab hb zDZ;have x11_8d:=zaa zD0;clear hn hb)
      (try go_wp2_with fail)
      refine hK.out _ _ ?_ (fun hHeld => ?_)
      ·((try go_split_ands);(try simp only [World.cell?_drew]);with_reducible repeat' first | assumption | apply And.intro | refine zah (by omega) ?_ | refine zaf ?_)
      clear hK K
      try simp only [Act.put,pu1,pu2,pu3,pu4,pu5,pu6]
      refine zaB (i:=21) rfl (by kernel_rfl) (fun K hK => ?_)
      go_simp
      (go_at_call 15;(with_reducible refine (Rt.neg gb Ab mb cb Db mdb cdb (el (frs ls) k) _ zGj.out).mono ?_);rintro e u3 ⟨g3,A3,m3,c3,D3,md3,cd3,rfl,hn,hb⟩;have zJ5:=hid (zJ4.out.below hb);have zGm:=hid (zGl.out.below hb);have zF2:=hid (HN2.out.below hb);have HN3:=hid (show RatS u3 g3 (.slice A3 m3 c3) (.slice D3 md3 cd3) (-el (frs ls) k) from hn);have zFF:=zab hb zvD;have x0_9d:=zaa zFF;have zFG:=zab hb zD9;have x1_9d:=zaa zFG;have zFH:=zab hb zEc;have x2_9d:=zaa zFH;have zFI:=zab hb zEf;have x3_9d:=zaa zFI;have zFJ:=zab hb zEi;have x4_9d:=zaa zFJ;have zFK:=zab hb zEl;have x5_9d:=zaa zFK;have zFL:=zab hb zEn;have x6_9d:=zaa zFL;have zFM:=zab hb zEp;have x7_9d:=zaa zFM;have zFN:=zab hb zEr;have x8_9d:=zaa zFN;have zFO:=zab hb zEt;have x9_9d:=zaa zFO;have zxQ:=zab hb zvG;have x10_9d:=zaa zxQ;have zD1:=zab hb zD0;have x11_9d:=zaa zD1;clear hn hb)
      (try go_wp2_with fail)
      refine hK.out _ _ ?_ (fun hHeld => ?_)
      ·((try go_split_ands);(try simp only [World.cell?_drew]);with_reducible repeat' first | assumption | apply And.intro | refine zah (by omega) ?_ | refine zaf ?_)
      clear hK K
      try simp only [Act.put,pu1,pu2,pu3,pu4,pu5,pu6]
      refine zaB (i:=22) rfl (by kernel_rfl) (fun K hK => ?_)
      go_simp
      (go_at_call 14;(with_reducible refine (Rt.mul gc Ac mc cc Dc mdc cdc (el (frs ps) b0) g3 A3 m3 c3 D3 md3 cd3 (-el (frs ls) k) _ zGm.out HN3.out (by rw [zhY,zaP];have:=HZ3.out;have:=HZ2.out;omega)).mono ?_);rintro e u4 ⟨g4,A4,m4,c4,D4,md4,cd4,rfl,hn,hb⟩;have zGw:=hid (zJ5.out.below hb);have zB3:=hid (zF2.out.below hb);have HN4:=hid (show RatS u4 g4 (.slice A4 m4 c4) (.slice D4 md4 cd4) (el (frs ps) b0 * -el (frs ls) k) from hn);have zDS:=zab hb zFF;have x0_10d:=zaa zDS;have zD7:=zab hb zFG;have x1_10d:=zaa zD7;have zEa:=zab hb zFH;have x2_10d:=zaa zEa;have zEd:=zab hb zFI;have x3_10d:=zaa zEd;have zEg:=zab hb zFJ;have x4_10d:=zaa zEg;have zEj:=zab hb zFK;have x5_10d:=zaa zEj;have zEm:=zab hb zFL;have x6_10d:=zaa zEm;have zEo:=zab hb zFM;have x7_10d:=zaa zEo;have zEq:=zab hb zFN;have x8_10d:=zaa zEq;have zEs:=zab hb zFO;have x9_10d:=zaa zEs;have zyD:=zab hb zxQ;have x10_10d:=zaa zyD;have zyE:=zab hb zD1;have x11_10d:=zaa zyE;clear hn hb)
      (try go_wp2_with fail)
      refine hK.out _ _ ?_ (fun hHeld => ?_)
      ·((try go_split_ands);(try simp only [World.cell?_drew]);with_reducible repeat' first | assumption | apply And.intro | refine zah (by omega) ?_ | refine zaf ?_)
      clear hK K
      try simp only [Act.put,pu1,pu2,pu3,pu4,pu5,pu6]
      refine zaB (i:=23) rfl (by kernel_rfl) (fun K hK => ?_)
      go_simp
      (go_at_call 13;(with_reducible refine (Rt.cmpr g2 A2 m2 c2 D2 md2 cd2 (el (frs ps) k * -el (frs ls) b0) g4 A4 m4 c4 D4 md4 cd4 (el (frs ps) b0 * -el (frs ls) k) _ zB3.out HN4.out (by have h1:=zdI (el (frs ps) k) (-el (frs ls) b0);have h2:=zdI (el (frs ps) b0) (-el (frs ls) k);rw [zhY] at h1 h2;rw [zaP];have:=HZ1.out;have:=HZ2.out;have:=HZ3.out;have:=HZ4.out;omega)).mono ?_);rintro e u5 ⟨rfl,hb⟩;have zCh:=hid (zGw.out.below hb);have zIi:=zab hb zDS;have x0_11d:=zaa zIi;have zIn:=zab hb zD7;have x1_11d:=zaa zIn;have zIs:=zab hb zEa;have x2_11d:=zaa zIs;have zIx:=zab hb zEd;have x3_11d:=zaa zIx;have zIC:=zab hb zEg;have x4_11d:=zaa zIC;have zIH:=zab hb zEj;have x5_11d:=zaa zIH;have zIM:=zab hb zEm;have x6_11d:=zaa zIM;have zIP:=zab hb zEo;have x7_11d:=zaa zIP;have zIS:=zab hb zEq;have x8_11d:=zaa zIS;have zIV:=zab hb zEs;have x9_11d:=zaa zIV;have zDU:=zab hb zyD;have x10_11d:=zaa zDU;have zDX:=zab hb zyE;have x11_11d:=zaa zDX;clear hb)
      (try go_wp2_with fail)
      refine hK.out _ _ ?_ (fun hHeld => ?_)
      ·((try go_split_ands);(try simp only [World.cell?_drew]);with_reducible repeat' first | assumption | apply And.intro | refine zah (by omega) ?_ | refine zaf ?_)
      clear hK K
      try simp only [Act.put,pu1,pu2,pu3,pu4,pu5,pu6]
      refine zaw [24,25] ?_
      repeat (refine tkL (v:=?_) rfl (by kernel_rfl) (fun _ _ _ h => h) (by rfl) ?_ hHeld ?_;rotate_left;(focus ((intro w hSw;(try dsimp only at hSw);go_simp);(try with_reducible rfl)));try simp only [Act.put,pu1,pu2,pu3,pu4,pu5,pu6])
      refine zao ?_
      refine zaM (by kernel_rfl) ?_ _
      by_cases hc:el (frs ps) k / -el (frs ls) k < el (frs ps) b0 / -el (frs ls) b0
      ·have hcr:=HXR.out.2 hc
       have hcd:decide (zlX (el (frs ps) k * -el (frs ls) b0) (el (frs ps) b0 * -el (frs ls) k) < 0) = true:=decide_eq_true hcr
       have HFN:=hid (zl1 HCO.out HBE.out hc)
       clear hc
       go_wp2
       go_roundw
       case rel => exact ⟨k + 1,by go_num,by rw [HFN.out];rfl,by omega,zCh.out.b⟩
       case measure => simp [intOf];omega
      ·have hcr:=fun h => hc (HXR.out.1 h)
       have hcd:decide (zlX (el (frs ps) k * -el (frs ls) b0) (el (frs ps) b0 * -el (frs ls) k) < 0) = false:=decide_eq_false hcr
       have HFN:=hid (zl0 HCO.out HBE.out hc)
       clear hc
       go_wp2
       go_roundw
       case rel => exact ⟨k + 1,by go_num,by rw [HFN.out];rfl,by omega,zCh.out.b⟩
       case measure => simp [intOf];omega
    ·have hs:=zrO hq0
     have hs1:¬ (el (frs ls) k).num < 0:=fun e => hq0 (zeh.1 e)
     have hs2:0 ≤ (el (frs ls) k).num:=by omega
     have HF:=hid (zdV (p:=frs ps) (l:=frs ls) (may:=may) (k:=k) (fun h => hq0 h.2))
     go_wp2
     go_roundw
     case rel => exact ⟨k + 1,by go_num,by rw [HF.out],by omega,zGz.out.b⟩
     case measure => simp [intOf];omega
  ·obtain rfl:N = k:=by omega
   have HF:=hid (show zbh (za4 (frs ps) (frs ls) may N) = J by rw [← HEN.out];exact HJ.out)
   have zB2:=hid (zEx.out.below hB)
   have zB4:=hid (zvW.out.below hB)
   have zB1:=hid (zvV.out.below hB)
   have ze3:=hid (zdf.out.trans ((hB).mono zdf.out.size))
   clear hB
   rw [HF.out]
   go_upto_region 7 with fail
   go_cut [41] (fun c wx => c = .bool false ∧ wx = wr)
   case first =>
    have HNX:=HN.out
    by_cases e1:N < nP
    ·have e1i:(N:Int) < (nP:Int):=by omega
     by_cases e2:N < nL
     ·have e2i:(N:Int) < (nL:Int):=by omega
      have e3:¬ N < nm:=by omega
      have e3i:¬ (N:Int) < (nm:Int):=by omega
      clear HNX
      go_wp2
      go_meet
      exact ⟨rfl,rfl⟩
     ·have e2i:¬ (N:Int) < (nL:Int):=by omega
      clear HNX
      go_wp2
      go_meet
      exact ⟨rfl,rfl⟩
    ·have e1i:¬ (N:Int) < (nP:Int):=by omega
     clear HNX
     go_wp2
     go_meet
     exact ⟨rfl,rfl⟩
   obtain ⟨rfl,rfl⟩:=hcut
   rename World => wr
   go_wp2_with fail
   with_reducible refine (Du.all_any n _).mono ?_
   rintro e w6 ⟨Q,K,hK,rfl,hq6,hb⟩
   have zlw:=hid (ze3.out.trans ((hb).mono ze3.out.size))
   have HQ:=hid hq6
   have HB6:=hid hb
   have HKK:=hid hK
   have hk64:K ≤ 64:=by omega
   have HBZ:=hid (show Below w.heap.size w w6 from zlw.out)
   clear hq6 hb hK
   go_wp2
   go_loopw [15] (fun i wz => ∃ k:Nat,i = .int .i64 k ∧ k ≤ K ∧ Below w6.heap.size w6 wz)
    (fun i _ => K - (intOf i).toNat)
   case atStart => exact ⟨0,rfl,Nat.zero_le _,Below.refl _ _⟩
   case round =>
    rename World => wz
    obtain ⟨k,rfl,hkK,hB⟩:=hrel
    have HBW:=hid hB
    by_cases hlt2:k < K
    ·obtain ⟨bq,rfl,_,_⟩:=HQ.out.has (by omega)
     have y0:=(HQ.out.below hB).at_ (show (List.replicate K true)[k]? = some true by rw [List.getElem?_replicate,if_pos hlt2])
     have j1:(0:Int) ≤ (k:Int):=Int.natCast_nonneg _
     have j2:(k:Int) < (K:Int):=by omega
     clear hB
     go_wp2
     go_roundw
     case rel => exact ⟨k + 1,by go_num,by omega,by first | exact HBW.out | exact bdrew HBW.out⟩
     case measure => simp [intOf];omega
    ·obtain rfl:K = k:=by omega
     clear hB
     have HFIN:=hid (HBZ.out.trans (HBW.out.mono HBZ.out.size))
     have hK:=HKK.out
     by_cases h0:n < 0
     ·obtain rfl:K = 0:=by omega
      have h1:¬ (64:Int) < n:=by omega
      have h2:n ≤ 0:=by omega
      have h3:¬ 0 < n:=by omega
      have h4:min n 64 = n:=by omega
      have h5:max 0 n = 0:=by omega
      clear hK
      go_wp2
      go_ret
      exact ⟨rfl,HFIN.out⟩
     ·by_cases h64:64 < n
      ·obtain rfl:K = 64:=by omega
       have h1:(64:Int) ≤ n:=by omega
       have h4:min n 64 = 64:=by omega
       clear hK
       go_wp2
       go_ret
       exact ⟨rfl,HFIN.out⟩
      ·have hKn:n = (K:Int):=by omega
       subst hKn
       clear hK
       rcases Nat.eq_zero_or_pos K with rfl | hKp
       ·go_wp2
        go_ret
        exact ⟨rfl,HFIN.out⟩
       ·have hKi:(0:Int) < (K:Int):=by omega
        have hmin:min (K:Int) 64 = (K:Int):=by omega
        have hmax:max (0:Int) (K:Int) = (K:Int):=by omega
        have hm1:¬ ((64:Int) < (K:Int)):=by omega
        have hm2:(K:Int) ≤ 64:=by omega
        go_wp2
        go_ret
        exact ⟨rfl,HFIN.out⟩
end Lw
end Go.Proofs.YtdbgbaiekpbaoaaGreatDoor
