/- basis.Replace by its contract. Conditions: as it says. -/
import Derived.Test.YtdbgbaiekpbaoaaGreatDoorBasFZp
import Derived.Test.YtdbgbaiekpbaoaaGreatDoorLuSZp
set_option linter.all false
namespace Go.Proofs.YtdbgbaiekpbaoaaGreatDoor
open Go.RowKit Am
open Lib (hid)
attribute [local go_sem ↓] Go.wp_at_zero Go.wp_at_succ
set_option maxHeartbeats 4000000
set_option maxRecDepth 100000
structure BasH (w wy:World) (H q n:Nat) (cA:Option Addr) (cc:Nat) (C':List (List Rat)) (K ql:Nat) (F:LUv) (eA:Option Addr) (ec:Nat) (le:List (Nat × Value)) (es:List (Nat × List Rat)) (X:Option Addr) (cX:Nat) (x:List Rat):Prop where
  blk:wy.heap[q]? = some (.cells #[.slice cA n cc, .pointer (some ⟨ql,0,none⟩), .slice eA es.length ec] 206 (0,0))
  cols:∃ lc',VecsL wy H (.slice cA n cc) lc' C'
  lu:LuS wy K ql n F
  etas:EtasL wy H (.slice eA es.length ec) le es
  x:VecS wy H (.slice X n cX) x
  bel:Below H w wy
  kept:Kept TB none w wy
  off:∀ tb,zey w ql tb → zey wy ql tb
namespace BasH
variable {w wy w':World} {H q n:Nat} {cA:Option Addr} {cc:Nat} {C':List (List Rat)} {K ql:Nat} {F:LUv} {eA:Option Addr} {ec:Nat} {le:List (Nat × Value)} {es:List (Nat × List Rat)} {X:Option Addr} {cX:Nat} {x:List Rat}
theorem below (h:BasH w wy H q n cA cc C' K ql F eA ec le es X cX x) (hH:H ≤ wy.heap.size) (hb:Below wy.heap.size wy w'):BasH w w' H q n cA cc C' K ql F eA ec le es X cX x:=by
 obtain ⟨lc',hc⟩:=h.cols
 exact ⟨zad hb h.blk,⟨lc',hc.below hb⟩,h.lu.below hb,h.etas.below hb,h.x.below hb,h.bel.trans (hb.mono hH),h.kept.below hb,fun tb ho => (h.off tb ho).same (hb.block ql h.lu.qlt)⟩
end BasH
namespace Bs
theorem replace (H q n S k:Nat) (C:List (List Rat)) (A:Option Addr) (cA0:Nat) (a:List Rat) (H':Nat) (w:World) (tb:Option Nat) (htb:∀ g,tb = some g → g < w.heap.size) (hB:zhf w H q n S C tb) (hv:VecS w H' (.slice A n cA0) a) (hn:n ≤ 64) (hk:k < n) (zv:∀ x ∈ a,mw x ≤ S) (hS:1 ≤ S) (hp:el (zes n C a) k ≠ 0) (hcap:zpS n S S ≤ LIM) :
  Calls Tryz.prog 132 #[.pointer (some ⟨q,0,none⟩), .int .i64 (k:Int), .slice A n cA0] w fun e w' => e = .returned .nilIface ∧ zhf w' H q n S (C.set k a) tb ∧ Below H w w' ∧ Kept TB none w w':=by
 have HSOL:=hid (solve H q n S S C A cA0 a H' w hB.toS hv hn zv hS hcap)
 have HBS:=hid hB.toS
 have HTB:=hid htb
 obtain ⟨cA,cc,lc,K,ql,F,D,eA,ec,le,es,hP,hPO⟩:=hB
 have HPO:=hid hPO
 have HN:=hid hn
 have HK:=hid hk
 have HP0:=hid hp
 have HCAP:=hid hcap
 have HP:=hid hP
 have HV0:=hid hv
 have HAL:=hid hv.len
 have HZA:=hid (fun i (hi:i < n) => zrz zv (i:=i) (by rw [← hv.len];exact hi))
 have hfew:=hP.few
 have hnb:n ≤ 9223372036854775807:=by omega
 have hi1:(0:Int) ≤ (k:Int):=Int.natCast_nonneg _
 have hi2:(k:Int) < (n:Int):=by omega
 have h1:decide ((k:Int) < 0) = false:=by simp
 have h2:decide ((n:Int) ≤ (k:Int)) = false:=by simp;omega
 obtain ⟨bc_,rfl,hbc0,hbc1⟩:=hP.cols.has (by omega)
 obtain ⟨k0,_,k1,_⟩:=bc3 hP.blk
 obtain ⟨r0,hck⟩:∃ r0,C[k]? = some r0:=⟨C[k]'(by rw [hP.right.good.1.len];exact hk),List.getElem?_eq_getElem _⟩
 obtain ⟨Ao,co,_,y0,_⟩:=hP.cols.at_ hck
 clear hP hv hn hk zv hS hp hcap hck hPO htb
 go_enter Tryz.func132,Tryz.ntmps132
 go_wp2_with fail
 with_reducible refine (HSOL.out).mono ?_
 rintro e w1 ⟨B,n1,c1,rfl,hv1,hb⟩
 have zjH:=hid (HP.out.below hb)
 have zGq:=hid (HV0.out.below hb)
 have HX:=hid (show VecS w1 w.heap.size (.slice B n1 c1) (zes n C a) from hv1)
 have zbJ:=zab hb k0
 clear hv1
 have y1:=zab hb y0
 have HB1:=hid hb
 clear hb y0
 obtain rfl:n = n1:=by rw [HX.out.len,(zci HBS.out.good.1 HBS.out.good.2.1 a).2]
 have hqx:=zaH (xs:=zes n C a) (j:=k) (by rw [← HX.out.len];exact HK.out)
 obtain ⟨bx,rfl,hbx0,hbx1⟩:=HX.out.has (by omega)
 obtain ⟨gx,Ax,mx,cx,Dx,mdx,cdx,x0,x1,x2,hRx⟩:=HX.out.at_ hqx
 have HRX:=hid hRx
 clear hqx hRx
 go_wp2_with fail
 with_reducible refine (Rt.zero gx Ax mx cx Dx mdx cdx (el (zes n C a) k) _ HRX.out).mono ?_
 rintro e w2 ⟨rfl,hb⟩
 have zjI:=hid (zjH.out.below hb)
 have zGr:=hid (zGq.out.below hb)
 have zza:=hid (HX.out.below hb)
 have zcX:=zab hb zbJ
 have x0_2d:=zaa zcX
 have y2:=zab hb y1
 have y2d:=zaa y2
 have HB2:=hid (HB1.out.trans (hb.mono HB1.out.size))
 clear hb x0 x1 x2 y1
 have hz:zr (el (zes n C a) k) = false:=decide_eq_false HP0.out
 have HHW:=hid (show H ≤ w.heap.size from HP.out.hle)
 go_upto_region 8 with fail
 go_cut [] (fun wy => BasH w wy H q n (some ⟨bc_,0,none⟩) cc (C.set k a) K ql F eA ec le es (some ⟨bx,0,none⟩) c1 (zes n C a))
 case first => as_aux_lemma =>
  refine zaS (S:=fun w' => w'.cell? ⟨q,0,none⟩ = some (.slice (some ⟨bc_,0,none⟩) n cc)) [8] (h:=fun hHeld => ?_)
  refine zaw [0,1,2,3,4,5] ?_
  repeat refine tkL (hS:=hHeld) (h:=?_)
  refine zao ?_
  refine zaB 6 (h:=fun K hK => ?_)
  go_simp
  (go_at_call 70;(with_reducible refine (Vc.copy A n cA0 a H' _ (zGr.out.drew) (by have:=HN.out;omega)).mono ?_);rintro e u1 ⟨A2,c2,rfl,hv2,hb⟩;have HV2:=hid (show VecS u1 w2.heap.size (.slice A2 n c2) a from hv2);have HP2:=hid (zjI.out.below (show Below w2.heap.size w2 u1 from It.bdrew0' hb));have HX2:=hid (zza.out.below (show Below w2.heap.size w2 u1 from It.bdrew0' hb));have HB3:=hid (HB2.out.trans ((show Below w2.heap.size w2 u1 from It.bdrew0' hb).mono HB2.out.size));have s0:=zab hb x0_2d;have s1:=zab hb y2d;have sf:=HP2.out.cols.fro k;have HZ2:=hid (show w.heap.size ≤ w2.heap.size from HB2.out.size);clear hv2 hb)
  (try go_wp2_with fail)
  refine hK.out _ _ kp fun hHeld => ?_
  clear hK K
  try simp only [Act.put,pu1,pu2,pu3,pu4,pu5,pu6]
  refine zaw [7] ?_
  repeat refine tkL (hS:=hHeld) (h:=?_)
  refine zao ?_
  refine zay 8 (h:=fun K hK => ?_)
  go_simp
  refine hK.out _ _ ?_
  clear hK K
  try simp only [Act.put,pu1,pu2,pu3,pu4,pu5,pu6]
  refine zaM (h:=?_)
  go_wp2
  go_meet
  have hblk:=HP2.out.cols.blk
  obtain ⟨cs,hcs⟩:=hblk
  have k1:TKeep 26 u1 (u1.setCell ⟨bc_,k,none⟩ (.slice A2 n c2)):=TKeep.set hcs _
  case rel => exact ⟨k1.blk HP2.out.blk (by decide),⟨_,HP2.out.cols.store (by rw [HBS.out.good.1.len];exact HK.out) (HV2.out.base (by have:=HHW.out;have:=HZ2.out;omega))⟩,(Hi.set (HP2.out.low bc_ rfl) hcs (by decide) _).lu HP2.out.lu,HP2.out.etas.tk k1 (by decide) (by decide) (by decide),(HX2.out.base HHW.out).tk k1 (by decide) (by decide),(HB3.out.mono HHW.out).setCell (p:=⟨bc_,k,none⟩) hbc0 _,(Kept.of_below HB3.out).trans (Kept.set hcs (by decide) _),fun tb ho => (ho.same (HB3.out.block ql HP.out.lu.qlt)).same (by obtain ⟨⟨lA_,lc_,ll_,uA_,uc_,ul_,pA_,pc_,a1,_⟩,_,_⟩:=HP2.out.lu;rw [k1.blk a1 (by decide),a1])⟩
 case rest =>
  rename World => wy
  have HY:=hid hcut
  have HYZ:=hid (show H ≤ wy.heap.size from Nat.le_trans HP.out.own (Nat.le_of_lt (Array.getElem?_eq_some_iff.1 hcut.blk).1))
  obtain ⟨_,_,_,_,_,_,_,_,z2,_⟩:=bf3 hcut.blk
  clear hcut y2 y2d
  have HYA:=hid (HY.out.below HYZ.out (zae wy (.cells #[.int .i64 (k:Int), .slice (some ⟨bx,0,none⟩) n c1] 208)))
  have HSQ:=hid (HP.out.right.good.1.set (k:=k) HAL.out.symm)
  have HREG:=hid (zjl HP.out.right.good.1 HP.out.right.good.2.1 HK.out (zci HP.out.right.good.1 HP.out.right.good.2.1 a).1 HP0.out)
  have HSN:=hid (EtasZ.snoc HP.out.right HK.out HAL.out.symm HZA.out HP0.out)
  obtain ⟨lc',hc'⟩:=HYA.out.cols
  have HCY:=hid hc'
  clear hc'
  by_cases hes:es.length < 8
  ·have h8:((es.length:Int)) < 8:=by omega
   go_wp2_with (at_builtin;refine zd5 rfl _ _ rfl rfl HYA.out.etas rfl (zal _ _ _) (HYA.out.x) (n:=es.length) rfl (by omega) (by simp;have:=HYZ.out;omega) ?_;intro A5 c5 l5 w5 hL5 hk5 hb5;have HL5:=hid hL5;have HK5:=hid hk5;have HB5:=hid (HYA.out.bel.trans hb5);have KQ5:=hid (hk5.blk HYA.out.blk (by decide));have v0:=zac KQ5.out 0;have v1:=zac KQ5.out 1;have v2:=zac KQ5.out 2;have vf2:=zag KQ5.out 2;simp only [List.getElem?_toArray,List.getElem?_cons_zero,List.getElem?_cons_succ] at v0 v1 v2;have HKP:=hid (HYA.out.kept.trans (Kept.tk hk5 hb5.size (by decide)));clear hL5 hk5 hb5)
   go_ret
   have kq:TKeep 206 w5 (w5.setCell ⟨q,2,none⟩ (.slice A5 (es.length + 1) c5)):=TKeep.set KQ5.out _
   have hkq:(w5.setCell ⟨q,2,none⟩ (.slice A5 (es.length + 1) c5)).heap[q]? = some (.cells #[.slice (some ⟨bc_,0,none⟩) n cc, .pointer (some ⟨ql,0,none⟩), .slice A5 (es.length + 1) c5] 206 (0,0)):=by have:=zar (o:=2) (.slice A5 (es.length + 1) c5) KQ5.out;simpa using this
   have hcc:VecsL (w5.setCell ⟨q,2,none⟩ (.slice A5 (es.length + 1) c5)) H (.slice (some ⟨bc_,0,none⟩) n cc) lc' (C.set k a):=(HCY.out.tk HK5.out (by decide) (by decide) (by decide)).tk kq (by decide) (by decide) (by decide)
   have hbb:Below H w (w5.setCell ⟨q,2,none⟩ (.slice A5 (es.length + 1) c5)):=HB5.out.setCell (p:=⟨q,2,none⟩) HP.out.own _
   have hkk:Kept TB none w (w5.setCell ⟨q,2,none⟩ (.slice A5 (es.length + 1) c5)):=HKP.out.trans (Kept.set KQ5.out (by decide) _)
   have hpo:zey (w5.setCell ⟨q,2,none⟩ (.slice A5 (es.length + 1) c5)) ql tb:=((HYA.out.off tb HPO.out).same (by obtain ⟨⟨lA_,lc_,ll_,uA_,uc_,ul_,pA_,pc_,a1,_⟩,_,_⟩:=HYA.out.lu;rw [HK5.out.blk a1 (by decide),a1])).same (by obtain ⟨⟨lA_,lc_,ll_,uA_,uc_,ul_,pA_,pc_,a1,_⟩,_,_⟩:=HYA.out.lu;rw [kq.blk (HK5.out.blk a1 (by decide)) (by decide),HK5.out.blk a1 (by decide)])
   exact ⟨rfl,⟨_,cc,lc',K,ql,F,D,A5,c5,l5,es ++ [(k,zes n C a)],⟨by rw [List.length_append];exact hkq,hcc,HP.out.low,(HYA.out.lu.tk HK5.out (by decide) (by decide) (by decide) (by decide) (by decide)).tk kq (by decide) (by decide) (by decide) (by decide) (by decide),HP.out.fac,by rw [List.length_append];exact HL5.out.tk kq (by decide) (by decide) (by decide),HSN.out,by rw [List.length_append];simp;omega,HP.out.own,HP.out.ownK⟩,hpo⟩,hbb,hkk⟩
  ·have h8:8 ≤ (es.length:Int):=by omega
   go_wp2_with (at_builtin;refine zd5 rfl _ _ rfl rfl HYA.out.etas rfl (zal _ _ _) (HYA.out.x) (n:=es.length) rfl (by omega) (by simp;have:=HYZ.out;omega) ?_;intro A5 c5 l5 w5 hL5 hk5 hb5;have HL5:=hid hL5;have HK5:=hid hk5;have HB5:=hid (HYA.out.bel.trans hb5);have KQ5:=hid (hk5.blk HYA.out.blk (by decide));have v0:=zac KQ5.out 0;have v1:=zac KQ5.out 1;have v2:=zac KQ5.out 2;have vf2:=zag KQ5.out 2;simp only [List.getElem?_toArray,List.getElem?_cons_zero,List.getElem?_cons_succ] at v0 v1 v2;have HKP:=hid (HYA.out.kept.trans (Kept.tk hk5 hb5.size (by decide)));clear hL5 hk5 hb5)
   have kq:TKeep 206 w5 (w5.setCell ⟨q,2,none⟩ (.slice A5 (es.length + 1) c5)):=TKeep.set KQ5.out _
   have hkq:(w5.setCell ⟨q,2,none⟩ (.slice A5 (es.length + 1) c5)).heap[q]? = some (.cells #[.slice (some ⟨bc_,0,none⟩) n cc, .pointer (some ⟨ql,0,none⟩), .slice A5 (es.length + 1) c5] 206 (0,0)):=by have:=zar (o:=2) (.slice A5 (es.length + 1) c5) KQ5.out;simpa using this
   have hcc:VecsL (w5.setCell ⟨q,2,none⟩ (.slice A5 (es.length + 1) c5)) H (.slice (some ⟨bc_,0,none⟩) n cc) lc' (C.set k a):=(HCY.out.tk HK5.out (by decide) (by decide) (by decide)).tk kq (by decide) (by decide) (by decide)
   have hbb:Below H w (w5.setCell ⟨q,2,none⟩ (.slice A5 (es.length + 1) c5)):=HB5.out.setCell (p:=⟨q,2,none⟩) HP.out.own _
   have hkk:Kept TB none w (w5.setCell ⟨q,2,none⟩ (.slice A5 (es.length + 1) c5)):=HKP.out.trans (Kept.set KQ5.out (by decide) _)
   have HKQ:=hid hkq
   have HCC:=hid hcc
   have HBB:=hid hbb
   have HKK:=hid hkk
   clear kq hkq hcc hbb hkk
   refine (factor H q n S cc (some ⟨bc_,0,none⟩) lc' (C.set k a) _ _ _ HKQ.out HCC.out HP.out.own HSQ.out HN.out HSN.out.good.2.2 (zC3 HCAP.out)).mono ?_
   rintro e w6 (⟨_,rfl,hs,hb6,hk6⟩ | ⟨hr,rfl,_⟩)
   ·have HS:=hid (hs tb (fun g hg => Nat.lt_of_lt_of_le (HTB.out g hg) HKK.out.size))
    have HB6:=hid (HBB.out.trans hb6)
    have HK6:=hid (HKK.out.trans hk6)
    clear hs hb6 hk6
    go_wp2
    go_ret
    exact ⟨rfl,HS.out,HB6.out,HK6.out⟩
   ·exact absurd HREG.out hr
end Bs
end Go.Proofs.YtdbgbaiekpbaoaaGreatDoor
