/- basis.factor by its contract. Conditions: as it says. -/
import Derived.Test.YtdbgbaiekpbaoaaGreatDoorLuFacZp
set_option linter.all false
namespace Go.Proofs.YtdbgbaiekpbaoaaGreatDoor
open Go.RowKit Am
open Lib (hid)
attribute [local go_sem ↓] Go.wp_at_zero Go.wp_at_succ
set_option maxHeartbeats 4000000
set_option maxRecDepth 100000
def zCp (w:World) (H q n S:Nat) (C:List (List Rat)) (e:Ending) (w':World):Prop :=
  (CReg n C ∧ e = .returned (.bool true) ∧ (∀ tb:Option Nat,(∀ g,tb = some g → g < w.heap.size) → zhf w' H q n S C tb) ∧ Below H w w' ∧ Kept TB none w w') ∨ (¬ CReg n C ∧ e = .returned (.bool false) ∧ Below w.heap.size w w')
theorem zuy {n:Nat} {C:List (List Rat)} (h:CSq n C):∀ r ∈ C,r.length = n:=fun r hr => by
 obtain ⟨i,hi⟩:=List.mem_iff_getElem?.1 hr
 rw [← getD_some (d:=[]) hi]
 exact h.col i (by rw [← h.len];exact (List.getElem?_eq_some_iff.1 hi).1)
theorem zxM {n:Nat} {C:List (List Rat)} (h:CSq n C):∀ r ∈ zcZ n C,r.length = n:=fun r hr => by
 obtain ⟨i,_,rfl⟩:=List.mem_map.1 hr
 rw [List.length_map];exact h.len
theorem BasP.mk' {w:World} {H q n S:Nat} {cA:Option Addr} {cc:Nat} {lc:List Value} {C:List (List Rat)} {v1 v2:Value} {K ql:Nat} {F:LUv} (hk:w.heap[q]? = some (.cells #[.slice cA n cc,v1,v2] 206 (0,0))) (h:VecsL w H (.slice cA n cc) lc C) (low:∀ g,(Value.slice cA n cc).ownBlock = some g → g < K)
  (hl:LuS w K ql n F) (hf:zoN n (zcZ n C) = some F) (hC:CSq n C) (hr:CReg n C) (hz:zhg mw n S C) (hq:H ≤ q) (hK:H ≤ K) :
  ∀ tb:Option Nat,(∀ g,tb = some g → g < K) → zhf ((w.setCell ⟨q,1,none⟩ (.pointer (some ⟨ql,0,none⟩))).setCell ⟨q,2,none⟩ (.slice none 0 0)) H q n S C tb:=by
 intro tb htb
 have k1:TKeep 206 w (w.setCell ⟨q,1,none⟩ (.pointer (some ⟨ql,0,none⟩))):=TKeep.set hk _
 have hk2:=zar (o:=1) (.pointer (some ⟨ql,0,none⟩)) hk
 have k2:TKeep 206 (w.setCell ⟨q,1,none⟩ (.pointer (some ⟨ql,0,none⟩))) ((w.setCell ⟨q,1,none⟩ (.pointer (some ⟨ql,0,none⟩))).setCell ⟨q,2,none⟩ (.slice none 0 0)):=TKeep.set hk2 _
 have hP:BasP ((w.setCell ⟨q,1,none⟩ (.pointer (some ⟨ql,0,none⟩))).setCell ⟨q,2,none⟩ (.slice none 0 0)) H q n S cA cc lc C K ql F C none 0 [] []:=by
  refine ⟨?_,(h.tk k1 (by decide) (by decide) (by decide)).tk k2 (by decide) (by decide) (by decide),low,(hl.tk k1 (by decide) (by decide) (by decide) (by decide) (by decide)).tk k2 (by decide) (by decide) (by decide) (by decide) (by decide),hf,EtasL.nil _ _, .nil hC hr hz,Nat.zero_le _,hq,hK⟩
  have:=zar (o:=2) (.slice none 0 0) hk2
  simpa using this
 exact ⟨cA,cc,lc,K,ql,F,C,none,0,[],[],hP,hP.ahead htb⟩
namespace Bs
theorem factor (H q n S cc:Nat) (cA:Option Addr) (lc:List Value) (C:List (List Rat)) (v1 v2:Value) (w:World) (hk:w.heap[q]? = some (.cells #[.slice cA n cc,v1,v2] 206 (0,0))) (h:VecsL w H (.slice cA n cc) lc C) (hq:H ≤ q) (hC:CSq n C) (hn:n ≤ 64) (hz:zhg mw n S C) (hcap:24 * uB n S + 8 ≤ LIM) :
  Calls Tryz.prog 129 #[.pointer (some ⟨q,0,none⟩)] w (zCp w H q n S C):=by
 have HN:=hid hn
 have HC:=hid hC
 have HZC:=hid hz
 have HCAP:=hid hcap
 have HQ:=hid hq
 have KQ:=hid hk
 have HV:=hid h
 have hql:=(Array.getElem?_eq_some_iff.1 hk).1
 have HHL:=hid (show H ≤ w.heap.size by omega)
 obtain ⟨k0,_⟩:=bc3 hk
 clear hn hC hz hcap hk h
 go_enter Tryz.func129,Tryz.ntmps129
 go_wp2_with fail
 refine (matrix q n cc cA lc C H _ k0 HV.out (zuy HC.out) HN.out).mono ?_
 rintro e w1 ⟨A1,c1,l1,rfl,hv1,ha1,hb1⟩
 have HV1:=hid hv1
 have HB1:=hid hb1
 clear hv1 ha1 hb1
 go_wp2_with fail
 refine (Lu.factor n c1 A1 l1 (zcZ n C) w.heap.size S _ HV1.out (zxM HC.out) HN.out (fun i hi j hj => by rw [zeI hi (by rw [HC.out.len];exact hj)];exact HZC.out j hj i hi) HCAP.out).mono ?_
 rintro e w2 (⟨F,ql,hF,rfl,hl,hb2⟩ | ⟨hF,rfl,hb2⟩)
 ·have hr:CReg n C:=by
   by_cases e:CReg n C
   ·exact e
   ·rw [zAZ HC.out e] at hF;cases hF
  have HR:=hid hr
  have HF:=hid hF
  have HL:=hid hl
  have HB2:=hid (HB1.out.trans (hb2.mono HB1.out.size))
  have KQ2:=hid (zad HB2.out KQ.out)
  have HV2:=hid (HV.out.below HB2.out)
  have hzw:=HB1.out.size
  obtain ⟨_,_,_,_,z1,_,zf1,_,z2,_,zf2,_⟩:=bf3 KQ2.out
  clear hF hl hb2 hr
  go_wp2
  go_ret
  have hs:Kept TB none w2 (w2.setCell ⟨q,1,none⟩ (.pointer (some ⟨ql,0,none⟩))):=Kept.set KQ2.out (by decide) _
  have hs2:Kept TB none (w2.setCell ⟨q,1,none⟩ (.pointer (some ⟨ql,0,none⟩))) ((w2.setCell ⟨q,1,none⟩ (.pointer (some ⟨ql,0,none⟩))).setCell ⟨q,2,none⟩ (.slice none 0 0)):=Kept.set (zar _ KQ2.out) (by decide) _
  exact .inl ⟨HR.out,rfl,fun tb htb => BasP.mk' KQ2.out HV2.out (fun g hg => by have:=(HV.out.own.lt g hg).2;omega) HL.out HF.out HC.out HR.out HZC.out HQ.out (by have:=HHL.out;omega) tb (fun g hg => by have:=htb g hg;omega),((HB2.out.mono HHL.out).setCell (p:=⟨q,1,none⟩) HQ.out _).setCell (p:=⟨q,2,none⟩) HQ.out _,((Kept.of_below HB2.out).trans hs).trans hs2⟩
 ·have hr:¬ CReg n C:=fun e => by
   obtain ⟨F,hF2,_⟩:=ziH HC.out e
   rw [hF] at hF2;cases hF2
  have HR:=hid hr
  have HB2:=hid (HB1.out.trans (hb2.mono HB1.out.size))
  clear hF hb2 hr
  go_wp2
  go_ret
  exact .inr ⟨HR.out,rfl,HB2.out⟩
end Bs
end Go.Proofs.YtdbgbaiekpbaoaaGreatDoor
