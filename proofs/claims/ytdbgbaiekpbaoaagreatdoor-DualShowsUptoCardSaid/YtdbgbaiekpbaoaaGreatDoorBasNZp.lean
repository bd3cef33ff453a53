/- basis.New by its contract. Conditions: as it says. tab.New by its contract. Conditions: as it says. Conditions: as they say. -/
import Derived.Test.YtdbgbaiekpbaoaaGreatDoorBasFZp
import Derived.Test.YtdbgbaiekpbaoaaGreatDoorBasTZp
set_option linter.all false
namespace Go.Proofs.YtdbgbaiekpbaoaaGreatDoor
open Go.RowKit Am
open Lib (hid)
attribute [local go_sem ↓] Go.wp_at_zero Go.wp_at_succ
set_option maxHeartbeats 4000000
set_option maxRecDepth 100000
def zCq (w:World) (n S:Nat) (C:List (List Rat)) (e:Ending) (w':World):Prop :=
  (∃ q,CReg n C ∧ e = .returned (.tuple #[.pointer (some ⟨q,0,none⟩), .nilIface]) ∧ zjE w' w.heap.size q n S C ∧ Below w.heap.size w w') ∨
  (¬ CReg n C ∧ e = .returned (.tuple #[.pointer none, .iface 59 (.int .i64 140)]) ∧ Below w.heap.size w w')
namespace Bs
theorem new (n c0:Nat) (A0:Option Addr) (l0:List Value) (C:List (List Rat)) (H0 S:Nat) (w:World) (h:VecsL w H0 (.slice A0 n c0) l0 C) (hC:CSq n C) (hn:n ≤ 64) (hz:zhg mw n S C) (hcap:24 * uB n S + 8 ≤ LIM) :
  Calls Tryz.prog 77 #[.slice A0 n c0] w (zCq w n S C):=by
 have HN:=hid hn
 have HC:=hid hC
 have HZC:=hid hz
 have HCAP:=hid hcap
 have HV:=hid h
 have HNL:=hid h.nlen
 have hnb:n ≤ 9223372036854775807:=by omega
 have h64:decide ((64:Int) < (n:Int)) = false:=by simp;omega
 have h65:¬ ((64:Int) < (n:Int)):=by omega
 have h66:((n:Int) != (n:Int)) = false:=by simp
 clear hn hC hz hcap h
 go_enter Tryz.func77,Tryz.ntmps77
 go_wp2
 go_loopw [11] (fun i wr => ∃ (k:Nat) (bA:Option Addr) (bc_:Nat) (bl:List Value),i = .int .i64 k ∧ k ≤ n ∧ wr.heap[w.heap.size]? = some (.cells #[.slice bA k bc_, .pointer none, .slice none 0 0] 206 (0,0)) ∧ VecsL wr w.heap.size (.slice bA k bc_) bl (C.take k) ∧ Below w.heap.size w wr)
  (fun i _ => n - (intOf i).toNat)
 case atStart => exact ⟨0,none,0,[],rfl,Nat.zero_le _,zal _ _ _,by rw [List.take_zero];exact VecsL.nil _ _,zae _ _⟩
 case round =>
  obtain ⟨k,bA,bc_,bl,rfl,hk,hq,hb,hB⟩:=hrel
  by_cases hlt:k < n
  ·obtain ⟨r,hr⟩:∃ r,C[k]? = some r:=⟨C[k]'(by rw [← HNL.out];exact hlt),List.getElem?_eq_getElem _⟩
   have hrl:r.length = n:=zuy HC.out r (List.mem_of_getElem? hr)
   obtain ⟨b0,rfl,_,_⟩:=HV.out.has (by omega)
   obtain ⟨Ar,cr,_,y0,hVr⟩:=(HV.out.below hB).at_ hr
   rw [hrl] at y0 hVr
   have HR:=hid (show VecS wr H0 (.slice Ar n cr) r from hVr)
   have HB:=hid (show VecsL wr w.heap.size (.slice bA k bc_) bl (C.take k) from hb)
   have HW:=hid (show Bel w wr from Bel.mk hB)
   have zbJ:wr.cell? ⟨b0,k,none⟩ = some (.slice Ar n cr):=y0
   have zbY:wr.cell? ⟨w.heap.size,0,none⟩ = some (.slice bA k bc_):=zac hq 0
   have x1_1d:=zaa zbY
   have KQ:=hid hq
   have HRK:=hid hr
   have HBZ:=hid (show w.heap.size ≤ wr.heap.size from hB.size)
   clear hr hrl hVr hb hB hq y0
   have hi1:(0:Int) ≤ (k:Int):=Int.natCast_nonneg _
   have hi2:(k:Int) < (n:Int):=by omega
   go_wp2_with fail
   refine zaS (S:=fun w' => w'.cell? ⟨w.heap.size,0,none⟩ = some (.slice bA k bc_)) [11] (h:=fun hHeld => ?_)
   refine zaw [0,1,2,3,4,5] ?_
   repeat refine tkL (hS:=hHeld) (h:=?_)
   refine zao ?_
   refine zaB 6 (h:=fun K hK => ?_)
   go_simp
   (go_at_call 70;(with_reducible refine (Vc.copy Ar n cr r H0 _ (HR.out.drew) (by have:=HN.out;omega)).mono ?_);rintro e u1 ⟨A2,c2,rfl,hv2,hb⟩;have HV2:=hid (show VecS u1 wr.heap.size (.slice A2 n c2) r from hv2);have HB1:=hid (HB.out.below (show Below wr.heap.size wr u1 from It.bdrew0' hb));have HW1:=hid (HW.out.below (show Below wr.heap.size wr u1 from It.bdrew0' hb));have KQ1:=hid (zad (show Below wr.heap.size wr u1 from It.bdrew0' hb) KQ.out);have s0:=zab hb x1_1d;clear hv2 hb)
   (try go_wp2_with fail)
   refine hK.out _ _ kp fun hHeld => ?_
   clear hK K
   try simp only [Act.put,pu1,pu2,pu3,pu4,pu5,pu6]
   refine zaB 7 (h:=fun K hK => ?_)
   go_simp
   refine hK.out _ _ kp fun hHeld => ?_
   clear hK K
   try simp only [Act.put,pu1,pu2,pu3,pu4,pu5,pu6]
   refine zaB 8 (h:=fun K hK => ?_)
   (refine zet rfl _ _ rfl rfl (HB1.out.alloc (.cells #[.slice A2 n c2] 26)) rfl (zal _ _ _) ((HV2.out.base HBZ.out).alloc _) (n:=k) (by rw [List.length_take];have:=HNL.out;omega) (by have:=HN.out;omega) (by simp;have:=HW1.out.b.size;omega) ?_;intro A5 c5 w5 hL5 hk5 hb5 hf5;have HL5:=hid hL5;have HB5:=hid hb5;have KQ5:=hid (hk5.blk (zak KQ1.out) (by decide));have z0:=zac KQ5.out 0;have zf:=zag KQ5.out 0;simp only [List.getElem?_toArray,List.getElem?_cons_zero,List.getElem?_cons_succ] at z0;clear hL5 hk5 hb5 hf5)
   refine hK.out _ _ kp fun hHeld => ?_
   clear hK K
   try simp only [Act.put,pu1,pu2,pu3,pu4,pu5,pu6]
   refine zaw [9] ?_
   repeat refine tkX (h:=?_)
   refine zao ?_
   refine zaw [10] ?_
   repeat refine tkL (hS:=hHeld) (h:=?_)
   refine zao ?_
   refine zay 11 (h:=fun K hK => ?_)
   go_simp
   refine hK.out _ _ ?_
   clear hK K
   try simp only [Act.put,pu1,pu2,pu3,pu4,pu5,pu6]
   refine zaM (h:=?_)
   go_wp2
   go_roundw
   case rel => exact ⟨k + 1,A5,c5,_,by go_num,by omega,zar _ KQ5.out,by rw [show C.take (k + 1) = C.take k ++ [r] by rw [List.take_add_one,HRK.out];rfl];exact HL5.out.tk (TKeep.set KQ5.out _) (by decide) (by decide) (by decide),((HW1.out.alloc _).b.trans HB5.out).setCell (p:=⟨w.heap.size,0,none⟩) (Nat.le_refl _) _⟩
   case measure => simp [intOf];omega
  ·obtain rfl:k = n:=by omega
   have HBr:=hid (show VecsL wr w.heap.size (.slice bA k bc_) bl C by have h:=hb;rw [HNL.out,List.take_length] at h;rw [HNL.out];exact h)
   have HWr:=hid hB
   have KQ:=hid hq
   clear hk hq hb hB hlt
   go_wp2_with fail
   refine (factor w.heap.size w.heap.size k S bc_ bA bl C _ _ _ KQ.out HBr.out (Nat.le_refl _) HC.out HN.out HZC.out HCAP.out).mono ?_
   rintro e w2 (⟨hr,rfl,hs,hb2,_⟩ | ⟨hr,rfl,hb2⟩)
   ·have HR:=hid hr
    have HS:=hid (hs none (fun g h => by cases h)).toS
    have HB2:=hid (HWr.out.trans hb2)
    clear hr hs hb2
    go_wp2
    go_ret2
    exact .inl ⟨_,HR.out,rfl,HS.out,HB2.out⟩
   ·have HR:=hid hr
    have HB2:=hid (HWr.out.trans (hb2.mono HWr.out.size))
    clear hr hb2
    go_wp2
    go_ret2
    exact .inr ⟨HR.out,rfl,HB2.out⟩
end Bs
theorem EtasL.base {w:World} {H H':Nat} {v:Value} {l:List (Nat × Value)} {es:List (Nat × List Rat)} (h:EtasL w H v l es) (hb:H' ≤ H):EtasL w H' v l es :=
 ⟨h.len,fun k s e a b => ⟨(h.each k s e a b).1,(h.each k s e a b).2.base hb⟩,zbu h.own hb⟩
theorem zjE.base {w:World} {H H' q n S:Nat} {C:List (List Rat)} (h:zjE w H q n S C) (hb:H' ≤ H):zjE w H' q n S C:=by
 obtain ⟨cA,cc,lc,K,ql,F,D,eA,ec,le,es,h⟩:=h
 exact ⟨cA,cc,lc,K,ql,F,D,eA,ec,le,es,h.blk,h.cols.base hb,h.low,h.lu,h.fac,h.etas.base hb,h.right,h.few,Nat.le_trans hb h.own,Nat.le_trans hb h.ownK⟩
theorem zhf.base {w:World} {H H' q n S:Nat} {C:List (List Rat)} {tb:Option Nat} (h:zhf w H q n S C tb) (hb:H' ≤ H):zhf w H' q n S C tb:=by
 obtain ⟨cA,cc,lc,K,ql,F,D,eA,ec,le,es,h,ho⟩:=h
 exact ⟨cA,cc,lc,K,ql,F,D,eA,ec,le,es,⟨h.blk,h.cols.base hb,h.low,h.lu,h.fac,h.etas.base hb,h.right,h.few,Nat.le_trans hb h.own,Nat.le_trans hb h.ownK⟩,ho⟩
theorem zzi {A:List (List Rat)} {cols:List Nat} {k j:Nat} (h:cols[k]? = some j):bc A (cols.take (k + 1)) = bc A (cols.take k) ++ [zb4 A j]:=by
 unfold bc;rw [List.take_add_one,h,List.map_append];rfl
theorem zqp {m N:Nat} {A:List (List Rat)} {cols:List Nat} (hB:Basis m N A cols) {k j:Nat} (hk:cols[k]? = some j):(j:Int) ∉ (cols.map fun (x:Nat) => (x:Int)).take k:=fun h => by
 obtain ⟨i,hi⟩:=List.mem_iff_getElem?.1 h
 rw [List.getElem?_take] at hi
 split at hi
 ·rename_i hik
  rw [List.getElem?_map] at hi
  cases e:cols[i]? with
  | none => rw [e] at hi;cases hi
  | some x =>
   rw [e] at hi
   injection hi with hi
   have hx:x = j:=by have h2:((x:Nat):Int) = (j:Int):=hi;omega
   have l1:=(List.getElem?_eq_some_iff.1 e).1
   have l2:=(List.getElem?_eq_some_iff.1 hk).1
   have:=hB.inj i k (by rw [← hB.len];exact l1) (by rw [← hB.len];exact l2) (by rw [getD_some (d:=0) e,getD_some (d:=0) hk,hx])
   omega
 ·cases hi
namespace Tb
theorem new (rA:Option Addr) (rc:Nat) (lA:List Value) (bA:Option Addr) (bc_:Nat) (kA:Option Addr) (kc:Nat) (eA:Option Addr) (ec m N S own:Nat) (A:List (List Rat)) (b c:List Rat) (left:List Int) (tA:Option Addr) (tc:Nat) (cols:List Nat) (Hc:Nat) (w:World)
  (hS:StdP w rA rc lA bA bc_ kA kc eA ec m N S A b c left) (hc:IntsS w Hc (.slice tA m tc) cols) (hB:Basis m N A cols) (hcap:zor m S ≤ LIM) :
  Calls Tryz.prog 22 #[.agg #[.slice rA m rc, .int .i64 (N:Int), .slice bA m bc_, .slice kA N kc, .int .i64 (own:Int), .slice eA m ec], .slice tA m tc] w fun e w' => ∃ (q:Nat) (tA':Option Addr) (tc':Nat),e = .returned (.tuple #[.pointer (some ⟨q,0,none⟩), .nilIface]) ∧ zhi w w' w.heap.size q rA rc lA bA bc_ kA kc eA ec m N S own A b c left tA' tc' cols ∧ Below w.heap.size w w':=by
 have HB:=hid hB
 have HCAP:=hid hcap
 have HS0:=hid hS
 have hm64:=hS.hm
 have hN64:=hS.hN
 have hcap9:=hc.form
 have hcp1:tc ≤ 9223372036854775807:=by have:=hcap9.2.2.1;unfold maxLen at this;omega
 have hcp2:m ≤ tc:=hcap9.2.1
 have HCZ:=hid (show zhg mw m S (bc A cols) from fun j hj i hi => by rw [ztZ (by rw [hB.len];exact hj) (by rw [hB.rect.len];exact hi)];exact hS.zen hi (hB.lt j hj))
 clear hcap hB hcap9
 obtain ⟨W,hW⟩:∃ W,(w.alloc (.cells #[.slice rA m rc, .int .i64 (N:Int), .slice bA m bc_, .slice kA N kc, .int .i64 (own:Int), .slice eA m ec] 66)) = W:=⟨_,rfl⟩
 have KB0:=hid (show W.heap[w.heap.size]? = some (.cells #[.slice rA m rc, .int .i64 (N:Int), .slice bA m bc_, .slice kA N kc, .int .i64 (own:Int), .slice eA m ec] 66 (0,0)) by rw [← hW];exact zam (by simp))
 have BB:=hid (show Below w.heap.size w W by rw [← hW];exact zae w _)
 have HS:=hid (show StdP W rA rc lA bA bc_ kA kc eA ec m N S A b c left by rw [← hW];exact (hS).alloc _)
 have HI:=hid (show IntsS W Hc (.slice tA m tc) cols by rw [← hW];exact (hc).alloc _)
 obtain ⟨zaK,_,zaL,_,zbO,_,zyb,_,zye,_,zI7,_⟩:=bc6 KB0.out
 clear hS hc
 go_enter Tryz.func22,Tryz.ntmps22
 go_wp2_with fail
 clear hW
 refine zaS (S:=fun w' => w'.cell? ⟨w.heap.size,0,none⟩ = some (.slice rA m rc) ∧ w'.cell? ⟨w.heap.size,1,none⟩ = some (.int .i64 (N:Int)) ∧ w'.cell? ⟨w.heap.size,2,none⟩ = some (.slice bA m bc_) ∧ w'.cell? ⟨w.heap.size,3,none⟩ = some (.slice kA N kc) ∧ w'.cell? ⟨w.heap.size,4,none⟩ = some (.int .i64 (own:Int)) ∧ w'.cell? ⟨w.heap.size,5,none⟩ = some (.slice eA m ec)) [] (h:=fun hHeld => ?_)
 refine zaw [0,1,2,3] ?_
 repeat refine tkL (hS:=hHeld) (h:=?_)
 refine zao ?_
 refine zaB 4 (h:=fun K hK => ?_)
 go_simp
 (go_at_call 73;(with_reducible refine (Mt.rows N m rc rA _).mono ?_);rintro e u1 ⟨rfl,hb⟩;have zaq:=hid (zad hb KB0.out);have zJ0:=hid (HS.out.drew.below hb);have zBZ:=hid (HI.out.drew.below hb);have zaQ:=hid (BB.out.trans ((It.bdrew0' hb).mono BB.out.size));obtain ⟨zaI,_,zaJ,_,zbC,_,zyc,_,zyf,_,zI8,_⟩:=bc6 zaq.out;clear hb)
 (try go_wp2_with fail)
 refine hK.out _ _ kp fun hHeld => ?_
 clear hK K
 try simp only [Act.put,pu1,pu2,pu3,pu4,pu5,pu6]
 refine zaw [5,6,7,8,9,10,11] ?_
 repeat refine tkL (hS:=hHeld) (h:=?_)
 refine zao ?_
 refine zaB 12 (h:=fun K hK => ?_)
 go_simp
 (go_at_call 73;(with_reducible refine (Mt.rows N m rc rA _).mono ?_);rintro e u2 ⟨rfl,hb⟩;have zaD:=hid (zad hb zaq.out);have zCb:=hid (zJ0.out.below hb);have zvR:=hid (zBZ.out.below hb);have zbj:=hid (zaQ.out.trans ((hb).mono zaQ.out.size));obtain ⟨zaU,_,zaV,_,zdr,_,zra,_,zrb,_,zI9,_⟩:=bc6 zaD.out;clear hb)
 (try go_wp2_with fail)
 refine hK.out _ _ kp fun hHeld => ?_
 clear hK K
 try simp only [Act.put,pu1,pu2,pu3,pu4,pu5,pu6]
 refine zaw [13,14] ?_
 repeat refine tkL (hS:=hHeld) (h:=?_)
 refine zao ?_
 refine zaM (h:=?_)
 go_wp2
 go_loopw [6,32] (fun vs i wr => ∃ (k:Nat) (vA:Option Addr) (vc:Nat) (vl:List Value),vs = .slice vA k vc ∧ i = .int .i64 k ∧ k ≤ m ∧ VecsL wr u2.heap.size (.slice vA k vc) vl (bc A (cols.take k)) ∧ Below u2.heap.size u2 wr)
  (fun _ i _ => m - (intOf i).toNat)
 case atStart => exact ⟨0,none,0,[],rfl,rfl,Nat.zero_le _,VecsL.nil _ _,Below.refl _ _⟩
 case round =>
  obtain ⟨k,vA,vc,vl,rfl,rfl,hk,hv,hB⟩:=hrel
  have HZ0:=hid (show w.heap.size ≤ u2.heap.size from zbj.out.size)
  by_cases hlt:k < m
  ·obtain ⟨j,hj⟩:∃ j,cols[k]? = some j:=⟨cols[k]'(by rw [HB.out.len];exact hlt),List.getElem?_eq_getElem _⟩
   have hjN:j < N:=by have:=HB.out.lt k hlt;rw [getD_some (d:=0) hj] at this;exact this
   obtain ⟨bt,rfl,_,_⟩:=zvR.out.has (by omega)
   have p0:=(zvR.out.below hB).at_ hj
   have zbn:=hid (zad hB zaD.out)
   have zEz:=hid (zCb.out.below hB)
   have zF0:=hid (zvR.out.below hB)
   have HV:=hid (show VecsL wr u2.heap.size (.slice vA k vc) vl (bc A (cols.take k)) from hv)
   have HW:=hid (show Bel u2 wr from Bel.mk hB)
   have zcc:=hid (zbj.out.trans ((hB).mono zbj.out.size))
   obtain ⟨zdg,_,zdh,_⟩:=bc6 zbn.out
   have zdO:wr.cell? ⟨bt,k,none⟩ = some (.int .i64 (j:Int)):=p0
   have HJ:=hid (And.intro hj hjN)
   clear hv hB hj p0
   have hi1:(0:Int) ≤ (k:Int):=Int.natCast_nonneg _
   have hi2:(k:Int) < (m:Int):=by omega
   have hi5:(k:Int) ≤ (tc:Int):=by omega
   go_wp2_with fail
   with_reducible refine (Mt.col N m rc rA lA A 0 j _ zEz.out.rows HS0.out.rl HJ.out.2 (by omega) (by omega)).mono ?_
   rintro e w1 ⟨B,n1,c1,rfl,hv1,hb⟩
   have zbo:=hid (zad hb zbn.out)
   have zGo:=hid (zEz.out.below hb)
   have zB0:=hid (zF0.out.below hb)
   have ziS:=hid (HV.out.below hb)
   have zhh:=hid (HW.out.below hb)
   have HU:=hid (show VecS w1 wr.heap.size (.slice B n1 c1) (zb4 A j) from hv1)
   have zdf:=hid (zcc.out.trans ((hb).mono zcc.out.size))
   obtain ⟨zcj,_,zck,_,zog,_,zuc,_,zug,_,zCG,_⟩:=bc6 zbo.out
   clear hv1 hb
   have HZ1:=hid (show u2.heap.size ≤ wr.heap.size from HW.out.b.size)
   go_wp2_with fail
   with_reducible refine (Sl.has (some ⟨bt,0,none⟩) k tc ((cols.map fun (x:Nat) => (x:Int)).take k) (j:Int) Hc _ (zB0.out.toZ.cut (by omega))).mono ?_
   rintro e w2 ⟨rfl,hb⟩
   have zct:=hid (zad hb zbo.out)
   have zI4:=hid (zGo.out.below hb)
   have zlx:=hid (ziS.out.below hb)
   have zsB:=hid (zhh.out.below hb)
   have zJ2:=hid (HU.out.below hb)
   have ze3:=hid (zdf.out.trans ((hb).mono zdf.out.size))
   obtain ⟨zdP,_,zdQ,_,zoh,_,zud,_,zuh,_,zCH,_⟩:=bc6 zct.out
   clear hb
   have hd:decide ((j:Int) ∈ (cols.map fun (x:Nat) => (x:Int)).take k) = false:=decide_eq_false (zqp HB.out HJ.out.1)
   rw [hd]
   clear hd
   go_wp2_with (at_builtin;refine zbW rfl _ _ rfl rfl (zlx.out.alloc (.cells #[.slice B n1 c1] 26)) rfl (zal _ _ _) ((zJ2.out.base HZ1.out).alloc _) (n:=k) (by rw [zx7,List.length_take,HB.out.len];omega) (by omega) (by simp;have:=zsB.out.b.size;omega) ?_;intro A5 c5 w5 hL5 hk5 hb5 hf5;have HL5:=hid hL5;have HB5:=hid ((zsB.out.alloc (.cells #[.slice B n1 c1] 26)).b.trans hb5);clear hL5 hk5 hb5 hf5)
   go_roundw
   case rel => exact ⟨k + 1,A5,c5,_,rfl,by go_num,by omega,by rw [zzi HJ.out.1];exact HL5.out,HB5.out⟩
   case measure => simp [intOf];omega
  ·obtain rfl:m = k:=by omega
   have HTK:=hid (show cols.take m = cols by rw [← HB.out.len,List.take_length])
   rw [HTK.out] at hv
   have zbn:=hid (zad hB zaD.out)
   have zEz:=hid (zCb.out.below hB)
   have zF0:=hid (zvR.out.below hB)
   have HV:=hid (show VecsL wr u2.heap.size (.slice vA m vc) vl (bc A cols) from hv)
   have zcc:=hid (zbj.out.trans ((hB).mono zbj.out.size))
   obtain ⟨zdg,_,zdh,_⟩:=bc6 zbn.out
   have HZ1:=hid (show u2.heap.size ≤ wr.heap.size from hB.size)
   clear hv hB hk hlt
   go_wp2_with fail
   refine (Bs.new m vc vA vl (bc A cols) u2.heap.size S _ HV.out HB.out.sq (by omega) HCZ.out (zC3 (ziY HCAP.out))).mono ?_
   rintro e w3 (⟨qb,hr,rfl,hs,hb⟩ | ⟨hr,rfl,hb⟩)
   ·have HBS0:=hid hs
    have zbo:=hid (zad hb zbn.out)
    have zGo:=hid (zEz.out.below hb)
    have zB0:=hid (zF0.out.below hb)
    have ziS:=hid (HV.out.below hb)
    have HBS:=hid (show zjE w3 wr.heap.size qb m S (bc A cols) from hs)
    have zdf:=hid (zcc.out.trans ((hb).mono zcc.out.size))
    obtain ⟨zcj,_,zck,_,zog,_,zuc,_,zug,_,zCG,_⟩:=bc6 zbo.out
    clear hr hs hb
    go_wp2_with fail
    refine zaS (S:=fun w' => w'.cell? ⟨w.heap.size,0,none⟩ = some (.slice rA m rc) ∧ w'.cell? ⟨w.heap.size,1,none⟩ = some (.int .i64 (N:Int)) ∧ w'.cell? ⟨w.heap.size,2,none⟩ = some (.slice bA m bc_) ∧ w'.cell? ⟨w.heap.size,3,none⟩ = some (.slice kA N kc) ∧ w'.cell? ⟨w.heap.size,4,none⟩ = some (.int .i64 (own:Int)) ∧ w'.cell? ⟨w.heap.size,5,none⟩ = some (.slice eA m ec)) [] (h:=fun hHeld => ?_)
    refine zaw [0,1,3] ?_
    repeat refine tkL (hS:=hHeld) (h:=?_)
    refine zao ?_
    refine zaB 2 (h:=fun K hK => ?_)
    go_simp
    (go_at_call 78;(with_reducible refine (Sl.clone tA m tc (cols.map fun (x:Nat) => (x:Int)) Hc _ (zB0.out.drew.toZ) (by omega)).mono ?_);rintro e w4 ⟨T4,c4,rfl,hz,hb⟩;have zct:=hid (zad hb zbo.out);have zI4:=hid (zGo.out.drew.below hb);have zlx:=hid (ziS.out.drew.below hb);have zFT:=hid (HBS.out.drew.below hb);have HT4:=hid (show IntsS w4 w3.heap.size (.slice T4 (cols.map fun (x:Nat) => (x:Int)).length c4) cols from hz.toS);have ze3:=hid (zdf.out.trans ((It.bdrew0' hb).mono zdf.out.size));obtain ⟨zdP,_,zdQ,_,zoh,_,zud,_,zuh,_,zCH,_⟩:=bc6 zct.out;have HBC:=hid hb;clear hb;clear hz)
    (try go_wp2_with fail)
    refine hK.out _ _ kp fun hHeld => ?_
    clear hK K
    try simp only [Act.put,pu1,pu2,pu3,pu4,pu5,pu6]
    refine zaw [4] ?_
    repeat refine tkL (hS:=hHeld) (h:=?_)
    refine zao ?_
    refine zaB 5 (h:=fun K hK => ?_)
    go_simp
    refine hK.out _ _ kp fun hHeld => ?_
    clear hK K
    try simp only [Act.put,pu1,pu2,pu3,pu4,pu5,pu6]
    refine zaw [6] ?_
    repeat refine tkL (hS:=hHeld) (h:=?_)
    refine zao ?_
    refine zaM (h:=?_)
    have HLT:=hid (show (cols.map fun (x:Nat) => (x:Int)).length = m by rw [List.length_map,HB.out.len])
    rw [HB.out.len]
    have HT5:=hid (show IntsS w4 w3.heap.size (.slice T4 m c4) cols by have h:=HT4.out;rw [HLT.out] at h;exact h)
    have HZ3:=hid (show wr.heap.size ≤ w3.heap.size from HBS0.out.hle)
    have HBW:=hid (show Below w.heap.size w w4 from ze3.out)
    have s2:(w4.alloc (.cells #[.slice rA m rc, .int .i64 (N:Int), .slice bA m bc_, .slice kA N kc, .int .i64 (own:Int), .slice eA m ec, .slice T4 m c4, .pointer (some ⟨qb,0,none⟩), .slice none 0 0] 147)).cell? ⟨w.heap.size,2,none⟩ = some (.slice bA m bc_):=cell_al zoh
    have KT:=hid (zal w4 #[.slice rA m rc, .int .i64 (N:Int), .slice bA m bc_, .slice kA N kc, .int .i64 (own:Int), .slice eA m ec, .slice T4 m c4, .pointer (some ⟨qb,0,none⟩), .slice none 0 0] 147)
    have HBS5:=hid (zFT.out.alloc (.cells #[.slice rA m rc, .int .i64 (N:Int), .slice bA m bc_, .slice kA N kc, .int .i64 (own:Int), .slice eA m ec, .slice T4 m c4, .pointer (some ⟨qb,0,none⟩), .slice none 0 0] 147))
    have HBO:=hid ((((HBS0.out.drew.later (tb:=(Value.slice T4 m c4).ownBlock) (fun g hg => (HT5.out.own.lt g hg).1)).below HBC.out).alloc (.cells #[.slice rA m rc, .int .i64 (N:Int), .slice bA m bc_, .slice kA N kc, .int .i64 (own:Int), .slice eA m ec, .slice T4 m c4, .pointer (some ⟨qb,0,none⟩), .slice none 0 0] 147)))
    have HS5:=hid (zI4.out.alloc (.cells #[.slice rA m rc, .int .i64 (N:Int), .slice bA m bc_, .slice kA N kc, .int .i64 (own:Int), .slice eA m ec, .slice T4 m c4, .pointer (some ⟨qb,0,none⟩), .slice none 0 0] 147))
    go_wp2_with fail
    refine (Bs.solve wr.heap.size qb m S S (bc A cols) bA bc_ b 0 _ HBS5.out HS5.out.B (by omega) HS0.out.zb HS0.out.hS (ziY HCAP.out)).mono ?_
    rintro e w6 ⟨X6,n6,c6,rfl,hv6,hb⟩
    have HV6:=hid hv6
    have HB6:=hid hb
    obtain rfl:m = n6:=by rw [HV6.out.len,(zci HB.out.sq HB.out.reg b).2]
    have KT6:=hid (zad hb KT.out)
    have HT6:=hid ((HT5.out.alloc (.cells #[.slice rA m rc, .int .i64 (N:Int), .slice bA m bc_, .slice kA N kc, .int .i64 (own:Int), .slice eA m ec, .slice T4 m c4, .pointer (some ⟨qb,0,none⟩), .slice none 0 0] 147)).below hb)
    have t8:=zac KT6.out 8
    have tf8:=zag KT6.out 8
    simp only [List.getElem?_toArray,List.getElem?_cons_zero,List.getElem?_cons_succ] at t8
    clear hv6 hb
    go_wp2
    have k1:TKeep 147 w6 (w6.setCell ⟨w4.heap.size,8,none⟩ (.slice X6 m c6)):=TKeep.set KT6.out _
    have hbel:Below w.heap.size w (w6.setCell ⟨w4.heap.size,8,none⟩ (.slice X6 m c6)):=(HBW.out.trans (((zae w4 _).trans (HB6.out.mono (by simp))).mono HBW.out.size)).setCell (p:=⟨w4.heap.size,8,none⟩) HBW.out.size _
    have hzz:=HBW.out.size
    have hz0:=HZ0.out
    have hz1:=HZ1.out
    have hz3:=HZ3.out
    refine bodyPost_ret (v := .tuple #[.pointer (some ⟨w4.heap.size,0,none⟩), .nilIface]) (by simp [results,Tryz.results22,go_sem]) rfl ?_
    refine ⟨w4.heap.size,T4,c4,rfl,⟨qb,X6,c6,?_,HS0.out,hbel,Nat.le_refl _,(HT6.out.base (by omega)).tk k1 (by decide),((HBO.out.below HB6.out).base (by omega)).tk k1 (by decide) (by decide) (by decide) (by decide) (by decide) (by decide) (by decide),?_,HB.out,hzz⟩,hbel⟩
    ·have:=zar (o:=8) (.slice X6 m c6) KT6.out
     simpa using this
    ·unfold za5;rw [HB.out.len]
     exact (HV6.out.base (by simp;omega)).tk k1 (by decide) (by decide)
   ·exact absurd HB.out.reg hr
end Tb
end Go.Proofs.YtdbgbaiekpbaoaaGreatDoor
