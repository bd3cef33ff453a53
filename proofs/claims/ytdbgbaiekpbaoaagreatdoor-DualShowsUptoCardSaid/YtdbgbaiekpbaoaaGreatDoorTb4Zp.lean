/- tab.Swap by its contract. Conditions: as it says. -/
import Derived.Test.YtdbgbaiekpbaoaaGreatDoorBasTZp
import Derived.Test.YtdbgbaiekpbaoaaGreatDoorBasRZp
set_option linter.all false
namespace Go.Proofs.YtdbgbaiekpbaoaaGreatDoor
open Go.RowKit Am
open Lib (hid)
attribute [local go_sem ↓] Go.wp_at_zero Go.wp_at_succ
set_option maxHeartbeats 4000000
set_option maxRecDepth 100000
theorem zqq {j:Nat} {cols:List Nat} (h:j ∉ cols):(j:Int) ∉ cols.map fun (x:Nat) => (x:Int):=fun h2 => by
 obtain ⟨x,hx,e⟩:=List.mem_map.1 h2
 have hxj:x = j:=by omega
 exact h (hxj ▸ hx)
theorem zhf.tkT {w w':World} {H q n S:Nat} {C:List (List Rat)} {tb:Option Nat} (h:zhf w H q n S C tb) (hk:TKeep 147 w w'):zhf w' H q n S C tb:=h.tk hk (by decide) (by decide) (by decide) (by decide) (by decide) (by decide) (by decide)
section
variable {W0 w:World} {H q:Nat} {rA:Option Addr} {rc:Nat} {lA:List Value} {bA:Option Addr} {bc_:Nat} {kA:Option Addr} {kc:Nat} {eA:Option Addr} {ec m N S own:Nat} {A:List (List Rat)} {b c:List Rat} {left:List Int}
  {tA:Option Addr} {tc:Nat} {cols:List Nat}
namespace Tb
theorem swap (h:zhi W0 w H q rA rc lA bA bc_ kA kc eA ec m N S own A b c left tA tc cols) (k j:Nat) (hk:k < m) (hj:j < N) (hp:el (zav A cols j) k ≠ 0) (hnot:j ∉ cols) (hcap:zor m S ≤ LIM) :
  Calls Tryz.prog 81 #[.pointer (some ⟨q,0,none⟩), .int .i64 (k:Int), .int .i64 (j:Int)] w fun e w' => e = .returned .nilIface ∧ zhi W0 w' H q rA rc lA bA bc_ kA kc eA ec m N S own A b c left tA tc (cols.set k j) ∧ Below H w w' ∧ Kept TT (Value.slice tA m tc).ownBlock w w':=by
 obtain ⟨qb,xA,xc,hP⟩:=h
 have HP:=hid hP
 have hm64:=hP.std.hm
 have hN64:=hP.std.hN
 have BB:=hid (Below.refl w.heap.size w)
 obtain ⟨k0,_,k1,_,_,_,_,_,_,_,_,_,k6,k6d,k7,_⟩:=bc9 hP.blk
 clear hP
 have HJ:=hid hj
 have HK:=hid hk
 have HPV:=hid (show el (zes m (bc A cols) (zb4 A j)) k ≠ 0 by have h:=hp;unfold zav at h;rw [HP.out.basis.len] at h;exact h)
 have HBN:=hid (HP.out.basis.swap hk hj hp)
 have HCAP:=hid hcap
 have HHH:=hid HP.out.hle
 have hd:decide ((j:Int) ∈ (cols.map fun (x:Nat) => (x:Int))) = false:=decide_eq_false (zqq hnot)
 have HD:=hid hd
 have hi1:(0:Int) ≤ (k:Int):=Int.natCast_nonneg _
 have hi2:(k:Int) < (m:Int):=by omega
 have h1:decide ((k:Int) < 0) = false:=by simp
 have h2:decide (m ≤ k) = false:=by simp;omega
 obtain ⟨bt,hbt,hbt0,hbt1⟩:=HP.out.colsI.has (by omega)
 subst hbt
 have hcl:cols[k]? = some (cols[k]'(by rw [HP.out.basis.len];exact hk)):=List.getElem?_eq_getElem _
 generalize cols[k]'(by rw [HP.out.basis.len];exact hk) = x0 at hcl
 have HCL:=hid hcl
 clear hj hk hp hnot hcap hd hcl
 go_enter Tryz.func81,Tryz.ntmps81
 go_wp2_with fail
 with_reducible refine (Mt.col N m rc rA lA A 0 j _ HP.out.stdN.rows HP.out.std.rl HJ.out (by omega) (by omega)).mono ?_
 rintro e w1 ⟨B,n1,c1,rfl,hv1,hb⟩
 have zjH:=hid (HP.out.below hb)
 have HU:=hid (show VecS w1 w.heap.size (.slice B n1 c1) (zb4 A j) from hv1)
 have zaQ:=hid (BB.out.trans ((hb).mono BB.out.size))
 have zhe:=zab hb k6
 have zlv:=zab hb k7
 clear hv1 hb
 obtain rfl:m = n1:=by rw [HU.out.len,zbH, ← HP.out.std.rows.nlen]
 go_wp2_with fail
 with_reducible refine (Sl.has (some ⟨bt,0,none⟩) m tc (cols.map fun (x:Nat) => (x:Int)) (j:Int) H _ (zjH.out.colsI.toZ)).mono ?_
 rintro e w2 ⟨rfl,hb⟩
 have zjI:=hid (zjH.out.below hb)
 have zJ1:=hid (HU.out.below hb)
 have zbj:=hid (zaQ.out.trans ((hb).mono zaQ.out.size))
 have zpi:=zab hb zlv
 clear hb
 rw [HD.out]
 have HBW:=hid (show Below w.heap.size w w2 from zbj.out)
 go_wp2_with fail
 refine (Bs.replace H qb m S k (bc A cols) B c1 (zb4 A j) w.heap.size _ (some bt) (fun g hg => by injection hg with hg;subst hg;exact Nat.lt_of_lt_of_le hbt1 HBW.out.size) zjI.out.basO zJ1.out (by omega) HK.out (HP.out.std.zcol HJ.out) HP.out.std.hS HPV.out (ziY HCAP.out)).mono ?_
 rintro e w3 ⟨rfl,hs,hb,hkp⟩
 have HBS:=hid (show zhf w3 H qb m S (bc A (cols.set k j)) (some bt) by rw [zq6];exact hs)
 have HB3:=hid ((HBW.out.mono HHH.out).trans hb)
 have HKP:=hid ((Kept.of_below HBW.out).trans hkp)
 have KQ3:=hid (hkp.blk zjI.out.blk (by decide) (by decide))
 have HI3:=hid (hkp.ints (by decide) zjI.out.colsI (fun g _ => by simp))
 have z0:=HI3.out.at_ HCL.out
 have zf:=HI3.out.fro k
 obtain ⟨_,_,_,_,_,_,_,_,_,_,_,_,q6,_⟩:=bc9 KQ3.out
 clear hs hb hkp
 go_upto_region 7 with fail
 go_cut [] (fun wy => wy.heap[q]? = some (.cells #[.slice rA m rc, .int .i64 (N:Int), .slice bA m bc_, .slice kA N kc, .int .i64 (own:Int), .slice eA m ec, .slice (some ⟨bt,0,none⟩) m tc, .pointer (some ⟨qb,0,none⟩), .slice xA m xc] 147 (0,0)) ∧ IntsS wy H (.slice (some ⟨bt,0,none⟩) m tc) (cols.set k j) ∧ zhf wy H qb m S (bc A (cols.set k j)) (some bt) ∧ Below H w wy ∧ Kept TT (some bt) w wy)
 case first => as_aux_lemma =>
  go_wp2
  go_meet
  obtain ⟨cs,hcs⟩:=HI3.out.blk
  have k1:TKeep 3 w3 (w3.setCell ⟨bt,k,none⟩ (.int .i64 (j:Int))):=TKeep.set hcs _
  case rel => exact ⟨k1.blk KQ3.out (by decide),HI3.out.store k j,HBS.out.setI hcs _,HB3.out.setCell (p:=⟨bt,k,none⟩) hbt0 _,(HKP.out.any (by decide)).trans (Kept.setInt hcs _)⟩
 case rest =>
  rename World => wy
  obtain ⟨hkq,hiy,hby,hbel,hky⟩:=hcut
  have KQ:=hid hkq
  have HIY:=hid hiy
  have HBY:=hid hby
  have HBEL:=hid hbel
  have HKY:=hid hky
  have HSTD:=hid (HP.out.std.below (HP.out.bel.trans (hbel.mono HP.out.base)))
  obtain ⟨_,_,_,_,_,_,_,_,p2,p2d,_,_,_,_,_,_,_,_,_,_,_,_,_,_,_,_,_,_,p7,p7d,_,_,_,p8d,_⟩:=bf9 hkq
  clear hkq hiy hby hbel hky
  have HYH:=hid HBY.out.hle
  go_wp2_with fail
  refine zaS (S:=fun w' => w'.cell? ⟨q,2,none⟩ = some (.slice bA m bc_) ∧ w'.cell? ⟨q,7,none⟩ = some (.pointer (some ⟨qb,0,none⟩))) [16] (h:=fun hHeld => ?_)
  refine zaw [0,1,2,3,4,5,6,7,8,9] ?_
  repeat refine tkL (hS:=hHeld) (h:=?_)
  refine zao ?_
  refine zaB 10 (h:=fun K hK => ?_)
  go_simp
  (go_at_call 79;(with_reducible refine (Bs.solve H qb m S S (bc A (cols.set k j)) bA bc_ b 0 _ (HBY.out.toS.drew) (HSTD.out.B.drew) (by omega) HSTD.out.zb HSTD.out.hS (ziY HCAP.out)).mono ?_);rintro e w6 ⟨X6,n6,c6,rfl,hv6,hb⟩;have HV6:=hid (show VecS w6 wy.heap.size (.slice X6 n6 c6) (zes m (bc A (cols.set k j)) b) from hv6);have HB6:=hid (show Below wy.heap.size wy w6 from It.bdrew0' hb);have KQ6:=hid (zad HB6.out KQ.out);have r2:=zab hb p2d;have r7:=zab hb p7d;have r8:=zab hb p8d;have rf8:=zag KQ6.out 8;clear hv6 hb)
  (try go_wp2_with fail)
  refine hK.out _ _ kp fun hHeld => ?_
  clear hK K
  try simp only [Act.put,pu1,pu2,pu3,pu4,pu5,pu6]
  refine zaw [11,12] ?_
  repeat refine tkL (hS:=hHeld) (h:=?_)
  refine zao ?_
  refine zaw [13,14] ?_
  repeat refine tkX (h:=?_)
  refine zao ?_
  refine zaw [15] ?_
  repeat refine tkL (hS:=hHeld) (h:=?_)
  refine zao ?_
  refine zay 16 (h:=fun K hK => ?_)
  go_simp
  refine hK.out _ _ ?_
  clear hK K
  try simp only [Act.put,pu1,pu2,pu3,pu4,pu5,pu6]
  refine zaM (h:=?_)
  obtain rfl:m = n6:=by rw [HV6.out.len,(zci HBN.out.sq HBN.out.reg b).2]
  go_wp2
  go_ret
  have k1:TKeep 147 w6 (w6.setCell ⟨q,8,none⟩ (.slice X6 m c6)):=TKeep.set KQ6.out _
  have hb1:Below H w (w6.setCell ⟨q,8,none⟩ (.slice X6 m c6)):=(HBEL.out.trans (HB6.out.mono HYH.out)).setCell (p:=⟨q,8,none⟩) HP.out.own_ _
  refine ⟨rfl,⟨qb,X6,c6,?_,HP.out.std,HP.out.bel.trans (hb1.mono HP.out.base),HP.out.base,(HIY.out.below HB6.out).tk k1 (by decide),(HBY.out.below HB6.out).tkT k1,?_,HBN.out,HP.out.own_⟩,hb1,(HKY.out.below HB6.out).trans (Kept.set KQ6.out (by decide) _)⟩
  ·have:=zar (o:=8) (.slice X6 m c6) KQ6.out
   simpa using this
  ·unfold za5;rw [HBN.out.len]
   exact (HV6.out.base HYH.out).tk k1 (by decide) (by decide)
end Tb
end
end Go.Proofs.YtdbgbaiekpbaoaaGreatDoor
