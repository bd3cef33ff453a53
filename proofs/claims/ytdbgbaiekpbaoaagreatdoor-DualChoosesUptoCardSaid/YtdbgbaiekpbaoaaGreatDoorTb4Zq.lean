/- tab.Swap by its contract. Conditions: as it says. dual.Right,Run by their contracts. Conditions: as each says. Conditions: as they say. -/
import Derived.Test.YtdbgbaiekpbaoaaGreatDoorBasTZq
import Derived.Test.YtdbgbaiekpbaoaaGreatDoorBasRZq
import Derived.Test.YtdbgbaiekpbaoaaGreatDoorFrameZq
import Derived.Test.YtdbgbaiekpbaoaaGreatDoorBoolsZq
import Derived.Test.YtdbgbaiekpbaoaaGreatDoorErrZq
set_option linter.all false
namespace Go.Proofs.YtdbgbaiekpbaoaaGreatDoor
open Go.RowKit Am
open Lib (hid)
attribute [local go_sem ↓] Go.wp_at_zero Go.wp_at_succ
set_option maxHeartbeats 4000000
set_option maxRecDepth 100000
theorem zqq {j:Nat} {cols:List Nat} (h:j ∉ cols):(j:Int) ∉ cols.map fun (x:Nat) => (x:Int):=fun h2 => by
 obtain ⟨x,hx,e⟩:=List.mem_map.1 h2
 have hxj:x = j:=by omega
 exact h (hxj ▸ hx)
theorem zhf.tkT {w w':World} {H q n S:Nat} {C:List (List Rat)} {tb:Option Nat} (h:zhf w H q n S C tb) (hk:TKeep 147 w w'):zhf w' H q n S C tb:=h.tk hk (by decide) (by decide) (by decide) (by decide) (by decide) (by decide) (by decide)
section
variable {W0 w:World} {H q:Nat} {rA:Option Addr} {rc:Nat} {lA:List Value} {bA:Option Addr} {bc_:Nat} {kA:Option Addr} {kc:Nat} {eA:Option Addr} {ec m N S own:Nat} {A:List (List Rat)} {b c:List Rat} {left:List Int}
  {tA:Option Addr} {tc:Nat} {cols:List Nat}
namespace Tb
theorem swap (h:zhi W0 w H q rA rc lA bA bc_ kA kc eA ec m N S own A b c left tA tc cols) (k j:Nat) (hk:k < m) (hj:j < N) (hp:el (zav A cols j) k ≠ 0) (hnot:j ∉ cols) (hcap:zor m S ≤ LIM) :
  Calls Tryz.prog 81 #[.pointer (some ⟨q,0,none⟩), .int .i64 (k:Int), .int .i64 (j:Int)] w fun e w' => e = .returned .nilIface ∧ zhi W0 w' H q rA rc lA bA bc_ kA kc eA ec m N S own A b c left tA tc (cols.set k j) ∧ Below H w w' ∧ Kept TT (Value.slice tA m tc).ownBlock w w':=by
 obtain ⟨qb,xA,xc,hP⟩:=h
 have HP:=hid hP
 have hm64:=hP.std.hm
 have hN64:=hP.std.hN
 have BB:=hid (Below.refl w.heap.size w)
 obtain ⟨k0,k0d,k1,k1d,k2,k2d,k3,k3d,k4,k4d,k5,k5d,k6,k6d,k7,k7d,k8,k8d⟩:=bc9 hP.blk
 clear hP
 have HJ:=hid hj
 have HK:=hid hk
 have HPV:=hid (show el (zes m (bc A cols) (zb4 A j)) k ≠ 0 by have h:=hp;unfold zav at h;rw [HP.out.basis.len] at h;exact h)
 have HBN:=hid (HP.out.basis.swap hk hj hp)
 have HCAP:=hid hcap
 have HHH:=hid HP.out.hle
 have hd:decide ((j:Int) ∈ (cols.map fun (x:Nat) => (x:Int))) = false:=decide_eq_false (zqq hnot)
 have HD:=hid hd
 have hi1:(0:Int) ≤ (k:Int):=Int.natCast_nonneg _
 have hi2:(k:Int) < (m:Int):=by omega
 have h1:decide ((k:Int) < 0) = false:=by simp
 have h2:decide (m ≤ k) = false:=by simp;omega
 obtain ⟨bt,hbt,hbt0,hbt1⟩:=HP.out.colsI.has (by omega)
 subst hbt
 have hcl:cols[k]? = some (cols[k]'(by rw [HP.out.basis.len];exact hk)):=List.getElem?_eq_getElem _
 generalize cols[k]'(by rw [HP.out.basis.len];exact hk) = x0 at hcl
 have HCL:=hid hcl
 clear hj hk hp hnot hcap hd hcl
 go_enter Tryz.func81,Tryz.ntmps81
 go_wp2_with fail
 with_reducible refine (Mt.col N m rc rA lA A 0 j _ HP.out.stdN.rows HP.out.std.rl HJ.out (by omega) (by omega)).mono ?_
 rintro e w1 ⟨B,n1,c1,rfl,hv1,hb⟩
 have zjH:=hid (HP.out.below hb)
 have HU:=hid (show VecS w1 w.heap.size (.slice B n1 c1) (zb4 A j) from hv1)
 have zaQ:=hid (BB.out.trans ((hb).mono BB.out.size))
 have zbJ:=zab hb k0
 have x0_1d:=zaa zbJ
 have zbY:=zab hb k1
 have x1_1d:=zaa zbY
 have zcb:=zab hb k2
 have x2_1d:=zaa zcb
 have zd7:=zab hb k3
 have x3_1d:=zaa zd7
 have zfb:=zab hb k4
 have x4_1d:=zaa zfb
 have zfc:=zab hb k5
 have x5_1d:=zaa zfc
 have zhe:=zab hb k6
 have x6_1d:=zaa zhe
 have zlv:=zab hb k7
 have x7_1d:=zaa zlv
 have zn2:=zab hb k8
 have x8_1d:=zaa zn2
 clear hv1 hb
 obtain rfl:m = n1:=by rw [HU.out.len,zbH, ← HP.out.std.rows.nlen]
 go_wp2_with fail
 with_reducible refine (Sl.has (some ⟨bt,0,none⟩) m tc (cols.map fun (x:Nat) => (x:Int)) (j:Int) H _ (zjH.out.colsI.toZ)).mono ?_
 rintro e w2 ⟨rfl,hb⟩
 have zjI:=hid (zjH.out.below hb)
 have zJ1:=hid (HU.out.below hb)
 have zbj:=hid (zaQ.out.trans ((hb).mono zaQ.out.size))
 have zcX:=zab hb zbJ
 have x0_2d:=zaa zcX
 have zdq:=zab hb zbY
 have x1_2d:=zaa zdq
 have zej:=zab hb zcb
 have x2_2d:=zaa zej
 have zfa:=zab hb zd7
 have x3_2d:=zaa zfa
 have zgt:=zab hb zfb
 have x4_2d:=zaa zgt
 have zhd:=zab hb zfc
 have x5_2d:=zaa zhd
 have zlC:=zab hb zhe
 have x6_2d:=zaa zlC
 have zpi:=zab hb zlv
 have x7_2d:=zaa zpi
 have zrW:=zab hb zn2
 have x8_2d:=zaa zrW
 clear hb
 rw [HD.out]
 have HBW:=hid (show Below w.heap.size w w2 from zbj.out)
 go_wp2_with fail
 refine (Bs.replace H qb m S k (bc A cols) B c1 (zb4 A j) w.heap.size _ (some bt) (fun g hg => by injection hg with hg;subst hg;exact Nat.lt_of_lt_of_le hbt1 HBW.out.size) zjI.out.basO zJ1.out (by omega) HK.out (HP.out.std.zcol HJ.out) HP.out.std.hS HPV.out (ziY HCAP.out)).mono ?_
 rintro e w3 ⟨rfl,hs,hb,hkp⟩
 have HBS:=hid (show zhf w3 H qb m S (bc A (cols.set k j)) (some bt) by rw [zq6];exact hs)
 have HB3:=hid ((HBW.out.mono HHH.out).trans hb)
 have HKP:=hid ((Kept.of_below HBW.out).trans hkp)
 have KQ3:=hid (hkp.blk zjI.out.blk (by decide) (by decide))
 have HI3:=hid (hkp.ints (by decide) zjI.out.colsI (fun g _ => by simp))
 have z0:=HI3.out.at_ HCL.out
 have zf:=HI3.out.fro k
 obtain ⟨q0,q0d,q1,q1d,q2,q2d,q3,q3d,q4,q4d,q5,q5d,q6,q6d,q7,q7d,q8,q8d⟩:=bc9 KQ3.out
 clear hs hb hkp
 go_upto_region 7 with fail
 go_cut [] (fun wy => wy.heap[q]? = some (.cells #[.slice rA m rc, .int .i64 (N:Int), .slice bA m bc_, .slice kA N kc, .int .i64 (own:Int), .slice eA m ec, .slice (some ⟨bt,0,none⟩) m tc, .pointer (some ⟨qb,0,none⟩), .slice xA m xc] 147 (0,0)) ∧ IntsS wy H (.slice (some ⟨bt,0,none⟩) m tc) (cols.set k j) ∧ zhf wy H qb m S (bc A (cols.set k j)) (some bt) ∧ Below H w wy ∧ Kept TT (some bt) w wy)
 case first => as_aux_lemma =>
  go_wp2
  go_meet
  obtain ⟨cs,hcs⟩:=HI3.out.blk
  have k1:TKeep 3 w3 (w3.setCell ⟨bt,k,none⟩ (.int .i64 (j:Int))):=TKeep.set hcs _
  case rel => exact ⟨k1.blk KQ3.out (by decide),HI3.out.store k j,HBS.out.setI hcs _,HB3.out.setCell (p:=⟨bt,k,none⟩) hbt0 _,(HKP.out.any (by decide)).trans (Kept.setInt hcs _)⟩
 case rest =>
  rename World => wy
  obtain ⟨hkq,hiy,hby,hbel,hky⟩:=hcut
  have KQ:=hid hkq
  have HIY:=hid hiy
  have HBY:=hid hby
  have HBEL:=hid hbel
  have HKY:=hid hky
  have HSTD:=hid (HP.out.std.below (HP.out.bel.trans (hbel.mono HP.out.base)))
  obtain ⟨p0,p0d,pf0,pf0d,p1,p1d,pf1,pf1d,p2,p2d,pf2,pf2d,p3,p3d,pf3,pf3d,p4,p4d,pf4,pf4d,p5,p5d,pf5,pf5d,p6,p6d,pf6,pf6d,p7,p7d,pf7,pf7d,p8,p8d,pf8,pf8d⟩:=bf9 hkq
  clear hkq hiy hby hbel hky
  have HYH:=hid HBY.out.hle
  go_wp2_with fail
  refine zaS (S:=fun w' => w'.cell? ⟨q,2,none⟩ = some (.slice bA m bc_) ∧ w'.cell? ⟨q,7,none⟩ = some (.pointer (some ⟨qb,0,none⟩))) [16] (by kernel_rfl) ?_ (fun hHeld => ?_)
  ·((try go_split_ands);(try simp only [World.cell?_drew]);with_reducible repeat' first | assumption | apply And.intro | refine zah (by omega) ?_ | refine zaf ?_)
  refine zaw [0,1,2,3,4,5,6,7,8,9] ?_
  repeat (refine tkL (v:=?_) rfl (by kernel_rfl) (fun _ _ _ h => h) (by rfl) ?_ hHeld ?_;rotate_left;(focus ((intro w hSw;(try dsimp only at hSw);go_simp);(try with_reducible rfl)));try simp only [Act.put,pu1,pu2,pu3,pu4,pu5,pu6])
  refine zao ?_
  refine zaB (i:=10) rfl (by kernel_rfl) (fun K hK => ?_)
  go_simp
  (go_at_call 79;(with_reducible refine (Bs.solve H qb m S S (bc A (cols.set k j)) bA bc_ b 0 _ (HBY.out.toS.drew) (HSTD.out.B.drew) (by omega) HSTD.out.zb HSTD.out.hS (ziY HCAP.out)).mono ?_);rintro e w6 ⟨X6,n6,c6,rfl,hv6,hb⟩;have HV6:=hid (show VecS w6 wy.heap.size (.slice X6 n6 c6) (zes m (bc A (cols.set k j)) b) from hv6);have HB6:=hid (show Below wy.heap.size wy w6 from It.bdrew0' hb);have KQ6:=hid (zad HB6.out KQ.out);have r2:=zab hb p2d;have r7:=zab hb p7d;have r8:=zab hb p8d;have rf8:=zag KQ6.out 8;clear hv6 hb)
  (try go_wp2_with fail)
  refine hK.out _ _ ?_ (fun hHeld => ?_)
  ·((try go_split_ands);(try simp only [World.cell?_drew]);with_reducible repeat' first | assumption | apply And.intro | refine zah (by omega) ?_ | refine zaf ?_)
  clear hK K
  try simp only [Act.put,pu1,pu2,pu3,pu4,pu5,pu6]
  refine zaw [11,12] ?_
  repeat (refine tkL (v:=?_) rfl (by kernel_rfl) (fun _ _ _ h => h) (by rfl) ?_ hHeld ?_;rotate_left;(focus ((intro w hSw;(try dsimp only at hSw);go_simp);(try with_reducible rfl)));try simp only [Act.put,pu1,pu2,pu3,pu4,pu5,pu6])
  refine zao ?_
  refine zaw [13,14] ?_
  repeat (refine tkX (v:=?_) rfl (by kernel_rfl) (fun _ _ _ h => h) (by rfl) ?_ ?_;rotate_left;(focus ((intro w hSw;(try dsimp only at hSw);go_simp);(try with_reducible rfl)));try simp only [Act.put,pu1,pu2,pu3,pu4,pu5,pu6])
  refine zao ?_
  refine zaw [15] ?_
  repeat (refine tkL (v:=?_) rfl (by kernel_rfl) (fun _ _ _ h => h) (by rfl) ?_ hHeld ?_;rotate_left;(focus ((intro w hSw;(try dsimp only at hSw);go_simp);(try with_reducible rfl)));try simp only [Act.put,pu1,pu2,pu3,pu4,pu5,pu6])
  refine zao ?_
  refine zay (i:=16) rfl (by kernel_rfl) (by kernel_rfl) (fun K hK => ?_)
  go_simp
  refine hK.out _ _ ?_
  clear hK K
  try simp only [Act.put,pu1,pu2,pu3,pu4,pu5,pu6]
  refine zaM (by kernel_rfl) ?_ _
  obtain rfl:m = n6:=by rw [HV6.out.len,(zci HBN.out.sq HBN.out.reg b).2]
  go_wp2
  go_ret
  have k1:TKeep 147 w6 (w6.setCell ⟨q,8,none⟩ (.slice X6 m c6)):=TKeep.set KQ6.out _
  have hb1:Below H w (w6.setCell ⟨q,8,none⟩ (.slice X6 m c6)):=(HBEL.out.trans (HB6.out.mono HYH.out)).setCell (p:=⟨q,8,none⟩) HP.out.own_ _
  refine ⟨rfl,⟨qb,X6,c6,?_,HP.out.std,HP.out.bel.trans (hb1.mono HP.out.base),HP.out.base,(HIY.out.below HB6.out).tk k1 (by decide),(HBY.out.below HB6.out).tkT k1,?_,HBN.out,HP.out.own_⟩,hb1,(HKY.out.below HB6.out).trans (Kept.set KQ6.out (by decide) _)⟩
  ·have:=zar (o:=8) (.slice X6 m c6) KQ6.out
   simpa using this
  ·unfold za5;rw [HBN.out.len]
   exact (HV6.out.base HYH.out).tk k1 (by decide) (by decide)
end Tb
end
def upN (i:Nat) (r:RunOut):RunOut:={ r with n:=r.n + i }
theorem zvf {next:List Nat → Am.Next} {f:Nat} {cols:List Nat} (h:next cols = .stop):pivs next f cols = ⟨cols,none,0,false⟩:=by cases f <;> simp only [pivs,h]
theorem zxw {next:List Nat → Am.Next} {f k:Nat} {cols:List Nat} (h:next cols = .bad k):pivs next f cols = ⟨cols,some k,0,false⟩:=by cases f <;> simp only [pivs,h]
theorem zsr {next:List Nat → Am.Next} {k j:Nat} {cols:List Nat} (h:next cols = .piv k j):pivs next 0 cols = ⟨cols,none,0,true⟩:=by simp only [pivs,h]
theorem zxx {next:List Nat → Am.Next} {f k j:Nat} {cols:List Nat} (h:next cols = .piv k j):pivs next (f + 1) cols = upN 1 (pivs next f (cols.set k j)):=by simp only [pivs,h];rfl
theorem zDR (i:Nat) (r:RunOut):upN i (upN 1 r) = upN (i + 1) r:=by simp only [upN,Nat.add_assoc,Nat.add_comm 1 i]
abbrev zve:ByteArray:={ data := #[112,105,118,111,116] }
theorem zvh {m N S:Nat} {A:List (List Rat)} {cols:List Nat} {c:List Rat} (hB:Basis m N A cols) (hm:m ≤ 64) (hz:zhg mw m S (bc A cols)) (zA:∀ r ∈ A, ∀ q ∈ r,mw q ≤ S) (hS:1 ≤ S) (hc:c.length = N) (zc:∀ x ∈ c,mw x ≤ S):∀ q ∈ zaC N A cols c,mw q ≤ 2 * pB m S + 2:=fun q hq => by
 unfold zaC at hq
 obtain ⟨k,hk⟩:=List.mem_iff_getElem?.1 hq
 unfold zly at hk
 rw [List.getElem?_zipWith] at hk
 cases ha:c[k]? with
 | none => rw [ha] at hk;cases hk
 | some a =>
  cases hb:(byL N A (zcl A cols c))[k]? with
  | none => rw [ha,hb] at hk;cases hk
  | some b =>
   rw [ha,hb] at hk
   injection hk with hk
   subst hk
   have h1:=zc a (List.mem_of_getElem? ha)
   have h2:=zt3 hB.rect.len hm zA (znb hB hz hc zc) (zma m S S) hS b (List.mem_of_getElem? hb)
   have h3:=zrI a (-1 * b)
   have h4:=zdI (-1) b
   have h5:mw (-1) ≤ 1:=by rw [zhY];exact mw1
   unfold pB;omega
theorem zAX {m N S r:Nat} {A:List (List Rat)} {cols:List Nat} (hB:Basis m N A cols) (hm:m ≤ 64) (hz:zhg mw m S (bc A cols)) (zA:∀ r ∈ A, ∀ q ∈ r,mw q ≤ S) (hS:1 ≤ S) (hr:r < m):∀ q ∈ zk8 N A cols r,mw q ≤ 2 * pB m S + 2:=fun q hq => by
 have:=zt3 hB.rect.len hm zA (ziO hB hz hS hr) (zma m S S) hS q hq
 unfold pB;omega
theorem DPiv.out {m N:Nat} {A:List (List Rat)} {b c:List Rat} {cols:List Nat} (hB:Basis m N A cols) {k j:Nat} (p:DPiv m N A b c cols k j):j ∉ cols:=fun h => by
 obtain ⟨l,hl⟩:=List.mem_iff_getElem?.1 h
 have hlm:l < m:=by rw [← hB.len];exact (List.getElem?_eq_some_iff.1 hl).1
 have u:el (zav A cols (cols.getD l 0)) k = if l = k then 1 else 0:=(hB.dic b).uni k l p.hk hlm
 rw [getD_some (d:=0) hl] at u
 have t:=p.t
 rw [u] at t
 split at t <;> grind
section
variable {W0 w:World} {H q:Nat} {rA:Option Addr} {rc:Nat} {lA:List Value} {bA:Option Addr} {bc_:Nat} {kA:Option Addr} {kc:Nat} {eA:Option Addr} {ec m N S own:Nat} {A:List (List Rat)} {b c:List Rat} {left:List Int}
  {tA:Option Addr} {tc:Nat} {cols:List Nat}
namespace Du
theorem right (h:zhi W0 w H q rA rc lA bA bc_ kA kc eA ec m N S own A b c left tA tc cols) (M:Option Addr) (cm H':Nat) (may:List Bool) (hm:BoolsS w H' (.slice M N cm) may) (hcap:zor m S ≤ LIM) :
  Calls Tryz.prog 24 #[.pointer (some ⟨q,0,none⟩), .slice kA N kc, .slice M N cm] w fun e w' => e = .returned (.bool (zdi (zaC N A cols c) may).isNone) ∧ Below w.heap.size w w':=by
 have HP:=hid h
 have HM:=hid hm
 have HCAP:=hid hcap
 obtain ⟨qb,xA,xc,hP⟩:=h
 have HC:=hid hP.stdN.C
 have HZC:=hid hP.std.zc
 clear hP hm hcap
 go_enter Tryz.func24,Tryz.ntmps24
 go_wp2_with fail
 refine (Tb.prices HP.out kA kc c 0 HC.out HZC.out HCAP.out).mono ?_
 rintro e w1 ⟨A1,n1,c1,rfl,hv,hb⟩
 have HV:=hid hv
 have HB:=hid hb
 clear hv hb
 go_wp2_with fail
 refine (Pr.enter A1 n1 c1 (zaC N A cols c) w.heap.size M N cm may H' _ HV.out (HM.out.below HB.out)).mono ?_
 rintro e w2 ⟨rfl,hb⟩
 have HB2:=hid (HB.out.trans (hb.mono HB.out.size))
 clear hb
 cases he:zdi (zaC N A cols c) may with
 | none =>
  have hp:zbh none = -1:=rfl
  rw [hp]
  have HIS:=hid (show (zdi (zaC N A cols c) may).isNone = true by rw [he];rfl)
  clear he
  go_wp2
  go_ret
  exact ⟨by rw [HIS.out];rfl,HB2.out⟩
 | some j =>
  have hp:zbh (some j) = (j:Int):=rfl
  rw [hp]
  have hj:¬ (j:Int) < 0:=by omega
  have HIS:=hid (show (zdi (zaC N A cols c) may).isNone = false by rw [he];rfl)
  clear he
  go_wp2
  go_ret
  exact ⟨by rw [HIS.out];rfl,HB2.out⟩
def zCr (W0 w:World) (H q:Nat) (rA:Option Addr) (rc:Nat) (lA:List Value) (bA:Option Addr) (bc_:Nat) (kA:Option Addr) (kc:Nat) (eA:Option Addr) (ec m N S own:Nat) (A:List (List Rat)) (b c:List Rat) (left:List Int) (tA:Option Addr) (tc:Nat) (r:RunOut) (e:Ending) (w':World):Prop :=
  ∃ ev,e = .returned (.tuple #[.int .i64 (zbh r.at_), .int .i64 (r.n:Int),ev]) ∧
    ((r.err = false ∧ ev = .nilIface) ∨ (r.err = true ∧ ∃ fb,ev = .iface 195 (.pointer (some ⟨fb,0,none⟩)) ∧ w'.heap[fb]? = some (.cells #[.string zve, .int .i64 (r.n:Int), .iface 59 (.int .i64 180)] 199 (0,0)))) ∧
    zhi W0 w' H q rA rc lA bA bc_ kA kc eA ec m N S own A b c left tA tc r.cols ∧ Below H w w' ∧ Kept TT (Value.slice tA m tc).ownBlock w w'
theorem run_no (h:zhi W0 w H q rA rc lA bA bc_ kA kc eA ec m N S own A b c left tA tc cols) (M:Option Addr) (cm H':Nat) (may:List Bool) (hm:BoolsS w H' (.slice M N cm) may) (hcap:zor m S ≤ LIM) (budget:Int) (hr:zdi (zaC N A cols c) may ≠ none) :
  Calls Tryz.prog 23 #[.pointer (some ⟨q,0,none⟩), .slice kA N kc, .slice M N cm, .int .i64 budget] w fun e w' => e = .returned (.tuple #[.int .i64 (-1), .int .i64 0, .iface 59 (.int .i64 190)]) ∧ Below w.heap.size w w':=by
 have HP:=hid h
 have HM:=hid hm
 have HCAP:=hid hcap
 have HR:=hid (show (zdi (zaC N A cols c) may).isNone = false by cases he:zdi (zaC N A cols c) may with | none => exact absurd he hr | some j => rfl)
 clear h hm hcap hr
 go_enter Tryz.func23,Tryz.ntmps23
 go_wp2_with fail
 refine (right HP.out M cm H' may HM.out HCAP.out).mono ?_
 rintro e w1 ⟨rfl,hb⟩
 have HB:=hid hb
 clear hb
 rw [HR.out]
 go_wp2
 go_ret3
 exact ⟨rfl,HB.out⟩
theorem run (h:zhi W0 w H q rA rc lA bA bc_ kA kc eA ec m N S own A b c left tA tc cols) (M:Option Addr) (cm H':Nat) (hm:BoolsS w H' (.slice M N cm) (List.replicate N true)) (hcap:zor m S ≤ LIM) (budget:Int) (hb1:budget ≤ 9223372036854775807) (hr:zdi (zaC N A cols c) (List.replicate N true) = none) :
  Calls Tryz.prog 23 #[.pointer (some ⟨q,0,none⟩), .slice kA N kc, .slice M N cm, .int .i64 budget] w (zCr W0 w H q rA rc lA bA bc_ kA kc eA ec m N S own A b c left tA tc (pivs (zbE N A b c (List.replicate N true)) budget.toNat cols)):=by
 have HP:=hid h
 have HM:=hid hm
 have HCAP:=hid hcap
 have HCL:=hid h.std.clen
 have HR:=hid (show (zdi (zaC N A cols c) (List.replicate N true)).isNone = true by rw [hr];rfl)
 have HHW:=hid h.hle
 have hcap2:=zos hcap
 have HSE:=hid (show 16 * (2 * pB m S + 2) + 8 ≤ LIM by omega)
 have HB1:=hid hb1
 clear h hm hcap hr hcap2 hb1
 obtain ⟨nx,hnx⟩:∃ nx,nx = zbE N A b c (List.replicate N true):=⟨_,rfl⟩
 have HNX:=hid hnx
 rw [← hnx]
 clear hnx
 go_enter Tryz.func23,Tryz.ntmps23
 go_wp2_with fail
 refine (right HP.out M cm H' _ HM.out HCAP.out).mono ?_
 rintro e w1 ⟨rfl,hb⟩
 have HB:=hid hb
 clear hb
 rw [HR.out]
 go_wp2
 go_loopw [11] (fun nv wr => ∃ (i:Nat) (cs:List Nat),nv = .int .i64 i ∧ i ≤ budget.toNat ∧ pivs nx budget.toNat cols = upN i (pivs nx (budget.toNat - i) cs) ∧ zhi W0 wr H q rA rc lA bA bc_ kA kc eA ec m N S own A b c left tA tc cs ∧ Below H w wr ∧ Kept TT (Value.slice tA m tc).ownBlock w wr)
  (fun nv _ => budget.toNat - (intOf nv).toNat)
 case atStart => exact ⟨0,cols,rfl,Nat.zero_le _,rfl,HP.out.below HB.out,HB.out.mono HHW.out,Kept.of_below HB.out⟩
 case round =>
  obtain ⟨i,cs,rfl,hi,hpv,hT,hB,hK⟩:=hrel
  have HT:=hid hT
  have HBw:=hid hB
  have HK:=hid hK
  have HPV:=hid hpv
  have HI:=hid hi
  have HBA:=hid hT.basis
  clear hT hB hK hpv hi
  go_wp2_with fail
  refine (leave HT.out).mono ?_
  rintro e v1 ⟨rfl,hb⟩
  have HT1:=hid (HT.out.below hb)
  have HB1w:=hid (HBw.out.trans (hb.mono HT.out.hle))
  have HK1:=hid (HK.out.below hb)
  clear hb
  cases hlv:zi5 cs (za5 A b cs) with
  | none =>
   have HF:=hid (show pivs nx budget.toNat cols = ⟨cs,none,i,false⟩ by rw [HPV.out,zvf (by rw [HNX.out];unfold zbE;rw [hlv])];simp only [upN,Nat.zero_add])
   have hp:zbh none = -1:=rfl
   rw [hp]
   clear hlv
   go_wp2
   go_ret3
   exact ⟨_,by rw [HF.out];rfl,by rw [HF.out];exact .inl ⟨rfl,rfl⟩,by rw [HF.out];exact HT1.out,HB1w.out,HK1.out⟩
  | some k =>
   have hp:zbh (some k) = (k:Int):=rfl
   rw [hp]
   have hk0:(0:Int) ≤ (k:Int):=Int.natCast_nonneg _
   have hk1:¬ (k:Int) < 0:=by omega
   go_upto_region 5 with fail
   go_cut [28] (fun c wx => c = .bool false ∧ wx = v1)
   case first =>
    go_wp2
    go_meet
    exact ⟨by simp,rfl⟩
   obtain ⟨rfl,rfl⟩:=hcut
   clear hp hk0 hk1
   rename World => v1
   have hkm:k < m:=by
    have s:=zdk cs (za5 A b cs) (za5 A b cs).length
    unfold zi5 at hlv
    rw [hlv,(HBA.out.vals_ok b).2] at s
    exact s.1
   have HKM:=hid hkm
   have HLV:=hid hlv
   clear hlv hkm
   obtain ⟨qb1,xA1,xc1,hP1⟩:=HT1.out
   have HC1:=hid hP1.stdN.C
   have HZC:=hid hP1.std.zc
   have HZA:=hid hP1.std.zA
   have HZB:=hid hP1.bas.good.2.2
   have HHS:=hid hP1.std.hS
   have HM64:=hid hP1.std.hm
   have HN64:=hid hP1.std.hN
   clear hP1
   go_wp2_with fail
   refine (Tb.prices HT1.out kA kc c 0 HC1.out HZC.out HCAP.out).mono ?_
   rintro e v2 ⟨A2,n2,c2,rfl,hv2,hb⟩
   have HV2:=hid hv2
   have HT2:=hid (HT1.out.below hb)
   have HB2:=hid (HB1w.out.trans (hb.mono HT1.out.hle))
   have HK2:=hid (HK1.out.below hb)
   clear hv2 hb
   go_wp2_with fail
   refine (Tb.line HT2.out k HKM.out HCAP.out).mono ?_
   rintro e v3 ⟨A3,n3,c3,rfl,hv3,hb⟩
   have HV3:=hid hv3
   have HV2b:=hid (HV2.out.below hb)
   have HT3:=hid (HT2.out.below hb)
   have HB3:=hid (HB2.out.trans (hb.mono HT2.out.hle))
   have HK3:=hid (HK2.out.below hb)
   clear hv3 hb
   have HM3:=hid (HM.out.kept HK3.out (by decide))
   go_wp2_with fail
   with_reducible refine (enter (2 * pB m S + 2) HSE.out A2 n2 c2 (zaC N A cs c) v1.heap.size A3 n3 c3 (zk8 N A cs k) v2.heap.size M N cm (List.replicate N true) _ HV2b.out HV3.out (by rw [List.length_replicate]) (by have:=HN64.out;omega) HM3.out.reads (zvh HBA.out HM64.out HZB.out HZA.out HHS.out HCL.out HZC.out) (zAX HBA.out HM64.out HZB.out HZA.out HHS.out HKM.out)).mono ?_
   rintro e v4 ⟨rfl,hb⟩
   have HT4:=hid (HT3.out.below hb)
   have HB4:=hid (HB3.out.trans (hb.mono HT3.out.hle))
   have HK4:=hid (HK3.out.below hb)
   clear hb
   cases hen:zhy (zaC N A cs c) (zk8 N A cs k) (List.replicate N true) with
   | none =>
    have HF:=hid (show pivs nx budget.toNat cols = ⟨cs,some k,i,false⟩ by rw [HPV.out,zxw (k:=k) (by rw [HNX.out];unfold zbE;rw [HLV.out];simp only [hen])];simp only [upN,Nat.zero_add])
    have hp:zbh none = -1:=rfl
    rw [hp]
    clear hen
    go_wp2
    go_ret3
    exact ⟨_,by rw [HF.out];rfl,by rw [HF.out];exact .inl ⟨rfl,rfl⟩,by rw [HF.out];exact HT4.out,HB4.out,HK4.out⟩
   | some j =>
    have hp:zbh (some j) = (j:Int):=rfl
    rw [hp]
    have hj0:(0:Int) ≤ (j:Int):=Int.natCast_nonneg _
    have hj1:¬ (j:Int) < 0:=by omega
    have hnext:nx cs = .piv k j:=by rw [HNX.out];unfold zbE;rw [HLV.out];simp only [hen]
    have hpv:=zwH HBA.out HCL.out (b:=b) (by rw [← HNX.out];exact hnext)
    have HPI:=hid hpv
    have HNE:=hid hnext
    have HOUT:=hid (DPiv.out HBA.out hpv)
    have hi0:(0:Int) ≤ (i:Int):=Int.natCast_nonneg _
    clear hen hnext hpv
    go_upto_region 10 with fail
    go_cut [47] (fun c wx => c = .bool false ∧ wx = v4)
    case first =>
     go_wp2
     go_meet
     exact ⟨by simp,rfl⟩
    obtain ⟨rfl,rfl⟩:=hcut
    clear hp hj1
    rename World => v4
    go_upto_region 12 with fail
    go_cut [52] (fun c wx => c = .bool (decide (budget ≤ (i:Int))) ∧ wx = v4)
    case first =>
     go_wp2
     go_meet
     exact ⟨by simp,rfl⟩
    obtain ⟨rfl,rfl⟩:=hcut
    rename World => v4
    have hi:=HI.out
    have hb1:=HB1.out
    by_cases hbud:i < budget.toNat
    ·have hbi:¬ (i:Int) ≥ budget:=by omega
     have hbi2:¬ budget ≤ (i:Int):=by omega
     have hbi3:decide (budget ≤ (i:Int)) = false:=decide_eq_false hbi2
     rw [hbi3]
     have hil:(i:Int) < 9223372036854775807:=by omega
     go_wp2_with fail
     refine (Tb.swap HT4.out k j HPI.out.hk HPI.out.hj (by have:=HPI.out.t;grind) HOUT.out HCAP.out).mono ?_
     rintro e v5 ⟨rfl,hT5,hb5,hk5⟩
     have HT5:=hid hT5
     have HB5:=hid (HB4.out.trans hb5)
     have HK5:=hid (HK4.out.trans hk5)
     clear hT5 hb5 hk5
     go_wp2
     go_roundw
     case rel => exact ⟨i + 1,cs.set k j,by go_num,by omega,by rw [HPV.out,show budget.toNat - i = (budget.toNat - (i + 1)) + 1 by omega,zxx HNE.out,zDR],HT5.out,HB5.out,HK5.out⟩
     case measure => simp [intOf];omega
    ·have hbi:(i:Int) ≥ budget:=by omega
     have hbi2:budget ≤ (i:Int):=hbi
     have hbi3:decide (budget ≤ (i:Int)) = true:=decide_eq_true hbi2
     rw [hbi3]
     have HF:=hid (show pivs nx budget.toNat cols = ⟨cs,none,i,true⟩ by rw [HPV.out,show budget.toNat - i = 0 by omega,zsr HNE.out];simp only [upN,Nat.zero_add])
     go_wp2_with fail
     refine (Err.wrap 180 zve (i:Int) _).mono ?_
     rintro e v5 ⟨rfl,rfl⟩
     go_wp2
     go_ret3
     exact ⟨_,by rw [HF.out];rfl,by rw [HF.out];exact .inr ⟨rfl,_,rfl,zal _ _ _⟩,by rw [HF.out];exact HT4.out.alloc _,HB4.out.trans (zae v4 _ |>.mono HT4.out.hle),HK4.out.below (zae v4 _)⟩
end Du
end
end Go.Proofs.YtdbgbaiekpbaoaaGreatDoor
