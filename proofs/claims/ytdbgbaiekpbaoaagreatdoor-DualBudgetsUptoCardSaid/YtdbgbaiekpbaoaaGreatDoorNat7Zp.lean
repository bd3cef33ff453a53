/- nat.Shr by fewer than 64 bits,by its contract. Conditions: as each says. -/
import Derived.Test.YtdbgbaiekpbaoaaGreatDoorNat6Zp
namespace Go.Proofs.YtdbgbaiekpbaoaaGreatDoor
open Go.RowKit Am
attribute [local go_sem ↓] Go.wp_at_zero Go.wp_at_succ
set_option maxHeartbeats 1000000
set_option maxRecDepth 100000
namespace Nt
structure ShrInv (xs os:List Nat) (s j:Nat):Prop where
  wds:Wds os
  eq:∀ i,i < j → wd os i = nval xs / 2 ^ s / B64 ^ i % B64
theorem zBh (x y s:Nat) (hs:s < 64) (hx:x < 18446744073709551616):zBf x y s < 18446744073709551616:=by
 have e:=pow64_split s (by omega)
 have h1:y * 2 ^ (64 - s) % B64 = 2 ^ (64 - s) * (y % 2 ^ s):=by rw [e,Nat.mul_comm (2 ^ s),Nat.mul_comm y,Nat.mul_mod_mul_left]
 have h2:x / 2 ^ s < 2 ^ (64 - s):=by
  rw [Nat.div_lt_iff_lt_mul (Nat.pow_pos (by decide)),Nat.mul_comm, ← e];exact hx
 have h3:y % 2 ^ s < 2 ^ s:=Nat.mod_lt _ (Nat.pow_pos (by decide))
 have h4:2 ^ (64 - s) * (y % 2 ^ s + 1) ≤ 2 ^ (64 - s) * 2 ^ s:=Nat.mul_le_mul_left _ h3
 rw [Nat.mul_add,Nat.mul_one,Nat.mul_comm _ (2 ^ s), ← e] at h4
 unfold zBf
 rw [h1]
 have : B64 = 18446744073709551616:=rfl
 omega
theorem zDd (x y s:Nat) (hs:s < 64) (hx:x < 18446744073709551616) :
  bits BinOp.or IntKind.u64 ((x:Int) / 2 ^ s) (IntKind.u64.wrap ((y:Int) * 2 ^ (64 - s))) = ((zBf x y s:Nat):Int):=by
 have e:=pow64_split s (by omega)
 have h1:y * 2 ^ (64 - s) % B64 = (y % 2 ^ s) * 2 ^ (64 - s):=by rw [e,Nat.mul_comm (2 ^ s),Nat.mul_comm y,Nat.mul_mod_mul_left,Nat.mul_comm]
 have h2:x / 2 ^ s < 2 ^ (64 - s):=by
  rw [Nat.div_lt_iff_lt_mul (Nat.pow_pos (by decide)),Nat.mul_comm, ← e];exact hx
 rw [zd3,zd3, ← Int.natCast_mul, ← Int.natCast_ediv,IntKind.wrap_u64]
 have e2:((y * 2 ^ (64 - s):Nat):Int) % 18446744073709551616 = ((y * 2 ^ (64 - s) % B64:Nat):Int):=(Int.natCast_emod _ _).symm
 rw [e2,u64_or_nat _ _ (Nat.lt_of_le_of_lt (Nat.div_le_self _ _) hx) (Nat.mod_lt _ (by decide)),h1,zvd h2]
 unfold zBf
 rw [h1]
theorem ShrInv.next {xs os:List Nat} {s j:Nat} (h:ShrInv xs os s j) (hx:Wds xs) (hs:s < 64) (hj:j < os.length):ShrInv xs (os.set j (zBf (wd xs j) (wd xs (j + 1)) s)) s (j + 1):=by
 refine ⟨h.wds.set _ _ (zBh _ _ _ hs (zdM hx j)),fun i hi => ?_⟩
 unfold wd
 rw [zcU _ _ _ _ hj]
 by_cases e:i = j
 ·subst e;rw [if_pos rfl];exact zBg hx i s hs
 ·rw [if_neg e];exact h.eq i (by omega)
theorem ShrInv.done {xs os:List Nat} {s:Nat} (h:ShrInv xs os s os.length) (hx:Wds xs) (hl:xs.length = os.length):nval os = nval xs / 2 ^ s:=by
 apply znM h.eq
 have:=zc8 xs hx
 rw [hl] at this
 exact Nat.lt_of_le_of_lt (Nat.div_le_self _ _) this

theorem shr (A:Option Addr) (m c a s:Nat) (w:World) (ha:zas w (.slice A m c) a) (hs:s < 64) (hla:wlen a ≤ LIM) :
  Calls Tryz.prog 189 #[.agg #[.slice A m c], .int .i64 (s:Int)] w (zc0 w (a / 2 ^ s)):=by
 obtain ⟨xs,hx,hcx,rfl,hlx,rfl⟩:=ha.words
 rw [← hlx] at hla
 have HX:=Lib.hid hx
 have HLA:=Lib.hid hla
 have hnb:xs.length + 1 ≤ 9223372036854775807:=by have:=zaP;omega
 have g1:=Lib.hid (show xs.length ≤ 16 * LIM by have:=zaP;omega)
 have hq:(s:Int) / 64 = 0:=by omega
 have hr:(s:Int) % 64 = (s:Int):=by omega
 have d1:decide ((s:Int) < 0) = false:=by rw [decide_eq_false_iff_not];omega
 clear ha hlx hx hla
 by_cases h0:xs.length = 0
 ·have hx0:xs = []:=List.length_eq_zero_iff.1 h0
  subst hx0
  clear hcx h0 hr g1
  go_enter Tryz.func189,Tryz.ntmps189
  go_wp2
  refine bodyPost_ret (v := .agg #[.slice none 0 0]) (by simp [results,Tryz.results189,go_sem]) rfl ⟨_,_,_,rfl,?_,((zae w _).alloc (by simp) _)⟩
  simpa [nval] using zas.zero _
 ·have d2:decide ((xs.length:Int) ≤ 0) = false:=by rw [decide_eq_false_iff_not];omega
  clear hcx
  go_enter Tryz.func189,Tryz.ntmps189
  go_wp2_with (at_make;go_must (refine zdz rfl _ _ rfl xs.length _ rfl rfl (by simp) g1.out (w.heap.size + 1 + 1) (by simp) ?_))
  intro w1 ho
  have HO:=Lib.hid ho
  clear ho
  have HX0:=Lib.hid ((HX.out.alloc (.cells #[.slice A xs.length c] 31)).alloc (.cells #[.slice none 0 0] 31))
  go_wp2
  simp only [hr]
  clear hr hq
  have hq:(s:Int) / 64 = 0:=by omega
  go_loopw [30] (fun i wr => ∃ (j:Nat) (os:List Nat),i = .int .i64 j ∧ j ≤ xs.length ∧ ShrInv xs os s j ∧
    OutAt ((w.alloc (.cells #[.slice A xs.length c] 31)).alloc (.cells #[.slice none 0 0] 31)) wr (w.heap.size + 1 + 1) xs.length os)
   (fun i _ => xs.length - (intOf i).toNat)
  case atStart => exact ⟨0,List.replicate xs.length 0,rfl,Nat.zero_le _,⟨Wds.replicate _,fun i hi => by omega⟩,HO.out⟩
  case round =>
   obtain ⟨j,os,rfl,hj,hI,hO⟩:=hrel
   have HI:=Lib.hid hI
   have HO2:=Lib.hid hO
   by_cases hlt:j < xs.length
   ·have hXr:=Lib.hid (hO.keep HX0.out (by simp))
    have hc0:=hO.old (b:=w.heap.size) (o:=0) (v := .slice A xs.length c) (by omega) (cell_al (zax rfl rfl))
    have hcell:=hO.cell hlt
    have hfro:=hO.fro j
    have hsz:=hO.lt
    have hx1:=zdM HX.out.2 j
    have rW:=zDd (wd xs j) (wd xs (j + 1)) s hs hx1
    have hi1:(0:Int) ≤ (j:Int):=Int.natCast_nonneg _
    have hi2:(j:Int) < (xs.length:Int):=by omega
    have q1:=cell_al (ob := .cells #[.slice A xs.length c] 31) (cell_al (ob := .cells #[.slice A xs.length c] 31) hcell)
    have q2:=zd1 (ob := .cells #[.slice A xs.length c] 31) (zxk (ob := .cells #[.slice A xs.length c] 31) hsz) (zd1 (ob := .cells #[.slice A xs.length c] 31) hsz hfro)
    clear hO hI hcell hfro
    have hi4:(0:Int) ≤ (j:Int) + 1:=by omega
    have hne:w.heap.size ≠ w.heap.size + 1 + 1:=by omega
    have s3:(64 - (s:Int)).toNat = 64 - s:=by omega
    go_wp2_with fail
    have z0:IntKind.i64.wrap 0 = 0:=rfl
    have z1:IntKind.i64.wrap (j:Int) = (j:Int):=IntWalk.i64_in _ (by omega)
    have z2:IntKind.i64.wrap ((j:Int) + 1) = (j:Int) + 1:=IntWalk.i64_in _ (by omega)
    have z3:IntKind.i64.wrap (64 - (s:Int)) = 64 - (s:Int):=IntWalk.i64_in _ (by omega)
    go_region_held3 (fun w' => w'.cell? ⟨w.heap.size,0,none⟩ = some (.slice A xs.length c))
     (first | ((try go_split_ands);(try simp only [World.cell?_drew]);(repeat' apply And.intro) <;> (first | assumption | exact cell_al (by assumption) | exact cell_set (by assumption) (by assumption) | exact cell_al (cell_set (by assumption) (by assumption)) | exact cell_al (cell_al (cell_set (by assumption) (by assumption))))) | go_keep)
     (first
      | (go_at_call 157;(with_reducible refine (word (.slice A xs.length c) xs _ (by assumption) _ ?_).mono ?_);(first | exact hXr.out.drew | exact (hXr.out.alloc _).drew);rintro e w' ⟨rfl,rfl⟩))
    clear z0 z1 z2 z3
    go_wp2
    go_roundw
    case rel => exact ⟨j + 1,_,by go_num,by omega,HI.out.next HX.out.2 hs (by rw [HO2.out.len];exact hlt),(((HO2.out.alloc _).alloc _).store j _).drew⟩
    case measure => simp [intOf];omega
   ·obtain rfl:j = xs.length:=by omega
    have hv:nval os = nval xs / 2 ^ s:=ShrInv.done (by rw [hO.len];exact hI) HX.out.2 hO.len.symm
    have hs:=hO.sw HI.out.wds
    have hb0:=hO.bel
    have HV:=Lib.hid hv
    have HS:=Lib.hid hs
    have HB:=Lib.hid hb0
    have hsz:=hO.lt
    clear hv hs hb0 hO hI
    go_wp2_with fail
    refine (trim _ os _ HS.out).mono ?_
    rintro e w3 ⟨A2,m2,c2,rfl,hs2,hb2⟩
    have hk:=zad hb2 ((HB.out.block (w.heap.size + 1) (by omega)).trans (zam (by simp)))
    have hc:w3.cell? ⟨w.heap.size + 1,0,none⟩ = some (.slice none 0 0):=zac hk 0
    have hf:=zag hk 0
    have HK3:=Lib.hid hk
    have h0:=HB.out.size
    simp at h0
    clear hk
    go_wp2
    refine bodyPost_ret (v := .agg #[.slice A2 m2 c2]) (by simp [results,Tryz.results189,go_sem,hc]) rfl ?_
    rw [HV.out] at hs2
    refine ⟨_,_,_,rfl,hs2.setCell (p:=⟨w.heap.size + 1,0,none⟩) HK3.out (by decide) _,Below.setCell ?_ (by simp) _⟩
    exact bstep (((zae w _).alloc (by simp) _).trans (HB.out.mono (by omega))) hb2 (by omega)
end Nt
end Go.Proofs.YtdbgbaiekpbaoaaGreatDoor
