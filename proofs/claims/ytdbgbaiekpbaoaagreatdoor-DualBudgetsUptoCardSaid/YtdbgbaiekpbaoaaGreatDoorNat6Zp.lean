/- nat.Shl by fewer than 64 bits,by its contract. Conditions: as each says. -/
import Derived.Test.YtdbgbaiekpbaoaaGreatDoorNat5Zp
namespace Go.Proofs.YtdbgbaiekpbaoaaGreatDoor
open Go.RowKit Am
attribute [local go_sem ↓] Go.wp_at_zero Go.wp_at_succ
set_option maxHeartbeats 1000000
set_option maxRecDepth 100000
namespace Nt
theorem zd3 (k:Nat):((2:Int) ^ k) = ((2 ^ k:Nat):Int):=by simp
theorem zAk (x s:Nat) (hs:s < 64):(x:Int) / 2 ^ (64 - s) = ((zBd x s:Nat):Int):=by
 rw [zd3, ← Int.natCast_ediv,zoZ hs];rfl
theorem zAl (o x s:Nat) (hs:s < 64) (ho:o < 2 ^ s):bits BinOp.or IntKind.u64 (o:Int) (IntKind.u64.wrap ((x:Int) * 2 ^ s)) = ((zxB o x s:Nat):Int):=by
 have h4:(2:Nat) ^ s < 18446744073709551616:=by
  have : (2:Nat) ^ s < 2 ^ 64:=Nat.pow_lt_pow_right (by decide) hs
  omega
 have e:=pow64_split s (by omega)
 have h1:x * 2 ^ s % B64 = 2 ^ s * (x % 2 ^ (64 - s)):=by rw [e,Nat.mul_comm x,Nat.mul_mod_mul_left]
 rw [zd3, ← Int.natCast_mul,IntKind.wrap_u64]
 have e2:((x * 2 ^ s:Nat):Int) % 18446744073709551616 = ((x * 2 ^ s % B64:Nat):Int):=(Int.natCast_emod _ _).symm
 rw [e2,u64_or_nat _ _ (by omega) (Nat.mod_lt _ (by decide)),h1,Nat.mul_comm (2 ^ s),zvd ho]
 unfold zxB
 rw [h1,Nat.mul_comm (2 ^ s)]
theorem shl (A:Option Addr) (m c a s:Nat) (w:World) (ha:zas w (.slice A m c) a) (hs:s < 64) (hla:wlen a ≤ LIM) :
  Calls Tryz.prog 185 #[.agg #[.slice A m c], .int .i64 (s:Int)] w (zjL w (a * 2 ^ s) true):=by
 obtain ⟨xs,hx,hcx,rfl,hlx,rfl⟩:=ha.words
 rw [← hlx] at hla
 have HX:=Lib.hid hx
 have hnb:xs.length + 1 ≤ 9223372036854775807:=by have:=zaP;omega
 have g1:=Lib.hid (show xs.length + 1 ≤ 16 * LIM by have:=zaP;omega)
 clear ha hlx hx hcx hla
 have hq:(s:Int) / 64 = 0:=by omega
 have hr:(s:Int) % 64 = (s:Int):=by omega
 have d1:decide ((s:Int) < 0) = false:=by rw [decide_eq_false_iff_not];omega
 have d2:decide ((65536:Int) < (s:Int)) = false:=by rw [decide_eq_false_iff_not];omega
 go_enter Tryz.func185,Tryz.ntmps185
 go_wp2_with (at_make;go_must (refine zdz rfl _ _ rfl (xs.length + 1) _ rfl rfl (by simp) g1.out (w.heap.size + 1 + 1) (by simp) ?_))
 intro w1 ho
 have HO:=Lib.hid ho
 clear ho
 have c0:=HO.out.old (b:=w.heap.size) (o:=0) (v := .slice A xs.length c) (by omega) (cell_al (zax rfl rfl))
 have HX0:=Lib.hid ((HX.out.alloc (.cells #[.slice A xs.length c] 31)).alloc (.cells #[.slice none 0 0] 31))
 go_wp2
 simp only [hr]
 clear hr hq
 have hq:(s:Int) / 64 = 0:=by omega
 go_loopw [30] (fun i wr => ∃ (j:Nat) (os:List Nat),i = .int .i64 j ∧ j ≤ xs.length ∧ ShlInv xs os 0 s j ∧
   OutAt ((w.alloc (.cells #[.slice A xs.length c] 31)).alloc (.cells #[.slice none 0 0] 31)) wr (w.heap.size + 1 + 1) (xs.length + 1) os)
  (fun i _ => xs.length - (intOf i).toNat)
 case atStart => exact ⟨0,List.replicate (xs.length + 1) 0,rfl,Nat.zero_le _,ShlInv.start xs 0 s _,HO.out⟩
 case round =>
  obtain ⟨j,os,rfl,hj,hI,hO⟩:=hrel
  have HI:=Lib.hid hI
  have HO2:=Lib.hid hO
  clear c0
  by_cases hlt:j < xs.length
  ·rcases HX0.out.form with ⟨h1,h2⟩ | ⟨g,cap,h1,hg,hcap,hm,hcx⟩
   ·exfalso;rw [h2] at hlt;simp at hlt
   injection h1 with hA' _ hc1'
   subst hA' hc1'
   simp at hg
   have hxc:=hO.old (by omega) (hcx j hlt)
   have hcell:=hO.cell (k:=j) (by omega)
   have hcell1:=hO.cell (k:=j + 1) (by omega)
   have hfro:=hO.fro j
   have hfro1:=hO.fro (j + 1)
   have hlow:wd os j < 2 ^ s:=hI.low
   have rLo:=zAl (wd os j) (wd xs j) s hs hlow
   have rHi:=zAk (wd xs j) s hs
   have hi1:(0:Int) ≤ (j:Int):=Int.natCast_nonneg _
   have hi2:(j:Int) < (xs.length:Int):=by omega
   clear hO hI hcx
   go_wp2_with fail
   go_region
   go_wp2
   go_roundw
   case rel => exact ⟨j + 1,_,by go_num,by omega,HI.out.next HX.out.2 hs (by rw [HO2.out.len];omega),((HO2.out.store j _).store (j + 1) _).drew⟩
   case measure => simp [intOf];omega
  ·obtain rfl:j = xs.length:=by omega
   have hv:nval os = nval xs * 2 ^ s:=by
    have:=HI.out.eq
    rw [List.take_of_length_le (Nat.le_refl _)] at this
    simpa using this
   have hs:=hO.sw HI.out.wds
   have hb0:=hO.bel
   have HV:=Lib.hid hv
   have HS:=Lib.hid hs
   have HB:=Lib.hid hb0
   have hsz:=hO.lt
   clear hv hs hb0 hO hI
   go_wp2_with fail
   refine (trim _ os _ HS.out).mono ?_
   rintro e w3 ⟨A2,m2,c2,rfl,hs2,hb2⟩
   have hk:=zad hb2 ((HB.out.block (w.heap.size + 1) (by omega)).trans (zam (by simp)))
   have hc:w3.cell? ⟨w.heap.size + 1,0,none⟩ = some (.slice none 0 0):=zac hk 0
   have hf:=zag hk 0
   have HK3:=Lib.hid hk
   have h1:=hb2.size
   have h0:=HB.out.size
   simp at h0
   clear hk
   go_wp2
   refine bodyPost_ret (v := .tuple #[.agg #[.slice A2 m2 c2], .bool true]) (by simp [results,Tryz.results185,go_sem,hc]) rfl ?_
   rw [HV.out] at hs2
   refine ⟨_,_,_,rfl,hs2.setCell (p:=⟨w.heap.size + 1,0,none⟩) HK3.out (by decide) _,Below.setCell ?_ (by simp) _⟩
   exact bstep (((zae w _).alloc (by simp) _).trans (HB.out.mono (by omega))) hb2 (by omega)
end Nt
end Go.Proofs.YtdbgbaiekpbaoaaGreatDoor
