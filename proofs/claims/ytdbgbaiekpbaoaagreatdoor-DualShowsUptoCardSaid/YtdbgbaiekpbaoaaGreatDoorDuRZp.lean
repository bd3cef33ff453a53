/- dual.Right,Run by their contracts. Conditions: as each says. -/
import Derived.Test.YtdbgbaiekpbaoaaGreatDoorDuBZp
import Derived.Test.YtdbgbaiekpbaoaaGreatDoorTb4Zp
import Derived.Test.YtdbgbaiekpbaoaaGreatDoorErrZp
set_option linter.all false
namespace Go.Proofs.YtdbgbaiekpbaoaaGreatDoor
open Go.RowKit Am
open Lib (hid)
attribute [local go_sem ↓] Go.wp_at_zero Go.wp_at_succ
set_option maxHeartbeats 4000000
set_option maxRecDepth 100000
def upN (i:Nat) (r:RunOut):RunOut:={ r with n:=r.n + i }
theorem zvf {next:List Nat → Am.Next} {f:Nat} {cols:List Nat} (h:next cols = .stop):pivs next f cols = ⟨cols,none,0,false⟩:=by cases f <;> simp only [pivs,h]
theorem zxw {next:List Nat → Am.Next} {f k:Nat} {cols:List Nat} (h:next cols = .bad k):pivs next f cols = ⟨cols,some k,0,false⟩:=by cases f <;> simp only [pivs,h]
theorem zsr {next:List Nat → Am.Next} {k j:Nat} {cols:List Nat} (h:next cols = .piv k j):pivs next 0 cols = ⟨cols,none,0,true⟩:=by simp only [pivs,h]
theorem zxx {next:List Nat → Am.Next} {f k j:Nat} {cols:List Nat} (h:next cols = .piv k j):pivs next (f + 1) cols = upN 1 (pivs next f (cols.set k j)):=by simp only [pivs,h];rfl
theorem zDR (i:Nat) (r:RunOut):upN i (upN 1 r) = upN (i + 1) r:=by simp only [upN,Nat.add_assoc,Nat.add_comm 1 i]
abbrev zve:ByteArray:={ data := #[112,105,118,111,116] }
theorem zvh {m N S:Nat} {A:List (List Rat)} {cols:List Nat} {c:List Rat} (hB:Basis m N A cols) (hm:m ≤ 64) (hz:zhg mw m S (bc A cols)) (zA:∀ r ∈ A, ∀ q ∈ r,mw q ≤ S) (hS:1 ≤ S) (hc:c.length = N) (zc:∀ x ∈ c,mw x ≤ S):∀ q ∈ zaC N A cols c,mw q ≤ 2 * pB m S + 2:=fun q hq => by
 unfold zaC at hq
 obtain ⟨k,hk⟩:=List.mem_iff_getElem?.1 hq
 unfold zly at hk
 rw [List.getElem?_zipWith] at hk
 cases ha:c[k]? with
 | none => rw [ha] at hk;cases hk
 | some a =>
  cases hb:(byL N A (zcl A cols c))[k]? with
  | none => rw [ha,hb] at hk;cases hk
  | some b =>
   rw [ha,hb] at hk
   injection hk with hk
   subst hk
   have h1:=zc a (List.mem_of_getElem? ha)
   have h2:=zt3 hB.rect.len hm zA (znb hB hz hc zc) (zma m S S) hS b (List.mem_of_getElem? hb)
   have h3:=zrI a (-1 * b)
   have h4:=zdI (-1) b
   have h5:mw (-1) ≤ 1:=by rw [zhY];exact mw1
   unfold pB;omega
theorem zAX {m N S r:Nat} {A:List (List Rat)} {cols:List Nat} (hB:Basis m N A cols) (hm:m ≤ 64) (hz:zhg mw m S (bc A cols)) (zA:∀ r ∈ A, ∀ q ∈ r,mw q ≤ S) (hS:1 ≤ S) (hr:r < m):∀ q ∈ zk8 N A cols r,mw q ≤ 2 * pB m S + 2:=fun q hq => by
 have:=zt3 hB.rect.len hm zA (ziO hB hz hS hr) (zma m S S) hS q hq
 unfold pB;omega
theorem DPiv.out {m N:Nat} {A:List (List Rat)} {b c:List Rat} {cols:List Nat} (hB:Basis m N A cols) {k j:Nat} (p:DPiv m N A b c cols k j):j ∉ cols:=fun h => by
 obtain ⟨l,hl⟩:=List.mem_iff_getElem?.1 h
 have hlm:l < m:=by rw [← hB.len];exact (List.getElem?_eq_some_iff.1 hl).1
 have u:el (zav A cols (cols.getD l 0)) k = if l = k then 1 else 0:=(hB.dic b).uni k l p.hk hlm
 rw [getD_some (d:=0) hl] at u
 have t:=p.t
 rw [u] at t
 split at t <;> grind
section
variable {W0 w:World} {H q:Nat} {rA:Option Addr} {rc:Nat} {lA:List Value} {bA:Option Addr} {bc_:Nat} {kA:Option Addr} {kc:Nat} {eA:Option Addr} {ec m N S own:Nat} {A:List (List Rat)} {b c:List Rat} {left:List Int}
  {tA:Option Addr} {tc:Nat} {cols:List Nat}
namespace Du
theorem right (h:zhi W0 w H q rA rc lA bA bc_ kA kc eA ec m N S own A b c left tA tc cols) (M:Option Addr) (cm H':Nat) (may:List Bool) (hm:BoolsS w H' (.slice M N cm) may) (hcap:zor m S ≤ LIM) :
  Calls Tryz.prog 24 #[.pointer (some ⟨q,0,none⟩), .slice kA N kc, .slice M N cm] w fun e w' => e = .returned (.bool (zdi (zaC N A cols c) may).isNone) ∧ Below w.heap.size w w':=by
 have HP:=hid h
 have HM:=hid hm
 have HCAP:=hid hcap
 obtain ⟨qb,xA,xc,hP⟩:=h
 have HC:=hid hP.stdN.C
 have HZC:=hid hP.std.zc
 clear hP hm hcap
 go_enter Tryz.func24,Tryz.ntmps24
 go_wp2_with fail
 refine (Tb.prices HP.out kA kc c 0 HC.out HZC.out HCAP.out).mono ?_
 rintro e w1 ⟨A1,n1,c1,rfl,hv,hb⟩
 have HV:=hid hv
 have HB:=hid hb
 clear hv hb
 go_wp2_with fail
 refine (Pr.enter A1 n1 c1 (zaC N A cols c) w.heap.size M N cm may H' _ HV.out (HM.out.below HB.out)).mono ?_
 rintro e w2 ⟨rfl,hb⟩
 have HB2:=hid (HB.out.trans (hb.mono HB.out.size))
 clear hb
 cases he:zdi (zaC N A cols c) may with
 | none =>
  have hp:zbh none = -1:=rfl
  rw [hp]
  have HIS:=hid (show (zdi (zaC N A cols c) may).isNone = true by rw [he];rfl)
  clear he
  go_wp2
  go_ret
  exact ⟨by rw [HIS.out];rfl,HB2.out⟩
 | some j =>
  have hp:zbh (some j) = (j:Int):=rfl
  rw [hp]
  have HIS:=hid (show (zdi (zaC N A cols c) may).isNone = false by rw [he];rfl)
  clear he
  go_wp2
  go_ret
  exact ⟨by rw [HIS.out];rfl,HB2.out⟩
def zCr (W0 w:World) (H q:Nat) (rA:Option Addr) (rc:Nat) (lA:List Value) (bA:Option Addr) (bc_:Nat) (kA:Option Addr) (kc:Nat) (eA:Option Addr) (ec m N S own:Nat) (A:List (List Rat)) (b c:List Rat) (left:List Int) (tA:Option Addr) (tc:Nat) (r:RunOut) (e:Ending) (w':World):Prop :=
  ∃ ev,e = .returned (.tuple #[.int .i64 (zbh r.at_), .int .i64 (r.n:Int),ev]) ∧
    ((r.err = false ∧ ev = .nilIface) ∨ (r.err = true ∧ ∃ fb,ev = .iface 195 (.pointer (some ⟨fb,0,none⟩)) ∧ w'.heap[fb]? = some (.cells #[.string zve, .int .i64 (r.n:Int), .iface 59 (.int .i64 180)] 199 (0,0)))) ∧
    zhi W0 w' H q rA rc lA bA bc_ kA kc eA ec m N S own A b c left tA tc r.cols ∧ Below H w w' ∧ Kept TT (Value.slice tA m tc).ownBlock w w'
theorem run_no (h:zhi W0 w H q rA rc lA bA bc_ kA kc eA ec m N S own A b c left tA tc cols) (M:Option Addr) (cm H':Nat) (may:List Bool) (hm:BoolsS w H' (.slice M N cm) may) (hcap:zor m S ≤ LIM) (budget:Int) (hr:zdi (zaC N A cols c) may ≠ none) :
  Calls Tryz.prog 23 #[.pointer (some ⟨q,0,none⟩), .slice kA N kc, .slice M N cm, .int .i64 budget] w fun e w' => e = .returned (.tuple #[.int .i64 (-1), .int .i64 0, .iface 59 (.int .i64 190)]) ∧ Below w.heap.size w w':=by
 have HP:=hid h
 have HM:=hid hm
 have HCAP:=hid hcap
 have HR:=hid (show (zdi (zaC N A cols c) may).isNone = false by cases he:zdi (zaC N A cols c) may with | none => exact absurd he hr | some j => rfl)
 clear h hm hcap hr
 go_enter Tryz.func23,Tryz.ntmps23
 go_wp2_with fail
 refine (right HP.out M cm H' may HM.out HCAP.out).mono ?_
 rintro e w1 ⟨rfl,hb⟩
 have HB:=hid hb
 clear hb
 rw [HR.out]
 go_wp2
 go_ret3
 exact ⟨rfl,HB.out⟩
theorem run (h:zhi W0 w H q rA rc lA bA bc_ kA kc eA ec m N S own A b c left tA tc cols) (M:Option Addr) (cm H':Nat) (hm:BoolsS w H' (.slice M N cm) (List.replicate N true)) (hcap:zor m S ≤ LIM) (budget:Int) (hb1:budget ≤ 9223372036854775807) (hr:zdi (zaC N A cols c) (List.replicate N true) = none) :
  Calls Tryz.prog 23 #[.pointer (some ⟨q,0,none⟩), .slice kA N kc, .slice M N cm, .int .i64 budget] w (zCr W0 w H q rA rc lA bA bc_ kA kc eA ec m N S own A b c left tA tc (pivs (zbE N A b c (List.replicate N true)) budget.toNat cols)):=by
 have HP:=hid h
 have HM:=hid hm
 have HCAP:=hid hcap
 have HCL:=hid h.std.clen
 have HR:=hid (show (zdi (zaC N A cols c) (List.replicate N true)).isNone = true by rw [hr];rfl)
 have HHW:=hid h.hle
 have hcap2:=zos hcap
 have HSE:=hid (show 16 * (2 * pB m S + 2) + 8 ≤ LIM by omega)
 have HB1:=hid hb1
 clear h hm hcap hr hcap2 hb1
 obtain ⟨nx,hnx⟩:∃ nx,nx = zbE N A b c (List.replicate N true):=⟨_,rfl⟩
 have HNX:=hid hnx
 rw [← hnx]
 clear hnx
 go_enter Tryz.func23,Tryz.ntmps23
 go_wp2_with fail
 refine (right HP.out M cm H' _ HM.out HCAP.out).mono ?_
 rintro e w1 ⟨rfl,hb⟩
 have HB:=hid hb
 clear hb
 rw [HR.out]
 go_wp2
 go_loopw [11] (fun nv wr => ∃ (i:Nat) (cs:List Nat),nv = .int .i64 i ∧ i ≤ budget.toNat ∧ pivs nx budget.toNat cols = upN i (pivs nx (budget.toNat - i) cs) ∧ zhi W0 wr H q rA rc lA bA bc_ kA kc eA ec m N S own A b c left tA tc cs ∧ Below H w wr ∧ Kept TT (Value.slice tA m tc).ownBlock w wr)
  (fun nv _ => budget.toNat - (intOf nv).toNat)
 case atStart => exact ⟨0,cols,rfl,Nat.zero_le _,rfl,HP.out.below HB.out,HB.out.mono HHW.out,Kept.of_below HB.out⟩
 case round =>
  obtain ⟨i,cs,rfl,hi,hpv,hT,hB,hK⟩:=hrel
  have HT:=hid hT
  have HBw:=hid hB
  have HK:=hid hK
  have HPV:=hid hpv
  have HI:=hid hi
  have HBA:=hid hT.basis
  clear hT hB hK hpv hi
  go_wp2_with fail
  refine (leave HT.out).mono ?_
  rintro e v1 ⟨rfl,hb⟩
  have HT1:=hid (HT.out.below hb)
  have HB1w:=hid (HBw.out.trans (hb.mono HT.out.hle))
  have HK1:=hid (HK.out.below hb)
  clear hb
  cases hlv:zi5 cs (za5 A b cs) with
  | none =>
   have HF:=hid (show pivs nx budget.toNat cols = ⟨cs,none,i,false⟩ by rw [HPV.out,zvf (by rw [HNX.out];unfold zbE;rw [hlv])];simp only [upN,Nat.zero_add])
   have hp:zbh none = -1:=rfl
   rw [hp]
   clear hlv
   go_wp2
   go_ret3
   exact ⟨_,by rw [HF.out];rfl,by rw [HF.out];exact .inl ⟨rfl,rfl⟩,by rw [HF.out];exact HT1.out,HB1w.out,HK1.out⟩
  | some k =>
   have hp:zbh (some k) = (k:Int):=rfl
   rw [hp]
   go_upto_region 5 with fail
   go_cut [28] (fun c wx => c = .bool false ∧ wx = v1)
   case first =>
    go_wp2
    go_meet
    exact ⟨by simp,rfl⟩
   obtain ⟨rfl,rfl⟩:=hcut
   clear hp
   rename World => v1
   have hkm:k < m:=by
    have s:=zdk cs (za5 A b cs) (za5 A b cs).length
    unfold zi5 at hlv
    rw [hlv,(HBA.out.vals_ok b).2] at s
    exact s.1
   have HKM:=hid hkm
   have HLV:=hid hlv
   clear hlv hkm
   obtain ⟨qb1,xA1,xc1,hP1⟩:=HT1.out
   have HC1:=hid hP1.stdN.C
   have HZC:=hid hP1.std.zc
   have HZA:=hid hP1.std.zA
   have HZB:=hid hP1.bas.good.2.2
   have HHS:=hid hP1.std.hS
   have HM64:=hid hP1.std.hm
   have HN64:=hid hP1.std.hN
   clear hP1
   go_wp2_with fail
   refine (Tb.prices HT1.out kA kc c 0 HC1.out HZC.out HCAP.out).mono ?_
   rintro e v2 ⟨A2,n2,c2,rfl,hv2,hb⟩
   have HV2:=hid hv2
   have HT2:=hid (HT1.out.below hb)
   have HB2:=hid (HB1w.out.trans (hb.mono HT1.out.hle))
   have HK2:=hid (HK1.out.below hb)
   clear hv2 hb
   go_wp2_with fail
   refine (Tb.line HT2.out k HKM.out HCAP.out).mono ?_
   rintro e v3 ⟨A3,n3,c3,rfl,hv3,hb⟩
   have HV3:=hid hv3
   have HV2b:=hid (HV2.out.below hb)
   have HT3:=hid (HT2.out.below hb)
   have HB3:=hid (HB2.out.trans (hb.mono HT2.out.hle))
   have HK3:=hid (HK2.out.below hb)
   clear hv3 hb
   have HM3:=hid (HM.out.kept HK3.out (by decide))
   go_wp2_with fail
   with_reducible refine (enter (2 * pB m S + 2) HSE.out A2 n2 c2 (zaC N A cs c) v1.heap.size A3 n3 c3 (zk8 N A cs k) v2.heap.size M N cm (List.replicate N true) _ HV2b.out HV3.out (by rw [List.length_replicate]) (by have:=HN64.out;omega) HM3.out.reads (zvh HBA.out HM64.out HZB.out HZA.out HHS.out HCL.out HZC.out) (zAX HBA.out HM64.out HZB.out HZA.out HHS.out HKM.out)).mono ?_
   rintro e v4 ⟨rfl,hb⟩
   have HT4:=hid (HT3.out.below hb)
   have HB4:=hid (HB3.out.trans (hb.mono HT3.out.hle))
   have HK4:=hid (HK3.out.below hb)
   clear hb
   cases hen:zhy (zaC N A cs c) (zk8 N A cs k) (List.replicate N true) with
   | none =>
    have HF:=hid (show pivs nx budget.toNat cols = ⟨cs,some k,i,false⟩ by rw [HPV.out,zxw (k:=k) (by rw [HNX.out];unfold zbE;rw [HLV.out];simp only [hen])];simp only [upN,Nat.zero_add])
    have hp:zbh none = -1:=rfl
    rw [hp]
    clear hen
    go_wp2
    go_ret3
    exact ⟨_,by rw [HF.out];rfl,by rw [HF.out];exact .inl ⟨rfl,rfl⟩,by rw [HF.out];exact HT4.out,HB4.out,HK4.out⟩
   | some j =>
    have hp:zbh (some j) = (j:Int):=rfl
    rw [hp]
    have hnext:nx cs = .piv k j:=by rw [HNX.out];unfold zbE;rw [HLV.out];simp only [hen]
    have hpv:=zwH HBA.out HCL.out (b:=b) (by rw [← HNX.out];exact hnext)
    have HPI:=hid hpv
    have HNE:=hid hnext
    have HOUT:=hid (DPiv.out HBA.out hpv)
    have hi0:(0:Int) ≤ (i:Int):=Int.natCast_nonneg _
    clear hen hnext hpv
    go_upto_region 10 with fail
    go_cut [47] (fun c wx => c = .bool false ∧ wx = v4)
    case first =>
     go_wp2
     go_meet
     exact ⟨by simp,rfl⟩
    obtain ⟨rfl,rfl⟩:=hcut
    clear hp
    rename World => v4
    go_upto_region 12 with fail
    go_cut [52] (fun c wx => c = .bool (decide (budget ≤ (i:Int))) ∧ wx = v4)
    case first =>
     go_wp2
     go_meet
     exact ⟨by simp,rfl⟩
    obtain ⟨rfl,rfl⟩:=hcut
    rename World => v4
    have hi:=HI.out
    have hb1:=HB1.out
    by_cases hbud:i < budget.toNat
    ·have hbi:¬ (i:Int) ≥ budget:=by omega
     have hbi2:¬ budget ≤ (i:Int):=by omega
     have hbi3:decide (budget ≤ (i:Int)) = false:=decide_eq_false hbi2
     rw [hbi3]
     have hil:(i:Int) < 9223372036854775807:=by omega
     go_wp2_with fail
     refine (Tb.swap HT4.out k j HPI.out.hk HPI.out.hj (by have:=HPI.out.t;grind) HOUT.out HCAP.out).mono ?_
     rintro e v5 ⟨rfl,hT5,hb5,hk5⟩
     have HT5:=hid hT5
     have HB5:=hid (HB4.out.trans hb5)
     have HK5:=hid (HK4.out.trans hk5)
     clear hT5 hb5 hk5
     go_wp2
     go_roundw
     case rel => exact ⟨i + 1,cs.set k j,by go_num,by omega,by rw [HPV.out,show budget.toNat - i = (budget.toNat - (i + 1)) + 1 by omega,zxx HNE.out,zDR],HT5.out,HB5.out,HK5.out⟩
     case measure => simp [intOf];omega
    ·have hbi:(i:Int) ≥ budget:=by omega
     have hbi2:budget ≤ (i:Int):=hbi
     have hbi3:decide (budget ≤ (i:Int)) = true:=decide_eq_true hbi2
     rw [hbi3]
     have HF:=hid (show pivs nx budget.toNat cols = ⟨cs,none,i,true⟩ by rw [HPV.out,show budget.toNat - i = 0 by omega,zsr HNE.out];simp only [upN,Nat.zero_add])
     go_wp2_with fail
     refine (Err.wrap 180 zve (i:Int) _).mono ?_
     rintro e v5 ⟨rfl,rfl⟩
     go_wp2
     go_ret3
     exact ⟨_,by rw [HF.out];rfl,by rw [HF.out];exact .inr ⟨rfl,_,rfl,zal _ _ _⟩,by rw [HF.out];exact HT4.out.alloc _,HB4.out.trans (zae v4 _ |>.mono HT4.out.hle),HK4.out.below (zae v4 _)⟩
end Du
end
end Go.Proofs.YtdbgbaiekpbaoaaGreatDoor
