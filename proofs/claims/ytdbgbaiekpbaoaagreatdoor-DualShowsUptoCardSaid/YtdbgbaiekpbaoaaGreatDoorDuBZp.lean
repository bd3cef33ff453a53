/- dual.Leave by its contract. Conditions: as it says. tab.Point,Feasible by their contracts. Conditions: as each says. Conditions: as they say. -/
import Derived.Test.YtdbgbaiekpbaoaaGreatDoorBasTZp
set_option linter.all false
namespace Go.Proofs.YtdbgbaiekpbaoaaGreatDoor
open Go.RowKit Am
open Lib (hid)
attribute [local go_sem ↓] Go.wp_at_zero Go.wp_at_succ
set_option maxHeartbeats 4000000
set_option maxRecDepth 100000
theorem zoJ {cols:List Nat} {xs:List Rat} {k:Nat} (h:zbk cols xs k = none) (hx:el xs k < 0):zbk cols xs (k + 1) = some k:=by simp only [zbk,h,if_pos hx]
theorem zqk {cols:List Nat} {xs:List Rat} {k:Nat} (hx:¬ el xs k < 0):zbk cols xs (k + 1) = zbk cols xs k:=by
 simp only [zbk]
 cases zbk cols xs k with
 | none => simp only [if_neg hx]
 | some b => simp only;rw [if_neg (fun h => hx h.1)]
theorem zsh {cols:List Nat} {xs:List Rat} {k b:Nat} (h:zbk cols xs k = some b) (hx:el xs k < 0) (hc:cols.getD k 0 < cols.getD b 0):zbk cols xs (k + 1) = some k:=by simp only [zbk,h];rw [if_pos ⟨hx,hc⟩]
theorem zsg {cols:List Nat} {xs:List Rat} {k b:Nat} (h:zbk cols xs k = some b) (hc:¬ cols.getD k 0 < cols.getD b 0):zbk cols xs (k + 1) = some b:=by simp only [zbk,h];rw [if_neg (fun h => hc h.2)]
theorem znI {cols:List Nat} {xs:List Rat} {k b:Nat} (h:zbk cols xs k = some b):b < k:=by
 have s:=zdk cols xs k
 rw [h] at s;exact s.1
section
variable {W0 w:World} {H q:Nat} {rA:Option Addr} {rc:Nat} {lA:List Value} {bA:Option Addr} {bc_:Nat} {kA:Option Addr} {kc:Nat} {eA:Option Addr} {ec m N S own:Nat} {A:List (List Rat)} {b c:List Rat} {left:List Int}
  {tA:Option Addr} {tc:Nat} {cols:List Nat}
namespace Du
theorem leave (h:zhi W0 w H q rA rc lA bA bc_ kA kc eA ec m N S own A b c left tA tc cols) :
  Calls Tryz.prog 26 #[.pointer (some ⟨q,0,none⟩)] w fun e w' => e = .returned (.int .i64 (zbh (zi5 cols (za5 A b cols)))) ∧ Below w.heap.size w w':=by
 have HP:=hid h
 obtain ⟨qb,xA,xc,hP⟩:=h
 have HL:=hid hP.basis.len
 have HVL:=hid (hP.basis.vals_ok b).2
 have hm64:=hP.std.hm
 clear hP
 go_enter Tryz.func26,Tryz.ntmps26
 go_wp2_with fail
 refine (Tb.basis HP.out).mono ?_
 rintro e w1 ⟨A1,c1,rfl,hv1,hb⟩
 have HB1:=hid hb
 have HI1:=hid hv1
 clear hv1 hb
 go_wp2_with fail
 refine (Tb.values (HP.out.below HB1.out)).mono ?_
 rintro e w2 ⟨A2,c2,rfl,hv2,hb⟩
 have HI:=hid (HI1.out.below hb)
 have HX:=hid hv2
 have HB2:=hid (HB1.out.trans (hb.mono HB1.out.size))
 clear hv2 hb
 go_wp2
 go_loopw [3,12] (fun bv i wr => ∃ k:Nat,i = .int .i64 k ∧ bv = .int .i64 (zbh (zbk cols (za5 A b cols) k)) ∧ k ≤ m ∧ Below w2.heap.size w2 wr)
  (fun _ i _ => m - (intOf i).toNat)
 case atStart => exact ⟨0,rfl,rfl,Nat.zero_le _,Below.refl _ _⟩
 case round =>
  obtain ⟨k,rfl,rfl,hk,hB⟩:=hrel
  have HB:=hid hB
  by_cases hlt:k < m
  ·have HXr:=hid (HX.out.below hB)
   have HIr:=hid (HI.out.below hB)
   obtain ⟨bx,rfl,_,_⟩:=HXr.out.has (by omega)
   obtain ⟨bi,rfl,_,_⟩:=HIr.out.has (by omega)
   have hq:=zaH (xs:=za5 A b cols) (j:=k) (by rw [HVL.out];exact hlt)
   obtain ⟨g,Ax,mx,cx,Dx,mdx,cdx,k0,k1,k2,hR⟩:=HXr.out.at_ hq
   have HR:=hid hR
   have hck:cols[k]? = some (cols.getD k 0):=zaO (by rw [HL.out];exact hlt)
   have HCK:=hid hck
   have hi1:(0:Int) ≤ (k:Int):=Int.natCast_nonneg _
   have hi2:(k:Int) < (m:Int):=by omega
   clear hB hR hq hck
   have HBE0:=hid (Bel.mk HB.out)
   go_wp2_with fail
   have HW:=hid (show Bel w2 (wr.alloc (.cells #[.bool g, .slice Ax mx cx, .slice Dx mdx cdx] 35)) from HBE0.out.alloc _)
   have HRA:=hid (show RatS (wr.alloc (.cells #[.bool g, .slice Ax mx cx, .slice Dx mdx cdx] 35)) g (.slice Ax mx cx) (.slice Dx mdx cdx) (el (za5 A b cols) k) from HR.out.alloc _)
   have HIA:=hid (show IntsS (wr.alloc (.cells #[.bool g, .slice Ax mx cx, .slice Dx mdx cdx] 35)) w.heap.size (.slice (some ⟨bi,0,none⟩) m c1) cols from HIr.out.alloc _)
   have KBX:=hid (zal wr #[.bool g, .slice Ax mx cx, .slice Dx mdx cdx] 35)
   obtain ⟨x0,_,x1,_,x2,_⟩:=bc3 KBX.out
   have i0:=HIA.out.at_ HCK.out
   have i0d:=zaa i0
   by_cases hq0:el (za5 A b cols) k < 0
   ·have hs:=zrN hq0
    have hs1:=zeh.2 hq0
    cases hbe:zbk cols (za5 A b cols) k with
    | none =>
     have HF:=hid (zoJ hbe hq0)
     have hp:zbh none = -1:=rfl
     rw [hp]
     clear hbe hq0
     refine wp_region_noPanic ?_
     refine wp_region_held_drew (S:=fun w' => w'.cell? ⟨wr.heap.size,0,none⟩ = some (.bool g) ∧ w'.cell? ⟨wr.heap.size,1,none⟩ = some (.slice Ax mx cx) ∧ w'.cell? ⟨wr.heap.size,2,none⟩ = some (.slice Dx mdx cdx)) (by kernel_rfl) kp fun hHeld => ?_
     refine zaw [0] ?_
     repeat refine tkH (hS:=hHeld) (h:=?_)
     refine zao ?_
     refine wpAnyH_ready (rs:=[1]) (by kernel_rfl) (by simp) ?_
     refine AllReadyH.cons rfl (fun K hK => ?_) AllReadyH.nil
     go_simp
     (go_at_call 12;(with_reducible refine (Rt.sign g Ax mx cx Dx mdx cdx (el (za5 A b cols) k) _ HRA.out.drew).mono ?_);rintro e v1 ⟨rfl,hb⟩;have zjK:=hid (zad hb KBX.out);have zpl:=hid (HW.out.drew.below hb);obtain ⟨zpD,_,zpE,_,zpF,_⟩:=bc3 zjK.out;clear hb)
     (try go_wp2_with fail)
     refine hK.out _ _ kp fun hHeld => ?_
     clear hK K
     try simp only [Act.put,pu1,pu2,pu3,pu4,pu5,pu6]
     refine zaw [2,3,4,5,6] ?_
     repeat refine tkH (hS:=hHeld) (h:=?_)
     refine zao ?_
     refine zaw [7,8,9,10,11,12,13,14,15] ?_
     repeat refine skH (hS:=hHeld) (h:=?_)
     refine zao ?_
     refine zaw [16,17] ?_
     repeat refine tkH (hS:=hHeld) (h:=?_)
     refine zao ?_
     refine wpAnyH_done (by kernel_rfl) ?_ _
     refine NoPanic.normal ?_
     go_wp2
     go_roundw
     case rel => exact ⟨k + 1,by go_num,by rw [HF.out];rfl,by omega,zpl.out.b⟩
     case measure => simp [intOf];omega
    | some b0 =>
     have hp:zbh (some b0) = (b0:Int):=rfl
     rw [hp]
     have hb0:=znI hbe
     have hcb:cols[b0]? = some (cols.getD b0 0):=zaO (by rw [HL.out];omega)
     have hi3:(0:Int) ≤ (b0:Int):=Int.natCast_nonneg _
     have hi4:(b0:Int) < (m:Int):=by omega
     have i1:=HIA.out.at_ hcb
     have i1d:=zaa i1
     have HBE:=hid hbe
     have HQ0:=hid hq0
     clear hbe hq0 hcb
     by_cases hc:cols.getD k 0 < cols.getD b0 0
     ·have HF:=hid (zsh HBE.out HQ0.out hc)
      have hd:((cols.getD k 0:Nat):Int) < ((cols.getD b0 0:Nat):Int):=by omega
      clear hc
      generalize cols.getD k 0 = x0_ at hd i0 i0d
      generalize cols.getD b0 0 = x1_ at hd i1 i1d
      refine wp_region_noPanic ?_
      refine wp_region_held_drew (S:=fun w' => w'.cell? ⟨wr.heap.size,0,none⟩ = some (.bool g) ∧ w'.cell? ⟨wr.heap.size,1,none⟩ = some (.slice Ax mx cx) ∧ w'.cell? ⟨wr.heap.size,2,none⟩ = some (.slice Dx mdx cdx) ∧ w'.cell? ⟨bi,k,none⟩ = some (.int .i64 (x0_:Int)) ∧ w'.cell? ⟨bi,b0,none⟩ = some (.int .i64 (x1_:Int))) (by kernel_rfl) kp fun hHeld => ?_
      refine zaw [0] ?_
      repeat refine tkH (hS:=hHeld) (h:=?_)
      refine zao ?_
      refine wpAnyH_ready (rs:=[1]) (by kernel_rfl) (by simp) ?_
      refine AllReadyH.cons rfl (fun K hK => ?_) AllReadyH.nil
      go_simp
      (go_at_call 12;(with_reducible refine (Rt.sign g Ax mx cx Dx mdx cdx (el (za5 A b cols) k) _ HRA.out.drew).mono ?_);rintro e v1 ⟨rfl,hb⟩;have zjK:=hid (zad hb KBX.out);have zpl:=hid (HW.out.drew.below hb);obtain ⟨zpD,_,zpE,_,zpF,_⟩:=bc3 zjK.out;have znX:=zab hb i0d;have znZ:=zab hb i1d;clear hb)
      (try go_wp2_with fail)
      refine hK.out _ _ kp fun hHeld => ?_
      clear hK K
      try simp only [Act.put,pu1,pu2,pu3,pu4,pu5,pu6]
      refine zaw [2,3,4,5,6,7,8,9,10,11,12,13,14,15,16,17] ?_
      repeat refine tkH (hS:=hHeld) (h:=?_)
      refine zao ?_
      refine wpAnyH_done (by kernel_rfl) ?_ _
      refine NoPanic.normal ?_
      go_wp2
      go_roundw
      case rel => exact ⟨k + 1,by go_num,by rw [HF.out];rfl,by omega,zpl.out.b⟩
      case measure => simp [intOf];omega
     ·have HF:=hid (zsg HBE.out hc)
      have hd:¬ ((cols.getD k 0:Nat):Int) < ((cols.getD b0 0:Nat):Int):=by omega
      clear hc
      generalize cols.getD k 0 = x0_ at hd i0 i0d
      generalize cols.getD b0 0 = x1_ at hd i1 i1d
      refine wp_region_noPanic ?_
      refine wp_region_held_drew (S:=fun w' => w'.cell? ⟨wr.heap.size,0,none⟩ = some (.bool g) ∧ w'.cell? ⟨wr.heap.size,1,none⟩ = some (.slice Ax mx cx) ∧ w'.cell? ⟨wr.heap.size,2,none⟩ = some (.slice Dx mdx cdx) ∧ w'.cell? ⟨bi,k,none⟩ = some (.int .i64 (x0_:Int)) ∧ w'.cell? ⟨bi,b0,none⟩ = some (.int .i64 (x1_:Int))) (by kernel_rfl) kp fun hHeld => ?_
      refine zaw [0] ?_
      repeat refine tkH (hS:=hHeld) (h:=?_)
      refine zao ?_
      refine wpAnyH_ready (rs:=[1]) (by kernel_rfl) (by simp) ?_
      refine AllReadyH.cons rfl (fun K hK => ?_) AllReadyH.nil
      go_simp
      (go_at_call 12;(with_reducible refine (Rt.sign g Ax mx cx Dx mdx cdx (el (za5 A b cols) k) _ HRA.out.drew).mono ?_);rintro e v1 ⟨rfl,hb⟩;have zjK:=hid (zad hb KBX.out);have zpl:=hid (HW.out.drew.below hb);obtain ⟨zpD,_,zpE,_,zpF,_⟩:=bc3 zjK.out;have znX:=zab hb i0d;have znZ:=zab hb i1d;clear hb)
      (try go_wp2_with fail)
      refine hK.out _ _ kp fun hHeld => ?_
      clear hK K
      try simp only [Act.put,pu1,pu2,pu3,pu4,pu5,pu6]
      refine zaw [2,3,4,5,6,7,8,9,10,11,12,13,14,15,16,17] ?_
      repeat refine tkH (hS:=hHeld) (h:=?_)
      refine zao ?_
      refine wpAnyH_done (by kernel_rfl) ?_ _
      refine NoPanic.normal ?_
      go_wp2
      go_roundw
      case rel => exact ⟨k + 1,by go_num,by rw [HF.out];rfl,by omega,zpl.out.b⟩
      case measure => simp [intOf];omega
   ·have hs:=zrO hq0
    have hs1:¬ (el (za5 A b cols) k).num < 0:=fun e => hq0 (zeh.1 e)
    have hs3:decide ((el (za5 A b cols) k).num < 0) = false:=decide_eq_false hs1
    have HF:=hid (zqk (cols:=cols) hq0)
    clear hq0
    refine wp_region_noPanic ?_
    refine wp_region_held_drew (S:=fun w' => w'.cell? ⟨wr.heap.size,0,none⟩ = some (.bool g) ∧ w'.cell? ⟨wr.heap.size,1,none⟩ = some (.slice Ax mx cx) ∧ w'.cell? ⟨wr.heap.size,2,none⟩ = some (.slice Dx mdx cdx)) (by kernel_rfl) kp fun hHeld => ?_
    refine zaw [0] ?_
    repeat refine tkH (hS:=hHeld) (h:=?_)
    refine zao ?_
    refine wpAnyH_ready (rs:=[1]) (by kernel_rfl) (by simp) ?_
    refine AllReadyH.cons rfl (fun K hK => ?_) AllReadyH.nil
    go_simp
    (go_at_call 12;(with_reducible refine (Rt.sign g Ax mx cx Dx mdx cdx (el (za5 A b cols) k) _ HRA.out.drew).mono ?_);rintro e v1 ⟨rfl,hb⟩;have zjK:=hid (zad hb KBX.out);have zpl:=hid (HW.out.drew.below hb);obtain ⟨zpD,_,zpE,_,zpF,_⟩:=bc3 zjK.out;clear hb)
    (try go_wp2_with fail)
    refine hK.out _ _ kp fun hHeld => ?_
    clear hK K
    try simp only [Act.put,pu1,pu2,pu3,pu4,pu5,pu6]
    refine zaw [2,3] ?_
    repeat refine tkH (hS:=hHeld) (h:=?_)
    refine zao ?_
    refine zaw [4,5,6,7,8,9,10,11,12,13,14,15,16] ?_
    repeat refine skH (hS:=hHeld) (h:=?_)
    refine zao ?_
    refine zaw [17] ?_
    repeat refine tkH (hS:=hHeld) (h:=?_)
    refine zao ?_
    refine wpAnyH_done (by kernel_rfl) ?_ _
    refine NoPanic.normal ?_
    go_wp2
    go_roundw
    case rel => exact ⟨k + 1,by go_num,by rw [HF.out],by omega,zpl.out.b⟩
    case measure => simp [intOf];omega
  ·obtain rfl:m = k:=by omega
   have HF:=hid (show zi5 cols (za5 A b cols) = zbk cols (za5 A b cols) m by unfold zi5;rw [HVL.out])
   clear hB
   go_wp2
   go_ret
   exact ⟨by rw [HF.out];rfl,HB2.out.trans (HB.out.mono HB2.out.size)⟩
end Du
end
def zsF (N:Nat) (cols:List Nat) (xs:List Rat):Nat → List Rat
  | 0 => List.replicate N 0
  | k + 1 => (zsF N cols xs k).set (cols.getD k 0) (el xs k)
theorem zh2 (N:Nat) (cols:List Nat) (xs:List Rat):∀ k,(zsF N cols xs k).length = N
 | 0 => by simp [zsF]
 | k + 1 => by rw [zsF,List.length_set];exact zh2 N cols xs k
theorem zvi {m N:Nat} {A:List (List Rat)} {cols:List Nat} (hB:Basis m N A cols) (xs:List Rat):∀ k,k ≤ m → ∀ j,j < N → el (zsF N cols xs k) j = pt k (fun k => cols.getD k 0) (el xs) j
 | 0,_,j,hj => by rw [zsF,zrm];rfl
 | k + 1,hk,j,hj => by
  have ih:=zvi hB xs k (by omega) j hj
  have hl:=hB.lt k (by omega)
  rw [zsF,ziZ (by rw [zh2];exact hl),ih]
  by_cases e:cols.getD k 0 = j
  ·rw [if_pos e]
   subst e
   exact (zA7 (m:=k + 1) (β:=fun k => cols.getD k 0) (fun a b ha hb => hB.inj a b (by omega) (by omega)) (el xs) (k:=k) (by omega)).symm
  ·rw [if_neg e]
   show _ = pt (k + 1) _ _ j
   unfold pt
   rw [zai,if_neg e];grind
theorem zxy {m N:Nat} {A:List (List Rat)} {cols:List Nat} (hB:Basis m N A cols) (xs:List Rat):zsF N cols xs m = zh1 N cols xs:=by
 apply List.ext_getElem?
 intro j
 by_cases hj:j < N
 ·rw [zaH (by rw [zh2];exact hj),zaH (by rw [zl8];exact hj),zvi hB xs m (Nat.le_refl _) j hj,zvg hj,hB.len]
 ·rw [List.getElem?_eq_none (by rw [zh2];omega),List.getElem?_eq_none (by rw [zl8];omega)]
section
variable {W0 w:World} {H q:Nat} {rA:Option Addr} {rc:Nat} {lA:List Value} {bA:Option Addr} {bc_:Nat} {kA:Option Addr} {kc:Nat} {eA:Option Addr} {ec m N S own:Nat} {A:List (List Rat)} {b c:List Rat} {left:List Int}
  {tA:Option Addr} {tc:Nat} {cols:List Nat}
namespace Tb
theorem point (h:zhi W0 w H q rA rc lA bA bc_ kA kc eA ec m N S own A b c left tA tc cols) :
  Calls Tryz.prog 65 #[.pointer (some ⟨q,0,none⟩)] w fun e w' => ∃ (A':Option Addr) (c':Nat),e = .returned (.slice A' N c') ∧ VecS w' w.heap.size (.slice A' N c') (zh1 N cols (za5 A b cols)) ∧ Below w.heap.size w w':=by
 obtain ⟨qb,xA,xc,hP⟩:=h
 have HP:=hid hP
 have hm64:=hP.std.hm
 have hN64:=hP.std.hN
 have BB:=hid (Below.refl w.heap.size w)
 obtain ⟨k0,_,k1,_,_,_,_,_,_,_,_,_,k6,k6d,_,_,k8,k8d⟩:=bc9 hP.blk
 clear hP
 go_enter Tryz.func65,Tryz.ntmps65
 go_wp2_with fail
 with_reducible refine (Mt.cols N m rc rA _).mono ?_
 rintro e w1 ⟨rfl,hb⟩
 have zjH:=hid (HP.out.below hb)
 have zaQ:=hid (BB.out.trans ((hb).mono BB.out.size))
 have zhe:=zab hb k6
 have x6_1d:=zaa zhe
 have zn2:=zab hb k8
 have x8_1d:=zaa zn2
 clear hb
 have HZ1:=hid (show w.heap.size ≤ w1.heap.size from zaQ.out.size)
 have HXL:=hid (HP.out.basis.vals_ok b).2
 go_wp2_with (at_make;go_must (refine zdv rfl _ _ rfl N _ rfl rfl rfl (by omega) w1.heap.size rfl ?_;intro w2 ho hb1;have HO:=hid ho;have HB1:=hid hb1;have m6:=zab hb1 zhe;have m8:=zab hb1 zn2;clear ho hb1))
 go_loopw [18] (fun i wr => ∃ k:Nat,i = .int .i64 k ∧ k ≤ m ∧ VecS wr w1.heap.size (.slice (some ⟨w1.heap.size,0,none⟩) N N) (zsF N cols (za5 A b cols) k) ∧ Below w1.heap.size w1 wr)
  (fun i _ => m - (intOf i).toNat)
 case atStart => exact ⟨0,rfl,Nat.zero_le _,HO.out,HB1.out⟩
 case round =>
  obtain ⟨k,rfl,hk,hv,hB⟩:=hrel
  by_cases hlt:k < m
  ·have hj:cols[k]? = some (cols.getD k 0):=zaO (by rw [HP.out.basis.len];exact hlt)
   have hjN:=HP.out.basis.lt k hlt
   have HST:=hid (show zsF N cols (za5 A b cols) (k + 1) = (zsF N cols (za5 A b cols) k).set (cols.getD k 0) (el (za5 A b cols) k) from rfl)
   have hmx:=zaH (xs:=zsF N cols (za5 A b cols) k) (j:=cols.getD k 0) (by rw [zh2];exact hjN)
   generalize cols.getD k 0 = j at hj hjN hmx HST
   have hq:=zaH (xs:=za5 A b cols) (j:=k) (by rw [HXL.out];exact hlt)
   have hPk:=(zjH.out.below hB).blk
   obtain ⟨_,_,_,_,_,_,_,_,_,_,_,_,t6,t6d,_,_,t8,t8d⟩:=bc9 hPk
   obtain ⟨bt,hbt,_,_⟩:=HP.out.colsI.has (by omega)
   subst hbt
   obtain ⟨bs,hbs,_,_⟩:=HP.out.x.has (by omega)
   subst hbs
   have p0:=(zjH.out.colsI.below hB).at_ hj
   obtain ⟨ga,Aa,ma,ca,Da,mda,cda,a0,a1,a2,hRa⟩:=(zjH.out.x.below hB).at_ hq
   obtain ⟨go,Ao,mo,co,Do,mdo,cdo,o0,o1,o2,_⟩:=hv.at_ hmx
   have of0:=hv.fro (j * 3)
   have of1:=hv.fro (j * 3 + 1)
   have of2:=hv.fro (j * 3 + 2)
   have HV:=hid hv
   have HBw:=hid (Bel.mk hB)
   have HRa:=hid hRa
   clear hv hB hRa hmx hq hPk hj
   have hi1:(0:Int) ≤ (k:Int):=Int.natCast_nonneg _
   have hi2:(k:Int) < (m:Int):=by omega
   have hi3:(0:Int) ≤ (j:Int):=Int.natCast_nonneg _
   have hi4:(j:Int) < (N:Int):=by omega
   go_wp2
   go_roundw
   case rel => exact ⟨k + 1,by go_num,by omega,by rw [HST.out];exact HV.out.store j HRa.out,(Bel.set3 HBw.out (Nat.le_refl _) _ _ _).b⟩
   case measure => simp [intOf];omega
  ·obtain rfl:m = k:=by omega
   have HV:=hid hv
   have HB:=hid hB
   have HPA:=hid (zxy HP.out.basis (za5 A b cols))
   clear hv hB
   go_wp2
   go_ret
   exact ⟨_,_,rfl,by have h:=HV.out.base HZ1.out;rw [HPA.out] at h;exact h,zaQ.out.trans (HB.out.mono HZ1.out)⟩
end Tb
end
end Go.Proofs.YtdbgbaiekpbaoaaGreatDoor
