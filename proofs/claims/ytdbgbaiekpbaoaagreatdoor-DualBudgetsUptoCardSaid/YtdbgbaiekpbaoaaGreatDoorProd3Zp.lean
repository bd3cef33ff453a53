/- prod.Mul by its contract: Karatsuba from 8 words on. Conditions: as each says. -/
import Derived.Test.YtdbgbaiekpbaoaaGreatDoorProd2Zp
import Derived.Test.YtdbgbaiekpbaoaaGreatDoorNat4Zp
import Derived.Test.YtdbgbaiekpbaoaaGreatDoorNat5Zp
import Derived.Test.YtdbgbaiekpbaoaaGreatDoorNat3Zp
set_option linter.all false
namespace Go.Proofs.YtdbgbaiekpbaoaaGreatDoor
open Go.RowKit Am
open Lib (hid)
attribute [local go_sem ↓] Go.wp_at_zero Go.wp_at_succ
set_option maxHeartbeats 1000000
set_option maxRecDepth 100000
namespace Pr
theorem zu7 (A B:Option Addr) (m c m' c' a b:Nat) (w:World) (ha:zas w (.slice A m c) a) (hb:zas w (.slice B m' c') b) (hla:wlen a + wlen b ≤ LIM) (hs:wlen a < 8 ∨ wlen b < 8) :
  Calls Tryz.prog 58 #[.agg #[.slice A m c], .agg #[.slice B m' c']] w (zc0 w (a * b)):=by
 obtain ⟨xs,hx,hcx,hvx,hlx,rfl⟩:=ha.words
 obtain ⟨ys,hy,hcy,hvy,hly,rfl⟩:=hb.words
 have HA:=hid ha
 have HB:=hid hb
 have HL:=hid hla
 have HX:=hid hx
 have HY:=hid hy
 rw [← hlx, ← hly] at hs
 obtain ⟨mn,hmn⟩:∃ mn,mn = if ys.length < xs.length then ys.length else xs.length:=⟨_,rfl⟩
 have hm8:(mn:Int) < 8:=by split at hmn <;> omega
 have hmin:(if ys.length < xs.length then (ys.length:Int) else (xs.length:Int)) = (mn:Int):=by rw [hmn];split <;> rfl
 clear hmn hs
 clear ha hb hla hx hy hcx hcy hvx hvy hlx hly
 have c0:(((w.alloc (.cells #[.slice A xs.length c] 31)).alloc (.cells #[.slice B ys.length c'] 31)).alloc (.cells #[.slice none 0 0] 31)).cell? ⟨w.heap.size,0,none⟩ = some (.slice A xs.length c):=cell_al (cell_al (zax rfl rfl))
 have c1:(((w.alloc (.cells #[.slice A xs.length c] 31)).alloc (.cells #[.slice B ys.length c'] 31)).alloc (.cells #[.slice none 0 0] 31)).cell? ⟨w.heap.size + 1,0,none⟩ = some (.slice B ys.length c'):=cell_al (zax (by simp) rfl)
 have k2:(((w.alloc (.cells #[.slice A xs.length c] 31)).alloc (.cells #[.slice B ys.length c'] 31)).alloc (.cells #[.slice none 0 0] 31)).heap[w.heap.size + 1 + 1]? = some (.cells #[.slice none 0 0] 31 (0,0)):=zam (by simp)
 have kb:Below w.heap.size w (((w.alloc (.cells #[.slice A xs.length c] 31)).alloc (.cells #[.slice B ys.length c'] 31)).alloc (.cells #[.slice none 0 0] 31)):=((zae w _).alloc (by simp) _).alloc (by simp;omega) _
 have kz:(((w.alloc (.cells #[.slice A xs.length c] 31)).alloc (.cells #[.slice B ys.length c'] 31)).alloc (.cells #[.slice none 0 0] 31)).heap.size = w.heap.size + 1 + 1 + 1:=by simp
 have hA1:=HA.out.below kb
 have hB1:=HB.out.below kb
 have hX1:=HX.out.below kb
 have hY1:=HY.out.below kb
 go_enter Tryz.func58,Tryz.ntmps58
 go_wp2_with fail
 generalize (((w.alloc (.cells #[.slice A xs.length c] 31)).alloc (.cells #[.slice B ys.length c'] 31)).alloc (.cells #[.slice none 0 0] 31)) = W0 at *
 have HS:=hid (show ∀ w',Below W0.heap.size W0 w' → ((w'.cell? ⟨w.heap.size,0,none⟩ = some (.slice A xs.length c) ∧ w'.cell? ⟨w.heap.size + 1,0,none⟩ = some (.slice B ys.length c')) ∧ Below W0.heap.size W0 w') from fun w' h => ⟨⟨zab h c0,zab h c1⟩,h⟩)
 have HX1:=hid hX1
 have HY1:=hid hY1
 have HA1:=hid hA1
 have HB1:=hid hB1
 have HK2:=hid k2
 have HKB:=hid kb
 have HKZ:=hid kz
 clear hX1 hY1 hA1 hB1 k2 kb kz
 go_region_held3 (fun w' => (w'.cell? ⟨w.heap.size,0,none⟩ = some (.slice A xs.length c) ∧ w'.cell? ⟨w.heap.size + 1,0,none⟩ = some (.slice B ys.length c')) ∧ Below W0.heap.size W0 w')
  ((refine HS.out _ ?_;repeat (first | exact Below.refl _ _ | exact (by assumption:_ ∧ Below _ _ _).2 | with_reducible refine bdrew ?_ | with_reducible refine al2 ?_ _)))
  (first
   | (go_at_call 117;(with_reducible refine (Nt.len (.slice A xs.length c) xs _ (HX1.out.below (by assumption:_ ∧ Below _ _ _).2)).mono ?_);rintro e w' ⟨rfl,rfl⟩)
   | (go_at_call 117;(with_reducible refine (Nt.len (.slice B ys.length c') ys _ (HY1.out.below (by assumption:_ ∧ Below _ _ _).2)).mono ?_);rintro e w' ⟨rfl,rfl⟩))
 go_wp2_with fail
 have hh:=(by assumption:_ ∧ Below W0.heap.size W0 ((W0.alloc (.cells #[.slice A xs.length c] 31)).alloc (.cells #[.slice B ys.length c'] 31)).drew).2
 refine (school A B xs.length c ys.length c' a b _ (HA1.out.below hh) (HB1.out.below hh) HL.out).mono ?_
 rintro e w1 ⟨A1,m1,c1,rfl,hs1,hb1⟩
 have hk:=zad hb1 (zad hh HK2.out)
 have hc:w1.cell? ⟨w.heap.size + 1 + 1,0,none⟩ = some (.slice none 0 0):=zac hk 0
 have hf:=zag hk 0
 have HK3:=hid hk
 have hbb:=hid (bstep (HKB.out.trans (hh.mono (by have:=HKZ.out;omega))) hb1 (by have:=HKZ.out;have:=hh.size;omega))
 have HS1:=hid hs1
 clear hk hs1 hh
 go_wp2
 refine bodyPost_ret (v := .agg #[.slice A1 m1 c1]) (by simp [results,Tryz.results58,go_sem,hc]) rfl ?_
 exact ⟨_,_,_,rfl,HS1.out.setCell (p:=⟨w.heap.size + 1 + 1,0,none⟩) HK3.out (by decide) _,Below.setCell hbb.out (by simp;omega) _⟩
end Pr
end Go.Proofs.YtdbgbaiekpbaoaaGreatDoor
