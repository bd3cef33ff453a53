/- nat.Sub by its contract. Conditions: as each says. -/
import Derived.Test.YtdbgbaiekpbaoaaGreatDoorNat4Zp
namespace Go.Proofs.YtdbgbaiekpbaoaaGreatDoor
open Go.RowKit Am
open Lib (hid)
attribute [local go_sem ↓] Go.wp_at_zero Go.wp_at_succ
set_option maxHeartbeats 400000
set_option maxRecDepth 100000
namespace Nt
theorem sub_no (A B:Option Addr) (m c m' c' a b:Nat) (w:World) (ha:zas w (.slice A m c) a) (hb:zas w (.slice B m' c') b) (hlt:a < b) :
  Calls Tryz.prog 121 #[.agg #[.slice A m c], .agg #[.slice B m' c']] w (zjL w 0 false):=by
 have e:ze9 a b = -1:=zeb (by omega)
 have hA:=hid (((ha.alloc (.cells #[.slice A m c] 31)).alloc (.cells #[.slice B m' c'] 31)).alloc (.cells #[.slice none 0 0] 31))
 have hB:=hid (((hb.alloc (.cells #[.slice A m c] 31)).alloc (.cells #[.slice B m' c'] 31)).alloc (.cells #[.slice none 0 0] 31))
 have E:=hid e
 clear ha hb hlt e
 go_enter Tryz.func121,Tryz.ntmps121
 go_wp2_with fail
 refine (cmp A B m c m' c' a b _ hA.out hB.out).mono ?_
 rw [E.out]
 rintro e' w1 ⟨rfl,hb1⟩
 have hk:=zad hb1 (zam (W:=((w.alloc (.cells #[.slice A m c] 31)).alloc (.cells #[.slice B m' c'] 31))) (b:=w.heap.size + 1 + 1) (cs := #[.slice none 0 0]) (t:=31) (by simp))
 have hc:w1.cell? ⟨w.heap.size + 1 + 1,0,none⟩ = some (.slice none 0 0):=zac hk 0
 have hf:=zag hk 0
 clear hk
 go_wp2
 refine bodyPost_ret (v := .tuple #[.agg #[.slice none 0 0], .bool false]) (by simp [results,Tryz.results121,go_sem,hc]) rfl ?_
 refine ⟨_,_,_,rfl,zas.zero _,Below.setCell ?_ (by simp;omega) _⟩
 exact bstep (((zae w _).alloc (by simp) _).alloc (by simp;omega) _) hb1 (by simp;omega)

theorem sub_ok (A B:Option Addr) (m c m' c' a b:Nat) (w:World) (ha:zas w (.slice A m c) a) (hb:zas w (.slice B m' c') b) (hle:b ≤ a) (hla:wlen a ≤ LIM) :
  Calls Tryz.prog 121 #[.agg #[.slice A m c], .agg #[.slice B m' c']] w (zjL w (a - b) true):=by
 have hcn:ze9 a b = 0 ∨ ze9 a b = 1:=by
  rcases Nat.lt_or_ge b a with h | h
  ·exact .inr (zea (by omega))
  ·exact .inl (zgN (by omega))
 have hA:=hid (((ha.alloc (.cells #[.slice A m c] 31)).alloc (.cells #[.slice B m' c'] 31)).alloc (.cells #[.slice none 0 0] 31))
 have hB:=hid (((hb.alloc (.cells #[.slice A m c] 31)).alloc (.cells #[.slice B m' c'] 31)).alloc (.cells #[.slice none 0 0] 31))
 obtain ⟨xs,hx,hcx,rfl,hlx,rfl⟩:=ha.words
 obtain ⟨ys,hy,hcy,rfl,hly,rfl⟩:=hb.words
 have hlyx:ys.length ≤ xs.length:=by rw [hlx,hly];exact zco hle
 rw [← hlx] at hla
 clear hlx hly ha hb
 have HLE:=hid hle
 have HLYX:=hid hlyx
 have HX:=hid hx
 have HY:=hid hy
 have HLA:=hid hla
 have g1:=hid (show xs.length ≤ 16 * LIM by omega)
 clear hx hy hcx hcy hle hlyx hla
 generalize hcv:ze9 (nval xs) (nval ys) = cv at hcn
 have HCV:=hid hcv
 clear hcv
 go_enter Tryz.func121,Tryz.ntmps121
 go_wp2_with fail
 refine (cmp A B _ c _ c' _ _ _ hA.out hB.out).mono ?_
 rw [HCV.out]
 rintro e' w1 ⟨rfl,hb1⟩
 have hz1:=hb1.size
 simp at hz1
 have hk:=zad hb1 (zam (W:=((w.alloc (.cells #[.slice A xs.length c] 31)).alloc (.cells #[.slice B ys.length c'] 31))) (b:=w.heap.size + 1 + 1) (cs := #[.slice none 0 0]) (t:=31) (by simp))
 have k0:=zad hb1 (zak (ob := .cells #[.slice none 0 0] 31) (zak (ob := .cells #[.slice B ys.length c'] 31) (zam (W:=w) (b:=w.heap.size) (cs := #[.slice A xs.length c]) (t:=31) rfl)))
 have k1:=zad hb1 (zak (ob := .cells #[.slice none 0 0] 31) (zam (W:=w.alloc (.cells #[.slice A xs.length c] 31)) (b:=w.heap.size + 1) (cs := #[.slice B ys.length c']) (t:=31) (by simp)))
 have hbel:Below w.heap.size w w1:=bstep (((zae w _).alloc (by simp) _).alloc (by simp;omega) _) hb1 (by simp;omega)
 have c0:w1.cell? ⟨w.heap.size,0,none⟩ = some (.slice A xs.length c):=zac k0 0
 have c1:w1.cell? ⟨w.heap.size + 1,0,none⟩ = some (.slice B ys.length c'):=zac k1 0
 have HK:=hid hk
 have HB1:=hid hbel
 have HX1:=hid (HX.out.below hbel)
 have HY1:=hid (HY.out.below hbel)
 clear hk k0 k1 hbel hb1
 have hcv0:¬ cv < 0:=by omega
 clear hcn
 go_wp2_with (at_make;go_must (refine zdz rfl _ _ rfl xs.length _ rfl rfl rfl g1.out w1.heap.size rfl ?_))
 intro w2 ho
 have HO:=hid ho
 clear ho
 go_wp2
 go_loopw [7,20] (fun cy i wr => ∃ (j C:Nat) (os:List Nat),i = .int .i64 j ∧ cy = .int .u64 C ∧ j ≤ xs.length ∧ SubInv xs ys os j C ∧ OutAt w1 wr w1.heap.size xs.length os)
  (fun _ i _ => xs.length - (intOf i).toNat)
 case atStart => exact ⟨0,0,List.replicate xs.length 0,rfl,rfl,Nat.zero_le _,SubInv.start xs ys _,HO.out⟩
 case round =>
  obtain ⟨j,C,os,rfl,rfl,hj,hI,hO⟩:=hrel
  have HI:=hid hI
  have HO2:=hid hO
  have hC:=hI.one
  have hXr:=hid (hO.keep HX1.out (Nat.le_refl _))
  have hYr:=hid (hO.keep HY1.out (Nat.le_refl _))
  have hc0:=hO.old (by omega) c0
  have hc1:=hO.old (by omega) c1
  have hx1:=zdM HX.out.2 j
  have hy1:=zdM HY.out.2 j
  clear hI
  by_cases hlt:j < xs.length
  ·rcases hXr.out.form with ⟨h1,h2⟩ | ⟨g,cap,h1,hg,hcap,hm,hcx⟩
   ·exfalso;rw [h2] at hlt;simp at hlt
   injection h1 with hA' _ hc1'
   subst hA' hc1'
   have hxc:=hcx j hlt
   have hcell:=hO.cell hlt
   have hfro:=hO.fro j
   have hsz:=hO.lt
   have hnb:xs.length ≤ 9223372036854775807:=by have:=HLA.out;have:=zaP;omega
   have hi1:(0:Int) ≤ (j:Int):=Int.natCast_nonneg _
   have hi2:(j:Int) < (xs.length:Int):=by omega
   have q1:=cell_al (ob := .cells #[.slice B ys.length c'] 31) hcell
   have q2:=zd1 (ob := .cells #[.slice B ys.length c'] 31) hsz hfro
   have hgne:g ≠ w1.heap.size:=by
    have:=HX1.out.block (k:=g) rfl
    omega
   clear hO hcx hcell hfro
   go_wp2_with fail
   go_region_held3 (fun w' => w'.cell? ⟨w.heap.size,0,none⟩ = some (.slice (some ⟨g,0,none⟩) xs.length c) ∧ w'.cell? ⟨w.heap.size + 1,0,none⟩ = some (.slice B ys.length c') ∧
     w'.cell? ⟨g,j,none⟩ = some (.int .u64 ((wd xs j:Nat):Int)))
    (first | ((try go_split_ands);(try simp only [World.cell?_drew]);(repeat' apply And.intro) <;> (first | assumption | exact cell_al (by assumption) | exact cell_set (by first | omega | assumption) (by assumption) | exact cell_al (cell_set (by first | omega | assumption) (by assumption)))) | go_keep)
    (first
     | (go_at_call 157;(with_reducible refine (word (.slice B ys.length c') ys _ (by omega) _ ?_).mono ?_);(exact hYr.out.drew);rintro e w' ⟨rfl,rfl⟩)
     | (go_at_call 161;(with_reducible refine (Word.sub (wd xs j) (wd ys j) C (by assumption) (by assumption) (by assumption) _).mono ?_);rintro e w' ⟨rfl,rfl⟩))
   go_wp2
   go_roundw
   case rel => exact ⟨j + 1,_,_,by go_num,rfl,by omega,HI.out.next (by rw [HO2.out.len];exact hlt) HX.out.2 HY.out.2,((HO2.out.store j _).alloc _).drew⟩
   case measure => simp [intOf];omega
  ·obtain rfl:j = xs.length:=by omega
   have hv:=HI.out.done (Nat.le_refl _) HLYX.out HLE.out (by rw [HO2.out.len];exact Nat.le_refl _)
   have hs:=hO.sw HI.out.wds
   have hb0:=hO.bel
   have HV:=hid hv
   have HS:=hid hs
   have HB:=hid hb0
   have hsz:=hO.lt
   clear hv hs hb0 hO
   go_wp2_with fail
   refine (trim _ os _ HS.out).mono ?_
   rintro e w3 ⟨A2,m2,c2,rfl,hs2,hb2⟩
   have hk:=zad hb2 ((HB.out.block (w.heap.size + 1 + 1) (by omega)).trans HK.out)
   have hc:w3.cell? ⟨w.heap.size + 1 + 1,0,none⟩ = some (.slice none 0 0):=zac hk 0
   have hf:=zag hk 0
   have HK3:=hid hk
   have h1:=hb2.size
   clear hk
   go_wp2
   refine bodyPost_ret (v := .tuple #[.agg #[.slice A2 m2 c2], .bool true]) (by simp [results,Tryz.results121,go_sem,hc]) rfl ?_
   rw [HV.out] at hs2
   refine ⟨_,_,_,rfl,hs2.setCell (p:=⟨w.heap.size + 1 + 1,0,none⟩) HK3.out (by decide) _,Below.setCell ?_ (by simp;omega) _⟩
   exact bstep (HB1.out.trans (HB.out.mono (by omega))) hb2 (by omega)
end Nt
end Go.Proofs.YtdbgbaiekpbaoaaGreatDoor
