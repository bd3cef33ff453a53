/- prod.school by its contract: word by word. Conditions: as each says. -/
import Derived.Test.YtdbgbaiekpbaoaaGreatDoorOutZp
import Derived.Deep.RegionWith
import Derived.Deep.RegionLaw
namespace Go.Proofs.YtdbgbaiekpbaoaaGreatDoor
open Go.RowKit Am
open Lib (hid)
attribute [local go_sem ↓] Go.wp_at_zero Go.wp_at_succ
set_option maxHeartbeats 1000000
set_option maxRecDepth 100000
namespace Pr
theorem school (A B:Option Addr) (m c m' c' a b:Nat) (w:World) (ha:zas w (.slice A m c) a) (hb:zas w (.slice B m' c') b) (hla:wlen a + wlen b ≤ LIM) :
  Calls Tryz.prog 118 #[.agg #[.slice A m c], .agg #[.slice B m' c']] w (zc0 w (a * b)):=by
 obtain ⟨xs,hx,hcx,rfl,hlx,rfl⟩:=ha.words
 obtain ⟨ys,hy,hcy,rfl,hly,rfl⟩:=hb.words
 rw [← hlx, ← hly] at hla
 obtain ⟨n,hn⟩:∃ n,n = xs.length + ys.length:=⟨_,rfl⟩
 have HN:=hid hn
 have HX:=hid hx
 have HY:=hid hy
 have HLA:=hid (show n ≤ LIM by omega)
 have g1:=hid (show n ≤ 16 * LIM by have:=zaP;omega)
 have hnb:xs.length + ys.length ≤ 9223372036854775806:=by have:=zaP;omega
 have hL:(xs.length:Int) + (ys.length:Int) = (n:Int):=by omega
 have HLn:=hid hL
 clear hx hy hcx hcy hlx hly hla ha hb hn hL
 have c0:(((w.alloc (.cells #[.slice A xs.length c] 31)).alloc (.cells #[.slice B ys.length c'] 31)).alloc (.cells #[.slice none 0 0] 31)).cell? ⟨w.heap.size,0,none⟩ = some (.slice A xs.length c) :=
  cell_al (cell_al (zax rfl rfl))
 have c1:(((w.alloc (.cells #[.slice A xs.length c] 31)).alloc (.cells #[.slice B ys.length c'] 31)).alloc (.cells #[.slice none 0 0] 31)).cell? ⟨w.heap.size + 1,0,none⟩ = some (.slice B ys.length c') :=
  cell_al (zax (by simp) rfl)
 have HX0:=hid (((HX.out.alloc (.cells #[.slice A xs.length c] 31)).alloc (.cells #[.slice B ys.length c'] 31)).alloc (.cells #[.slice none 0 0] 31))
 have HY0:=hid (((HY.out.alloc (.cells #[.slice A xs.length c] 31)).alloc (.cells #[.slice B ys.length c'] 31)).alloc (.cells #[.slice none 0 0] 31))
 go_enter Tryz.func118,Tryz.ntmps118
 go_wp2_with fail
 have z1:IntKind.i64.wrap ((xs.length:Int) + (ys.length:Int)) = (n:Int):=by have h1:=HLn.out;have h2:=IntWalk.i64_in (n:Int) (by omega);rw [h1,h2]
 have zm:=zyv n g1.out
 go_region_held3 (fun w' => w'.cell? ⟨w.heap.size,0,none⟩ = some (.slice A xs.length c) ∧ w'.cell? ⟨w.heap.size + 1,0,none⟩ = some (.slice B ys.length c'))
  (first | ((try go_split_ands);(try simp only [World.cell?_drew]);(repeat' apply And.intro) <;> (first | assumption | exact cell_al (by assumption) | exact cell_al (cell_al (by assumption)))) | go_keep)
  (first
   | (go_at_call 117;(with_reducible refine (Nt.len (.slice A xs.length c) xs _ ?_).mono ?_);(exact HX0.out.drew);rintro e w' ⟨rfl,rfl⟩)
   | (go_at_call 117;(with_reducible refine (Nt.len (.slice B ys.length c') ys _ ?_).mono ?_);(exact (HY0.out.alloc _).drew);rintro e w' ⟨rfl,rfl⟩))
 clear z1 zm c0 c1
 have k0:(((((w.alloc (.cells #[.slice A xs.length c] 31)).alloc (.cells #[.slice B ys.length c'] 31)).alloc (.cells #[.slice none 0 0] 31)).alloc (.cells #[.slice A xs.length c] 31)).alloc (.cells #[.slice B ys.length c'] 31)).cell? ⟨w.heap.size,0,none⟩ = some (.slice A xs.length c):=cell_al (cell_al (cell_al (cell_al (zax rfl rfl))))
 have k1:(((((w.alloc (.cells #[.slice A xs.length c] 31)).alloc (.cells #[.slice B ys.length c'] 31)).alloc (.cells #[.slice none 0 0] 31)).alloc (.cells #[.slice A xs.length c] 31)).alloc (.cells #[.slice B ys.length c'] 31)).cell? ⟨w.heap.size + 1,0,none⟩ = some (.slice B ys.length c'):=cell_al (cell_al (cell_al (zax (by simp) rfl)))
 have k2:(((((w.alloc (.cells #[.slice A xs.length c] 31)).alloc (.cells #[.slice B ys.length c'] 31)).alloc (.cells #[.slice none 0 0] 31)).alloc (.cells #[.slice A xs.length c] 31)).alloc (.cells #[.slice B ys.length c'] 31)).heap[w.heap.size + 1 + 1]? = some (.cells #[.slice none 0 0] 31 (0,0)):=zak (zak (zam (by simp)))
 have kb:Below w.heap.size w (((((w.alloc (.cells #[.slice A xs.length c] 31)).alloc (.cells #[.slice B ys.length c'] 31)).alloc (.cells #[.slice none 0 0] 31)).alloc (.cells #[.slice A xs.length c] 31)).alloc (.cells #[.slice B ys.length c'] 31)):=((((zae w _).alloc (by simp) _).alloc (by simp;omega) _).alloc (by simp;omega) _).alloc (by simp;omega) _
 have kz:(((((w.alloc (.cells #[.slice A xs.length c] 31)).alloc (.cells #[.slice B ys.length c'] 31)).alloc (.cells #[.slice none 0 0] 31)).alloc (.cells #[.slice A xs.length c] 31)).alloc (.cells #[.slice B ys.length c'] 31)).heap.size = w.heap.size + 1 + 1 + 1 + 1 + 1:=by simp
 have HX1:=hid ((HX0.out.alloc (.cells #[.slice A xs.length c] 31)).alloc (.cells #[.slice B ys.length c'] 31))
 have HY1:=hid ((HY0.out.alloc (.cells #[.slice A xs.length c] 31)).alloc (.cells #[.slice B ys.length c'] 31))
 have ho:OutAt (((((w.alloc (.cells #[.slice A xs.length c] 31)).alloc (.cells #[.slice B ys.length c'] 31)).alloc (.cells #[.slice none 0 0] 31)).alloc (.cells #[.slice A xs.length c] 31)).alloc (.cells #[.slice B ys.length c'] 31)) ((((((w.alloc (.cells #[.slice A xs.length c] 31)).alloc (.cells #[.slice B ys.length c'] 31)).alloc (.cells #[.slice none 0 0] 31)).alloc (.cells #[.slice A xs.length c] 31)).alloc (.cells #[.slice B ys.length c'] 31)).alloc (.cells (zrow n) 193)).drew (w.heap.size + 1 + 1 + 1 + 1 + 1) n (List.replicate n 0):=by
  have:=(zn5 (((((w.alloc (.cells #[.slice A xs.length c] 31)).alloc (.cells #[.slice B ys.length c'] 31)).alloc (.cells #[.slice none 0 0] 31)).alloc (.cells #[.slice A xs.length c] 31)).alloc (.cells #[.slice B ys.length c'] 31)) n g1.out).drew
  rwa [kz] at this
 clear HX0 HY0
 generalize hw1:((((((w.alloc (.cells #[.slice A xs.length c] 31)).alloc (.cells #[.slice B ys.length c'] 31)).alloc (.cells #[.slice none 0 0] 31)).alloc (.cells #[.slice A xs.length c] 31)).alloc (.cells #[.slice B ys.length c'] 31)).alloc (.cells (zrow n) 193)).drew = w1 at *
 clear hw1
 generalize hW0:(((((w.alloc (.cells #[.slice A xs.length c] 31)).alloc (.cells #[.slice B ys.length c'] 31)).alloc (.cells #[.slice none 0 0] 31)).alloc (.cells #[.slice A xs.length c] 31)).alloc (.cells #[.slice B ys.length c'] 31)) = W at *
 clear hW0
 have HO:=hid ho
 have HK2:=hid k2
 have HKB:=hid kb
 have KZ:=hid kz
 clear ho k2 kb kz
 have c0:=HO.out.old (by omega) k0
 have c1:=HO.out.old (by omega) k1
 go_wp2_with (go_at_call 117;(with_reducible refine (Nt.len (.slice A xs.length c) xs _ ?_).mono ?_);(exact HO.out.keep HX1.out (by rw [KZ.out];exact Nat.le_refl _));rintro e w' ⟨rfl,rfl⟩)
 have hO1:=hid (HO.out.alloc (.cells #[.slice A xs.length c] 31))
 clear c0 c1 HO
 generalize w1.alloc (.cells #[.slice A xs.length c] 31) = w2 at *
 go_loopw [17] (fun i wr => ∃ (p:Nat) (os:List Nat),i = .int .i64 p ∧ p ≤ xs.length ∧ SchInv xs ys os p ∧ OutAt W wr (w.heap.size + 1 + 1 + 1 + 1 + 1) n os) (fun i _ => xs.length - (intOf i).toNat)
 case atStart => exact ⟨0,_,rfl,Nat.zero_le _,SchInv.start xs ys n,hO1.out⟩
 case round =>
  obtain ⟨p,os,rfl,hp,hI,hO⟩:=hrel
  have HI:=hid hI
  clear hI
  by_cases hlt:p < xs.length
  ·have hYr:=hid (hO.keep HY1.out (by rw [KZ.out];exact Nat.le_refl _))
   have c1:=hO.old (by omega) k1
   have HO2:=hid hO
   clear hO
   go_wp2_with (go_at_call 117;(with_reducible refine (Nt.len (.slice B ys.length c') ys _ ?_).mono ?_);(exact hYr.out);rintro e w' ⟨rfl,rfl⟩)
   have hO3:=hid (HO2.out.alloc (.cells #[.slice B ys.length c'] 31))
   clear c1 hYr HO2
   generalize wr.alloc (.cells #[.slice B ys.length c'] 31) = wo at *
   go_loopw [7,22] (fun ov k wr2 => ∃ (q V:Nat) (os':List Nat),k = .int .i64 q ∧ ov = .int .u64 V ∧ q ≤ ys.length ∧ MulInv (nval os) ys os' p (wd xs p) q V ∧ OutAt W wr2 (w.heap.size + 1 + 1 + 1 + 1 + 1) n os')
    (fun _ k _ => ys.length - (intOf k).toNat)
   case atStart => exact ⟨0,0,os,rfl,rfl,Nat.zero_le _,HI.out.enter _,hO3.out⟩
   case round =>
    obtain ⟨q,V,os',rfl,rfl,hq,hM,hO⟩:=hrel
    have HM:=hid hM
    have hV:=hM.ovr
    clear hM
    by_cases hqt:q < ys.length
    ·have hXr:=hid (hO.keep HX1.out (by rw [KZ.out];exact Nat.le_refl _))
     have hYr:=hid (hO.keep HY1.out (by rw [KZ.out];exact Nat.le_refl _))
     have c0:=hO.old (by omega) k0
     have c1:=hO.old (by omega) k1
     have hpq:p + q < n:=by have:=HN.out;omega
     have hcell:=hO.cell hpq
     have hfro:=hO.fro (p + q)
     have hsz:=hO.lt
     have hx1:=zdM HX.out.2 p
     have hy1:=zdM HY.out.2 q
     have ho1:=zdM HM.out.wds (p + q)
     have hp0:(0:Int) ≤ (p:Int):=Int.natCast_nonneg _
     have hq0:(0:Int) ≤ (q:Int):=Int.natCast_nonneg _
     have hpq0:(0:Int) ≤ (p:Int) + (q:Int):=by omega
     have hpq1:(p:Int) + (q:Int) < (n:Int):=by omega
     have hpqt:((p:Int) + (q:Int)).toNat = p + q:=by omega
     have q1:=cell_al (ob := .cells #[.slice B ys.length c'] 31) (cell_al (ob := .cells #[.slice A xs.length c] 31) hcell)
     have q1':=cell_al (ob := .cells #[.slice A xs.length c] 31) hcell
     have q2:=zd1 (ob := .cells #[.slice B ys.length c'] 31) (zxk (ob := .cells #[.slice A xs.length c] 31) hsz) (zd1 (ob := .cells #[.slice A xs.length c] 31) hsz hfro)
     have b1:=cell_al (ob := .cells #[.slice A xs.length c] 31) c1
     have HO2:=hid hO
     clear hO
     go_wp2_with fail
     have z1:IntKind.i64.wrap ((p:Int) + (q:Int)) = (p:Int) + (q:Int):=IntWalk.i64_in _ (by omega)
     go_region_with (first
      | (go_at_call 157;(with_reducible refine (Nt.word (.slice A xs.length c) xs _ (by assumption) _ ?_).mono ?_);(exact hXr.out.drew);rintro e w' ⟨rfl,rfl⟩)
      | (go_at_call 157;(with_reducible refine (Nt.word (.slice B ys.length c') ys _ (by assumption) _ ?_).mono ?_);(exact (hYr.out.alloc _).drew);rintro e w' ⟨rfl,rfl⟩)
      | (go_at_call 156;(with_reducible refine (Word.mulAdd (wd xs p) (wd ys q) (wd os' (p + q)) V (by assumption) (by assumption) (by assumption) (by assumption) _).mono ?_);rintro e w' ⟨rfl,rfl⟩))
     all_goals (clear z1;go_wp2;go_roundw)
     all_goals first
      | exact ⟨q + 1,_,_,by go_num,rfl,by omega,HM.out.next hx1 HY.out.2 hqt (by rw [HO2.out.len];have:=HN.out;omega),(((HO2.out.alloc _).alloc _).store (p + q) _).drew⟩
      | (simp [intOf];omega)
    ·have hqe:q = ys.length:=by omega
     subst hqe
     have hYr:=hid (hO.keep HY1.out (by rw [KZ.out];exact Nat.le_refl _))
     have c1:=hO.old (by omega) k1
     have hpq:p + ys.length < n:=by have:=HN.out;omega
     have hcell:=hO.cell hpq
     have hfro:=hO.fro (p + ys.length)
     have hsz:=hO.lt
     have hpq0:(0:Int) ≤ (p:Int) + (ys.length:Int):=by omega
     have hpq1:(p:Int) + (ys.length:Int) < (n:Int):=by omega
     have hpqt:((p:Int) + (ys.length:Int)).toNat = p + ys.length:=by omega
     have q1':=cell_al (ob := .cells #[.slice B ys.length c'] 31) hcell
     have q2':=zd1 (ob := .cells #[.slice B ys.length c'] 31) hsz hfro
     have HO2:=hid hO
     clear hO
     go_wp2_with (go_at_call 117;(with_reducible refine (Nt.len (.slice B ys.length c') ys _ ?_).mono ?_);(exact hYr.out);rintro e w' ⟨rfl,rfl⟩)
     exact ⟨⟨p + 1,_,by go_num,by omega,HI.out.next HM.out (by rw [HO2.out.len];exact hpq),(HO2.out.store (p + ys.length) V).alloc _⟩,by simp [intOf];omega⟩
  ·obtain rfl:p = xs.length:=by omega
   have hv:nval os = nval xs * nval ys:=HI.out.done (Nat.le_refl _)
   have hs:=hO.sw HI.out.wds
   have hb0:=hO.bel
   have HV:=hid hv
   have HS:=hid hs
   have HB:=hid hb0
   have hsz:=hO.lt
   have hkz:=KZ.out
   have HL2:=hid hO.len
   clear hv hs hb0 hO
   go_wp2_with fail
   refine (Nt.of _ os _ HS.out.reads (by rw [HL2.out];exact HLA.out)).mono ?_
   rintro e w3 ⟨A2,m2,c2,rfl,hs2,hb2⟩
   have hk:=zad hb2 ((HB.out.block (w.heap.size + 1 + 1) (by omega)).trans HK2.out)
   have hc:w3.cell? ⟨w.heap.size + 1 + 1,0,none⟩ = some (.slice none 0 0):=zac hk 0
   have hf:=zag hk 0
   have HK3:=hid hk
   have h1:=hb2.size
   clear hk
   go_wp2
   refine bodyPost_ret (v := .agg #[.slice A2 m2 c2]) (by simp [results,Tryz.results118,go_sem,hc]) rfl ?_
   rw [HV.out] at hs2
   refine ⟨_,_,_,rfl,hs2.setCell (p:=⟨w.heap.size + 1 + 1,0,none⟩) HK3.out (by decide) _,Below.setCell ?_ (by simp;omega) _⟩
   exact bstep (HKB.out.trans (HB.out.mono (by omega))) hb2 (by omega)
end Pr
end Go.Proofs.YtdbgbaiekpbaoaaGreatDoor
