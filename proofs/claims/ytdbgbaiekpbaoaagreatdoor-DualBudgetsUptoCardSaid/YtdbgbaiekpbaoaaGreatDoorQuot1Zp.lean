/- quot.ByWord by its contract. Conditions: as each says. -/
import Derived.Test.YtdbgbaiekpbaoaaGreatDoorProd4Zp
import Derived.Test.YtdbgbaiekpbaoaaGreatDoorWordZp
set_option linter.all false
namespace Go.Proofs.YtdbgbaiekpbaoaaGreatDoor
open Go.RowKit Am
open Lib (hid)
attribute [local go_sem ↓] Go.wp_at_zero Go.wp_at_succ
set_option maxHeartbeats 1000000
set_option maxRecDepth 100000
namespace Qt
def zsP (w:World) (q r:Nat) (b:Bool) (e:Ending) (w':World):Prop := ∃ (A:Option Addr) (m c:Nat),e = .returned (.tuple #[.agg #[.slice A m c], .int .u64 (r:Int), .bool b]) ∧ zas w' (.slice A m c) q ∧ Below w.heap.size w w'
theorem zCw (A:Option Addr) (m c a x:Nat) (w:World) (ha:zas w (.slice A m c) a) (hx0:0 < x) (hx:x < 18446744073709551616) (hla:wlen a ≤ LIM) :
  Calls Tryz.prog 183 #[.agg #[.slice A m c], .int .u64 (x:Int)] w (zsP w (a / x) (a % x) true):=by
 obtain ⟨xs,hxs,hcx,rfl,hlx,rfl⟩:=ha.words
 rw [← hlx] at hla
 have HX:=hid hxs
 have HLA:=hid hla
 have hxb:((x:Int) == 0) = false:=by rw [beq_eq_false_iff_ne];omega
 have hnb:xs.length ≤ 9223372036854775806:=by have:=zaP;omega
 have g1:=hid (show xs.length ≤ 16 * LIM by have:=zaP;omega)
 clear ha hxs hcx hlx hla
 go_enter Tryz.func183,Tryz.ntmps183
 go_wp2_with fail
 refine (Nt.len (.slice A xs.length c) xs _ ((HX.out.alloc _).alloc _)).mono ?_
 rintro e w' ⟨rfl,rfl⟩
 have c0:(((w.alloc (.cells #[.slice A xs.length c] 31)).alloc (.cells #[.slice none 0 0] 31)).alloc (.cells #[.slice A xs.length c] 31)).cell? ⟨w.heap.size,0,none⟩ = some (.slice A xs.length c):=cell_al (cell_al (zax rfl rfl))
 have k1:(((w.alloc (.cells #[.slice A xs.length c] 31)).alloc (.cells #[.slice none 0 0] 31)).alloc (.cells #[.slice A xs.length c] 31)).heap[w.heap.size + 1]? = some (.cells #[.slice none 0 0] 31 (0,0)):=zak (zam (by simp))
 have kb:Below w.heap.size w (((w.alloc (.cells #[.slice A xs.length c] 31)).alloc (.cells #[.slice none 0 0] 31)).alloc (.cells #[.slice A xs.length c] 31)):=al2 (al2 (zae w _) _) _
 have kz:(((w.alloc (.cells #[.slice A xs.length c] 31)).alloc (.cells #[.slice none 0 0] 31)).alloc (.cells #[.slice A xs.length c] 31)).heap.size = w.heap.size + 1 + 1 + 1:=by simp
 have hx1:=HX.out.below kb
 generalize ((w.alloc (.cells #[.slice A xs.length c] 31)).alloc (.cells #[.slice none 0 0] 31)).alloc (.cells #[.slice A xs.length c] 31) = W at *
 have HX1:=hid hx1
 have HK1:=hid k1
 have HKB:=hid kb
 have HKZ:=hid kz
 clear hx1 k1 kb kz
 go_wp2_with (at_make;go_must (refine zdz rfl _ _ rfl xs.length _ rfl rfl rfl g1.out W.heap.size rfl ?_))
 intro w1 ho
 have HO:=hid ho
 have c1:=ho.old (by have:=HKZ.out;omega) c0
 clear ho
 go_wp2_with (go_at_call 117;(with_reducible refine (Nt.len (.slice A xs.length c) xs _ (HO.out.keep HX1.out (Nat.le_refl _))).mono ?_);rintro e w' ⟨rfl,rfl⟩)
 have hO1:=HO.out.alloc (.cells #[.slice A xs.length c] 31)
 have HO1:=hid hO1
 clear hO1 c1
 go_loopw [8,9] (fun lv kv wr => ∃ (K:Int) (j L:Nat) (os:List Nat),kv = .int .i64 K ∧ lv = .int .u64 L ∧ K + 1 = j ∧ j ≤ xs.length ∧ DivWInv xs os x j L ∧ OutAt W wr W.heap.size xs.length os)
  (fun _ kv _ => (intOf kv + 1).toNat)
 case atStart => exact ⟨_,xs.length,0,List.replicate xs.length 0,rfl,rfl,by omega,Nat.le_refl _,DivWInv.start xs x xs.length xs.length hx0 (Nat.le_refl _) (Nat.le_refl _),HO1.out⟩
 case round =>
  obtain ⟨K,j,L,os,rfl,rfl,hK,hj,hI,hO⟩:=hrel
  have HI:=hid hI
  have hL:=hI.lft
  clear hI
  rcases j with _ | p
  ·obtain rfl:K = -1:=by omega
   have hv:=HI.out.eq
   rw [List.drop_zero,List.drop_zero] at hv
   have hq:nval os = nval xs / x:=by rw [hv,Nat.mul_add_div hx0,Nat.div_eq_of_lt hL,Nat.add_zero]
   have hr:L = nval xs % x:=by rw [hv,Nat.mul_add_mod,Nat.mod_eq_of_lt hL]
   have HQ:=hid hq
   have HR:=hid hr
   have hs:=hO.sw HI.out.wds
   have HS:=hid hs
   have HB:=hid hO.bel
   have HL2:=hid hO.len
   have hsz:=hO.lt
   clear hv hq hr hs hO
   go_wp2_with fail
   refine (Nt.of _ os _ HS.out.reads (by rw [HL2.out];exact HLA.out)).mono ?_
   rintro e w3 ⟨A2,m2,c2,rfl,hs2,hb2⟩
   have hk:=zad hb2 ((HB.out.block (w.heap.size + 1) (by have:=HKZ.out;omega)).trans HK1.out)
   have hc:w3.cell? ⟨w.heap.size + 1,0,none⟩ = some (.slice none 0 0):=zac hk 0
   have hf:=zag hk 0
   have HK3:=hid hk
   clear hk
   go_wp2
   refine bodyPost_ret (v := .tuple #[.agg #[.slice A2 m2 c2], .int .u64 (L:Int), .bool true]) (by simp [results,Tryz.results183,go_sem,hc]) rfl ?_
   rw [HQ.out] at hs2
   rw [HR.out]
   refine ⟨_,_,_,rfl,hs2.setCell (p:=⟨w.heap.size + 1,0,none⟩) HK3.out (by decide) _,Below.setCell ?_ (by simp) _⟩
   exact bstep (HKB.out.trans (HB.out.mono (by have:=HKZ.out;omega))) hb2 (by have:=HKZ.out;omega)
  ·obtain rfl:K = (p:Int):=by omega
   have hXr:=hid (hO.keep HX1.out (Nat.le_refl _))
   have hc0:=hO.old (by have:=HKZ.out;omega) c0
   have hcell:=hO.cell (k:=p) (by omega)
   have hfro:=hO.fro p
   have hw1:=zdM HX.out.2 p
   have hsz:=hO.lt
   have q1:=cell_al (ob := .cells #[.slice A xs.length c] 31) hcell
   have q2:=zd1 (ob := .cells #[.slice A xs.length c] 31) hsz hfro
   have HO2:=hid hO
   have hi1:(0:Int) ≤ (p:Int):=Int.natCast_nonneg _
   have hi2:(p:Int) < (xs.length:Int):=by omega
   clear hO
   go_wp2_with (first
    | (go_at_call 157;(with_reducible refine (Nt.word (.slice A xs.length c) xs _ hi1 _ hXr.out).mono ?_);rintro e w' ⟨rfl,rfl⟩)
    | (go_at_call 190;(refine (Word.div_ok L (wd xs p) x hL hw1 hx _).mono ?_);rintro e w' ⟨rfl,nd,rfl⟩))
   refine ⟨⟨_,p,_,_,rfl,rfl,by omega,by omega,HI.out.next (by rw [HO2.out.len];omega) HX.out.2,?_⟩,by simp [intOf]⟩
   first
    | exact ((HO2.out.alloc _).drewN _).store p _
    | exact ((HO2.out.alloc _).store p _).drewN _
end Qt
end Go.Proofs.YtdbgbaiekpbaoaaGreatDoor
