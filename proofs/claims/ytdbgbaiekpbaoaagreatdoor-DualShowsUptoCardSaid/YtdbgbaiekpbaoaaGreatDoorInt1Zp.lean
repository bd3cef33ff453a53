/- integer.New,Abs,Below,Sign,Neg by their contracts. Conditions: as each says. -/
import Derived.Test.YtdbgbaiekpbaoaaGreatDoorGcd2Zp
set_option linter.all false
namespace Go.Proofs.YtdbgbaiekpbaoaaGreatDoor
open Go.RowKit Am
attribute [local go_sem ↓] Go.wp_at_zero Go.wp_at_succ
set_option maxHeartbeats 1000000
set_option maxRecDepth 100000
structure IntS (w:World) (g:Bool) (s:Value) (z:Int):Prop where
  abs:zas w s z.natAbs
  neg:g = decide (z < 0)
theorem IntS.below {w w':World} {g:Bool} {s:Value} {z:Int} (h:IntS w g s z) (hb:Below w.heap.size w w'):IntS w' g s z:=⟨h.abs.below hb,h.neg⟩
theorem IntS.alloc {w:World} {g:Bool} {s:Value} {z:Int} (h:IntS w g s z) (o:Obj):IntS (w.alloc o) g s z:=⟨h.abs.alloc o,h.neg⟩
def zfg (w:World) (z:Int) (e:Ending) (w':World):Prop := ∃ (g:Bool) (A:Option Addr) (m c:Nat),e = .returned (.agg #[.bool g, .slice A m c]) ∧ IntS w' g (.slice A m c) z ∧ Below w.heap.size w w'
namespace It
theorem zBc (g:Bool) (n:Nat):(g && !isZ n) = decide ((if g then -(n:Int) else (n:Int)) < 0):=by
 unfold isZ
 cases g
 ·simp
 ·by_cases h:n = 0
  ·simp [h]
  ·simp [h];omega
theorem zlh {w:World} {b:Nat} {u v:Value} {s:Value} {n:Nat} (h:zas w s n) (hb:w.heap[b]? = some (.cells #[.bool false, .slice none 0 0] 33 (0,0))):zas ((w.setCell ⟨b,0,none⟩ u).setCell ⟨b,1,none⟩ v) s n:=by
 have h1:=heap_setCell_same w b 0 _ 33 u hb
 exact (h.setCell (p:=⟨b,0,none⟩) hb (by decide) u).setCell (p:=⟨b,1,none⟩) h1 (by decide) v
theorem new (g:Bool) (A:Option Addr) (m c n:Nat) (w:World) (hn:zas w (.slice A m c) n) :
  Calls Tryz.prog 57 #[.bool g, .agg #[.slice A m c]] w (zfg w (if g then -(n:Int) else (n:Int))):=by
 have HS:=Lib.hid (zBc g n)
 obtain ⟨W,hW⟩:∃ W,W = (w.alloc (.cells #[.slice A m c] 31)).alloc (.cells #[.bool false, .slice none 0 0] 33):=⟨_,rfl⟩
 have HN:=Lib.hid (show zas W (.slice A m c) n by rw [hW];exact (hn.alloc _).alloc _)
 have HND:Hid (zas W.drew (.slice A m c) n):=Lib.hid HN.out.drew
 have HK0:=Lib.hid (show W.heap[w.heap.size]? = some (.cells #[.slice A m c] 31 (0,0)) by rw [hW];exact zak (zam rfl))
 have HR:=Lib.hid (show W.heap[w.heap.size + 1]? = some (.cells #[.bool false, .slice none 0 0] 33 (0,0)) by rw [hW];exact zam (by simp))
 have HB:=Lib.hid (show Below w.heap.size w W by rw [hW];exact (zae w _).alloc (by simp) _)
 have k0:W.drew.cell? ⟨w.heap.size,0,none⟩ = some (.slice A m c):=zac HK0.out 0
 have k1:(W.alloc (.cells #[.slice A m c] 31)).drew.cell? ⟨w.heap.size,0,none⟩ = some (.slice A m c):=cell_al (zac HK0.out 0)
 have HR2:Hid ((W.alloc (.cells #[.slice A m c] 31)).heap[w.heap.size + 1]? = some (.cells #[.bool false, .slice none 0 0] 33 (0,0))):=Lib.hid (zak HR.out)
 have r0:W.cell? ⟨w.heap.size + 1,0,none⟩ = some (.bool false):=zac HR.out 0
 have r1:W.cell? ⟨w.heap.size + 1,1,none⟩ = some (.slice none 0 0):=zac HR.out 1
 have rf0:=zag HR.out 0
 have rf1:=zag HR.out 1
 have q0:(W.alloc (.cells #[.slice A m c] 31)).cell? ⟨w.heap.size + 1,0,none⟩ = some (.bool false):=zac HR2.out 0
 have q1:(W.alloc (.cells #[.slice A m c] 31)).cell? ⟨w.heap.size + 1,1,none⟩ = some (.slice none 0 0):=zac HR2.out 1
 have qf0:=zag HR2.out 0
 have qf1:=zag HR2.out 1
 clear hn
 have HN2:Hid (zas (W.alloc (.cells #[.slice A m c] 31)) (.slice A m c) n):=Lib.hid (HN.out.alloc _)
 cases g
 case false =>
  go_enter Tryz.func57,Tryz.ntmps57
  go_wp2_with fail
  rw [← hW]
  clear hW
  go_region_with fail
  all_goals
   go_wp2
   refine bodyPost_ret (v := .agg #[.bool false, .slice A m c]) (by simp [results,Tryz.results57,go_sem,r0,r1]) rfl ?_
   exact ⟨false,A,m,c,rfl,⟨by simpa using (zlh HN.out HR.out).drew,by simp⟩,(Below.setCell (Below.setCell HB.out (p:=⟨w.heap.size + 1,0,none⟩) (by show w.heap.size ≤ w.heap.size + 1;omega) _) (p:=⟨w.heap.size + 1,1,none⟩) (by show w.heap.size ≤ w.heap.size + 1;omega) _).drew⟩
 case true =>
  go_enter Tryz.func57,Tryz.ntmps57
  go_wp2_with fail
  rw [← hW]
  clear hW
  go_region_with (go_at_call 111;(with_reducible refine (Nt.zero (.slice A m c) n _ HND.out).mono ?_);rintro e w2 ⟨rfl,rfl⟩)
  all_goals
   go_wp2
   refine bodyPost_ret (v := .agg #[.bool (!isZ n), .slice A m c]) (by simp [results,Tryz.results57,go_sem,q0,q1]) rfl ?_
   exact ⟨!isZ n,A,m,c,rfl,⟨by simpa using (zlh HN2.out HR2.out).drew,by have:=HS.out;simpa using this⟩,(Below.setCell (Below.setCell (HB.out.alloc HB.out.size _) (p:=⟨w.heap.size + 1,0,none⟩) (by show w.heap.size ≤ w.heap.size + 1;omega) _) (p:=⟨w.heap.size + 1,1,none⟩) (by show w.heap.size ≤ w.heap.size + 1;omega) _).drew⟩
end It
end Go.Proofs.YtdbgbaiekpbaoaaGreatDoor
