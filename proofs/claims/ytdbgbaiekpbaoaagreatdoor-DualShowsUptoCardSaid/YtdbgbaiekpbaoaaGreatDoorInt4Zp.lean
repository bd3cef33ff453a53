/- integer.Mul by its contract. Conditions: as it says. -/
import Derived.Test.YtdbgbaiekpbaoaaGreatDoorInt2Zp
set_option linter.all false
namespace Go.Proofs.YtdbgbaiekpbaoaaGreatDoor
open Go.RowKit Am
attribute [local go_sem ↓] Go.wp_at_zero Go.wp_at_succ
set_option maxHeartbeats 1000000
set_option maxRecDepth 100000
namespace It
theorem zA2 (g g':Bool) (x y:Int) (h:g = decide (x < 0)) (h':g' = decide (y < 0)):(if (!(g == g')) = true then -((x.natAbs * y.natAbs:Nat):Int) else ((x.natAbs * y.natAbs:Nat):Int)) = x * y:=by
 have e:((x.natAbs * y.natAbs:Nat):Int) = (x * y).natAbs:=by rw [Int.natAbs_mul]
 rw [e]
 rcases Int.lt_trichotomy x 0 with hx | hx | hx <;> rcases Int.lt_trichotomy y 0 with hy | hy | hy
 all_goals first
  | (subst hx;simp;done)
  | (subst hy;simp;done)
  | skip
 ·have:=Int.mul_pos_of_neg_of_neg hx hy
  rw [h,h',decide_eq_true hx,decide_eq_true hy];simp;omega
 ·have:=Int.mul_neg_of_neg_of_pos hx hy
  rw [h,h',decide_eq_true hx,decide_eq_false (by omega)];simp;omega
 ·have:=Int.mul_neg_of_pos_of_neg hx hy
  rw [h,h',decide_eq_false (by omega),decide_eq_true hy];simp;omega
 ·have:=Int.mul_pos hx hy
  rw [h,h',decide_eq_false (by omega),decide_eq_false (by omega)];simp;omega
theorem bdrew0' {w w1:World} (h:Below w.drew.heap.size w.drew w1):Below w.heap.size w w1:=⟨h.os,h.tape,h.output,h.size,h.block⟩
theorem mul (g:Bool) (A:Option Addr) (m c:Nat) (x:Int) (g':Bool) (B:Option Addr) (m' c':Nat) (y:Int) (w:World) (h:IntS w g (.slice A m c) x) (h':IntS w g' (.slice B m' c') y) (hla:4 * wlen x.natAbs ≤ LIM) (hlb:4 * wlen y.natAbs ≤ LIM) :
  Calls Tryz.prog 54 #[.agg #[.bool g, .slice A m c], .agg #[.bool g', .slice B m' c']] w (zfg w (x * y)):=by
 have HV:=Lib.hid (zA2 g g' x y h.neg h'.neg)
 have HLA:=Lib.hid hla
 have HLB:=Lib.hid hlb
 obtain ⟨W,hW⟩:∃ W,W = ((w.alloc (.cells #[.bool g, .slice A m c] 33)).alloc (.cells #[.bool g', .slice B m' c'] 33)).alloc (.cells #[.bool false, .slice none 0 0] 33):=⟨_,rfl⟩
 have HA:Hid (zas W.drew (.slice A m c) x.natAbs):=Lib.hid (by rw [hW];exact (((h.abs.alloc _).alloc _).alloc _).drew)
 have HB:Hid (zas W.drew (.slice B m' c') y.natAbs):=Lib.hid (by rw [hW];exact (((h'.abs.alloc _).alloc _).alloc _).drew)
 have ha:W.heap[w.heap.size]? = some (.cells #[.bool g, .slice A m c] 33 (0,0)):=by rw [hW];exact zak (zak (zam rfl))
 have hb:W.heap[w.heap.size + 1]? = some (.cells #[.bool g', .slice B m' c'] 33 (0,0)):=by rw [hW];exact zak (zam (by simp))
 have hr:W.heap[w.heap.size + 1 + 1]? = some (.cells #[.bool false, .slice none 0 0] 33 (0,0)):=by rw [hW];exact zam (by simp)
 have hB:Below w.heap.size w W:=by rw [hW];exact ((zae w _).alloc (by simp) _).alloc (by simp;omega) _
 have a0:W.drew.cell? ⟨w.heap.size,0,none⟩ = some (.bool g):=zac ha 0
 have a1:W.drew.cell? ⟨w.heap.size,1,none⟩ = some (.slice A m c):=zac ha 1
 have b0:W.drew.cell? ⟨w.heap.size + 1,0,none⟩ = some (.bool g'):=zac hb 0
 have b1:W.drew.cell? ⟨w.heap.size + 1,1,none⟩ = some (.slice B m' c'):=zac hb 1
 have HKR:=Lib.hid hr
 have HBB:=Lib.hid hB
 clear h h' hla hlb ha hb hr hB
 go_enter Tryz.func54,Tryz.ntmps54
 go_wp2_with fail
 rw [← hW]
 clear hW
 go_region_with (first
  | (go_at_call 58;(with_reducible refine (Pr.mul A B m c m' c' x.natAbs y.natAbs _ HA.out HB.out HLA.out HLB.out).mono ?_);rintro e w2 ⟨A2,m2,c2,rfl,hn,hb2⟩;have HN:=Lib.hid hn;have HB2:=Lib.hid hb2;have u0:w2.cell? ⟨w.heap.size,0,none⟩ = some (.bool g):=zab hb2 a0;have u1:w2.cell? ⟨w.heap.size + 1,0,none⟩ = some (.bool g'):=zab hb2 b0;clear hn hb2)
  | (go_at_call 57;(with_reducible refine (new (!(g == g')) A2 m2 c2 (x.natAbs * y.natAbs) _ HN.out).mono ?_);rintro e w3 ⟨g3,A3,m3,c3,rfl,hi,hb3⟩;have HI:=Lib.hid hi;have HB3:=Lib.hid hb3;have kr:=Lib.hid (zad hb3 (zad HB2.out (show W.drew.heap[w.heap.size + 1 + 1]? = some (.cells #[.bool false, .slice none 0 0] 33 (0,0)) from HKR.out)));have r0:w3.cell? ⟨w.heap.size + 1 + 1,0,none⟩ = some (.bool false):=zac kr.out 0;have r1:w3.cell? ⟨w.heap.size + 1 + 1,1,none⟩ = some (.slice none 0 0):=zac kr.out 1;have rf0:=zag kr.out 0;have rf1:=zag kr.out 1;clear hi hb3))
 all_goals
  go_wp2
  refine bodyPost_ret (v := .agg #[.bool g3, .slice A3 m3 c3]) (by simp [results,Tryz.results54,go_sem,r0,r1]) rfl ?_
  have hi:=HI.out
  rw [HV.out] at hi
  have hz:w.heap.size ≤ W.heap.size:=HBB.out.size
  have hb0:Below w.heap.size w w3:=(HBB.out.trans ((bdrew0' HB2.out).mono hz)).trans (HB3.out.mono (Nat.le_trans hz (bdrew0' HB2.out).size))
  exact ⟨g3,A3,m3,c3,rfl,⟨zlh hi.abs kr.out,hi.neg⟩,Below.setCell (Below.setCell hb0 (p:=⟨w.heap.size + 1 + 1,0,none⟩) (by show w.heap.size ≤ w.heap.size + 1 + 1;omega) _) (p:=⟨w.heap.size + 1 + 1,1,none⟩) (by show w.heap.size ≤ w.heap.size + 1 + 1;omega) _⟩
end It
end Go.Proofs.YtdbgbaiekpbaoaaGreatDoor
