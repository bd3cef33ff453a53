/- integer.Abs,Below,Sign,Neg by their contracts. Conditions: as each says. integer.Cmp,Add,Mul by their contracts. Conditions: as each says. Conditions: as they say. -/
import Derived.Test.YtdbgbaiekpbaoaaGreatDoorInt1Zp
set_option linter.all false
namespace Go.Proofs.YtdbgbaiekpbaoaaGreatDoor
open Go.RowKit Am
open Lib (hid)
attribute [local go_sem ↓] Go.wp_at_zero Go.wp_at_succ
set_option maxHeartbeats 1000000
set_option maxRecDepth 100000
namespace It
theorem abs (g:Bool) (A:Option Addr) (m c:Nat) (w:World):Calls Tryz.prog 114 #[.agg #[.bool g, .slice A m c]] w fun e w' => e = .returned (.agg #[.slice A m c]) ∧ Below w.heap.size w w':=by
 go_enter Tryz.func114,Tryz.ntmps114
 go_wp2
 exact bodyPost_ret (v := .agg #[.slice A m c]) (by simp [results,Tryz.results114,go_sem]) rfl ⟨rfl,(zae w _).alloc (by simp) _⟩
theorem isBelow (g:Bool) (A:Option Addr) (m c:Nat) (w:World):Calls Tryz.prog 116 #[.agg #[.bool g, .slice A m c]] w fun e w' => e = .returned (.bool g) ∧ Below w.heap.size w w':=by
 go_enter Tryz.func116,Tryz.ntmps116
 go_wp2
 go_ret
 exact ⟨rfl,zae w _⟩
theorem signed (g:Bool) (z:Int) (h:g = decide (z < 0)):(if (!g) = true then -((z.natAbs:Nat):Int) else ((z.natAbs:Nat):Int)) = -z:=by
 by_cases hz:z < 0
 ·rw [h,decide_eq_true hz];simp;omega
 ·rw [h,decide_eq_false hz];simp;omega
theorem neg (g:Bool) (A:Option Addr) (m c:Nat) (z:Int) (w:World) (h:IntS w g (.slice A m c) z):Calls Tryz.prog 60 #[.agg #[.bool g, .slice A m c]] w (zfg w (-z)):=by
 have HG:=hid (signed g z h.neg)
 have HN:=hid (new (!g) A m c z.natAbs _ ((h.abs.alloc (.cells #[.bool g, .slice A m c] 33)).alloc (.cells #[.bool false, .slice none 0 0] 33)))
 clear h
 go_enter Tryz.func60,Tryz.ntmps60
 go_wp2_with fail
 refine HN.out.mono ?_
 rintro e w2 ⟨g2,A2,m2,c2,rfl,hi,hb⟩
 have kr:=hid (zad hb (show ((w.alloc (.cells #[.bool g, .slice A m c] 33)).alloc (.cells #[.bool false, .slice none 0 0] 33)).heap[w.heap.size + 1]? = some (.cells #[.bool false, .slice none 0 0] 33 (0,0)) from zam (by simp)))
 have r0:w2.cell? ⟨w.heap.size + 1,0,none⟩ = some (.bool false):=zac kr.out 0
 have r1:w2.cell? ⟨w.heap.size + 1,1,none⟩ = some (.slice none 0 0):=zac kr.out 1
 have rf0:=zag kr.out 0
 have rf1:=zag kr.out 1
 have HI:=hid hi
 have HB:=hid hb
 clear hi hb
 go_wp2
 refine bodyPost_ret (v := .agg #[.bool g2, .slice A2 m2 c2]) (by simp [results,Tryz.results60,go_sem,r0,r1]) rfl ?_
 have hi:=HI.out
 rw [HG.out] at hi
 have hb0:Below w.heap.size w w2:=((zae w _).alloc (by simp) _).trans (HB.out.mono (by simp;omega))
 exact ⟨g2,A2,m2,c2,rfl,⟨zlh hi.abs kr.out,hi.neg⟩,Below.setCell (Below.setCell hb0 (p:=⟨w.heap.size + 1,0,none⟩) (by show w.heap.size ≤ w.heap.size + 1;omega) _) (p:=⟨w.heap.size + 1,1,none⟩) (by show w.heap.size ≤ w.heap.size + 1;omega) _⟩
theorem sign (g:Bool) (A:Option Addr) (m c:Nat) (z:Int) (w:World) (h:IntS w g (.slice A m c) z):Calls Tryz.prog 52 #[.agg #[.bool g, .slice A m c]] w fun e w' => e = .returned (.int .i64 z.sign) ∧ Below w.heap.size w w':=by
 have HA:=hid (h.abs.alloc (.cells #[.bool g, .slice A m c] 33))
 have hg:=h.neg
 clear h
 rcases Int.lt_trichotomy z 0 with hz | hz | hz
 ·rw [decide_eq_true hz] at hg
  have HZ:=hid (Int.sign_eq_neg_one_of_neg hz)
  subst hg
  clear hz
  go_enter Tryz.func52,Tryz.ntmps52
  go_wp2
  go_ret
  exact ⟨by rw [HZ.out];rfl,zae w _⟩
 ·subst hz
  have hg':g = false:=hg
  subst hg'
  have hz0:isZ (Int.natAbs 0) = true:=rfl
  clear hg
  go_enter Tryz.func52,Tryz.ntmps52
  go_wp2_with (go_at_call 111;(with_reducible refine (Nt.zero (.slice A m c) (Int.natAbs 0) _ HA.out).mono ?_);rintro e w2 ⟨rfl,rfl⟩;rw [hz0])
  go_ret
  exact ⟨rfl,(zae w _).alloc (by simp) _⟩
 ·have hg':g = false:=by rw [hg,decide_eq_false (by omega)]
  have HZ:=hid (Int.sign_eq_one_of_pos hz)
  have hz0:isZ z.natAbs = false:=zk4 (by omega)
  subst hg'
  clear hg hz
  go_enter Tryz.func52,Tryz.ntmps52
  go_wp2_with (go_at_call 111;(with_reducible refine (Nt.zero (.slice A m c) z.natAbs _ HA.out).mono ?_);rintro e w2 ⟨rfl,rfl⟩;rw [hz0])
  go_ret
  exact ⟨by rw [HZ.out];rfl,(zae w _).alloc (by simp) _⟩
end It
namespace It
theorem cmp (g:Bool) (A:Option Addr) (m c:Nat) (x:Int) (g':Bool) (B:Option Addr) (m' c':Nat) (y:Int) (w:World) (h:IntS w g (.slice A m c) x) (h':IntS w g' (.slice B m' c') y) :
  Calls Tryz.prog 53 #[.agg #[.bool g, .slice A m c], .agg #[.bool g', .slice B m' c']] w fun e w' => e = .returned (.int .i64 (ze9 x y)) ∧ Below w.heap.size w w':=by
 have HA:=hid ((h.abs.alloc (.cells #[.bool g, .slice A m c] 33)).alloc (.cells #[.bool g', .slice B m' c'] 33))
 have HB:=hid ((h'.abs.alloc (.cells #[.bool g, .slice A m c] 33)).alloc (.cells #[.bool g', .slice B m' c'] 33))
 have HG:=hid h.neg
 have HG':=hid h'.neg
 have hbb:=hid ((zae w (.cells #[.bool g, .slice A m c] 33)).alloc (by simp) (.cells #[.bool g', .slice B m' c'] 33))
 clear h h'
 have hne:∀ {p:Prop} [Decidable p],true = decide p → p:=fun h => of_decide_eq_true h.symm
 have hno:∀ {p:Prop} [Decidable p],false = decide p → ¬ p:=fun h => of_decide_eq_false h.symm
 cases g <;> cases g'
 ·have h1:=hid (show ze9 ((x.natAbs:Nat):Int) ((y.natAbs:Nat):Int) = ze9 x y by
   have:=hno HG.out
   have:=hno HG'.out
   rw [show ((x.natAbs:Nat):Int) = x by omega,show ((y.natAbs:Nat):Int) = y by omega])
  clear hne hno
  go_enter Tryz.func53,Tryz.ntmps53
  go_wp2_with (go_at_call 112;(with_reducible refine (Nt.cmp A B m c m' c' x.natAbs y.natAbs _ HA.out HB.out).mono ?_);rintro e w2 ⟨rfl,hb⟩;rw [h1.out])
  go_ret
  exact ⟨rfl,hbb.out.trans (hb.mono hbb.out.size)⟩
 ·have h1:=hid (show ze9 x y = 1 from zea (by have:=hno HG.out;have:=hne HG'.out;omega))
  clear hne hno
  go_enter Tryz.func53,Tryz.ntmps53
  go_wp2
  go_ret
  exact ⟨by rw [h1.out];rfl,hbb.out⟩
 ·have h1:=hid (show ze9 x y = -1 from zeb (by have:=hne HG.out;have:=hno HG'.out;omega))
  clear hne hno
  go_enter Tryz.func53,Tryz.ntmps53
  go_wp2
  go_ret
  exact ⟨by rw [h1.out];rfl,hbb.out⟩
 ·have h1:=hid (show ze9 ((y.natAbs:Nat):Int) ((x.natAbs:Nat):Int) = ze9 x y by
   have:=hne HG.out
   have:=hne HG'.out
   unfold ze9
   rcases Int.lt_trichotomy x y with h | h | h
   ·rw [if_pos (by omega),if_pos h]
   ·rw [if_neg (by omega),if_neg (by omega),if_neg (by omega),if_neg (by omega)]
   ·rw [if_neg (by omega),if_pos (by omega),if_neg (by omega),if_pos h])
  clear hne hno
  go_enter Tryz.func53,Tryz.ntmps53
  go_wp2_with (go_at_call 112;(with_reducible refine (Nt.cmp B A m' c' m c y.natAbs x.natAbs _ HB.out HA.out).mono ?_);rintro e w2 ⟨rfl,hb⟩;rw [h1.out])
  go_ret
  exact ⟨rfl,hbb.out.trans (hb.mono hbb.out.size)⟩
end It
end Go.Proofs.YtdbgbaiekpbaoaaGreatDoor
