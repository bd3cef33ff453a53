/- integer.Abs,Below,Sign,Neg by their contracts. Conditions: as each says. integer.Cmp,Add,Mul by their contracts. Conditions: as each says. integer.Mul by its contract. Conditions: as it says. integer.Add by its contract. Conditions: as it says. Conditions: as they say. -/
import Derived.Test.YtdbgbaiekpbaoaaGreatDoorQuot10Zp
set_option linter.all false
namespace Go.Proofs.YtdbgbaiekpbaoaaGreatDoor
open Go.RowKit Am
open Lib (hid)
attribute [local go_sem ↓] Go.wp_at_zero Go.wp_at_succ
set_option maxHeartbeats 1000000
set_option maxRecDepth 100000
namespace It
theorem abs (g:Bool) (A:Option Addr) (m c:Nat) (w:World):Calls Tryz.prog 114 #[.agg #[.bool g, .slice A m c]] w fun e w' => e = .returned (.agg #[.slice A m c]) ∧ Below w.heap.size w w':=by
 go_enter Tryz.func114,Tryz.ntmps114
 go_wp2
 exact bodyPost_ret (v := .agg #[.slice A m c]) (by simp [results,Tryz.results114,go_sem]) rfl ⟨rfl,(zae w _).alloc (by simp) _⟩
theorem isBelow (g:Bool) (A:Option Addr) (m c:Nat) (w:World):Calls Tryz.prog 116 #[.agg #[.bool g, .slice A m c]] w fun e w' => e = .returned (.bool g) ∧ Below w.heap.size w w':=by
 go_enter Tryz.func116,Tryz.ntmps116
 go_wp2
 go_ret
 exact ⟨rfl,zae w _⟩
theorem signed (g:Bool) (z:Int) (h:g = decide (z < 0)):(if (!g) = true then -((z.natAbs:Nat):Int) else ((z.natAbs:Nat):Int)) = -z:=by
 by_cases hz:z < 0
 ·rw [h,decide_eq_true hz];simp;omega
 ·rw [h,decide_eq_false hz];simp;omega
theorem neg (g:Bool) (A:Option Addr) (m c:Nat) (z:Int) (w:World) (h:IntS w g (.slice A m c) z):Calls Tryz.prog 60 #[.agg #[.bool g, .slice A m c]] w (zfg w (-z)):=by
 have HG:=hid (signed g z h.neg)
 have HN:=hid (new (!g) A m c z.natAbs _ ((h.abs.alloc (.cells #[.bool g, .slice A m c] 33)).alloc (.cells #[.bool false, .slice none 0 0] 33)))
 clear h
 go_enter Tryz.func60,Tryz.ntmps60
 go_wp2_with fail
 refine HN.out.mono ?_
 rintro e w2 ⟨g2,A2,m2,c2,rfl,hi,hb⟩
 have kr:=hid (zad hb (show ((w.alloc (.cells #[.bool g, .slice A m c] 33)).alloc (.cells #[.bool false, .slice none 0 0] 33)).heap[w.heap.size + 1]? = some (.cells #[.bool false, .slice none 0 0] 33 (0,0)) from zam (by simp)))
 have r0:w2.cell? ⟨w.heap.size + 1,0,none⟩ = some (.bool false):=zac kr.out 0
 have r1:w2.cell? ⟨w.heap.size + 1,1,none⟩ = some (.slice none 0 0):=zac kr.out 1
 have rf0:=zag kr.out 0
 have rf1:=zag kr.out 1
 have HI:=hid hi
 have HB:=hid hb
 clear hi hb
 go_wp2
 refine bodyPost_ret (v := .agg #[.bool g2, .slice A2 m2 c2]) (by simp [results,Tryz.results60,go_sem,r0,r1]) rfl ?_
 have hi:=HI.out
 rw [HG.out] at hi
 have hb0:Below w.heap.size w w2:=((zae w _).alloc (by simp) _).trans (HB.out.mono (by simp;omega))
 exact ⟨g2,A2,m2,c2,rfl,⟨zlh hi.abs kr.out,hi.neg⟩,Below.setCell (Below.setCell hb0 (p:=⟨w.heap.size + 1,0,none⟩) (by show w.heap.size ≤ w.heap.size + 1;omega) _) (p:=⟨w.heap.size + 1,1,none⟩) (by show w.heap.size ≤ w.heap.size + 1;omega) _⟩
theorem sign (g:Bool) (A:Option Addr) (m c:Nat) (z:Int) (w:World) (h:IntS w g (.slice A m c) z):Calls Tryz.prog 52 #[.agg #[.bool g, .slice A m c]] w fun e w' => e = .returned (.int .i64 z.sign) ∧ Below w.heap.size w w':=by
 have HA:=hid (h.abs.alloc (.cells #[.bool g, .slice A m c] 33))
 have hg:=h.neg
 clear h
 rcases Int.lt_trichotomy z 0 with hz | hz | hz
 ·rw [decide_eq_true hz] at hg
  have HZ:=hid (Int.sign_eq_neg_one_of_neg hz)
  subst hg
  clear hz
  go_enter Tryz.func52,Tryz.ntmps52
  go_wp2
  go_ret
  exact ⟨by rw [HZ.out];rfl,zae w _⟩
 ·subst hz
  have hg':g = false:=hg
  subst hg'
  have hz0:isZ (Int.natAbs 0) = true:=rfl
  clear hg
  go_enter Tryz.func52,Tryz.ntmps52
  go_wp2_with (go_at_call 111;(with_reducible refine (Nt.zero (.slice A m c) (Int.natAbs 0) _ HA.out).mono ?_);rintro e w2 ⟨rfl,rfl⟩;rw [hz0])
  go_ret
  exact ⟨rfl,(zae w _).alloc (by simp) _⟩
 ·have hg':g = false:=by rw [hg,decide_eq_false (by omega)]
  have HZ:=hid (Int.sign_eq_one_of_pos hz)
  have hz0:isZ z.natAbs = false:=zk4 (by omega)
  subst hg'
  clear hg hz
  go_enter Tryz.func52,Tryz.ntmps52
  go_wp2_with (go_at_call 111;(with_reducible refine (Nt.zero (.slice A m c) z.natAbs _ HA.out).mono ?_);rintro e w2 ⟨rfl,rfl⟩;rw [hz0])
  go_ret
  exact ⟨by rw [HZ.out];rfl,(zae w _).alloc (by simp) _⟩
end It
namespace It
theorem cmp (g:Bool) (A:Option Addr) (m c:Nat) (x:Int) (g':Bool) (B:Option Addr) (m' c':Nat) (y:Int) (w:World) (h:IntS w g (.slice A m c) x) (h':IntS w g' (.slice B m' c') y) :
  Calls Tryz.prog 53 #[.agg #[.bool g, .slice A m c], .agg #[.bool g', .slice B m' c']] w fun e w' => e = .returned (.int .i64 (ze9 x y)) ∧ Below w.heap.size w w':=by
 have HA:=hid ((h.abs.alloc (.cells #[.bool g, .slice A m c] 33)).alloc (.cells #[.bool g', .slice B m' c'] 33))
 have HB:=hid ((h'.abs.alloc (.cells #[.bool g, .slice A m c] 33)).alloc (.cells #[.bool g', .slice B m' c'] 33))
 have HG:=hid h.neg
 have HG':=hid h'.neg
 have hbb:=hid ((zae w (.cells #[.bool g, .slice A m c] 33)).alloc (by simp) (.cells #[.bool g', .slice B m' c'] 33))
 clear h h'
 have hne:∀ {p:Prop} [Decidable p],true = decide p → p:=fun h => of_decide_eq_true h.symm
 have hno:∀ {p:Prop} [Decidable p],false = decide p → ¬ p:=fun h => of_decide_eq_false h.symm
 cases g <;> cases g'
 ·have h1:=hid (show ze9 ((x.natAbs:Nat):Int) ((y.natAbs:Nat):Int) = ze9 x y by
   have:=hno HG.out
   have:=hno HG'.out
   rw [show ((x.natAbs:Nat):Int) = x by omega,show ((y.natAbs:Nat):Int) = y by omega])
  clear hne hno
  go_enter Tryz.func53,Tryz.ntmps53
  go_wp2_with (go_at_call 112;(with_reducible refine (Nt.cmp A B m c m' c' x.natAbs y.natAbs _ HA.out HB.out).mono ?_);rintro e w2 ⟨rfl,hb⟩;rw [h1.out])
  go_ret
  exact ⟨rfl,hbb.out.trans (hb.mono hbb.out.size)⟩
 ·have h1:=hid (show ze9 x y = 1 from zea (by have:=hno HG.out;have:=hne HG'.out;omega))
  clear hne hno
  go_enter Tryz.func53,Tryz.ntmps53
  go_wp2
  go_ret
  exact ⟨by rw [h1.out];rfl,hbb.out⟩
 ·have h1:=hid (show ze9 x y = -1 from zeb (by have:=hne HG.out;have:=hno HG'.out;omega))
  clear hne hno
  go_enter Tryz.func53,Tryz.ntmps53
  go_wp2
  go_ret
  exact ⟨by rw [h1.out];rfl,hbb.out⟩
 ·have h1:=hid (show ze9 ((y.natAbs:Nat):Int) ((x.natAbs:Nat):Int) = ze9 x y by
   have:=hne HG.out
   have:=hne HG'.out
   unfold ze9
   rcases Int.lt_trichotomy x y with h | h | h
   ·rw [if_pos (by omega),if_pos h]
   ·rw [if_neg (by omega),if_neg (by omega),if_neg (by omega),if_neg (by omega)]
   ·rw [if_neg (by omega),if_pos (by omega),if_neg (by omega),if_pos h])
  clear hne hno
  go_enter Tryz.func53,Tryz.ntmps53
  go_wp2_with (go_at_call 112;(with_reducible refine (Nt.cmp B A m' c' m c y.natAbs x.natAbs _ HB.out HA.out).mono ?_);rintro e w2 ⟨rfl,hb⟩;rw [h1.out])
  go_ret
  exact ⟨rfl,hbb.out.trans (hb.mono hbb.out.size)⟩
end It
namespace It
theorem zA2 (g g':Bool) (x y:Int) (h:g = decide (x < 0)) (h':g' = decide (y < 0)):(if (!(g == g')) = true then -((x.natAbs * y.natAbs:Nat):Int) else ((x.natAbs * y.natAbs:Nat):Int)) = x * y:=by
 have e:((x.natAbs * y.natAbs:Nat):Int) = (x * y).natAbs:=by rw [Int.natAbs_mul]
 rw [e]
 rcases Int.lt_trichotomy x 0 with hx | hx | hx <;> rcases Int.lt_trichotomy y 0 with hy | hy | hy
 all_goals first
  | (subst hx;simp;done)
  | (subst hy;simp;done)
  | skip
 ·have:=Int.mul_pos_of_neg_of_neg hx hy
  rw [h,h',decide_eq_true hx,decide_eq_true hy];simp;omega
 ·have:=Int.mul_neg_of_neg_of_pos hx hy
  rw [h,h',decide_eq_true hx,decide_eq_false (by omega)];simp;omega
 ·have:=Int.mul_neg_of_pos_of_neg hx hy
  rw [h,h',decide_eq_false (by omega),decide_eq_true hy];simp;omega
 ·have:=Int.mul_pos hx hy
  rw [h,h',decide_eq_false (by omega),decide_eq_false (by omega)];simp;omega
theorem bdrew0' {w w1:World} (h:Below w.drew.heap.size w.drew w1):Below w.heap.size w w1:=⟨h.os,h.tape,h.output,h.size,h.block⟩
theorem mul (g:Bool) (A:Option Addr) (m c:Nat) (x:Int) (g':Bool) (B:Option Addr) (m' c':Nat) (y:Int) (w:World) (h:IntS w g (.slice A m c) x) (h':IntS w g' (.slice B m' c') y) (hla:4 * wlen x.natAbs ≤ LIM) (hlb:4 * wlen y.natAbs ≤ LIM) :
  Calls Tryz.prog 54 #[.agg #[.bool g, .slice A m c], .agg #[.bool g', .slice B m' c']] w (zfg w (x * y)):=by
 have HV:=hid (zA2 g g' x y h.neg h'.neg)
 have HLA:=hid hla
 have HLB:=hid hlb
 obtain ⟨W,hW⟩:∃ W,W = ((w.alloc (.cells #[.bool g, .slice A m c] 33)).alloc (.cells #[.bool g', .slice B m' c'] 33)).alloc (.cells #[.bool false, .slice none 0 0] 33):=⟨_,rfl⟩
 have HA:Hid (zas W.drew (.slice A m c) x.natAbs):=hid (by rw [hW];exact (((h.abs.alloc _).alloc _).alloc _).drew)
 have HB:Hid (zas W.drew (.slice B m' c') y.natAbs):=hid (by rw [hW];exact (((h'.abs.alloc _).alloc _).alloc _).drew)
 have ha:W.heap[w.heap.size]? = some (.cells #[.bool g, .slice A m c] 33 (0,0)):=by rw [hW];exact zak (zak (zam rfl))
 have hb:W.heap[w.heap.size + 1]? = some (.cells #[.bool g', .slice B m' c'] 33 (0,0)):=by rw [hW];exact zak (zam (by simp))
 have hr:W.heap[w.heap.size + 1 + 1]? = some (.cells #[.bool false, .slice none 0 0] 33 (0,0)):=by rw [hW];exact zam (by simp)
 have hB:Below w.heap.size w W:=by rw [hW];exact ((zae w _).alloc (by simp) _).alloc (by simp;omega) _
 have a0:W.drew.cell? ⟨w.heap.size,0,none⟩ = some (.bool g):=zac ha 0
 have a1:W.drew.cell? ⟨w.heap.size,1,none⟩ = some (.slice A m c):=zac ha 1
 have b0:W.drew.cell? ⟨w.heap.size + 1,0,none⟩ = some (.bool g'):=zac hb 0
 have b1:W.drew.cell? ⟨w.heap.size + 1,1,none⟩ = some (.slice B m' c'):=zac hb 1
 have HKR:=hid hr
 have HBB:=hid hB
 clear h h' hla hlb ha hb hr hB
 go_enter Tryz.func54,Tryz.ntmps54
 go_wp2_with fail
 rw [← hW]
 clear hW
 go_region_with (first
  | (go_at_call 58;(with_reducible refine (Pr.mul A B m c m' c' x.natAbs y.natAbs _ HA.out HB.out HLA.out HLB.out).mono ?_);rintro e w2 ⟨A2,m2,c2,rfl,hn,hb2⟩;have HN:=hid hn;have HB2:=hid hb2;have u0:w2.cell? ⟨w.heap.size,0,none⟩ = some (.bool g):=zab hb2 a0;have u1:w2.cell? ⟨w.heap.size + 1,0,none⟩ = some (.bool g'):=zab hb2 b0;clear hn hb2)
  | (go_at_call 57;(with_reducible refine (new (!(g == g')) A2 m2 c2 (x.natAbs * y.natAbs) _ HN.out).mono ?_);rintro e w3 ⟨g3,A3,m3,c3,rfl,hi,hb3⟩;have HI:=hid hi;have HB3:=hid hb3;have kr:=hid (zad hb3 (zad HB2.out (show W.drew.heap[w.heap.size + 1 + 1]? = some (.cells #[.bool false, .slice none 0 0] 33 (0,0)) from HKR.out)));have r0:w3.cell? ⟨w.heap.size + 1 + 1,0,none⟩ = some (.bool false):=zac kr.out 0;have r1:w3.cell? ⟨w.heap.size + 1 + 1,1,none⟩ = some (.slice none 0 0):=zac kr.out 1;have rf0:=zag kr.out 0;have rf1:=zag kr.out 1;clear hi hb3))
 all_goals
  go_wp2
  refine bodyPost_ret (v := .agg #[.bool g3, .slice A3 m3 c3]) (by simp [results,Tryz.results54,go_sem,r0,r1]) rfl ?_
  have hi:=HI.out
  rw [HV.out] at hi
  have hz:w.heap.size ≤ W.heap.size:=HBB.out.size
  have hb0:Below w.heap.size w w3:=(HBB.out.trans ((bdrew0' HB2.out).mono hz)).trans (HB3.out.mono (Nat.le_trans hz (bdrew0' HB2.out).size))
  exact ⟨g3,A3,m3,c3,rfl,⟨zlh hi.abs kr.out,hi.neg⟩,Below.setCell (Below.setCell hb0 (p:=⟨w.heap.size + 1 + 1,0,none⟩) (by show w.heap.size ≤ w.heap.size + 1 + 1;omega) _) (p:=⟨w.heap.size + 1 + 1,1,none⟩) (by show w.heap.size ≤ w.heap.size + 1 + 1;omega) _⟩
end It
namespace It
structure AS (w wr:World) (g:Bool) (A:Option Addr) (m c:Nat) (x:Int) (g':Bool) (B:Option Addr) (m' c':Nat) (y:Int):Prop where
  ka:wr.heap[w.heap.size]? = some (.cells #[.bool g, .slice A m c] 33 (0,0))
  kb:wr.heap[w.heap.size + 1]? = some (.cells #[.bool g', .slice B m' c'] 33 (0,0))
  kr:wr.heap[w.heap.size + 1 + 1]? = some (.cells #[.bool false, .slice none 0 0] 33 (0,0))
  x:zas wr (.slice A m c) x.natAbs
  y:zas wr (.slice B m' c') y.natAbs
  bel:Below w.heap.size w wr
theorem AS.step {w wr w':World} {g:Bool} {A:Option Addr} {m c:Nat} {x:Int} {g':Bool} {B:Option Addr} {m' c':Nat} {y:Int} (h:AS w wr g A m c x g' B m' c' y) (hb:Below wr.heap.size wr w'):AS w w' g A m c x g' B m' c' y :=
 ⟨zad hb h.ka,zad hb h.kb,zad hb h.kr,h.x.below hb,h.y.below hb,h.bel.trans (hb.mono h.bel.size)⟩
theorem AS.start {w:World} {g:Bool} {A:Option Addr} {m c:Nat} {x:Int} {g':Bool} {B:Option Addr} {m' c':Nat} {y:Int} (h:IntS w g (.slice A m c) x) (h':IntS w g' (.slice B m' c') y) :
  AS w (((w.alloc (.cells #[.bool g, .slice A m c] 33)).alloc (.cells #[.bool g', .slice B m' c'] 33)).alloc (.cells #[.bool false, .slice none 0 0] 33)) g A m c x g' B m' c' y :=
 ⟨zak (zak (zam rfl)),zak (zam (by simp)),zam (by simp),((h.abs.alloc _).alloc _).alloc _,((h'.abs.alloc _).alloc _).alloc _,((zae w _).alloc (by simp) _).alloc (by simp;omega) _⟩
theorem AS.fin {w wr:World} {g:Bool} {A:Option Addr} {m c:Nat} {x:Int} {g':Bool} {B:Option Addr} {m' c':Nat} {y:Int} (h:AS w wr g A m c x g' B m' c' y) {g3:Bool} {A3:Option Addr} {m3 c3:Nat} {z:Int} (hi:IntS wr g3 (.slice A3 m3 c3) z) :
  zfg w z (.returned (.agg #[.bool g3, .slice A3 m3 c3])) ((wr.setCell ⟨w.heap.size + 1 + 1,0,none⟩ (.bool g3)).setCell ⟨w.heap.size + 1 + 1,1,none⟩ (.slice A3 m3 c3)) :=
 ⟨g3,A3,m3,c3,rfl,⟨zlh hi.abs h.kr,hi.neg⟩,Below.setCell (Below.setCell h.bel (p:=⟨w.heap.size + 1 + 1,0,none⟩) (by show w.heap.size ≤ w.heap.size + 1 + 1;omega) _) (p:=⟨w.heap.size + 1 + 1,1,none⟩) (by show w.heap.size ≤ w.heap.size + 1 + 1;omega) _⟩
theorem zv8 (g:Bool) (A:Option Addr) (m c:Nat) (x:Int) (B:Option Addr) (m' c':Nat) (y:Int) (w:World) (h:IntS w g (.slice A m c) x) (h':IntS w g (.slice B m' c') y) (hla:wlen x.natAbs ≤ LIM) (hlb:wlen y.natAbs ≤ LIM) :
  Calls Tryz.prog 100 #[.agg #[.bool g, .slice A m c], .agg #[.bool g, .slice B m' c']] w (zfg w (x + y)):=by
 have HV:=hid (show (if g = true then -((x.natAbs + y.natAbs:Nat):Int) else ((x.natAbs + y.natAbs:Nat):Int)) = x + y by
  have h1:=h.neg
  have h2:=h'.neg
  cases g
  ·have:=of_decide_eq_false h1.symm
   have:=of_decide_eq_false h2.symm
   simp;omega
  ·have:=of_decide_eq_true h1.symm
   have:=of_decide_eq_true h2.symm
   simp;omega)
 have HLA:=hid hla
 have HLB:=hid hlb
 have hS:=AS.start h h'
 generalize hW:((w.alloc (.cells #[.bool g, .slice A m c] 33)).alloc (.cells #[.bool g, .slice B m' c'] 33)).alloc (.cells #[.bool false, .slice none 0 0] 33) = W at hS
 have HS:Hid (AS w W g A m c x g B m' c' y):=hid hS
 have a0:W.drew.cell? ⟨w.heap.size,0,none⟩ = some (.bool g):=zac hS.ka 0
 have a1:W.drew.cell? ⟨w.heap.size,1,none⟩ = some (.slice A m c):=zac hS.ka 1
 have b1:W.drew.cell? ⟨w.heap.size + 1,1,none⟩ = some (.slice B m' c'):=zac hS.kb 1
 have a0':W.cell? ⟨w.heap.size,0,none⟩ = some (.bool g):=a0
 have b0':W.cell? ⟨w.heap.size + 1,0,none⟩ = some (.bool g):=zac hS.kb 0
 clear h h' hla hlb hS
 go_enter Tryz.func100,Tryz.ntmps100
 go_wp2_with fail
 clear hW
 go_region_with (first
  | (go_at_call 120;(with_reducible refine (Nt.add A B m c m' c' x.natAbs y.natAbs _ HS.out.x.drew HS.out.y.drew HLA.out HLB.out).mono ?_);rintro e w2 ⟨A2,m2,c2,rfl,hn,hb2⟩;have HN:=hid hn;have HB2:=hid hb2;have u0:w2.cell? ⟨w.heap.size,0,none⟩ = some (.bool g):=zab hb2 a0;clear hn hb2)
  | (go_at_call 57;(with_reducible refine (new g A2 m2 c2 (x.natAbs + y.natAbs) _ HN.out).mono ?_);rintro e w3 ⟨g3,A3,m3,c3,rfl,hi,hb3⟩;have HI:=hid hi;have HT:=hid ((HS.out.step (bdrew0' HB2.out)).step hb3);have r0:w3.cell? ⟨w.heap.size + 1 + 1,0,none⟩ = some (.bool false):=zac HT.out.kr 0;have r1:w3.cell? ⟨w.heap.size + 1 + 1,1,none⟩ = some (.slice none 0 0):=zac HT.out.kr 1;have rf0:=zag HT.out.kr 0;have rf1:=zag HT.out.kr 1;clear hi hb3))
 all_goals
  go_wp2
  refine bodyPost_ret (v := .agg #[.bool g3, .slice A3 m3 c3]) (by simp [results,Tryz.results100,go_sem,r0,r1]) rfl ?_
  have hi:=HI.out
  rw [HV.out] at hi
  exact HT.out.fin hi
theorem zov (g:Bool) (x y:Int) (h:g = decide (x < 0)) (hle:y.natAbs ≤ x.natAbs) (hne:decide (x < 0) ≠ decide (y < 0)):(if g = true then -((x.natAbs - y.natAbs:Nat):Int) else ((x.natAbs - y.natAbs:Nat):Int)) = x + y:=by
 rw [h]
 by_cases hx:x < 0
 ·have hy:¬ y < 0:=fun hy => hne (by rw [decide_eq_true hx,decide_eq_true hy])
  rw [decide_eq_true hx];simp;omega
 ·have hy:y < 0:=Decidable.byContradiction fun hy => hne (by rw [decide_eq_false hx,decide_eq_false hy])
  rw [decide_eq_false hx];simp;omega
theorem zwG (g:Bool) (x y:Int) (h:g = decide (x < 0)) (hlt:y.natAbs < x.natAbs) (hne:decide (x < 0) ≠ decide (y < 0)):(if g = true then -((x.natAbs - y.natAbs:Nat):Int) else ((x.natAbs - y.natAbs:Nat):Int)) = x + y:=zov g x y h (Nat.le_of_lt hlt) hne
theorem zv7 (g g':Bool) (A:Option Addr) (m c:Nat) (x:Int) (B:Option Addr) (m' c':Nat) (y:Int) (w:World) (hne:g ≠ g') (h:IntS w g (.slice A m c) x) (h':IntS w g' (.slice B m' c') y) (hla:wlen x.natAbs ≤ LIM) (hlb:wlen y.natAbs ≤ LIM) :
  Calls Tryz.prog 100 #[.agg #[.bool g, .slice A m c], .agg #[.bool g', .slice B m' c']] w (zfg w (x + y)):=by
 have HN1:=hid h.neg
 have HN2:=hid h'.neg
 have HNE:=hid hne
 have HLA:=hid hla
 have HLB:=hid hlb
 have hS:=AS.start h h'
 generalize hW:((w.alloc (.cells #[.bool g, .slice A m c] 33)).alloc (.cells #[.bool g', .slice B m' c'] 33)).alloc (.cells #[.bool false, .slice none 0 0] 33) = W at hS
 have HS:Hid (AS w W g A m c x g' B m' c' y):=hid hS
 have hgg:(g == g') = false:=by simpa using hne
 have a0':W.cell? ⟨w.heap.size,0,none⟩ = some (.bool g):=zac hS.ka 0
 have b0':W.cell? ⟨w.heap.size + 1,0,none⟩ = some (.bool g'):=zac hS.kb 0
 have a1':W.cell? ⟨w.heap.size,1,none⟩ = some (.slice A m c):=zac hS.ka 1
 have b1':W.cell? ⟨w.heap.size + 1,1,none⟩ = some (.slice B m' c'):=zac hS.kb 1
 clear h h' hla hlb hS
 rcases Nat.lt_or_ge x.natAbs y.natAbs with hlt | hle
 ·have HLT:=hid hlt
  go_enter Tryz.func100,Tryz.ntmps100
  go_wp2_with fail
  clear hW
  with_reducible refine (Nt.sub_no A B m c m' c' x.natAbs y.natAbs _ HS.out.x HS.out.y hlt).mono ?_
  rintro e w2 ⟨A2,m2,c2,rfl,hn,hb2⟩
  have hS2:=(HS.out.step hb2).step (zae w2 (.cells #[.slice A2 m2 c2] 31))
  have HS2:=hid hS2
  have a02:(w2.alloc (.cells #[.slice A2 m2 c2] 31)).cell? ⟨w.heap.size,1,none⟩ = some (.slice A m c):=zac hS2.ka 1
  have b02:(w2.alloc (.cells #[.slice A2 m2 c2] 31)).cell? ⟨w.heap.size + 1,1,none⟩ = some (.slice B m' c'):=zac hS2.kb 1
  clear hn hb2 hS2
  go_wp2_with fail
  with_reducible refine (Nt.sub_ok B A m' c' m c y.natAbs x.natAbs _ HS2.out.y HS2.out.x (Nat.le_of_lt HLT.out) HLB.out).mono ?_
  rintro e w3 ⟨A3,m3,c3,rfl,hn,hb3⟩
  have hS3:=(HS2.out.step hb3).step (zae w3 (.cells #[.slice A3 m3 c3] 31))
  have HS3:=hid hS3
  have HN:=hid (hn.alloc (.cells #[.slice A3 m3 c3] 31))
  have a03:(w3.alloc (.cells #[.slice A3 m3 c3] 31)).cell? ⟨w.heap.size + 1,0,none⟩ = some (.bool g'):=zac hS3.kb 0
  have b03:(w3.alloc (.cells #[.slice A3 m3 c3] 31)).cell? ⟨w3.heap.size,0,none⟩ = some (.slice A3 m3 c3):=zac (zal _ _ _) 0
  clear hn hb3 hS3
  go_wp2_with fail
  with_reducible refine (new g' A3 m3 c3 (y.natAbs - x.natAbs) _ HN.out).mono ?_
  rintro e w4 ⟨g4,A4,m4,c4,rfl,hi,hb4⟩
  have hT:=HS3.out.step hb4
  have HT:=hid hT
  have HI:=hid hi
  have r0:w4.cell? ⟨w.heap.size + 1 + 1,0,none⟩ = some (.bool false):=zac hT.kr 0
  have r1:w4.cell? ⟨w.heap.size + 1 + 1,1,none⟩ = some (.slice none 0 0):=zac hT.kr 1
  have rf0:=zag hT.kr 0
  have rf1:=zag hT.kr 1
  clear hi hb4 hT
  go_wp2
  refine bodyPost_ret (v := .agg #[.bool g4, .slice A4 m4 c4]) (by simp [results,Tryz.results100,go_sem,r0,r1]) rfl ?_
  have hi:=HI.out
  rw [zwG g' y x HN2.out HLT.out (by rw [← HN1.out, ← HN2.out];exact fun e => HNE.out e.symm),Int.add_comm] at hi
  exact HT.out.fin hi
 ·have HLE:=hid hle
  go_enter Tryz.func100,Tryz.ntmps100
  go_wp2_with fail
  clear hW
  with_reducible refine (Nt.sub_ok A B m c m' c' x.natAbs y.natAbs _ HS.out.x HS.out.y hle HLA.out).mono ?_
  rintro e w2 ⟨A2,m2,c2,rfl,hn,hb2⟩
  have hS2:=(HS.out.step hb2).step (zae w2 (.cells #[.slice A2 m2 c2] 31))
  have HS2:=hid hS2
  have HN:=hid (hn.alloc (.cells #[.slice A2 m2 c2] 31))
  have a02:(w2.alloc (.cells #[.slice A2 m2 c2] 31)).cell? ⟨w.heap.size,0,none⟩ = some (.bool g):=zac hS2.ka 0
  have b02:(w2.alloc (.cells #[.slice A2 m2 c2] 31)).cell? ⟨w2.heap.size,0,none⟩ = some (.slice A2 m2 c2):=zac (zal _ _ _) 0
  clear hn hb2 hS2
  go_wp2_with fail
  with_reducible refine (new g A2 m2 c2 (x.natAbs - y.natAbs) _ HN.out).mono ?_
  rintro e w4 ⟨g4,A4,m4,c4,rfl,hi,hb4⟩
  have hT:=HS2.out.step hb4
  have HT:=hid hT
  have HI:=hid hi
  have r0:w4.cell? ⟨w.heap.size + 1 + 1,0,none⟩ = some (.bool false):=zac hT.kr 0
  have r1:w4.cell? ⟨w.heap.size + 1 + 1,1,none⟩ = some (.slice none 0 0):=zac hT.kr 1
  have rf0:=zag hT.kr 0
  have rf1:=zag hT.kr 1
  clear hi hb4 hT
  go_wp2
  refine bodyPost_ret (v := .agg #[.bool g4, .slice A4 m4 c4]) (by simp [results,Tryz.results100,go_sem,r0,r1]) rfl ?_
  have hi:=HI.out
  rw [zov g x y HN1.out HLE.out (by rw [← HN1.out, ← HN2.out];exact HNE.out)] at hi
  exact HT.out.fin hi
theorem add (g g':Bool) (A:Option Addr) (m c:Nat) (x:Int) (B:Option Addr) (m' c':Nat) (y:Int) (w:World) (h:IntS w g (.slice A m c) x) (h':IntS w g' (.slice B m' c') y) (hla:wlen x.natAbs ≤ LIM) (hlb:wlen y.natAbs ≤ LIM) :
  Calls Tryz.prog 100 #[.agg #[.bool g, .slice A m c], .agg #[.bool g', .slice B m' c']] w (zfg w (x + y)):=by
 by_cases e:g = g'
 ·subst e;exact zv8 g A m c x B m' c' y w h h' hla hlb
 ·exact zv7 g g' A m c x B m' c' y w e h h' hla hlb
end It
end Go.Proofs.YtdbgbaiekpbaoaaGreatDoor
