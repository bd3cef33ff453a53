/- integer.Add by its contract. Conditions: as it says. -/
import Derived.Test.YtdbgbaiekpbaoaaGreatDoorInt4Zp
set_option linter.all false
namespace Go.Proofs.YtdbgbaiekpbaoaaGreatDoor
open Go.RowKit Am
open Lib (hid)
attribute [local go_sem ↓] Go.wp_at_zero Go.wp_at_succ
set_option maxHeartbeats 1000000
set_option maxRecDepth 100000
namespace It
structure AS (w wr:World) (g:Bool) (A:Option Addr) (m c:Nat) (x:Int) (g':Bool) (B:Option Addr) (m' c':Nat) (y:Int):Prop where
  ka:wr.heap[w.heap.size]? = some (.cells #[.bool g, .slice A m c] 33 (0,0))
  kb:wr.heap[w.heap.size + 1]? = some (.cells #[.bool g', .slice B m' c'] 33 (0,0))
  kr:wr.heap[w.heap.size + 1 + 1]? = some (.cells #[.bool false, .slice none 0 0] 33 (0,0))
  x:zas wr (.slice A m c) x.natAbs
  y:zas wr (.slice B m' c') y.natAbs
  bel:Below w.heap.size w wr
theorem AS.step {w wr w':World} {g:Bool} {A:Option Addr} {m c:Nat} {x:Int} {g':Bool} {B:Option Addr} {m' c':Nat} {y:Int} (h:AS w wr g A m c x g' B m' c' y) (hb:Below wr.heap.size wr w'):AS w w' g A m c x g' B m' c' y :=
 ⟨zad hb h.ka,zad hb h.kb,zad hb h.kr,h.x.below hb,h.y.below hb,h.bel.trans (hb.mono h.bel.size)⟩
theorem AS.start {w:World} {g:Bool} {A:Option Addr} {m c:Nat} {x:Int} {g':Bool} {B:Option Addr} {m' c':Nat} {y:Int} (h:IntS w g (.slice A m c) x) (h':IntS w g' (.slice B m' c') y) :
  AS w (((w.alloc (.cells #[.bool g, .slice A m c] 33)).alloc (.cells #[.bool g', .slice B m' c'] 33)).alloc (.cells #[.bool false, .slice none 0 0] 33)) g A m c x g' B m' c' y :=
 ⟨zak (zak (zam rfl)),zak (zam (by simp)),zam (by simp),((h.abs.alloc _).alloc _).alloc _,((h'.abs.alloc _).alloc _).alloc _,((zae w _).alloc (by simp) _).alloc (by simp;omega) _⟩
theorem AS.fin {w wr:World} {g:Bool} {A:Option Addr} {m c:Nat} {x:Int} {g':Bool} {B:Option Addr} {m' c':Nat} {y:Int} (h:AS w wr g A m c x g' B m' c' y) {g3:Bool} {A3:Option Addr} {m3 c3:Nat} {z:Int} (hi:IntS wr g3 (.slice A3 m3 c3) z) :
  zfg w z (.returned (.agg #[.bool g3, .slice A3 m3 c3])) ((wr.setCell ⟨w.heap.size + 1 + 1,0,none⟩ (.bool g3)).setCell ⟨w.heap.size + 1 + 1,1,none⟩ (.slice A3 m3 c3)) :=
 ⟨g3,A3,m3,c3,rfl,⟨zlh hi.abs h.kr,hi.neg⟩,Below.setCell (Below.setCell h.bel (p:=⟨w.heap.size + 1 + 1,0,none⟩) (by show w.heap.size ≤ w.heap.size + 1 + 1;omega) _) (p:=⟨w.heap.size + 1 + 1,1,none⟩) (by show w.heap.size ≤ w.heap.size + 1 + 1;omega) _⟩
theorem zv8 (g:Bool) (A:Option Addr) (m c:Nat) (x:Int) (B:Option Addr) (m' c':Nat) (y:Int) (w:World) (h:IntS w g (.slice A m c) x) (h':IntS w g (.slice B m' c') y) (hla:wlen x.natAbs ≤ LIM) (hlb:wlen y.natAbs ≤ LIM) :
  Calls Tryz.prog 100 #[.agg #[.bool g, .slice A m c], .agg #[.bool g, .slice B m' c']] w (zfg w (x + y)):=by
 have HV:=hid (show (if g = true then -((x.natAbs + y.natAbs:Nat):Int) else ((x.natAbs + y.natAbs:Nat):Int)) = x + y by
  have h1:=h.neg
  have h2:=h'.neg
  cases g
  ·have:=of_decide_eq_false h1.symm
   have:=of_decide_eq_false h2.symm
   simp;omega
  ·have:=of_decide_eq_true h1.symm
   have:=of_decide_eq_true h2.symm
   simp;omega)
 have HLA:=hid hla
 have HLB:=hid hlb
 have hS:=AS.start h h'
 generalize hW:((w.alloc (.cells #[.bool g, .slice A m c] 33)).alloc (.cells #[.bool g, .slice B m' c'] 33)).alloc (.cells #[.bool false, .slice none 0 0] 33) = W at hS
 have HS:Hid (AS w W g A m c x g B m' c' y):=hid hS
 have a0:W.drew.cell? ⟨w.heap.size,0,none⟩ = some (.bool g):=zac hS.ka 0
 have a1:W.drew.cell? ⟨w.heap.size,1,none⟩ = some (.slice A m c):=zac hS.ka 1
 have b1:W.drew.cell? ⟨w.heap.size + 1,1,none⟩ = some (.slice B m' c'):=zac hS.kb 1
 have a0':W.cell? ⟨w.heap.size,0,none⟩ = some (.bool g):=a0
 have b0':W.cell? ⟨w.heap.size + 1,0,none⟩ = some (.bool g):=zac hS.kb 0
 clear h h' hla hlb hS
 go_enter Tryz.func100,Tryz.ntmps100
 go_wp2_with fail
 clear hW
 go_region_with (first
  | (go_at_call 120;(with_reducible refine (Nt.add A B m c m' c' x.natAbs y.natAbs _ HS.out.x.drew HS.out.y.drew HLA.out HLB.out).mono ?_);rintro e w2 ⟨A2,m2,c2,rfl,hn,hb2⟩;have HN:=hid hn;have HB2:=hid hb2;have u0:w2.cell? ⟨w.heap.size,0,none⟩ = some (.bool g):=zab hb2 a0;clear hn hb2)
  | (go_at_call 57;(with_reducible refine (new g A2 m2 c2 (x.natAbs + y.natAbs) _ HN.out).mono ?_);rintro e w3 ⟨g3,A3,m3,c3,rfl,hi,hb3⟩;have HI:=hid hi;have HT:=hid ((HS.out.step (bdrew0' HB2.out)).step hb3);have r0:w3.cell? ⟨w.heap.size + 1 + 1,0,none⟩ = some (.bool false):=zac HT.out.kr 0;have r1:w3.cell? ⟨w.heap.size + 1 + 1,1,none⟩ = some (.slice none 0 0):=zac HT.out.kr 1;have rf0:=zag HT.out.kr 0;have rf1:=zag HT.out.kr 1;clear hi hb3))
 all_goals
  go_wp2
  refine bodyPost_ret (v := .agg #[.bool g3, .slice A3 m3 c3]) (by simp [results,Tryz.results100,go_sem,r0,r1]) rfl ?_
  have hi:=HI.out
  rw [HV.out] at hi
  exact HT.out.fin hi
theorem zov (g:Bool) (x y:Int) (h:g = decide (x < 0)) (hle:y.natAbs ≤ x.natAbs) (hne:decide (x < 0) ≠ decide (y < 0)):(if g = true then -((x.natAbs - y.natAbs:Nat):Int) else ((x.natAbs - y.natAbs:Nat):Int)) = x + y:=by
 rw [h]
 by_cases hx:x < 0
 ·have hy:¬ y < 0:=fun hy => hne (by rw [decide_eq_true hx,decide_eq_true hy])
  rw [decide_eq_true hx];simp;omega
 ·have hy:y < 0:=Decidable.byContradiction fun hy => hne (by rw [decide_eq_false hx,decide_eq_false hy])
  rw [decide_eq_false hx];simp;omega
theorem zwG (g:Bool) (x y:Int) (h:g = decide (x < 0)) (hlt:y.natAbs < x.natAbs) (hne:decide (x < 0) ≠ decide (y < 0)):(if g = true then -((x.natAbs - y.natAbs:Nat):Int) else ((x.natAbs - y.natAbs:Nat):Int)) = x + y:=zov g x y h (Nat.le_of_lt hlt) hne
theorem zv7 (g g':Bool) (A:Option Addr) (m c:Nat) (x:Int) (B:Option Addr) (m' c':Nat) (y:Int) (w:World) (hne:g ≠ g') (h:IntS w g (.slice A m c) x) (h':IntS w g' (.slice B m' c') y) (hla:wlen x.natAbs ≤ LIM) (hlb:wlen y.natAbs ≤ LIM) :
  Calls Tryz.prog 100 #[.agg #[.bool g, .slice A m c], .agg #[.bool g', .slice B m' c']] w (zfg w (x + y)):=by
 have HN1:=hid h.neg
 have HN2:=hid h'.neg
 have HNE:=hid hne
 have HLA:=hid hla
 have HLB:=hid hlb
 have hS:=AS.start h h'
 generalize hW:((w.alloc (.cells #[.bool g, .slice A m c] 33)).alloc (.cells #[.bool g', .slice B m' c'] 33)).alloc (.cells #[.bool false, .slice none 0 0] 33) = W at hS
 have HS:Hid (AS w W g A m c x g' B m' c' y):=hid hS
 have hgg:(g == g') = false:=by simpa using hne
 have a0':W.cell? ⟨w.heap.size,0,none⟩ = some (.bool g):=zac hS.ka 0
 have b0':W.cell? ⟨w.heap.size + 1,0,none⟩ = some (.bool g'):=zac hS.kb 0
 have a1':W.cell? ⟨w.heap.size,1,none⟩ = some (.slice A m c):=zac hS.ka 1
 have b1':W.cell? ⟨w.heap.size + 1,1,none⟩ = some (.slice B m' c'):=zac hS.kb 1
 clear h h' hla hlb hS
 rcases Nat.lt_or_ge x.natAbs y.natAbs with hlt | hle
 ·have HLT:=hid hlt
  go_enter Tryz.func100,Tryz.ntmps100
  go_wp2_with fail
  clear hW
  with_reducible refine (Nt.sub_no A B m c m' c' x.natAbs y.natAbs _ HS.out.x HS.out.y hlt).mono ?_
  rintro e w2 ⟨A2,m2,c2,rfl,hn,hb2⟩
  have hS2:=(HS.out.step hb2).step (zae w2 (.cells #[.slice A2 m2 c2] 31))
  have HS2:=hid hS2
  have a02:(w2.alloc (.cells #[.slice A2 m2 c2] 31)).cell? ⟨w.heap.size,1,none⟩ = some (.slice A m c):=zac hS2.ka 1
  have b02:(w2.alloc (.cells #[.slice A2 m2 c2] 31)).cell? ⟨w.heap.size + 1,1,none⟩ = some (.slice B m' c'):=zac hS2.kb 1
  clear hn hb2 hS2
  go_wp2_with fail
  with_reducible refine (Nt.sub_ok B A m' c' m c y.natAbs x.natAbs _ HS2.out.y HS2.out.x (Nat.le_of_lt HLT.out) HLB.out).mono ?_
  rintro e w3 ⟨A3,m3,c3,rfl,hn,hb3⟩
  have hS3:=(HS2.out.step hb3).step (zae w3 (.cells #[.slice A3 m3 c3] 31))
  have HS3:=hid hS3
  have HN:=hid (hn.alloc (.cells #[.slice A3 m3 c3] 31))
  have a03:(w3.alloc (.cells #[.slice A3 m3 c3] 31)).cell? ⟨w.heap.size + 1,0,none⟩ = some (.bool g'):=zac hS3.kb 0
  have b03:(w3.alloc (.cells #[.slice A3 m3 c3] 31)).cell? ⟨w3.heap.size,0,none⟩ = some (.slice A3 m3 c3):=zac (zal _ _ _) 0
  clear hn hb3 hS3
  go_wp2_with fail
  with_reducible refine (new g' A3 m3 c3 (y.natAbs - x.natAbs) _ HN.out).mono ?_
  rintro e w4 ⟨g4,A4,m4,c4,rfl,hi,hb4⟩
  have hT:=HS3.out.step hb4
  have HT:=hid hT
  have HI:=hid hi
  have r0:w4.cell? ⟨w.heap.size + 1 + 1,0,none⟩ = some (.bool false):=zac hT.kr 0
  have r1:w4.cell? ⟨w.heap.size + 1 + 1,1,none⟩ = some (.slice none 0 0):=zac hT.kr 1
  have rf0:=zag hT.kr 0
  have rf1:=zag hT.kr 1
  clear hi hb4 hT
  go_wp2
  refine bodyPost_ret (v := .agg #[.bool g4, .slice A4 m4 c4]) (by simp [results,Tryz.results100,go_sem,r0,r1]) rfl ?_
  have hi:=HI.out
  rw [zwG g' y x HN2.out HLT.out (by rw [← HN1.out, ← HN2.out];exact fun e => HNE.out e.symm),Int.add_comm] at hi
  exact HT.out.fin hi
 ·have HLE:=hid hle
  go_enter Tryz.func100,Tryz.ntmps100
  go_wp2_with fail
  clear hW
  with_reducible refine (Nt.sub_ok A B m c m' c' x.natAbs y.natAbs _ HS.out.x HS.out.y hle HLA.out).mono ?_
  rintro e w2 ⟨A2,m2,c2,rfl,hn,hb2⟩
  have hS2:=(HS.out.step hb2).step (zae w2 (.cells #[.slice A2 m2 c2] 31))
  have HS2:=hid hS2
  have HN:=hid (hn.alloc (.cells #[.slice A2 m2 c2] 31))
  have a02:(w2.alloc (.cells #[.slice A2 m2 c2] 31)).cell? ⟨w.heap.size,0,none⟩ = some (.bool g):=zac hS2.ka 0
  have b02:(w2.alloc (.cells #[.slice A2 m2 c2] 31)).cell? ⟨w2.heap.size,0,none⟩ = some (.slice A2 m2 c2):=zac (zal _ _ _) 0
  clear hn hb2 hS2
  go_wp2_with fail
  with_reducible refine (new g A2 m2 c2 (x.natAbs - y.natAbs) _ HN.out).mono ?_
  rintro e w4 ⟨g4,A4,m4,c4,rfl,hi,hb4⟩
  have hT:=HS2.out.step hb4
  have HT:=hid hT
  have HI:=hid hi
  have r0:w4.cell? ⟨w.heap.size + 1 + 1,0,none⟩ = some (.bool false):=zac hT.kr 0
  have r1:w4.cell? ⟨w.heap.size + 1 + 1,1,none⟩ = some (.slice none 0 0):=zac hT.kr 1
  have rf0:=zag hT.kr 0
  have rf1:=zag hT.kr 1
  clear hi hb4 hT
  go_wp2
  refine bodyPost_ret (v := .agg #[.bool g4, .slice A4 m4 c4]) (by simp [results,Tryz.results100,go_sem,r0,r1]) rfl ?_
  have hi:=HI.out
  rw [zov g x y HN1.out HLE.out (by rw [← HN1.out, ← HN2.out];exact HNE.out)] at hi
  exact HT.out.fin hi
theorem add (g g':Bool) (A:Option Addr) (m c:Nat) (x:Int) (B:Option Addr) (m' c':Nat) (y:Int) (w:World) (h:IntS w g (.slice A m c) x) (h':IntS w g' (.slice B m' c') y) (hla:wlen x.natAbs ≤ LIM) (hlb:wlen y.natAbs ≤ LIM) :
  Calls Tryz.prog 100 #[.agg #[.bool g, .slice A m c], .agg #[.bool g', .slice B m' c']] w (zfg w (x + y)):=by
 by_cases e:g = g'
 ·subst e;exact zv8 g A m c x B m' c' y w h h' hla hlb
 ·exact zv7 g g' A m c x B m' c' y w e h h' hla hlb
end It
end Go.Proofs.YtdbgbaiekpbaoaaGreatDoor
