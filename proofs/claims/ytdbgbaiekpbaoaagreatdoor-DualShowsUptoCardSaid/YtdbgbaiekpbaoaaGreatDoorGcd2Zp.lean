/- gcd.Reduce by its contract. Conditions: as it says. -/
import Derived.Test.YtdbgbaiekpbaoaaGreatDoorGcd1Zp
set_option linter.all false
namespace Go.Proofs.YtdbgbaiekpbaoaaGreatDoor
open Go.RowKit Am
open Lib (hid)
attribute [local go_sem ↓] Go.wp_at_zero Go.wp_at_succ
set_option maxHeartbeats 1000000
set_option maxRecDepth 100000
namespace Gc
structure RS (w wr:World) (A:Option Addr) (m c:Nat) (B:Option Addr) (m' c' x y:Nat):Prop where
  ka:wr.heap[w.heap.size]? = some (.cells #[.slice A m c] 31 (0,0))
  kb:wr.heap[w.heap.size + 1]? = some (.cells #[.slice B m' c'] 31 (0,0))
  k2:wr.heap[w.heap.size + 1 + 1]? = some (.cells #[.slice none 0 0] 31 (0,0))
  k3:wr.heap[w.heap.size + 1 + 1 + 1]? = some (.cells #[.slice none 0 0] 31 (0,0))
  x:zas wr (.slice A m c) x
  y:zas wr (.slice B m' c') y
  bel:Below w.heap.size w wr
theorem RS.step {w wr w':World} {A:Option Addr} {m c:Nat} {B:Option Addr} {m' c' x y:Nat} (h:RS w wr A m c B m' c' x y) (hb:Below wr.heap.size wr w'):RS w w' A m c B m' c' x y :=
 ⟨zad hb h.ka,zad hb h.kb,zad hb h.k2,zad hb h.k3,h.x.below hb,h.y.below hb,h.bel.trans (hb.mono h.bel.size)⟩
theorem zx8 {w:World} {b:Nat} {v:Value} (h:w.heap[b]? = some (.cells #[v] 31 (0,0))):w.cell? ⟨b,0,none⟩ = some v:=zac h 0
theorem reduce (A B:Option Addr) (m c m' c' a b:Nat) (w:World) (ha:zas w (.slice A m c) a) (hb:zas w (.slice B m' c') b) (hb0:0 < b) (hla:wlen a + 1 ≤ LIM) (hlb:wlen b + 1 ≤ LIM) :
  Calls Tryz.prog 113 #[.agg #[.slice A m c], .agg #[.slice B m' c']] w (zpo w (a / Nat.gcd a b) (b / Nat.gcd a b)):=by
 have HA:=hid ha
 have HB:=hid hb
 have HLA:=hid hla
 have HLB:=hid hlb
 have HG0:=hid (Nat.gcd_pos_of_pos_right a hb0)
 clear ha hb hla hlb hb0
 go_enter Tryz.func113,Tryz.ntmps113
 go_wp2_with fail
 have HS:=hid (show RS w ((((w.alloc (.cells #[.slice A m c] 31)).alloc (.cells #[.slice B m' c'] 31)).alloc (.cells #[.slice none 0 0] 31)).alloc (.cells #[.slice none 0 0] 31)) A m c B m' c' a b from
  ⟨zak (zak (zak (zam rfl))),zak (zak (zam (by simp))),zak (zam (by simp)),zam (by simp),(((HA.out.alloc _).alloc _).alloc _).alloc _,(((HB.out.alloc _).alloc _).alloc _).alloc _,(((zae w _).alloc (by simp) _).alloc (by simp;omega) _).alloc (by simp;omega) _⟩)
 generalize (((w.alloc (.cells #[.slice A m c] 31)).alloc (.cells #[.slice B m' c'] 31)).alloc (.cells #[.slice none 0 0] 31)).alloc (.cells #[.slice none 0 0] 31) = W0 at *
 refine (of A B m c m' c' a b _ HS.out.x HS.out.y HLA.out HLB.out).mono ?_
 rintro e w1 ⟨G1,mg,cg,rfl,hg1,hb1⟩
 have HS1:=hid ((HS.out.step hb1).step (zae w1 (.cells #[.slice G1 mg cg] 31)))
 have HN1:=hid (hg1.alloc (.cells #[.slice G1 mg cg] 31))
 have kg1:(w1.alloc (.cells #[.slice G1 mg cg] 31)).heap[w1.heap.size]? = some (.cells #[.slice G1 mg cg] 31 (0,0)):=zam rfl
 have KG1:=hid kg1
 have kgc:=zx8 kg1
 clear hg1 hb1 kg1
 have hz:isZ (Nat.gcd a b) = false:=zk4 HG0.out
 go_wp2_with fail
 generalize w1.alloc (.cells #[.slice G1 mg cg] 31) = W1 at *
 generalize w1.heap.size = gb at *
 refine (Nt.zero (.slice G1 mg cg) (Nat.gcd a b) _ HN1.out).mono ?_
 rintro e w' ⟨rfl,rfl⟩
 rw [hz]
 have HS2:=hid (HS1.out.step (zae W1 (.cells #[.slice G1 mg cg] 31)))
 have HN2:=hid (HN1.out.alloc (.cells #[.slice G1 mg cg] 31))
 have KG2:=hid (zad (zae W1 (.cells #[.slice G1 mg cg] 31)) KG1.out)
 have kg2:=zx8 KG2.out
 have ka2:=zx8 HS2.out.ka
 clear kgc hz
 generalize W1.alloc (.cells #[.slice G1 mg cg] 31) = W2 at *
 go_wp2_with fail
 refine (Qt.div A G1 m c mg cg a (Nat.gcd a b) _ HS2.out.x HN2.out HG0.out HLA.out).mono ?_
 rintro e w3 ⟨X3,m3,c3,rfl,hx3,hb3⟩
 have HS3:=hid ((HS2.out.step hb3).step (zae w3 (.cells #[.slice X3 m3 c3] 31)))
 have HN3:=hid ((HN2.out.below hb3).alloc (.cells #[.slice X3 m3 c3] 31))
 have HX3:=hid (hx3.alloc (.cells #[.slice X3 m3 c3] 31))
 have KG3:=hid (zad (zae w3 (.cells #[.slice X3 m3 c3] 31)) (zad hb3 KG2.out))
 have kx3:(w3.alloc (.cells #[.slice X3 m3 c3] 31)).heap[w3.heap.size]? = some (.cells #[.slice X3 m3 c3] 31 (0,0)):=zam rfl
 have KX3:=hid kx3
 have kg3:=zx8 KG3.out
 have kb3:=zx8 HS3.out.kb
 clear kg2 ka2 kx3 hx3 hb3
 go_wp2_with fail
 generalize w3.alloc (.cells #[.slice X3 m3 c3] 31) = W3 at *
 generalize w3.heap.size = xb at *
 refine (Qt.div B G1 m' c' mg cg b (Nat.gcd a b) _ HS3.out.y HN3.out HG0.out HLB.out).mono ?_
 rintro e w4 ⟨Y4,m4,c4,rfl,hy4,hb4⟩
 have HS4:Hid (RS w (w4.alloc (.cells #[.slice Y4 m4 c4] 31)).drew A m c B m' c' a b):=hid ((HS3.out.step hb4).step ((zae w4 _).drew))
 have HX4:Hid (zas (w4.alloc (.cells #[.slice Y4 m4 c4] 31)).drew (.slice X3 m3 c3) (a / Nat.gcd a b)):=hid (((HX3.out.below hb4).alloc _).drew)
 have HY4:Hid (zas (w4.alloc (.cells #[.slice Y4 m4 c4] 31)).drew (.slice Y4 m4 c4) (b / Nat.gcd a b)):=hid ((hy4.alloc _).drew)
 have kx4:(w4.alloc (.cells #[.slice Y4 m4 c4] 31)).drew.cell? ⟨xb,0,none⟩ = some (.slice X3 m3 c3):=cell_al (zx8 (zad hb4 KX3.out))
 have ky4:(w4.alloc (.cells #[.slice Y4 m4 c4] 31)).drew.cell? ⟨w4.heap.size,0,none⟩ = some (.slice Y4 m4 c4):=zax rfl rfl
 have hxw:w.heap.size + 4 ≤ w4.heap.size:=by have:=(Array.getElem?_eq_some_iff.1 (zad hb4 HS3.out.k3)).1;omega
 have g3:=zx8 HS4.out.k2
 have g4:=zag HS4.out.k2 0
 have g5:=zx8 HS4.out.k3
 have g6:=zag HS4.out.k3 0
 have g3':(w4.alloc (.cells #[.slice Y4 m4 c4] 31)).cell? ⟨w.heap.size + 1 + 1,0,none⟩ = some (.slice none 0 0):=g3
 have g5':(w4.alloc (.cells #[.slice Y4 m4 c4] 31)).cell? ⟨w.heap.size + 1 + 1 + 1,0,none⟩ = some (.slice none 0 0):=g5
 have g6':(w4.alloc (.cells #[.slice Y4 m4 c4] 31)).frozen? ⟨w.heap.size + 1 + 1 + 1,0,none⟩ = false:=g6
 have ky5:((w4.alloc (.cells #[.slice Y4 m4 c4] 31)).setCell ⟨w.heap.size + 1 + 1,0,none⟩ (.slice X3 m3 c3)).drew.cell? ⟨w4.heap.size,0,none⟩ = some (.slice Y4 m4 c4):=cell_set (by omega) (zax rfl rfl)
 clear kg3 kb3 hy4 hb4
 go_wp2_with fail
 go_region
 all_goals
  go_wp2
  refine bodyPost_ret (v := .tuple #[.agg #[.slice X3 m3 c3], .agg #[.slice Y4 m4 c4]]) (by simp [results,Tryz.results113,go_sem,g3,g5,g3',g5']) rfl ?_
  exact ⟨_,_,_,_,_,_,rfl,zas.setBox (zas.setBox HX4.out (Box.of HS4.out.k2)) (Box.set (Box.of HS4.out.k3)),zas.setBox (zas.setBox HY4.out (Box.of HS4.out.k2)) (Box.set (Box.of HS4.out.k3)),Below.setCell (Below.setCell HS4.out.bel (p:=⟨w.heap.size + 1 + 1,0,none⟩) (by show w.heap.size ≤ w.heap.size + 1 + 1;omega) _) (p:=⟨w.heap.size + 1 + 1 + 1,0,none⟩) (by show w.heap.size ≤ w.heap.size + 1 + 1 + 1;omega) _⟩
end Gc
end Go.Proofs.YtdbgbaiekpbaoaaGreatDoor
