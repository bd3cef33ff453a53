/- quot.DivMod,quot.Div,quot.Mod by their contracts. Conditions: as each says. gcd.Of and gcd.Reduce by their contracts. Conditions: as each says. gcd.Reduce by its contract. Conditions: as it says. integer.New,Abs,Below,Sign,Neg by their contracts. Conditions: as each says. Conditions: as they say. -/
import Derived.Test.YtdbgbaiekpbaoaaGreatDoorQuot7Zp
import Derived.Deep.LoopGhost
set_option linter.all false
namespace Go.Proofs.YtdbgbaiekpbaoaaGreatDoor
open Go.RowKit Am
open Lib (hid)
attribute [local go_sem ↓] Go.wp_at_zero Go.wp_at_succ
set_option maxHeartbeats 1000000
set_option maxRecDepth 100000
namespace Qt
theorem zyj (A B:Option Addr) (m c m' c' a b:Nat) (w:World) (ha:zas w (.slice A m c) a) (hb:zas w (.slice B m' c') b) (hb0:0 < b) (hla:wlen a + 1 ≤ LIM) :
  Calls Tryz.prog 176 #[.agg #[.slice A m c], .agg #[.slice B m' c']] w (zv4 w (a / b) (a % b) true):=by
 by_cases h1:wlen b ≤ 1
 ·exact zr5 A B m c m' c' a b w ha hb hb0 h1 (by omega)
 ·rcases Nat.lt_or_ge a b with h | h
  ·exact zpY A B m c m' c' a b w ha hb h1 h
  ·exact zr4 A B m c m' c' a b w ha hb h1 h hla
theorem div (A B:Option Addr) (m c m' c' a b:Nat) (w:World) (ha:zas w (.slice A m c) a) (hb:zas w (.slice B m' c') b) (hb0:0 < b) (hla:wlen a + 1 ≤ LIM) :
  Calls Tryz.prog 154 #[.agg #[.slice A m c], .agg #[.slice B m' c']] w (zjL w (a / b) true):=by
 have HA:=hid ha
 have HB:=hid hb
 have HLA:=hid hla
 have HB0:=hid hb0
 clear ha hb hla hb0
 go_enter Tryz.func154,Tryz.ntmps154
 go_wp2_with fail
 refine (zyj A B m c m' c' a b _ (((HA.out.alloc _).alloc _).alloc _) (((HB.out.alloc _).alloc _).alloc _) HB0.out HLA.out).mono ?_
 rintro e w2 ⟨A1,m1,c1,A2,m2,c2,rfl,hq,hr,hb2⟩
 have kk:=hid ((hb2.block (w.heap.size + 1 + 1) (by simp)).trans (zam (cs := #[.slice none 0 0]) (t:=31) (by simp)))
 have hz:=hb2.size
 simp at hz
 have HQ:=hid hq
 have HB2:=hid hb2
 clear hq hr hb2
 have g1:=hid (show ((w2.alloc (.cells #[.slice A1 m1 c1] 31)).alloc (.cells #[.slice A2 m2 c2] 31)).heap[w.heap.size + 1 + 1]? = some (.cells #[.slice none 0 0] 31 (0,0)) from zak (zak kk.out))
 have g3:=zac g1.out 0
 have g4:=zag g1.out 0
 simp only [List.getElem?_toArray,List.getElem?_cons_zero] at g3
 go_wp2
 refine bodyPost_ret (v := .tuple #[.agg #[.slice A1 m1 c1], .bool true]) (by simp [results,Tryz.results154,go_sem,g3]) rfl ?_
 have hb:Below w.heap.size w ((w2.alloc (.cells #[.slice A1 m1 c1] 31)).alloc (.cells #[.slice A2 m2 c2] 31)):=(((((zae w _).alloc (by simp) _).alloc (by simp;omega) _).trans (HB2.out.mono (by simp;omega))).alloc (by omega) _).alloc (by simp;omega) _
 exact ⟨_,_,_,rfl,zas.setBox ((HQ.out.alloc _).alloc _) (Box.of g1.out),Below.setCell hb (p:=⟨w.heap.size + 1 + 1,0,none⟩) (by show w.heap.size ≤ w.heap.size + 1 + 1;omega) _⟩
theorem mod (A B:Option Addr) (m c m' c' a b:Nat) (w:World) (ha:zas w (.slice A m c) a) (hb:zas w (.slice B m' c') b) (hb0:0 < b) (hla:wlen a + 1 ≤ LIM) :
  Calls Tryz.prog 175 #[.agg #[.slice A m c], .agg #[.slice B m' c']] w (zjL w (a % b) true):=by
 have HA:=hid ha
 have HB:=hid hb
 have HLA:=hid hla
 have HB0:=hid hb0
 clear ha hb hla hb0
 go_enter Tryz.func175,Tryz.ntmps175
 go_wp2_with fail
 refine (zyj A B m c m' c' a b _ (((HA.out.alloc _).alloc _).alloc _) (((HB.out.alloc _).alloc _).alloc _) HB0.out HLA.out).mono ?_
 rintro e w2 ⟨A1,m1,c1,A2,m2,c2,rfl,hq,hr,hb2⟩
 have kk:=hid ((hb2.block (w.heap.size + 1 + 1) (by simp)).trans (zam (cs := #[.slice none 0 0]) (t:=31) (by simp)))
 have hz:=hb2.size
 simp at hz
 have HR:=hid hr
 have HB2:=hid hb2
 clear hq hr hb2
 have g1:=hid (show ((w2.alloc (.cells #[.slice A1 m1 c1] 31)).alloc (.cells #[.slice A2 m2 c2] 31)).heap[w.heap.size + 1 + 1]? = some (.cells #[.slice none 0 0] 31 (0,0)) from zak (zak kk.out))
 have g3:=zac g1.out 0
 have g4:=zag g1.out 0
 simp only [List.getElem?_toArray,List.getElem?_cons_zero] at g3
 go_wp2
 refine bodyPost_ret (v := .tuple #[.agg #[.slice A2 m2 c2], .bool true]) (by simp [results,Tryz.results175,go_sem,g3]) rfl ?_
 have hb:Below w.heap.size w ((w2.alloc (.cells #[.slice A1 m1 c1] 31)).alloc (.cells #[.slice A2 m2 c2] 31)):=(((((zae w _).alloc (by simp) _).alloc (by simp;omega) _).trans (HB2.out.mono (by simp;omega))).alloc (by omega) _).alloc (by simp;omega) _
 exact ⟨_,_,_,rfl,zas.setBox ((HR.out.alloc _).alloc _) (Box.of g1.out),Below.setCell hb (p:=⟨w.heap.size + 1 + 1,0,none⟩) (by show w.heap.size ≤ w.heap.size + 1 + 1;omega) _⟩
end Qt
namespace Gc
structure GS (w wr:World) (A:Option Addr) (m c:Nat) (B:Option Addr) (m' c' x y:Nat):Prop where
  ka:wr.heap[w.heap.size]? = some (.cells #[.slice A m c] 31 (0,0))
  kb:wr.heap[w.heap.size + 1]? = some (.cells #[.slice B m' c'] 31 (0,0))
  kr:wr.heap[w.heap.size + 1 + 1]? = some (.cells #[.slice none 0 0] 31 (0,0))
  x:zas wr (.slice A m c) x
  y:zas wr (.slice B m' c') y
  bel:Below w.heap.size w wr
theorem GS.step {w wr w':World} {A:Option Addr} {m c:Nat} {B:Option Addr} {m' c' x y:Nat} (h:GS w wr A m c B m' c' x y) (hb:Below wr.heap.size wr w'):GS w w' A m c B m' c' x y :=
 ⟨zad hb h.ka,zad hb h.kb,zad hb h.kr,h.x.below hb,h.y.below hb,h.bel.trans (hb.mono h.bel.size)⟩
theorem GS.turn {w wr:World} {A:Option Addr} {m c:Nat} {B:Option Addr} {m' c' x y:Nat} (h:GS w wr A m c B m' c' x y) {C:Option Addr} {m3 c3 z:Nat} (hz:zas wr (.slice C m3 c3) z) :
  GS w ((wr.setCell ⟨w.heap.size,0,none⟩ (.slice B m' c')).setCell ⟨w.heap.size + 1,0,none⟩ (.slice C m3 c3)) B m' c' C m3 c3 y z:=by
 have b1:Box wr w.heap.size:=Box.of h.ka
 have b2:Box (wr.setCell ⟨w.heap.size,0,none⟩ (.slice B m' c')) (w.heap.size + 1):=Box.set (Box.of h.kb)
 have k2:=(Below.heap_setCell wr ⟨w.heap.size,0,none⟩ (.slice B m' c') (w.heap.size + 1) (by simp)).trans h.kb
 refine ⟨?_,one_setCell k2,?_,zas.setBox (zas.setBox h.y b1) b2,zas.setBox (zas.setBox hz b1) b2,Below.setCell (Below.setCell h.bel (p:=⟨w.heap.size,0,none⟩) (Nat.le_refl _) _) (p:=⟨w.heap.size + 1,0,none⟩) (by show w.heap.size ≤ w.heap.size + 1;omega) _⟩
 ·exact (Below.heap_setCell _ ⟨w.heap.size + 1,0,none⟩ _ w.heap.size (by simp)).trans (one_setCell h.ka)
 ·exact (Below.heap_setCell _ ⟨w.heap.size + 1,0,none⟩ _ (w.heap.size + 1 + 1) (by simp)).trans ((Below.heap_setCell _ ⟨w.heap.size,0,none⟩ _ (w.heap.size + 1 + 1) (by simp;omega)).trans h.kr)
theorem of (A B:Option Addr) (m c m' c' a b:Nat) (w:World) (ha:zas w (.slice A m c) a) (hb:zas w (.slice B m' c') b) (hla:wlen a + 1 ≤ LIM) (hlb:wlen b + 1 ≤ LIM) :
  Calls Tryz.prog 153 #[.agg #[.slice A m c], .agg #[.slice B m' c']] w (zc0 w (Nat.gcd a b)):=by
 have HA:=hid ha
 have HB:=hid hb
 have HLA:=hid hla
 have HLB:=hid hlb
 clear ha hb hla hlb
 go_enter Tryz.func153,Tryz.ntmps153
 go_wp2_with fail
 have HS:=hid (show GS w (((w.alloc (.cells #[.slice A m c] 31)).alloc (.cells #[.slice B m' c'] 31)).alloc (.cells #[.slice none 0 0] 31)) A m c B m' c' a b from
  ⟨zak (zak (zam rfl)),zak (zam (by simp)),zam (by simp),((HA.out.alloc _).alloc _).alloc _,((HB.out.alloc _).alloc _).alloc _,((zae w _).alloc (by simp) _).alloc (by simp;omega) _⟩)
 generalize ((w.alloc (.cells #[.slice A m c] 31)).alloc (.cells #[.slice B m' c'] 31)).alloc (.cells #[.slice none 0 0] 31) = w1 at *
 go_loopg [] b (fun gg wr => ∃ (A1:Option Addr) (m1 c1:Nat) (B1:Option Addr) (m2 c2 x y:Nat),GS w wr A1 m1 c1 B1 m2 c2 x y ∧ Nat.gcd x y = Nat.gcd a b ∧ wlen x + 1 ≤ LIM ∧ wlen y + 1 ≤ LIM ∧ y ≤ gg)
 case atStart => exact ⟨A,m,c,B,m',c',a,b,HS.out,rfl,HLA.out,HLB.out,Nat.le_refl _⟩
 case round =>
  obtain ⟨A1,m1,c1,B1,m2,c2,x,y,hG,hgcd,hlx,hly,hyg⟩:=hrel
  have HG:=hid hG
  have HGCD:=hid hgcd
  have HLX:=hid hlx
  have HLY:=hid hly
  have HYG:=hid hyg
  have kb:=zac hG.kb 0
  simp only [List.getElem?_toArray,List.getElem?_cons_zero] at kb
  clear hG hgcd hlx hly hyg
  rcases Nat.eq_zero_or_pos y with hy0 | hy0
  ·have hz:isZ y = true:=by rw [hy0];rfl
   have HY0:=hid hy0
   have HG2:=hid (HG.out.step (zae wr (.cells #[.slice B1 m2 c2] 31)))
   have ka2:=zac HG2.out.ka 0
   have kr2:=zac HG2.out.kr 0
   have kf2:=zag HG2.out.kr 0
   simp only [List.getElem?_toArray,List.getElem?_cons_zero] at ka2 kr2
   clear hy0
   go_wp2_with (go_at_call 111;(with_reducible refine (Nt.zero (.slice B1 m2 c2) y _ HG.out.y).mono ?_);rintro e w2 ⟨rfl,rfl⟩)
   refine bodyPost_ret (v := .agg #[.slice A1 m1 c1]) (by simp [results,Tryz.results153,go_sem,kr2]) rfl ?_
   have hx:=HG2.out.x
   have hg:=HGCD.out
   rw [HY0.out,Nat.gcd_zero_right] at hg
   rw [hg] at hx
   exact ⟨_,_,_,rfl,zas.setBox hx (Box.of HG2.out.kr),Below.setCell HG2.out.bel (p:=⟨w.heap.size + 1 + 1,0,none⟩) (by show w.heap.size ≤ w.heap.size + 1 + 1;omega) _⟩
  ·have hz:isZ y = false:=zk4 hy0
   have HY0:=hid hy0
   have HG2:=hid (HG.out.step (zae wr (.cells #[.slice B1 m2 c2] 31)))
   have ka2:=zac HG2.out.ka 0
   have kb2:=zac HG2.out.kb 0
   simp only [List.getElem?_toArray,List.getElem?_cons_zero] at ka2 kb2
   clear hy0
   go_wp2_with (first
    | (go_at_call 111;(with_reducible refine (Nt.zero (.slice B1 m2 c2) y _ HG.out.y).mono ?_);rintro e w2 ⟨rfl,rfl⟩)
    | (go_at_call 175;(with_reducible refine (Qt.mod A1 B1 m1 c1 m2 c2 x y _ HG2.out.x HG2.out.y HY0.out HLX.out).mono ?_);rintro e w3 ⟨A3,m3,c3,rfl,hr,hb3⟩;have HG3:=hid (HG2.out.step hb3);have HR3:=hid hr;clear hr hb3))
   have HG4:Hid (GS w (w3.alloc (.cells #[.slice A3 m3 c3] 31)).drew A1 m1 c1 B1 m2 c2 x y):=hid (HG3.out.step ((zae w3 _).drew))
   have HR4:Hid (zas (w3.alloc (.cells #[.slice A3 m3 c3] 31)).drew (.slice A3 m3 c3) (x % y)):=hid ((HR3.out.alloc _).drew)
   have kr4:(w3.alloc (.cells #[.slice A3 m3 c3] 31)).drew.cell? ⟨w3.heap.size,0,none⟩ = some (.slice A3 m3 c3):=zax rfl rfl
   have hlt:w.heap.size + 3 ≤ w3.heap.size:=by
    have:=(Array.getElem?_eq_some_iff.1 HG3.out.kr).1
    omega
   have ka4:=zac HG4.out.ka 0
   have kf4:=zag HG4.out.ka 0
   have kb4:=zac HG4.out.kb 0
   have kg4:=zag HG4.out.kb 0
   simp only [List.getElem?_toArray,List.getElem?_cons_zero] at ka4 kb4
   have kr5:((w3.alloc (.cells #[.slice A3 m3 c3] 31)).setCell ⟨w.heap.size,0,none⟩ (.slice B1 m2 c2)).drew.cell? ⟨w3.heap.size,0,none⟩ = some (.slice A3 m3 c3):=cell_set (by omega) (zax rfl rfl)
   have kb5:(w3.alloc (.cells #[.slice A3 m3 c3] 31)).cell? ⟨w.heap.size + 1,0,none⟩ = some (.slice B1 m2 c2):=kb4
   have kg5:(w3.alloc (.cells #[.slice A3 m3 c3] 31)).frozen? ⟨w.heap.size + 1,0,none⟩ = false:=kg4
   clear ka2 kb2 kb hz
   go_region
   all_goals
    go_wp2
    go_roundg (x % y)
    case measure => have:=Nat.mod_lt x HY0.out;have:=HYG.out;omega
    case rel =>
     refine ⟨B1,m2,c2,A3,m3,c3,y,x % y,HG4.out.turn HR4.out,?_,HLY.out,?_,Nat.le_refl _⟩
     ·rw [← HGCD.out,Nat.gcd_comm y, ← Nat.gcd_rec,Nat.gcd_comm]
     ·have:=zco (Nat.le_of_lt (Nat.mod_lt x HY0.out));have:=HLY.out;omega
end Gc
namespace Gc
structure RS (w wr:World) (A:Option Addr) (m c:Nat) (B:Option Addr) (m' c' x y:Nat):Prop where
  ka:wr.heap[w.heap.size]? = some (.cells #[.slice A m c] 31 (0,0))
  kb:wr.heap[w.heap.size + 1]? = some (.cells #[.slice B m' c'] 31 (0,0))
  k2:wr.heap[w.heap.size + 1 + 1]? = some (.cells #[.slice none 0 0] 31 (0,0))
  k3:wr.heap[w.heap.size + 1 + 1 + 1]? = some (.cells #[.slice none 0 0] 31 (0,0))
  x:zas wr (.slice A m c) x
  y:zas wr (.slice B m' c') y
  bel:Below w.heap.size w wr
theorem RS.step {w wr w':World} {A:Option Addr} {m c:Nat} {B:Option Addr} {m' c' x y:Nat} (h:RS w wr A m c B m' c' x y) (hb:Below wr.heap.size wr w'):RS w w' A m c B m' c' x y :=
 ⟨zad hb h.ka,zad hb h.kb,zad hb h.k2,zad hb h.k3,h.x.below hb,h.y.below hb,h.bel.trans (hb.mono h.bel.size)⟩
theorem zx8 {w:World} {b:Nat} {v:Value} (h:w.heap[b]? = some (.cells #[v] 31 (0,0))):w.cell? ⟨b,0,none⟩ = some v:=zac h 0
theorem reduce (A B:Option Addr) (m c m' c' a b:Nat) (w:World) (ha:zas w (.slice A m c) a) (hb:zas w (.slice B m' c') b) (hb0:0 < b) (hla:wlen a + 1 ≤ LIM) (hlb:wlen b + 1 ≤ LIM) :
  Calls Tryz.prog 113 #[.agg #[.slice A m c], .agg #[.slice B m' c']] w (zpo w (a / Nat.gcd a b) (b / Nat.gcd a b)):=by
 have HA:=hid ha
 have HB:=hid hb
 have HLA:=hid hla
 have HLB:=hid hlb
 have HG0:=hid (Nat.gcd_pos_of_pos_right a hb0)
 clear ha hb hla hlb hb0
 go_enter Tryz.func113,Tryz.ntmps113
 go_wp2_with fail
 have HS:=hid (show RS w ((((w.alloc (.cells #[.slice A m c] 31)).alloc (.cells #[.slice B m' c'] 31)).alloc (.cells #[.slice none 0 0] 31)).alloc (.cells #[.slice none 0 0] 31)) A m c B m' c' a b from
  ⟨zak (zak (zak (zam rfl))),zak (zak (zam (by simp))),zak (zam (by simp)),zam (by simp),(((HA.out.alloc _).alloc _).alloc _).alloc _,(((HB.out.alloc _).alloc _).alloc _).alloc _,(((zae w _).alloc (by simp) _).alloc (by simp;omega) _).alloc (by simp;omega) _⟩)
 generalize (((w.alloc (.cells #[.slice A m c] 31)).alloc (.cells #[.slice B m' c'] 31)).alloc (.cells #[.slice none 0 0] 31)).alloc (.cells #[.slice none 0 0] 31) = W0 at *
 refine (of A B m c m' c' a b _ HS.out.x HS.out.y HLA.out HLB.out).mono ?_
 rintro e w1 ⟨G1,mg,cg,rfl,hg1,hb1⟩
 have HS1:=hid ((HS.out.step hb1).step (zae w1 (.cells #[.slice G1 mg cg] 31)))
 have HN1:=hid (hg1.alloc (.cells #[.slice G1 mg cg] 31))
 have kg1:(w1.alloc (.cells #[.slice G1 mg cg] 31)).heap[w1.heap.size]? = some (.cells #[.slice G1 mg cg] 31 (0,0)):=zam rfl
 have KG1:=hid kg1
 have kgc:=zx8 kg1
 clear hg1 hb1 kg1
 have hz:isZ (Nat.gcd a b) = false:=zk4 HG0.out
 go_wp2_with fail
 generalize w1.alloc (.cells #[.slice G1 mg cg] 31) = W1 at *
 generalize w1.heap.size = gb at *
 refine (Nt.zero (.slice G1 mg cg) (Nat.gcd a b) _ HN1.out).mono ?_
 rintro e w' ⟨rfl,rfl⟩
 rw [hz]
 have HS2:=hid (HS1.out.step (zae W1 (.cells #[.slice G1 mg cg] 31)))
 have HN2:=hid (HN1.out.alloc (.cells #[.slice G1 mg cg] 31))
 have KG2:=hid (zad (zae W1 (.cells #[.slice G1 mg cg] 31)) KG1.out)
 have kg2:=zx8 KG2.out
 have ka2:=zx8 HS2.out.ka
 clear kgc hz
 generalize W1.alloc (.cells #[.slice G1 mg cg] 31) = W2 at *
 go_wp2_with fail
 refine (Qt.div A G1 m c mg cg a (Nat.gcd a b) _ HS2.out.x HN2.out HG0.out HLA.out).mono ?_
 rintro e w3 ⟨X3,m3,c3,rfl,hx3,hb3⟩
 have HS3:=hid ((HS2.out.step hb3).step (zae w3 (.cells #[.slice X3 m3 c3] 31)))
 have HN3:=hid ((HN2.out.below hb3).alloc (.cells #[.slice X3 m3 c3] 31))
 have HX3:=hid (hx3.alloc (.cells #[.slice X3 m3 c3] 31))
 have KG3:=hid (zad (zae w3 (.cells #[.slice X3 m3 c3] 31)) (zad hb3 KG2.out))
 have kx3:(w3.alloc (.cells #[.slice X3 m3 c3] 31)).heap[w3.heap.size]? = some (.cells #[.slice X3 m3 c3] 31 (0,0)):=zam rfl
 have KX3:=hid kx3
 have kg3:=zx8 KG3.out
 have kb3:=zx8 HS3.out.kb
 clear kg2 ka2 kx3 hx3 hb3
 go_wp2_with fail
 generalize w3.alloc (.cells #[.slice X3 m3 c3] 31) = W3 at *
 generalize w3.heap.size = xb at *
 refine (Qt.div B G1 m' c' mg cg b (Nat.gcd a b) _ HS3.out.y HN3.out HG0.out HLB.out).mono ?_
 rintro e w4 ⟨Y4,m4,c4,rfl,hy4,hb4⟩
 have HS4:Hid (RS w (w4.alloc (.cells #[.slice Y4 m4 c4] 31)).drew A m c B m' c' a b):=hid ((HS3.out.step hb4).step ((zae w4 _).drew))
 have HX4:Hid (zas (w4.alloc (.cells #[.slice Y4 m4 c4] 31)).drew (.slice X3 m3 c3) (a / Nat.gcd a b)):=hid (((HX3.out.below hb4).alloc _).drew)
 have HY4:Hid (zas (w4.alloc (.cells #[.slice Y4 m4 c4] 31)).drew (.slice Y4 m4 c4) (b / Nat.gcd a b)):=hid ((hy4.alloc _).drew)
 have kx4:(w4.alloc (.cells #[.slice Y4 m4 c4] 31)).drew.cell? ⟨xb,0,none⟩ = some (.slice X3 m3 c3):=cell_al (zx8 (zad hb4 KX3.out))
 have ky4:(w4.alloc (.cells #[.slice Y4 m4 c4] 31)).drew.cell? ⟨w4.heap.size,0,none⟩ = some (.slice Y4 m4 c4):=zax rfl rfl
 have hxw:w.heap.size + 4 ≤ w4.heap.size:=by have:=(Array.getElem?_eq_some_iff.1 (zad hb4 HS3.out.k3)).1;omega
 have g3:=zx8 HS4.out.k2
 have g4:=zag HS4.out.k2 0
 have g5:=zx8 HS4.out.k3
 have g6:=zag HS4.out.k3 0
 have g3':(w4.alloc (.cells #[.slice Y4 m4 c4] 31)).cell? ⟨w.heap.size + 1 + 1,0,none⟩ = some (.slice none 0 0):=g3
 have g5':(w4.alloc (.cells #[.slice Y4 m4 c4] 31)).cell? ⟨w.heap.size + 1 + 1 + 1,0,none⟩ = some (.slice none 0 0):=g5
 have g6':(w4.alloc (.cells #[.slice Y4 m4 c4] 31)).frozen? ⟨w.heap.size + 1 + 1 + 1,0,none⟩ = false:=g6
 have ky5:((w4.alloc (.cells #[.slice Y4 m4 c4] 31)).setCell ⟨w.heap.size + 1 + 1,0,none⟩ (.slice X3 m3 c3)).drew.cell? ⟨w4.heap.size,0,none⟩ = some (.slice Y4 m4 c4):=cell_set (by omega) (zax rfl rfl)
 clear kg3 kb3 hy4 hb4
 go_wp2_with fail
 go_region
 all_goals
  go_wp2
  refine bodyPost_ret (v := .tuple #[.agg #[.slice X3 m3 c3], .agg #[.slice Y4 m4 c4]]) (by simp [results,Tryz.results113,go_sem,g3,g5,g3',g5']) rfl ?_
  exact ⟨_,_,_,_,_,_,rfl,zas.setBox (zas.setBox HX4.out (Box.of HS4.out.k2)) (Box.set (Box.of HS4.out.k3)),zas.setBox (zas.setBox HY4.out (Box.of HS4.out.k2)) (Box.set (Box.of HS4.out.k3)),Below.setCell (Below.setCell HS4.out.bel (p:=⟨w.heap.size + 1 + 1,0,none⟩) (by show w.heap.size ≤ w.heap.size + 1 + 1;omega) _) (p:=⟨w.heap.size + 1 + 1 + 1,0,none⟩) (by show w.heap.size ≤ w.heap.size + 1 + 1 + 1;omega) _⟩
end Gc
structure IntS (w:World) (g:Bool) (s:Value) (z:Int):Prop where
  abs:zas w s z.natAbs
  neg:g = decide (z < 0)
theorem IntS.below {w w':World} {g:Bool} {s:Value} {z:Int} (h:IntS w g s z) (hb:Below w.heap.size w w'):IntS w' g s z:=⟨h.abs.below hb,h.neg⟩
theorem IntS.alloc {w:World} {g:Bool} {s:Value} {z:Int} (h:IntS w g s z) (o:Obj):IntS (w.alloc o) g s z:=⟨h.abs.alloc o,h.neg⟩
def zfg (w:World) (z:Int) (e:Ending) (w':World):Prop := ∃ (g:Bool) (A:Option Addr) (m c:Nat),e = .returned (.agg #[.bool g, .slice A m c]) ∧ IntS w' g (.slice A m c) z ∧ Below w.heap.size w w'
namespace It
theorem zBc (g:Bool) (n:Nat):(g && !isZ n) = decide ((if g then -(n:Int) else (n:Int)) < 0):=by
 unfold isZ
 cases g
 ·simp
 ·by_cases h:n = 0
  ·simp [h]
  ·simp [h];omega
theorem zlh {w:World} {b:Nat} {u v:Value} {s:Value} {n:Nat} (h:zas w s n) (hb:w.heap[b]? = some (.cells #[.bool false, .slice none 0 0] 33 (0,0))):zas ((w.setCell ⟨b,0,none⟩ u).setCell ⟨b,1,none⟩ v) s n:=by
 have h1:=heap_setCell_same w b 0 _ 33 u hb
 exact (h.setCell (p:=⟨b,0,none⟩) hb (by decide) u).setCell (p:=⟨b,1,none⟩) h1 (by decide) v
theorem new (g:Bool) (A:Option Addr) (m c n:Nat) (w:World) (hn:zas w (.slice A m c) n) :
  Calls Tryz.prog 57 #[.bool g, .agg #[.slice A m c]] w (zfg w (if g then -(n:Int) else (n:Int))):=by
 have HS:=hid (zBc g n)
 obtain ⟨W,hW⟩:∃ W,W = (w.alloc (.cells #[.slice A m c] 31)).alloc (.cells #[.bool false, .slice none 0 0] 33):=⟨_,rfl⟩
 have HN:=hid (show zas W (.slice A m c) n by rw [hW];exact (hn.alloc _).alloc _)
 have HND:Hid (zas W.drew (.slice A m c) n):=hid HN.out.drew
 have HK0:=hid (show W.heap[w.heap.size]? = some (.cells #[.slice A m c] 31 (0,0)) by rw [hW];exact zak (zam rfl))
 have HR:=hid (show W.heap[w.heap.size + 1]? = some (.cells #[.bool false, .slice none 0 0] 33 (0,0)) by rw [hW];exact zam (by simp))
 have HB:=hid (show Below w.heap.size w W by rw [hW];exact (zae w _).alloc (by simp) _)
 have k0:W.drew.cell? ⟨w.heap.size,0,none⟩ = some (.slice A m c):=zac HK0.out 0
 have k1:(W.alloc (.cells #[.slice A m c] 31)).drew.cell? ⟨w.heap.size,0,none⟩ = some (.slice A m c):=cell_al (zac HK0.out 0)
 have HR2:Hid ((W.alloc (.cells #[.slice A m c] 31)).heap[w.heap.size + 1]? = some (.cells #[.bool false, .slice none 0 0] 33 (0,0))):=hid (zak HR.out)
 have r0:W.cell? ⟨w.heap.size + 1,0,none⟩ = some (.bool false):=zac HR.out 0
 have r1:W.cell? ⟨w.heap.size + 1,1,none⟩ = some (.slice none 0 0):=zac HR.out 1
 have rf0:=zag HR.out 0
 have rf1:=zag HR.out 1
 have q0:(W.alloc (.cells #[.slice A m c] 31)).cell? ⟨w.heap.size + 1,0,none⟩ = some (.bool false):=zac HR2.out 0
 have q1:(W.alloc (.cells #[.slice A m c] 31)).cell? ⟨w.heap.size + 1,1,none⟩ = some (.slice none 0 0):=zac HR2.out 1
 have qf0:=zag HR2.out 0
 have qf1:=zag HR2.out 1
 clear hn
 have HN2:Hid (zas (W.alloc (.cells #[.slice A m c] 31)) (.slice A m c) n):=hid (HN.out.alloc _)
 cases g
 case false =>
  go_enter Tryz.func57,Tryz.ntmps57
  go_wp2_with fail
  rw [← hW]
  clear hW
  go_region_with fail
  all_goals
   go_wp2
   refine bodyPost_ret (v := .agg #[.bool false, .slice A m c]) (by simp [results,Tryz.results57,go_sem,r0,r1]) rfl ?_
   exact ⟨false,A,m,c,rfl,⟨by simpa using (zlh HN.out HR.out).drew,by simp⟩,(Below.setCell (Below.setCell HB.out (p:=⟨w.heap.size + 1,0,none⟩) (by show w.heap.size ≤ w.heap.size + 1;omega) _) (p:=⟨w.heap.size + 1,1,none⟩) (by show w.heap.size ≤ w.heap.size + 1;omega) _).drew⟩
 case true =>
  go_enter Tryz.func57,Tryz.ntmps57
  go_wp2_with fail
  rw [← hW]
  clear hW
  go_region_with (go_at_call 111;(with_reducible refine (Nt.zero (.slice A m c) n _ HND.out).mono ?_);rintro e w2 ⟨rfl,rfl⟩)
  all_goals
   go_wp2
   refine bodyPost_ret (v := .agg #[.bool (!isZ n), .slice A m c]) (by simp [results,Tryz.results57,go_sem,q0,q1]) rfl ?_
   exact ⟨!isZ n,A,m,c,rfl,⟨by simpa using (zlh HN2.out HR2.out).drew,by have:=HS.out;simpa using this⟩,(Below.setCell (Below.setCell (HB.out.alloc HB.out.size _) (p:=⟨w.heap.size + 1,0,none⟩) (by show w.heap.size ≤ w.heap.size + 1;omega) _) (p:=⟨w.heap.size + 1,1,none⟩) (by show w.heap.size ≤ w.heap.size + 1;omega) _).drew⟩
end It
end Go.Proofs.YtdbgbaiekpbaoaaGreatDoor
