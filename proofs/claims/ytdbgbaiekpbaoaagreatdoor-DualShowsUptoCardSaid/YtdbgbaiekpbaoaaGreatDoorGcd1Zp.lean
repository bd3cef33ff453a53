/- gcd.Of and gcd.Reduce by their contracts. Conditions: as each says. -/
import Derived.Test.YtdbgbaiekpbaoaaGreatDoorQuot10Zp
import Derived.Deep.LoopGhost
set_option linter.all false
namespace Go.Proofs.YtdbgbaiekpbaoaaGreatDoor
open Go.RowKit Am
open Lib (hid)
attribute [local go_sem ↓] Go.wp_at_zero Go.wp_at_succ
set_option maxHeartbeats 1000000
set_option maxRecDepth 100000
namespace Gc
structure GS (w wr:World) (A:Option Addr) (m c:Nat) (B:Option Addr) (m' c' x y:Nat):Prop where
  ka:wr.heap[w.heap.size]? = some (.cells #[.slice A m c] 31 (0,0))
  kb:wr.heap[w.heap.size + 1]? = some (.cells #[.slice B m' c'] 31 (0,0))
  kr:wr.heap[w.heap.size + 1 + 1]? = some (.cells #[.slice none 0 0] 31 (0,0))
  x:zas wr (.slice A m c) x
  y:zas wr (.slice B m' c') y
  bel:Below w.heap.size w wr
theorem GS.step {w wr w':World} {A:Option Addr} {m c:Nat} {B:Option Addr} {m' c' x y:Nat} (h:GS w wr A m c B m' c' x y) (hb:Below wr.heap.size wr w'):GS w w' A m c B m' c' x y :=
 ⟨zad hb h.ka,zad hb h.kb,zad hb h.kr,h.x.below hb,h.y.below hb,h.bel.trans (hb.mono h.bel.size)⟩
theorem GS.turn {w wr:World} {A:Option Addr} {m c:Nat} {B:Option Addr} {m' c' x y:Nat} (h:GS w wr A m c B m' c' x y) {C:Option Addr} {m3 c3 z:Nat} (hz:zas wr (.slice C m3 c3) z) :
  GS w ((wr.setCell ⟨w.heap.size,0,none⟩ (.slice B m' c')).setCell ⟨w.heap.size + 1,0,none⟩ (.slice C m3 c3)) B m' c' C m3 c3 y z:=by
 have b1:Box wr w.heap.size:=Box.of h.ka
 have b2:Box (wr.setCell ⟨w.heap.size,0,none⟩ (.slice B m' c')) (w.heap.size + 1):=Box.set (Box.of h.kb)
 have k2:=(Below.heap_setCell wr ⟨w.heap.size,0,none⟩ (.slice B m' c') (w.heap.size + 1) (by simp)).trans h.kb
 refine ⟨?_,one_setCell k2,?_,zas.setBox (zas.setBox h.y b1) b2,zas.setBox (zas.setBox hz b1) b2,Below.setCell (Below.setCell h.bel (p:=⟨w.heap.size,0,none⟩) (Nat.le_refl _) _) (p:=⟨w.heap.size + 1,0,none⟩) (by show w.heap.size ≤ w.heap.size + 1;omega) _⟩
 ·exact (Below.heap_setCell _ ⟨w.heap.size + 1,0,none⟩ _ w.heap.size (by simp)).trans (one_setCell h.ka)
 ·exact (Below.heap_setCell _ ⟨w.heap.size + 1,0,none⟩ _ (w.heap.size + 1 + 1) (by simp)).trans ((Below.heap_setCell _ ⟨w.heap.size,0,none⟩ _ (w.heap.size + 1 + 1) (by simp;omega)).trans h.kr)
theorem of (A B:Option Addr) (m c m' c' a b:Nat) (w:World) (ha:zas w (.slice A m c) a) (hb:zas w (.slice B m' c') b) (hla:wlen a + 1 ≤ LIM) (hlb:wlen b + 1 ≤ LIM) :
  Calls Tryz.prog 153 #[.agg #[.slice A m c], .agg #[.slice B m' c']] w (zc0 w (Nat.gcd a b)):=by
 have HA:=hid ha
 have HB:=hid hb
 have HLA:=hid hla
 have HLB:=hid hlb
 clear ha hb hla hlb
 go_enter Tryz.func153,Tryz.ntmps153
 go_wp2_with fail
 have HS:=hid (show GS w (((w.alloc (.cells #[.slice A m c] 31)).alloc (.cells #[.slice B m' c'] 31)).alloc (.cells #[.slice none 0 0] 31)) A m c B m' c' a b from
  ⟨zak (zak (zam rfl)),zak (zam (by simp)),zam (by simp),((HA.out.alloc _).alloc _).alloc _,((HB.out.alloc _).alloc _).alloc _,((zae w _).alloc (by simp) _).alloc (by simp;omega) _⟩)
 generalize ((w.alloc (.cells #[.slice A m c] 31)).alloc (.cells #[.slice B m' c'] 31)).alloc (.cells #[.slice none 0 0] 31) = w1 at *
 go_loopg [] b (fun gg wr => ∃ (A1:Option Addr) (m1 c1:Nat) (B1:Option Addr) (m2 c2 x y:Nat),GS w wr A1 m1 c1 B1 m2 c2 x y ∧ Nat.gcd x y = Nat.gcd a b ∧ wlen x + 1 ≤ LIM ∧ wlen y + 1 ≤ LIM ∧ y ≤ gg)
 case atStart => exact ⟨A,m,c,B,m',c',a,b,HS.out,rfl,HLA.out,HLB.out,Nat.le_refl _⟩
 case round =>
  obtain ⟨A1,m1,c1,B1,m2,c2,x,y,hG,hgcd,hlx,hly,hyg⟩:=hrel
  have HG:=hid hG
  have HGCD:=hid hgcd
  have HLX:=hid hlx
  have HLY:=hid hly
  have HYG:=hid hyg
  have kb:=zac hG.kb 0
  simp only [List.getElem?_toArray,List.getElem?_cons_zero] at kb
  clear hG hgcd hlx hly hyg
  rcases Nat.eq_zero_or_pos y with hy0 | hy0
  ·have hz:isZ y = true:=by rw [hy0];rfl
   have HY0:=hid hy0
   have HG2:=hid (HG.out.step (zae wr (.cells #[.slice B1 m2 c2] 31)))
   have ka2:=zac HG2.out.ka 0
   have kr2:=zac HG2.out.kr 0
   have kf2:=zag HG2.out.kr 0
   simp only [List.getElem?_toArray,List.getElem?_cons_zero] at ka2 kr2
   clear hy0
   go_wp2_with (go_at_call 111;(with_reducible refine (Nt.zero (.slice B1 m2 c2) y _ HG.out.y).mono ?_);rintro e w2 ⟨rfl,rfl⟩)
   refine bodyPost_ret (v := .agg #[.slice A1 m1 c1]) (by simp [results,Tryz.results153,go_sem,kr2]) rfl ?_
   have hx:=HG2.out.x
   have hg:=HGCD.out
   rw [HY0.out,Nat.gcd_zero_right] at hg
   rw [hg] at hx
   exact ⟨_,_,_,rfl,zas.setBox hx (Box.of HG2.out.kr),Below.setCell HG2.out.bel (p:=⟨w.heap.size + 1 + 1,0,none⟩) (by show w.heap.size ≤ w.heap.size + 1 + 1;omega) _⟩
  ·have hz:isZ y = false:=zk4 hy0
   have HY0:=hid hy0
   have HG2:=hid (HG.out.step (zae wr (.cells #[.slice B1 m2 c2] 31)))
   have ka2:=zac HG2.out.ka 0
   have kb2:=zac HG2.out.kb 0
   simp only [List.getElem?_toArray,List.getElem?_cons_zero] at ka2 kb2
   clear hy0
   go_wp2_with (first
    | (go_at_call 111;(with_reducible refine (Nt.zero (.slice B1 m2 c2) y _ HG.out.y).mono ?_);rintro e w2 ⟨rfl,rfl⟩)
    | (go_at_call 175;(with_reducible refine (Qt.mod A1 B1 m1 c1 m2 c2 x y _ HG2.out.x HG2.out.y HY0.out HLX.out).mono ?_);rintro e w3 ⟨A3,m3,c3,rfl,hr,hb3⟩;have HG3:=hid (HG2.out.step hb3);have HR3:=hid hr;clear hr hb3))
   have HG4:Hid (GS w (w3.alloc (.cells #[.slice A3 m3 c3] 31)).drew A1 m1 c1 B1 m2 c2 x y):=hid (HG3.out.step ((zae w3 _).drew))
   have HR4:Hid (zas (w3.alloc (.cells #[.slice A3 m3 c3] 31)).drew (.slice A3 m3 c3) (x % y)):=hid ((HR3.out.alloc _).drew)
   have kr4:(w3.alloc (.cells #[.slice A3 m3 c3] 31)).drew.cell? ⟨w3.heap.size,0,none⟩ = some (.slice A3 m3 c3):=zax rfl rfl
   have hlt:w.heap.size + 3 ≤ w3.heap.size:=by
    have:=(Array.getElem?_eq_some_iff.1 HG3.out.kr).1
    omega
   have ka4:=zac HG4.out.ka 0
   have kf4:=zag HG4.out.ka 0
   have kb4:=zac HG4.out.kb 0
   have kg4:=zag HG4.out.kb 0
   simp only [List.getElem?_toArray,List.getElem?_cons_zero] at ka4 kb4
   have kr5:((w3.alloc (.cells #[.slice A3 m3 c3] 31)).setCell ⟨w.heap.size,0,none⟩ (.slice B1 m2 c2)).drew.cell? ⟨w3.heap.size,0,none⟩ = some (.slice A3 m3 c3):=cell_set (by omega) (zax rfl rfl)
   have kb5:(w3.alloc (.cells #[.slice A3 m3 c3] 31)).cell? ⟨w.heap.size + 1,0,none⟩ = some (.slice B1 m2 c2):=kb4
   have kg5:(w3.alloc (.cells #[.slice A3 m3 c3] 31)).frozen? ⟨w.heap.size + 1,0,none⟩ = false:=kg4
   clear ka2 kb2 kb hz
   go_region
   all_goals
    go_wp2
    go_roundg (x % y)
    case measure => have:=Nat.mod_lt x HY0.out;have:=HYG.out;omega
    case rel =>
     refine ⟨B1,m2,c2,A3,m3,c3,y,x % y,HG4.out.turn HR4.out,?_,HLY.out,?_,Nat.le_refl _⟩
     ·rw [← HGCD.out,Nat.gcd_comm y, ← Nat.gcd_rec,Nat.gcd_comm]
     ·have:=zco (Nat.le_of_lt (Nat.mod_lt x HY0.out));have:=HLY.out;omega
end Gc
end Go.Proofs.YtdbgbaiekpbaoaaGreatDoor
