/- quot.DivMod,quot.Div,quot.Mod by their contracts. Conditions: as each says. -/
import Derived.Test.YtdbgbaiekpbaoaaGreatDoorQuot7Zp
set_option linter.all false
namespace Go.Proofs.YtdbgbaiekpbaoaaGreatDoor
open Go.RowKit Am
open Lib (hid)
attribute [local go_sem ↓] Go.wp_at_zero Go.wp_at_succ
set_option maxHeartbeats 1000000
set_option maxRecDepth 100000
namespace Qt
theorem zyj (A B:Option Addr) (m c m' c' a b:Nat) (w:World) (ha:zas w (.slice A m c) a) (hb:zas w (.slice B m' c') b) (hb0:0 < b) (hla:wlen a + 1 ≤ LIM) :
  Calls Tryz.prog 176 #[.agg #[.slice A m c], .agg #[.slice B m' c']] w (zv4 w (a / b) (a % b) true):=by
 by_cases h1:wlen b ≤ 1
 ·exact zr5 A B m c m' c' a b w ha hb hb0 h1 (by omega)
 ·rcases Nat.lt_or_ge a b with h | h
  ·exact zpY A B m c m' c' a b w ha hb h1 h
  ·exact zr4 A B m c m' c' a b w ha hb h1 h hla
theorem div (A B:Option Addr) (m c m' c' a b:Nat) (w:World) (ha:zas w (.slice A m c) a) (hb:zas w (.slice B m' c') b) (hb0:0 < b) (hla:wlen a + 1 ≤ LIM) :
  Calls Tryz.prog 154 #[.agg #[.slice A m c], .agg #[.slice B m' c']] w (zjL w (a / b) true):=by
 have HA:=hid ha
 have HB:=hid hb
 have HLA:=hid hla
 have HB0:=hid hb0
 clear ha hb hla hb0
 go_enter Tryz.func154,Tryz.ntmps154
 go_wp2_with fail
 refine (zyj A B m c m' c' a b _ (((HA.out.alloc _).alloc _).alloc _) (((HB.out.alloc _).alloc _).alloc _) HB0.out HLA.out).mono ?_
 rintro e w2 ⟨A1,m1,c1,A2,m2,c2,rfl,hq,hr,hb2⟩
 have kk:=hid ((hb2.block (w.heap.size + 1 + 1) (by simp)).trans (zam (cs := #[.slice none 0 0]) (t:=31) (by simp)))
 have hz:=hb2.size
 simp at hz
 have HQ:=hid hq
 have HB2:=hid hb2
 clear hq hr hb2
 have g1:=hid (show ((w2.alloc (.cells #[.slice A1 m1 c1] 31)).alloc (.cells #[.slice A2 m2 c2] 31)).heap[w.heap.size + 1 + 1]? = some (.cells #[.slice none 0 0] 31 (0,0)) from zak (zak kk.out))
 have g3:=zac g1.out 0
 have g4:=zag g1.out 0
 simp only [List.getElem?_toArray,List.getElem?_cons_zero] at g3
 go_wp2
 refine bodyPost_ret (v := .tuple #[.agg #[.slice A1 m1 c1], .bool true]) (by simp [results,Tryz.results154,go_sem,g3]) rfl ?_
 have hb:Below w.heap.size w ((w2.alloc (.cells #[.slice A1 m1 c1] 31)).alloc (.cells #[.slice A2 m2 c2] 31)):=(((((zae w _).alloc (by simp) _).alloc (by simp;omega) _).trans (HB2.out.mono (by simp;omega))).alloc (by omega) _).alloc (by simp;omega) _
 exact ⟨_,_,_,rfl,zas.setBox ((HQ.out.alloc _).alloc _) (Box.of g1.out),Below.setCell hb (p:=⟨w.heap.size + 1 + 1,0,none⟩) (by show w.heap.size ≤ w.heap.size + 1 + 1;omega) _⟩
theorem mod (A B:Option Addr) (m c m' c' a b:Nat) (w:World) (ha:zas w (.slice A m c) a) (hb:zas w (.slice B m' c') b) (hb0:0 < b) (hla:wlen a + 1 ≤ LIM) :
  Calls Tryz.prog 175 #[.agg #[.slice A m c], .agg #[.slice B m' c']] w (zjL w (a % b) true):=by
 have HA:=hid ha
 have HB:=hid hb
 have HLA:=hid hla
 have HB0:=hid hb0
 clear ha hb hla hb0
 go_enter Tryz.func175,Tryz.ntmps175
 go_wp2_with fail
 refine (zyj A B m c m' c' a b _ (((HA.out.alloc _).alloc _).alloc _) (((HB.out.alloc _).alloc _).alloc _) HB0.out HLA.out).mono ?_
 rintro e w2 ⟨A1,m1,c1,A2,m2,c2,rfl,hq,hr,hb2⟩
 have kk:=hid ((hb2.block (w.heap.size + 1 + 1) (by simp)).trans (zam (cs := #[.slice none 0 0]) (t:=31) (by simp)))
 have hz:=hb2.size
 simp at hz
 have HR:=hid hr
 have HB2:=hid hb2
 clear hq hr hb2
 have g1:=hid (show ((w2.alloc (.cells #[.slice A1 m1 c1] 31)).alloc (.cells #[.slice A2 m2 c2] 31)).heap[w.heap.size + 1 + 1]? = some (.cells #[.slice none 0 0] 31 (0,0)) from zak (zak kk.out))
 have g3:=zac g1.out 0
 have g4:=zag g1.out 0
 simp only [List.getElem?_toArray,List.getElem?_cons_zero] at g3
 go_wp2
 refine bodyPost_ret (v := .tuple #[.agg #[.slice A2 m2 c2], .bool true]) (by simp [results,Tryz.results175,go_sem,g3]) rfl ?_
 have hb:Below w.heap.size w ((w2.alloc (.cells #[.slice A1 m1 c1] 31)).alloc (.cells #[.slice A2 m2 c2] 31)):=(((((zae w _).alloc (by simp) _).alloc (by simp;omega) _).trans (HB2.out.mono (by simp;omega))).alloc (by omega) _).alloc (by simp;omega) _
 exact ⟨_,_,_,rfl,zas.setBox ((HR.out.alloc _).alloc _) (Box.of g1.out),Below.setCell hb (p:=⟨w.heap.size + 1 + 1,0,none⟩) (by show w.heap.size ≤ w.heap.size + 1 + 1;omega) _⟩
end Qt
end Go.Proofs.YtdbgbaiekpbaoaaGreatDoor
