/- quot.DivMod, quot.Div, quot.Mod by their contracts. Conditions: as each says. -/
import Derived.Test.YtohkhcbocknliaaQuot7M
namespace Go.Proofs.Ytohkhcbocknliaa
open Go.RowKit Am
attribute [local go_sem ↓] Go.wp_at_zero Go.wp_at_succ
set_option maxHeartbeats 1000000
set_option maxRecDepth 100000
namespace Qt
/-- quot.DivMod. -/
theorem divMod (A B : Option Addr) (m c m' c' a b : Nat) (w : World) (ha : NatS w (.slice A m c) a) (hb : NatS w (.slice B m' c') b) (hb0 : 0 < b) (hla : wlen a + 1 ≤ LIM) :
    Calls Try.prog 77 #[.agg #[.slice A m c], .agg #[.slice B m' c']] w (RetQR w (a / b) (a % b) true) := by
  by_cases h1 : wlen b ≤ 1
  · exact divMod_one A B m c m' c' a b w ha hb hb0 h1 (by omega)
  · rcases Nat.lt_or_ge a b with h | h
    · exact divMod_less A B m c m' c' a b w ha hb h1 h
    · exact divMod_big A B m c m' c' a b w ha hb h1 h hla
theorem div (A B : Option Addr) (m c m' c' a b : Nat) (w : World) (ha : NatS w (.slice A m c) a) (hb : NatS w (.slice B m' c') b) (hb0 : 0 < b) (hla : wlen a + 1 ≤ LIM) :
    Calls Try.prog 68 #[.agg #[.slice A m c], .agg #[.slice B m' c']] w (RetNatB w (a / b) true) := by
  have HA := Lib.hid ha
  have HB := Lib.hid hb
  have HLA := Lib.hid hla
  have HB0 := Lib.hid hb0
  clear ha hb hla hb0
  go_enter Try.func68, Try.ntmps68
  go_wp2_with fail
  refine (divMod A B m c m' c' a b _ (((HA.out.alloc _).alloc _).alloc _) (((HB.out.alloc _).alloc _).alloc _) HB0.out HLA.out).mono ?_
  rintro e w2 ⟨A1, m1, c1, A2, m2, c2, rfl, hq, hr, hb2⟩
  have kk := Lib.hid ((hb2.block (w.heap.size + 1 + 1) (by simp)).trans (blk_nw (cs := #[.slice none 0 0]) (t := 36) (by simp)))
  have hz := hb2.size
  simp at hz
  have HQ := Lib.hid hq
  have HR := Lib.hid hr
  have HB2 := Lib.hid hb2
  clear hq hr hb2
  have g1 := Lib.hid (show ((w2.alloc (.cells #[.slice A1 m1 c1] 36)).alloc (.cells #[.slice A2 m2 c2] 36)).heap[w.heap.size + 1 + 1]? = some (.cells #[.slice none 0 0] 36 (0, 0)) from blk_al (blk_al kk.out))
  have g3 := blk_cell g1.out 0
  have g4 := blk_fro g1.out 0
  simp only [List.getElem?_toArray, List.getElem?_cons_zero] at g3
  go_wp2
  refine bodyPost_ret (v := .tuple #[.agg #[.slice A1 m1 c1], .bool true]) (by simp [results, Try.results68, go_sem, g3]) rfl ?_
  have hb : Below w.heap.size w ((w2.alloc (.cells #[.slice A1 m1 c1] 36)).alloc (.cells #[.slice A2 m2 c2] 36)) := (((((below_alloc w _).alloc (by simp) _).alloc (by simp; omega) _).trans (HB2.out.mono (by simp; omega))).alloc (by omega) _).alloc (by simp; omega) _
  exact ⟨_, _, _, rfl, NatS.setBox ((HQ.out.alloc _).alloc _) (Box.of g1.out), Below.setCell hb (p := ⟨w.heap.size + 1 + 1, 0, none⟩) (by show w.heap.size ≤ w.heap.size + 1 + 1; omega) _⟩
theorem mod (A B : Option Addr) (m c m' c' a b : Nat) (w : World) (ha : NatS w (.slice A m c) a) (hb : NatS w (.slice B m' c') b) (hb0 : 0 < b) (hla : wlen a + 1 ≤ LIM) :
    Calls Try.prog 76 #[.agg #[.slice A m c], .agg #[.slice B m' c']] w (RetNatB w (a % b) true) := by
  have HA := Lib.hid ha
  have HB := Lib.hid hb
  have HLA := Lib.hid hla
  have HB0 := Lib.hid hb0
  clear ha hb hla hb0
  go_enter Try.func76, Try.ntmps76
  go_wp2_with fail
  refine (divMod A B m c m' c' a b _ (((HA.out.alloc _).alloc _).alloc _) (((HB.out.alloc _).alloc _).alloc _) HB0.out HLA.out).mono ?_
  rintro e w2 ⟨A1, m1, c1, A2, m2, c2, rfl, hq, hr, hb2⟩
  have kk := Lib.hid ((hb2.block (w.heap.size + 1 + 1) (by simp)).trans (blk_nw (cs := #[.slice none 0 0]) (t := 36) (by simp)))
  have hz := hb2.size
  simp at hz
  have HQ := Lib.hid hq
  have HR := Lib.hid hr
  have HB2 := Lib.hid hb2
  clear hq hr hb2
  have g1 := Lib.hid (show ((w2.alloc (.cells #[.slice A1 m1 c1] 36)).alloc (.cells #[.slice A2 m2 c2] 36)).heap[w.heap.size + 1 + 1]? = some (.cells #[.slice none 0 0] 36 (0, 0)) from blk_al (blk_al kk.out))
  have g3 := blk_cell g1.out 0
  have g4 := blk_fro g1.out 0
  simp only [List.getElem?_toArray, List.getElem?_cons_zero] at g3
  go_wp2
  refine bodyPost_ret (v := .tuple #[.agg #[.slice A2 m2 c2], .bool true]) (by simp [results, Try.results76, go_sem, g3]) rfl ?_
  have hb : Below w.heap.size w ((w2.alloc (.cells #[.slice A1 m1 c1] 36)).alloc (.cells #[.slice A2 m2 c2] 36)) := (((((below_alloc w _).alloc (by simp) _).alloc (by simp; omega) _).trans (HB2.out.mono (by simp; omega))).alloc (by omega) _).alloc (by simp; omega) _
  exact ⟨_, _, _, rfl, NatS.setBox ((HR.out.alloc _).alloc _) (Box.of g1.out), Below.setCell hb (p := ⟨w.heap.size + 1 + 1, 0, none⟩) (by show w.heap.size ≤ w.heap.size + 1 + 1; omega) _⟩
end Qt
end Go.Proofs.Ytohkhcbocknliaa
