/- rat.New by its contract. Conditions: as each says. Fractions: their size; a box with a whole number, with a fraction. Conditions: as each says. Conditions: as they say. -/
import Derived.Test.YtohkhcbocknliaaRat2M
namespace Go.Proofs.Ytohkhcbocknliaa
set_option linter.unusedSimpArgs false
set_option linter.unusedVariables false
open Go.RowKit Am
attribute [local go_sem ↓] Go.wp_at_zero Go.wp_at_succ
set_option maxHeartbeats 20000000
set_option maxRecDepth 100000
namespace Rt
theorem newd (g : Bool) (A : Option Addr) (m c : Nat) (x : Int) (g' : Bool) (B : Option Addr) (m' c' : Nat) (y : Int) (w : World) (h : IntS w g (.slice A m c) x) (h' : IntS w g' (.slice B m' c') y) (hy : y ≠ 0) (hla : wlen x.natAbs + 1 ≤ LIM) (hlb : wlen y.natAbs + 1 ≤ LIM) :
    Calls Try.prog 35 #[.agg #[.bool g, .slice A m c], .agg #[.bool g', .slice B m' c']] w (RetRatB w (Rat.divInt x y) true) := by
  have hs0 : (y.sign == 0) = false := by rw [show (y.sign == 0) = decide (y.sign = 0) from rfl, decide_eq_false]; rw [Int.sign_eq_zero_iff_zero]; exact hy
  have HY0 := Lib.hid hy
  have HLA := Lib.hid hla
  have HLB := Lib.hid hlb
  clear hy hla hlb
  obtain ⟨W, hW⟩ : ∃ W, (((w.alloc (.cells #[.bool g, .slice A m c] 38)).alloc (.cells #[.bool g', .slice B m' c'] 38)).alloc (.cells #[.bool false, .slice none 0 0, .slice none 0 0] 40)) = W := ⟨_, rfl⟩
  have KB0 := Lib.hid (show W.heap[w.heap.size]? = some (.cells #[.bool g, .slice A m c] 38 (0, 0)) by rw [← hW]; exact blk_al (blk_al (blk_nw (by simp))))
  have KB1 := Lib.hid (show W.heap[w.heap.size + 1]? = some (.cells #[.bool g', .slice B m' c'] 38 (0, 0)) by rw [← hW]; exact blk_al (blk_nw (by simp)))
  have KB2 := Lib.hid (show W.heap[w.heap.size + 1 + 1]? = some (.cells #[.bool false, .slice none 0 0, .slice none 0 0] 40 (0, 0)) by rw [← hW]; exact blk_nw (by simp))
  have BB := Lib.hid (show Below w.heap.size w W by rw [← hW]; exact ((below_alloc w _).alloc (by simp) _).alloc (by simp; omega) _)
  have HZ := Lib.hid (show w.heap.size + 3 ≤ W.heap.size by rw [← hW]; simp)
  have HX := Lib.hid (show IntS W g (.slice A m c) x by rw [← hW]; exact (((h).alloc _).alloc _).alloc _)
  have HY := Lib.hid (show IntS W g' (.slice B m' c') y by rw [← hW]; exact (((h').alloc _).alloc _).alloc _)
  obtain ⟨c0_0_0, c0_0_0d, c0_1_0, c0_1_0d⟩ := bc2 KB0.out
  obtain ⟨c1_0_0, c1_0_0d, c1_1_0, c1_1_0d⟩ := bc2 KB1.out
  obtain ⟨c2_0_0, c2_0_0d, fc2_0_0, fc2_0_0d, c2_1_0, c2_1_0d, fc2_1_0, fc2_1_0d, c2_2_0, c2_2_0d, fc2_2_0, fc2_2_0d⟩ := bf3 KB2.out
  clear h h'
  go_enter Try.func35, Try.ntmps35
  go_wp2_with fail
  clear hW
  with_reducible refine (It.sign g' B m' c' y _ HY.out).mono ?_
  rintro e w1 ⟨rfl, hb⟩
  have KB0_1 := Lib.hid (keepBlk hb KB0.out)
  have KB1_1 := Lib.hid (keepBlk hb KB1.out)
  have KB2_1 := Lib.hid (keepBlk hb KB2.out)
  have HX_1 := Lib.hid (HX.out.below hb)
  have HY_1 := Lib.hid (HY.out.below hb)
  have BB_1 := Lib.hid (BB.out.trans ((hb).mono BB.out.size))
  obtain ⟨c0_0_1, c0_0_1d, c0_1_1, c0_1_1d⟩ := bc2 KB0_1.out
  obtain ⟨c1_0_1, c1_0_1d, c1_1_1, c1_1_1d⟩ := bc2 KB1_1.out
  obtain ⟨c2_0_1, c2_0_1d, fc2_0_1, fc2_0_1d, c2_1_1, c2_1_1d, fc2_1_1, fc2_1_1d, c2_2_1, c2_2_1d, fc2_2_1, fc2_2_1d⟩ := bf3 KB2_1.out
  clear hb
  go_wp2_with fail
  have HS := Lib.hid (show ∀ w', Below w1.heap.size w1 w' → ((w'.cell? ⟨w.heap.size, 0, none⟩ = some (.bool g) ∧ w'.cell? ⟨w.heap.size, 1, none⟩ = some (.slice A m c) ∧ w'.cell? ⟨w.heap.size + 1, 0, none⟩ = some (.bool g') ∧ w'.cell? ⟨w.heap.size + 1, 1, none⟩ = some (.slice B m' c')) ∧ Below w1.heap.size w1 w') from fun w' h => ⟨⟨keepCell h c0_0_1, keepCell h c0_1_1, keepCell h c1_0_1, keepCell h c1_1_1⟩, h⟩)
  go_cut [6, 7] (fun s6 s7 wr => ∃ (n6 n7 : Nat) (A2 : Option Addr) (m2 c2 : Nat) (A3 : Option Addr) (m3 c3 : Nat), s6 = .pointer (some ⟨n6, 0, none⟩) ∧ s7 = .pointer (some ⟨n7, 0, none⟩) ∧ Below w1.heap.size w1 wr ∧ wr.cell? ⟨n6, 0, none⟩ = some (.slice A2 m2 c2) ∧ wr.cell? ⟨n7, 0, none⟩ = some (.slice A3 m3 c3) ∧ NatS wr (.slice A2 m2 c2) (x.natAbs / Nat.gcd x.natAbs y.natAbs) ∧ NatS wr (.slice A3 m3 c3) (y.natAbs / Nat.gcd x.natAbs y.natAbs) ∧ w1.heap.size ≤ n6 ∧ w1.heap.size ≤ n7)
  case first =>
    go_region_held3 (fun w' => ((w'.cell? ⟨w.heap.size, 0, none⟩ = some (.bool g) ∧ w'.cell? ⟨w.heap.size, 1, none⟩ = some (.slice A m c) ∧ w'.cell? ⟨w.heap.size + 1, 0, none⟩ = some (.bool g') ∧ w'.cell? ⟨w.heap.size + 1, 1, none⟩ = some (.slice B m' c')) ∧ Below w1.heap.size w1 w'))
      ((refine HS.out _ ?_; repeat (first | exact Below.refl _ _ | exact (by assumption : _ ∧ Below _ _ _).2 | with_reducible refine bdrew ?_ | with_reducible refine al2 ?_ _ | with_reducible refine set2 ?_ (by omega) | with_reducible refine bstep2 ?_ (by assumption))))
      (first
        | (go_at_call 52; (with_reducible refine (It.abs g A m c _).mono ?_); rintro e u1 ⟨rfl, hb1⟩; have hz1 := hb1.size; (try simp at hz1); have hze1 : w1.heap.size ≤ u1.heap.size := (by omega); (try ((first | (have pp := keepBox (b := w1.heap.size) (v := .slice none 0 0) (t := 36) hb1 (blk_new _ _ _); obtain ⟨X1_0_0, ⟨X1_0_0c, X1_0_0f⟩, ⟨X1_0_0d, X1_0_0g⟩, ⟨X1_0_0e, X1_0_0h⟩, ⟨X1_0_0i, X1_0_0j⟩, X1_0_0k, X1_0_0l⟩ := pp) | (have pp := keepBox (b := w1.heap.size) (v := .slice none 0 0) (t := 36) hb1 (blk_al (blk_new _ _ _)); obtain ⟨X1_0_0, ⟨X1_0_0c, X1_0_0f⟩, ⟨X1_0_0d, X1_0_0g⟩, ⟨X1_0_0e, X1_0_0h⟩, ⟨X1_0_0i, X1_0_0j⟩, X1_0_0k, X1_0_0l⟩ := pp) | (have pp := keepBox (b := w1.heap.size) (v := .slice none 0 0) (t := 36) hb1 (box_new1 _ _ _ _); obtain ⟨X1_0_0, ⟨X1_0_0c, X1_0_0f⟩, ⟨X1_0_0d, X1_0_0g⟩, ⟨X1_0_0e, X1_0_0h⟩, ⟨X1_0_0i, X1_0_0j⟩, X1_0_0k, X1_0_0l⟩ := pp)); have X1_0_0 := Lib.hid X1_0_0)); (try ((first | (have pp := keepBox (b := w1.heap.size + 1) (v := .slice none 0 0) (t := 36) hb1 (blk_new _ _ _); obtain ⟨X1_0_1, ⟨X1_0_1c, X1_0_1f⟩, ⟨X1_0_1d, X1_0_1g⟩, ⟨X1_0_1e, X1_0_1h⟩, ⟨X1_0_1i, X1_0_1j⟩, X1_0_1k, X1_0_1l⟩ := pp) | (have pp := keepBox (b := w1.heap.size + 1) (v := .slice none 0 0) (t := 36) hb1 (blk_al (blk_new _ _ _)); obtain ⟨X1_0_1, ⟨X1_0_1c, X1_0_1f⟩, ⟨X1_0_1d, X1_0_1g⟩, ⟨X1_0_1e, X1_0_1h⟩, ⟨X1_0_1i, X1_0_1j⟩, X1_0_1k, X1_0_1l⟩ := pp) | (have pp := keepBox (b := w1.heap.size + 1) (v := .slice none 0 0) (t := 36) hb1 (box_new1 _ _ _ _); obtain ⟨X1_0_1, ⟨X1_0_1c, X1_0_1f⟩, ⟨X1_0_1d, X1_0_1g⟩, ⟨X1_0_1e, X1_0_1h⟩, ⟨X1_0_1i, X1_0_1j⟩, X1_0_1k, X1_0_1l⟩ := pp)); have X1_0_1 := Lib.hid X1_0_1)))
        | (go_at_call 52; (with_reducible refine (It.abs g' B m' c' _).mono ?_); rintro e u2 ⟨rfl, hb2⟩; have hz2 := hb2.size; (try simp at hz2); have hze2 : w1.heap.size ≤ u2.heap.size := (by omega); (try ((first | (have pp := keepBox (b := w1.heap.size) (v := .slice none 0 0) (t := 36) hb2 (X1_0_0.out); obtain ⟨X2_0_0, ⟨X2_0_0c, X2_0_0f⟩, ⟨X2_0_0d, X2_0_0g⟩, ⟨X2_0_0e, X2_0_0h⟩, ⟨X2_0_0i, X2_0_0j⟩, X2_0_0k, X2_0_0l⟩ := pp) | (have pp := keepBox (b := w1.heap.size) (v := .slice none 0 0) (t := 36) hb2 (blk_al X1_0_0.out); obtain ⟨X2_0_0, ⟨X2_0_0c, X2_0_0f⟩, ⟨X2_0_0d, X2_0_0g⟩, ⟨X2_0_0e, X2_0_0h⟩, ⟨X2_0_0i, X2_0_0j⟩, X2_0_0k, X2_0_0l⟩ := pp) | (have pp := keepBox (b := w1.heap.size) (v := .slice none 0 0) (t := 36) hb2 (blk_al (blk_al X1_0_0.out)); obtain ⟨X2_0_0, ⟨X2_0_0c, X2_0_0f⟩, ⟨X2_0_0d, X2_0_0g⟩, ⟨X2_0_0e, X2_0_0h⟩, ⟨X2_0_0i, X2_0_0j⟩, X2_0_0k, X2_0_0l⟩ := pp)); have X2_0_0 := Lib.hid X2_0_0)); (try ((first | (have pp := keepBox (b := w1.heap.size + 1) (v := .slice none 0 0) (t := 36) hb2 (X1_0_1.out); obtain ⟨X2_0_1, ⟨X2_0_1c, X2_0_1f⟩, ⟨X2_0_1d, X2_0_1g⟩, ⟨X2_0_1e, X2_0_1h⟩, ⟨X2_0_1i, X2_0_1j⟩, X2_0_1k, X2_0_1l⟩ := pp) | (have pp := keepBox (b := w1.heap.size + 1) (v := .slice none 0 0) (t := 36) hb2 (blk_al X1_0_1.out); obtain ⟨X2_0_1, ⟨X2_0_1c, X2_0_1f⟩, ⟨X2_0_1d, X2_0_1g⟩, ⟨X2_0_1e, X2_0_1h⟩, ⟨X2_0_1i, X2_0_1j⟩, X2_0_1k, X2_0_1l⟩ := pp) | (have pp := keepBox (b := w1.heap.size + 1) (v := .slice none 0 0) (t := 36) hb2 (blk_al (blk_al X1_0_1.out)); obtain ⟨X2_0_1, ⟨X2_0_1c, X2_0_1f⟩, ⟨X2_0_1d, X2_0_1g⟩, ⟨X2_0_1e, X2_0_1h⟩, ⟨X2_0_1i, X2_0_1j⟩, X2_0_1k, X2_0_1l⟩ := pp)); have X2_0_1 := Lib.hid X2_0_1)); (try ((first | (have pp := keepBox (b := u1.heap.size) (v := .slice none 0 0) (t := 36) hb2 (blk_new _ _ _); obtain ⟨X2_1_0, ⟨X2_1_0c, X2_1_0f⟩, ⟨X2_1_0d, X2_1_0g⟩, ⟨X2_1_0e, X2_1_0h⟩, ⟨X2_1_0i, X2_1_0j⟩, X2_1_0k, X2_1_0l⟩ := pp) | (have pp := keepBox (b := u1.heap.size) (v := .slice none 0 0) (t := 36) hb2 (blk_al (blk_new _ _ _)); obtain ⟨X2_1_0, ⟨X2_1_0c, X2_1_0f⟩, ⟨X2_1_0d, X2_1_0g⟩, ⟨X2_1_0e, X2_1_0h⟩, ⟨X2_1_0i, X2_1_0j⟩, X2_1_0k, X2_1_0l⟩ := pp) | (have pp := keepBox (b := u1.heap.size) (v := .slice none 0 0) (t := 36) hb2 (box_new1 _ _ _ _); obtain ⟨X2_1_0, ⟨X2_1_0c, X2_1_0f⟩, ⟨X2_1_0d, X2_1_0g⟩, ⟨X2_1_0e, X2_1_0h⟩, ⟨X2_1_0i, X2_1_0j⟩, X2_1_0k, X2_1_0l⟩ := pp)); have X2_1_0 := Lib.hid X2_1_0)); (try ((first | (have pp := keepBox (b := u1.heap.size + 1) (v := .slice none 0 0) (t := 36) hb2 (blk_new _ _ _); obtain ⟨X2_1_1, ⟨X2_1_1c, X2_1_1f⟩, ⟨X2_1_1d, X2_1_1g⟩, ⟨X2_1_1e, X2_1_1h⟩, ⟨X2_1_1i, X2_1_1j⟩, X2_1_1k, X2_1_1l⟩ := pp) | (have pp := keepBox (b := u1.heap.size + 1) (v := .slice none 0 0) (t := 36) hb2 (blk_al (blk_new _ _ _)); obtain ⟨X2_1_1, ⟨X2_1_1c, X2_1_1f⟩, ⟨X2_1_1d, X2_1_1g⟩, ⟨X2_1_1e, X2_1_1h⟩, ⟨X2_1_1i, X2_1_1j⟩, X2_1_1k, X2_1_1l⟩ := pp) | (have pp := keepBox (b := u1.heap.size + 1) (v := .slice none 0 0) (t := 36) hb2 (box_new1 _ _ _ _); obtain ⟨X2_1_1, ⟨X2_1_1c, X2_1_1f⟩, ⟨X2_1_1d, X2_1_1g⟩, ⟨X2_1_1e, X2_1_1h⟩, ⟨X2_1_1i, X2_1_1j⟩, X2_1_1k, X2_1_1l⟩ := pp)); have X2_1_1 := Lib.hid X2_1_1)))
        | (go_at_call 51; (with_reducible refine (Gc.reduce A B m c m' c' x.natAbs y.natAbs _ (by have h := (HX_1.out.below (by assumption : _ ∧ Below _ _ _).2); exact h.abs) (by have h := (HY_1.out.below (by assumption : _ ∧ Below _ _ _).2); exact h.abs) (Int.natAbs_pos.2 HY0.out) HLA.out HLB.out).mono ?_); rintro e u3 ⟨A2, m2, c2, A3, m3, c3, rfl, hn, hn2, hb3⟩; have hz3 := hb3.size; (try simp at hz3); have hze3 : w1.heap.size ≤ u3.heap.size := (by omega); (try ((first | (have pp := keepBox (b := w1.heap.size) (v := .slice none 0 0) (t := 36) hb3 (X2_0_0.out); obtain ⟨X3_0_0, ⟨X3_0_0c, X3_0_0f⟩, ⟨X3_0_0d, X3_0_0g⟩, ⟨X3_0_0e, X3_0_0h⟩, ⟨X3_0_0i, X3_0_0j⟩, X3_0_0k, X3_0_0l⟩ := pp) | (have pp := keepBox (b := w1.heap.size) (v := .slice none 0 0) (t := 36) hb3 (blk_al X2_0_0.out); obtain ⟨X3_0_0, ⟨X3_0_0c, X3_0_0f⟩, ⟨X3_0_0d, X3_0_0g⟩, ⟨X3_0_0e, X3_0_0h⟩, ⟨X3_0_0i, X3_0_0j⟩, X3_0_0k, X3_0_0l⟩ := pp) | (have pp := keepBox (b := w1.heap.size) (v := .slice none 0 0) (t := 36) hb3 (blk_al (blk_al X2_0_0.out)); obtain ⟨X3_0_0, ⟨X3_0_0c, X3_0_0f⟩, ⟨X3_0_0d, X3_0_0g⟩, ⟨X3_0_0e, X3_0_0h⟩, ⟨X3_0_0i, X3_0_0j⟩, X3_0_0k, X3_0_0l⟩ := pp)); have X3_0_0 := Lib.hid X3_0_0)); (try ((first | (have pp := keepBox (b := w1.heap.size + 1) (v := .slice none 0 0) (t := 36) hb3 (X2_0_1.out); obtain ⟨X3_0_1, ⟨X3_0_1c, X3_0_1f⟩, ⟨X3_0_1d, X3_0_1g⟩, ⟨X3_0_1e, X3_0_1h⟩, ⟨X3_0_1i, X3_0_1j⟩, X3_0_1k, X3_0_1l⟩ := pp) | (have pp := keepBox (b := w1.heap.size + 1) (v := .slice none 0 0) (t := 36) hb3 (blk_al X2_0_1.out); obtain ⟨X3_0_1, ⟨X3_0_1c, X3_0_1f⟩, ⟨X3_0_1d, X3_0_1g⟩, ⟨X3_0_1e, X3_0_1h⟩, ⟨X3_0_1i, X3_0_1j⟩, X3_0_1k, X3_0_1l⟩ := pp) | (have pp := keepBox (b := w1.heap.size + 1) (v := .slice none 0 0) (t := 36) hb3 (blk_al (blk_al X2_0_1.out)); obtain ⟨X3_0_1, ⟨X3_0_1c, X3_0_1f⟩, ⟨X3_0_1d, X3_0_1g⟩, ⟨X3_0_1e, X3_0_1h⟩, ⟨X3_0_1i, X3_0_1j⟩, X3_0_1k, X3_0_1l⟩ := pp)); have X3_0_1 := Lib.hid X3_0_1)); (try ((first | (have pp := keepBox (b := u1.heap.size) (v := .slice none 0 0) (t := 36) hb3 (X2_1_0.out); obtain ⟨X3_1_0, ⟨X3_1_0c, X3_1_0f⟩, ⟨X3_1_0d, X3_1_0g⟩, ⟨X3_1_0e, X3_1_0h⟩, ⟨X3_1_0i, X3_1_0j⟩, X3_1_0k, X3_1_0l⟩ := pp) | (have pp := keepBox (b := u1.heap.size) (v := .slice none 0 0) (t := 36) hb3 (blk_al X2_1_0.out); obtain ⟨X3_1_0, ⟨X3_1_0c, X3_1_0f⟩, ⟨X3_1_0d, X3_1_0g⟩, ⟨X3_1_0e, X3_1_0h⟩, ⟨X3_1_0i, X3_1_0j⟩, X3_1_0k, X3_1_0l⟩ := pp) | (have pp := keepBox (b := u1.heap.size) (v := .slice none 0 0) (t := 36) hb3 (blk_al (blk_al X2_1_0.out)); obtain ⟨X3_1_0, ⟨X3_1_0c, X3_1_0f⟩, ⟨X3_1_0d, X3_1_0g⟩, ⟨X3_1_0e, X3_1_0h⟩, ⟨X3_1_0i, X3_1_0j⟩, X3_1_0k, X3_1_0l⟩ := pp)); have X3_1_0 := Lib.hid X3_1_0)); (try ((first | (have pp := keepBox (b := u1.heap.size + 1) (v := .slice none 0 0) (t := 36) hb3 (X2_1_1.out); obtain ⟨X3_1_1, ⟨X3_1_1c, X3_1_1f⟩, ⟨X3_1_1d, X3_1_1g⟩, ⟨X3_1_1e, X3_1_1h⟩, ⟨X3_1_1i, X3_1_1j⟩, X3_1_1k, X3_1_1l⟩ := pp) | (have pp := keepBox (b := u1.heap.size + 1) (v := .slice none 0 0) (t := 36) hb3 (blk_al X2_1_1.out); obtain ⟨X3_1_1, ⟨X3_1_1c, X3_1_1f⟩, ⟨X3_1_1d, X3_1_1g⟩, ⟨X3_1_1e, X3_1_1h⟩, ⟨X3_1_1i, X3_1_1j⟩, X3_1_1k, X3_1_1l⟩ := pp) | (have pp := keepBox (b := u1.heap.size + 1) (v := .slice none 0 0) (t := 36) hb3 (blk_al (blk_al X2_1_1.out)); obtain ⟨X3_1_1, ⟨X3_1_1c, X3_1_1f⟩, ⟨X3_1_1d, X3_1_1g⟩, ⟨X3_1_1e, X3_1_1h⟩, ⟨X3_1_1i, X3_1_1j⟩, X3_1_1k, X3_1_1l⟩ := pp)); have X3_1_1 := Lib.hid X3_1_1)); (try ((first | (have pp := keepBox (b := u2.heap.size) (v := .slice none 0 0) (t := 36) hb3 (blk_new _ _ _); obtain ⟨X3_2_0, ⟨X3_2_0c, X3_2_0f⟩, ⟨X3_2_0d, X3_2_0g⟩, ⟨X3_2_0e, X3_2_0h⟩, ⟨X3_2_0i, X3_2_0j⟩, X3_2_0k, X3_2_0l⟩ := pp) | (have pp := keepBox (b := u2.heap.size) (v := .slice none 0 0) (t := 36) hb3 (blk_al (blk_new _ _ _)); obtain ⟨X3_2_0, ⟨X3_2_0c, X3_2_0f⟩, ⟨X3_2_0d, X3_2_0g⟩, ⟨X3_2_0e, X3_2_0h⟩, ⟨X3_2_0i, X3_2_0j⟩, X3_2_0k, X3_2_0l⟩ := pp) | (have pp := keepBox (b := u2.heap.size) (v := .slice none 0 0) (t := 36) hb3 (box_new1 _ _ _ _); obtain ⟨X3_2_0, ⟨X3_2_0c, X3_2_0f⟩, ⟨X3_2_0d, X3_2_0g⟩, ⟨X3_2_0e, X3_2_0h⟩, ⟨X3_2_0i, X3_2_0j⟩, X3_2_0k, X3_2_0l⟩ := pp)); have X3_2_0 := Lib.hid X3_2_0)); (try ((first | (have pp := keepBox (b := u2.heap.size + 1) (v := .slice none 0 0) (t := 36) hb3 (blk_new _ _ _); obtain ⟨X3_2_1, ⟨X3_2_1c, X3_2_1f⟩, ⟨X3_2_1d, X3_2_1g⟩, ⟨X3_2_1e, X3_2_1h⟩, ⟨X3_2_1i, X3_2_1j⟩, X3_2_1k, X3_2_1l⟩ := pp) | (have pp := keepBox (b := u2.heap.size + 1) (v := .slice none 0 0) (t := 36) hb3 (blk_al (blk_new _ _ _)); obtain ⟨X3_2_1, ⟨X3_2_1c, X3_2_1f⟩, ⟨X3_2_1d, X3_2_1g⟩, ⟨X3_2_1e, X3_2_1h⟩, ⟨X3_2_1i, X3_2_1j⟩, X3_2_1k, X3_2_1l⟩ := pp) | (have pp := keepBox (b := u2.heap.size + 1) (v := .slice none 0 0) (t := 36) hb3 (box_new1 _ _ _ _); obtain ⟨X3_2_1, ⟨X3_2_1c, X3_2_1f⟩, ⟨X3_2_1d, X3_2_1g⟩, ⟨X3_2_1e, X3_2_1h⟩, ⟨X3_2_1i, X3_2_1j⟩, X3_2_1k, X3_2_1l⟩ := pp)); have X3_2_1 := Lib.hid X3_2_1)); have HN := Lib.hid hn; have HN2 := Lib.hid hn2; clear hn hn2)
        | fail)
    all_goals
      go_wp2
      go_meet
      case rel =>
        refine ⟨_, _, A2, m2, c2, A3, m3, c3, rfl, rfl, (by assumption : _ ∧ Below w1.heap.size w1 _).2, ?_, ?_, ?_, ?_, ?_, ?_⟩
        all_goals
          repeat' (first
            | with_reducible exact HN.out
            | with_reducible exact HN2.out
            | with_reducible assumption
            | with_reducible exact cell_new0 _ _ _
            | with_reducible exact cell_new1 _ _ _ _
            | with_reducible refine cell_al ?_
            | with_reducible refine Box.cell ?_
            | with_reducible refine cell_set ?_ ?_
            | with_reducible exact Box.new _ _
            | with_reducible exact Box.new1 _ _ _
            | with_reducible refine Box.alloc ?_
            | with_reducible refine Box.set ?_
            | exact Box.of X3_0_0.out
            | exact Box.of X3_0_1.out
            | exact Box.of X3_1_0.out
            | exact Box.of X3_1_1.out
            | exact Box.of X3_2_0.out
            | exact Box.of X3_2_1.out
            | with_reducible refine NatS.alloc ?_ _
            | with_reducible refine NatS.setBox ?_ ?_
            | with_reducible refine NatS.drew ?_
            | omega)
  case rest =>
    obtain ⟨n6, n7, A2, m2, c2, A3, m3, c3, rfl, rfl, hbX, k6, k7, hn6, hn7, hg6, hg7⟩ := hcut
    have hw1 : w.heap.size + 1 + 1 + 1 ≤ w1.heap.size := by have := HZ.out; have := (Array.getElem?_eq_some_iff.1 KB2_1.out).1; omega
    have HE := Lib.hid (div_den x y HY0.out)
    have KB0_2 := Lib.hid (keepBlk hbX KB0_1.out)
    have KB1_2 := Lib.hid (keepBlk hbX KB1_1.out)
    have KB2_2 := Lib.hid (keepBlk hbX KB2_1.out)
    have HX_2 := Lib.hid (HX_1.out.below hbX)
    have HY_2 := Lib.hid (HY_1.out.below hbX)
    have HN := Lib.hid (show NatS wc (.slice A2 m2 c2) (x.natAbs / Nat.gcd x.natAbs y.natAbs) from hn6)
    have HD := Lib.hid (show NatS wc (.slice A3 m3 c3) (Rat.divInt x y).den from (HE.out ▸ hn7))
    have BB_2 := Lib.hid (BB_1.out.trans ((hbX).mono BB_1.out.size))
    obtain ⟨c0_0_2, c0_0_2d, c0_1_2, c0_1_2d⟩ := bc2 KB0_2.out
    obtain ⟨c1_0_2, c1_0_2d, c1_1_2, c1_1_2d⟩ := bc2 KB1_2.out
    obtain ⟨c2_0_2, c2_0_2d, fc2_0_2, fc2_0_2d, c2_1_2, c2_1_2d, fc2_1_2, fc2_1_2d, c2_2_2, c2_2_2d, fc2_2_2, fc2_2_2d⟩ := bf3 KB2_2.out
    have x0_2 : wc.cell? ⟨n6, 0, none⟩ = some (.slice A2 m2 c2) := k6
    have x0_2d := drewCell x0_2
    have x1_2 : wc.cell? ⟨n7, 0, none⟩ = some (.slice A3 m3 c3) := k7
    have x1_2d := drewCell x1_2
    clear hbX hn6 hn7 k6 k7 HS
    have HEQ := Lib.hid (show (if (!(g == g')) = true then -((x.natAbs / Nat.gcd x.natAbs y.natAbs : Nat) : Int) else ((x.natAbs / Nat.gcd x.natAbs y.natAbs : Nat) : Int)) = (Rat.divInt x y).num by rw [HX_1.out.neg, HY_1.out.neg]; exact div_num x y HY0.out)
    generalize Rat.divInt x y = q at *
    go_wp2_with fail
    go_region_held3 (fun w' => w'.cell? ⟨w.heap.size, 0, none⟩ = some (.bool g) ∧ w'.cell? ⟨w.heap.size, 1, none⟩ = some (.slice A m c) ∧ w'.cell? ⟨w.heap.size + 1, 0, none⟩ = some (.bool g') ∧ w'.cell? ⟨w.heap.size + 1, 1, none⟩ = some (.slice B m' c') ∧ w'.cell? ⟨n6, 0, none⟩ = some (.slice A2 m2 c2) ∧ w'.cell? ⟨n7, 0, none⟩ = some (.slice A3 m3 c3))
      (((try go_split_ands); (try simp only [World.cell?_drew]); (repeat' apply And.intro) <;> (repeat (first | with_reducible assumption | with_reducible refine cell_set (by omega) ?_ | with_reducible refine cell_al ?_))))
      (first
        | (go_at_call 54; (with_reducible refine (It.isBelow g A m c _).mono ?_); rintro e v1 ⟨rfl, hb⟩; have KB0_3 := Lib.hid (keepBlk hb KB0_2.out); have KB1_3 := Lib.hid (keepBlk hb KB1_2.out); have KB2_3 := Lib.hid (keepBlk hb KB2_2.out); have HX_3 := Lib.hid (HX_2.out.drew.below hb); have HY_3 := Lib.hid (HY_2.out.drew.below hb); have HN_3 := Lib.hid (HN.out.drew.below hb); have HD_3 := Lib.hid (HD.out.drew.below hb); have BB_3 := Lib.hid (BB_2.out.trans ((It.bdrew0' hb).mono BB_2.out.size)); obtain ⟨c0_0_3, c0_0_3d, c0_1_3, c0_1_3d⟩ := bc2 KB0_3.out; obtain ⟨c1_0_3, c1_0_3d, c1_1_3, c1_1_3d⟩ := bc2 KB1_3.out; obtain ⟨c2_0_3, c2_0_3d, fc2_0_3, fc2_0_3d, c2_1_3, c2_1_3d, fc2_1_3, fc2_1_3d, c2_2_3, c2_2_3d, fc2_2_3, fc2_2_3d⟩ := bf3 KB2_3.out; have x0_3 := keepCell hb x0_2d; have x0_3d := drewCell x0_3; have x1_3 := keepCell hb x1_2d; have x1_3d := drewCell x1_3; clear hb)
        | (go_at_call 54; (with_reducible refine (It.isBelow g' B m' c' _).mono ?_); rintro e v2 ⟨rfl, hb⟩; have KB0_4 := Lib.hid (keepBlk hb KB0_3.out); have KB1_4 := Lib.hid (keepBlk hb KB1_3.out); have KB2_4 := Lib.hid (keepBlk hb KB2_3.out); have HX_4 := Lib.hid (HX_3.out.below hb); have HY_4 := Lib.hid (HY_3.out.below hb); have HN_4 := Lib.hid (HN_3.out.below hb); have HD_4 := Lib.hid (HD_3.out.below hb); have BB_4 := Lib.hid (BB_3.out.trans ((hb).mono BB_3.out.size)); obtain ⟨c0_0_4, c0_0_4d, c0_1_4, c0_1_4d⟩ := bc2 KB0_4.out; obtain ⟨c1_0_4, c1_0_4d, c1_1_4, c1_1_4d⟩ := bc2 KB1_4.out; obtain ⟨c2_0_4, c2_0_4d, fc2_0_4, fc2_0_4d, c2_1_4, c2_1_4d, fc2_1_4, fc2_1_4d, c2_2_4, c2_2_4d, fc2_2_4, fc2_2_4d⟩ := bf3 KB2_4.out; have x0_4 := keepCell hb x0_3; have x0_4d := drewCell x0_4; have x1_4 := keepCell hb x1_3; have x1_4d := drewCell x1_4; clear hb)
        | (go_at_call 36; (with_reducible refine (It.new (!(g == g')) A2 m2 c2 (x.natAbs / Nat.gcd x.natAbs y.natAbs) _ HN_4.out).mono ?_); rintro e v3 ⟨g4, A4, m4, c4, rfl, hi, hb⟩; have KB0_5 := Lib.hid (keepBlk hb KB0_4.out); have KB1_5 := Lib.hid (keepBlk hb KB1_4.out); have KB2_5 := Lib.hid (keepBlk hb KB2_4.out); have HX_5 := Lib.hid (HX_4.out.below hb); have HY_5 := Lib.hid (HY_4.out.below hb); have HN_5 := Lib.hid (HN_4.out.below hb); have HD_5 := Lib.hid (HD_4.out.below hb); have HI := Lib.hid (show IntS v3 g4 (.slice A4 m4 c4) q.num from (by rw [HEQ.out] at hi; exact hi)); have BB_5 := Lib.hid (BB_4.out.trans ((hb).mono BB_4.out.size)); obtain ⟨c0_0_5, c0_0_5d, c0_1_5, c0_1_5d⟩ := bc2 KB0_5.out; obtain ⟨c1_0_5, c1_0_5d, c1_1_5, c1_1_5d⟩ := bc2 KB1_5.out; obtain ⟨c2_0_5, c2_0_5d, fc2_0_5, fc2_0_5d, c2_1_5, c2_1_5d, fc2_1_5, fc2_1_5d, c2_2_5, c2_2_5d, fc2_2_5, fc2_2_5d⟩ := bf3 KB2_5.out; have x0_5 := keepCell hb x0_4; have x0_5d := drewCell x0_5; have x1_5 := keepCell hb x1_4; have x1_5d := drewCell x1_5; clear hi hb)
        | (go_at_call 53; (with_reducible refine (bare g4 A4 m4 c4 A3 m3 c3 q _ HI.out HD_5.out).mono ?_); rintro e v4 ⟨g5, A5, m5, c5, D5, md5, cd5, rfl, hi, hb⟩; have KB0_6 := Lib.hid (keepBlk hb KB0_5.out); have KB1_6 := Lib.hid (keepBlk hb KB1_5.out); have KB2_6 := Lib.hid (keepBlk hb KB2_5.out); have HX_6 := Lib.hid (HX_5.out.below hb); have HY_6 := Lib.hid (HY_5.out.below hb); have HN_6 := Lib.hid (HN_5.out.below hb); have HD_6 := Lib.hid (HD_5.out.below hb); have HI_6 := Lib.hid (HI.out.below hb); have HR := Lib.hid (show RatS v4 g5 (.slice A5 m5 c5) (.slice D5 md5 cd5) q from hi); have BB_6 := Lib.hid (BB_5.out.trans ((hb).mono BB_5.out.size)); obtain ⟨c0_0_6, c0_0_6d, c0_1_6, c0_1_6d⟩ := bc2 KB0_6.out; obtain ⟨c1_0_6, c1_0_6d, c1_1_6, c1_1_6d⟩ := bc2 KB1_6.out; obtain ⟨c2_0_6, c2_0_6d, fc2_0_6, fc2_0_6d, c2_1_6, c2_1_6d, fc2_1_6, fc2_1_6d, c2_2_6, c2_2_6d, fc2_2_6, fc2_2_6d⟩ := bf3 KB2_6.out; have x0_6 := keepCell hb x0_5; have x0_6d := drewCell x0_6; have x1_6 := keepCell hb x1_5; have x1_6d := drewCell x1_6; clear hi hb)
        | fail)
    all_goals
      go_wp2
      refine bodyPost_ret (v := .tuple #[.agg #[.bool g5, .slice A5 m5 c5, .slice D5 md5 cd5], .bool true]) (by simp [results, Try.results35, go_sem, c2_0_6, c2_0_6d, c2_1_6, c2_1_6d, c2_2_6, c2_2_6d]) rfl ?_
      exact ⟨g5, A5, m5, c5, D5, md5, cd5, rfl, HR.out.set3 KB2_6.out (by decide) _ _ _, Below.setCell (Below.setCell (Below.setCell (BB_6.out) (p := ⟨w.heap.size + 1 + 1, 0, none⟩) (by show w.heap.size ≤ w.heap.size + 1 + 1; omega) _) (p := ⟨w.heap.size + 1 + 1, 1, none⟩) (by show w.heap.size ≤ w.heap.size + 1 + 1; omega) _) (p := ⟨w.heap.size + 1 + 1, 2, none⟩) (by show w.heap.size ≤ w.heap.size + 1 + 1; omega) _⟩
end Rt
end Go.Proofs.Ytohkhcbocknliaa
namespace Go.Proofs.Ytohkhcbocknliaa
set_option linter.unusedSimpArgs false
set_option linter.unusedVariables false
open Go.RowKit Am
attribute [local go_sem ↓] Go.wp_at_zero Go.wp_at_succ
set_option maxHeartbeats 8000000
set_option maxRecDepth 100000
/-- how many words the longer one of a fraction's parts has -/
def mw (q : Rat) : Nat := max (wlen q.num.natAbs) (wlen q.den)
theorem mw_num (q : Rat) : wlen q.num.natAbs ≤ mw q := Nat.le_max_left _ _
theorem mw_den (q : Rat) : wlen q.den ≤ mw q := Nat.le_max_right _ _
theorem wlen_imul (x y : Int) : wlen (x * y).natAbs ≤ wlen x.natAbs + wlen y.natAbs := by rw [Int.natAbs_mul]; exact wlen_mul _ _
theorem wlen_iadd (x y : Int) : wlen (x + y).natAbs ≤ max (wlen x.natAbs) (wlen y.natAbs) + 1 := Nat.le_trans (wlen_mono (Int.natAbs_add_le x y)) (wlen_add _ _)
theorem mw_divInt (x y : Int) (hy : y ≠ 0) : mw (Rat.divInt x y) ≤ max (wlen x.natAbs) (wlen y.natAbs) := by
  have h1 : wlen (Rat.divInt x y).num.natAbs ≤ wlen x.natAbs := by
    rw [← Rt.div_num x y hy]
    split
    · rw [Int.natAbs_neg, Int.natAbs_natCast]; exact wlen_mono (Nat.div_le_self _ _)
    · rw [Int.natAbs_natCast]; exact wlen_mono (Nat.div_le_self _ _)
  have h2 : wlen (Rat.divInt x y).den ≤ wlen y.natAbs := by rw [← Rt.div_den x y hy]; exact wlen_mono (Nat.div_le_self _ _)
  unfold mw; omega
theorem den_ne (a b : Rat) : ((a.den * b.den : Nat) : Int) ≠ 0 := by have := Nat.mul_pos a.den_pos b.den_pos; omega
theorem add_div (a b : Rat) : Rat.divInt (a.num * (b.den : Int) + b.num * (a.den : Int)) ((a.den * b.den : Nat) : Int) = a + b := by rw [Rat.add_def', Rat.divInt_ofNat]
theorem mul_div (a b : Rat) : Rat.divInt (a.num * b.num) ((a.den * b.den : Nat) : Int) = a * b := by rw [Rat.mul_def', Rat.divInt_ofNat]
theorem wlen_addn (a b : Rat) : wlen (a.num * (b.den : Int) + b.num * (a.den : Int)).natAbs ≤ mw a + mw b + 1 := by
  have h1 := wlen_iadd (a.num * (b.den : Int)) (b.num * (a.den : Int))
  have h2 := wlen_imul a.num (b.den : Int)
  have h3 := wlen_imul b.num (a.den : Int)
  rw [Int.natAbs_natCast] at h2 h3
  have := mw_num a; have := mw_num b; have := mw_den a; have := mw_den b
  omega
theorem wlen_dens (a b : Rat) : wlen (((a.den * b.den : Nat) : Int)).natAbs ≤ mw a + mw b := by
  rw [Int.natAbs_natCast]
  have := wlen_mul a.den b.den; have := mw_den a; have := mw_den b
  omega
theorem wlen_nums (a b : Rat) : wlen (a.num * b.num).natAbs ≤ mw a + mw b := by
  have := wlen_imul a.num b.num; have := mw_num a; have := mw_num b
  omega
theorem mw_add (a b : Rat) : mw (a + b) ≤ mw a + mw b + 1 := by
  rw [← add_div]
  have := mw_divInt (a.num * (b.den : Int) + b.num * (a.den : Int)) _ (den_ne a b); have := wlen_addn a b; have := wlen_dens a b
  omega
theorem mw_mul (a b : Rat) : mw (a * b) ≤ mw a + mw b := by
  rw [← mul_div]
  have := mw_divInt (a.num * b.num) _ (den_ne a b); have := wlen_nums a b; have := wlen_dens a b
  omega
theorem mw_neg (a : Rat) : mw (-a) = mw a := by unfold mw; rw [Rat.neg_num, Rat.neg_den, Int.natAbs_neg]
/-- s points to a box, made since B, that holds the whole number z -/
def BoxInt (B : World) (s : Value) (w : World) (z : Int) : Prop := ∃ (nb : Nat) (g : Bool) (A : Option Addr) (m c : Nat), s = .pointer (some ⟨nb, 0, none⟩) ∧ Below B.heap.size B w ∧ B.heap.size ≤ nb ∧ w.heap[nb]? = some (.cells #[.bool g, .slice A m c] 38 (0, 0)) ∧ IntS w g (.slice A m c) z
theorem BoxInt.of {B u : World} {nb : Nat} {g : Bool} {A : Option Addr} {m c : Nat} {z : Int} {v0 v1 : Value} (hb : Below B.heap.size B ((u.setCell ⟨nb, 0, none⟩ (.bool g)).setCell ⟨nb, 1, none⟩ (.slice A m c))) (hn : B.heap.size ≤ nb) (hk : u.heap[nb]? = some (.cells #[v0, v1] 38 (0, 0))) (hi : IntS u g (.slice A m c) z) :
    BoxInt B (.pointer (some ⟨nb, 0, none⟩)) ((u.setCell ⟨nb, 0, none⟩ (.bool g)).setCell ⟨nb, 1, none⟩ (.slice A m c)) z :=
  ⟨nb, g, A, m, c, rfl, hb, hn, blk_set _ (blk_set _ hk), hi.set2 hk (by decide) _ _⟩
def BoxRat (B : World) (s : Value) (w : World) (q : Rat) : Prop := ∃ (nb : Nat) (g : Bool) (A : Option Addr) (m c : Nat) (D : Option Addr) (md cd : Nat), s = .pointer (some ⟨nb, 0, none⟩) ∧ Below B.heap.size B w ∧ B.heap.size ≤ nb ∧ w.heap[nb]? = some (.cells #[.bool g, .slice A m c, .slice D md cd] 40 (0, 0)) ∧ RatS w g (.slice A m c) (.slice D md cd) q
theorem BoxRat.of {B u : World} {nb : Nat} {g : Bool} {A : Option Addr} {m c : Nat} {D : Option Addr} {md cd : Nat} {q : Rat} {v0 v1 v2 : Value} (hb : Below B.heap.size B (((u.setCell ⟨nb, 0, none⟩ (.bool g)).setCell ⟨nb, 1, none⟩ (.slice A m c)).setCell ⟨nb, 2, none⟩ (.slice D md cd))) (hn : B.heap.size ≤ nb) (hk : u.heap[nb]? = some (.cells #[v0, v1, v2] 40 (0, 0))) (hi : RatS u g (.slice A m c) (.slice D md cd) q) :
    BoxRat B (.pointer (some ⟨nb, 0, none⟩)) (((u.setCell ⟨nb, 0, none⟩ (.bool g)).setCell ⟨nb, 1, none⟩ (.slice A m c)).setCell ⟨nb, 2, none⟩ (.slice D md cd)) q :=
  ⟨nb, g, A, m, c, D, md, cd, rfl, hb, hn, blk_set _ (blk_set _ (blk_set _ hk)), hi.set3 hk (by decide) _ _ _⟩
theorem keepB {w w1 : World} {b : Nat} {cs : Array Value} {t : TypeId} (hb : Below w.heap.size w w1) (h : w.heap[b]? = some (.cells cs t (0, 0))) : w1.heap[b]? = some (.cells cs t (0, 0)) := keepBlk hb h
theorem IntS.nat {w : World} {g : Bool} {s : Value} {n : Nat} (h : IntS w g s (n : Int)) : NatS w s n := h.abs
end Go.Proofs.Ytohkhcbocknliaa
