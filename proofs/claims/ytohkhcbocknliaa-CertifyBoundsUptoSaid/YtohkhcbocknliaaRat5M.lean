/- rat.Of, Add, Sub, Mul, Cmp by their contracts. Conditions: as each says. -/
import Derived.Test.YtohkhcbocknliaaRat3M
namespace Go.Proofs.Ytohkhcbocknliaa
set_option linter.unusedSimpArgs false
set_option linter.unusedVariables false
open Go.RowKit Am
attribute [local go_sem ↓] Go.wp_at_zero Go.wp_at_succ
set_option maxHeartbeats 8000000
set_option maxRecDepth 100000
theorem BoxInt.al {B u : World} {g : Bool} {A : Option Addr} {m c : Nat} {z : Int} (hb : Below B.heap.size B (u.alloc (.cells #[.bool g, .slice A m c] 38))) (hn : B.heap.size ≤ u.heap.size) (hi : IntS u g (.slice A m c) z) :
    BoxInt B (.pointer (some ⟨u.heap.size, 0, none⟩)) (u.alloc (.cells #[.bool g, .slice A m c] 38)) z := ⟨_, g, A, m, c, rfl, hb, hn, blk_new _ _ _, hi.alloc _⟩
theorem BoxRat.al {B u : World} {g : Bool} {A : Option Addr} {m c : Nat} {D : Option Addr} {md cd : Nat} {q : Rat} (hb : Below B.heap.size B (u.alloc (.cells #[.bool g, .slice A m c, .slice D md cd] 40))) (hn : B.heap.size ≤ u.heap.size) (hi : RatS u g (.slice A m c) (.slice D md cd) q) :
    BoxRat B (.pointer (some ⟨u.heap.size, 0, none⟩)) (u.alloc (.cells #[.bool g, .slice A m c, .slice D md cd] 40)) q := ⟨_, g, A, m, c, D, md, cd, rfl, hb, hn, blk_new _ _ _, hi.alloc _⟩
namespace Rt
theorem mul (g : Bool) (A : Option Addr) (m c : Nat) (D : Option Addr) (md cd : Nat) (a : Rat) (g' : Bool) (A' : Option Addr) (m' c' : Nat) (D' : Option Addr) (md' cd' : Nat) (b : Rat) (w : World) (h : RatS w g (.slice A m c) (.slice D md cd) a) (h' : RatS w g' (.slice A' m' c') (.slice D' md' cd') b) (hl : 4 * (mw a + mw b) + 8 ≤ LIM) :
    Calls Try.prog 11 #[.agg #[.bool g, .slice A m c, .slice D md cd], .agg #[.bool g', .slice A' m' c', .slice D' md' cd']] w (RetRat w (a * b)) := by
  have L1 := Lib.hid (show 4 * wlen a.num.natAbs ≤ LIM by have := mw_num a; omega)
  have L2 := Lib.hid (show 4 * wlen (b.den : Int).natAbs ≤ LIM by rw [Int.natAbs_natCast]; have := mw_den b; omega)
  have L3 := Lib.hid (show 4 * wlen b.num.natAbs ≤ LIM by have := mw_num b; omega)
  have L4 := Lib.hid (show 4 * wlen (a.den : Int).natAbs ≤ LIM by rw [Int.natAbs_natCast]; have := mw_den a; omega)
  have L5 := Lib.hid (show 4 * wlen a.den ≤ LIM by have := mw_den a; omega)
  have L6 := Lib.hid (show 4 * wlen b.den ≤ LIM by have := mw_den b; omega)
  have L7 := Lib.hid (show wlen (((a.den * b.den : Nat) : Int)).natAbs + 1 ≤ LIM by have := wlen_dens a b; omega)
  have L8 := Lib.hid (show wlen (a.num * b.num).natAbs + 1 ≤ LIM by have := wlen_nums a b; omega)
  have HV := Lib.hid (mul_div a b)
  have HD0 := Lib.hid (den_ne a b)
  clear hl
  obtain ⟨W, hW⟩ : ∃ W, (((w.alloc (.cells #[.bool g, .slice A m c, .slice D md cd] 40)).alloc (.cells #[.bool g', .slice A' m' c', .slice D' md' cd'] 40)).alloc (.cells #[.bool false, .slice none 0 0, .slice none 0 0] 40)) = W := ⟨_, rfl⟩
  have KB0 := Lib.hid (show W.heap[w.heap.size]? = some (.cells #[.bool g, .slice A m c, .slice D md cd] 40 (0, 0)) by rw [← hW]; exact blk_al (blk_al (blk_nw (by simp))))
  have KB1 := Lib.hid (show W.heap[w.heap.size + 1]? = some (.cells #[.bool g', .slice A' m' c', .slice D' md' cd'] 40 (0, 0)) by rw [← hW]; exact blk_al (blk_nw (by simp)))
  have KB2 := Lib.hid (show W.heap[w.heap.size + 1 + 1]? = some (.cells #[.bool false, .slice none 0 0, .slice none 0 0] 40 (0, 0)) by rw [← hW]; exact blk_nw (by simp))
  have BB := Lib.hid (show Below w.heap.size w W by rw [← hW]; exact ((below_alloc w _).alloc (by simp) _).alloc (by simp; omega) _)
  have HZ := Lib.hid (show w.heap.size + 3 ≤ W.heap.size by rw [← hW]; simp)
  have HX := Lib.hid (show RatS W g (.slice A m c) (.slice D md cd) a by rw [← hW]; exact (((h).alloc _).alloc _).alloc _)
  have HY := Lib.hid (show RatS W g' (.slice A' m' c') (.slice D' md' cd') b by rw [← hW]; exact (((h').alloc _).alloc _).alloc _)
  obtain ⟨c0_0_0, c0_0_0d, c0_1_0, c0_1_0d, c0_2_0, c0_2_0d⟩ := bc3 KB0.out
  obtain ⟨c1_0_0, c1_0_0d, c1_1_0, c1_1_0d, c1_2_0, c1_2_0d⟩ := bc3 KB1.out
  obtain ⟨c2_0_0, c2_0_0d, fc2_0_0, fc2_0_0d, c2_1_0, c2_1_0d, fc2_1_0, fc2_1_0d, c2_2_0, c2_2_0d, fc2_2_0, fc2_2_0d⟩ := bf3 KB2.out
  clear h h'
  go_enter Try.func11, Try.ntmps11
  go_wp2_with fail
  clear hW
  have HS := Lib.hid (show ∀ w', Below W.heap.size W w' → ((w'.cell? ⟨w.heap.size, 0, none⟩ = some (.bool g) ∧ w'.cell? ⟨w.heap.size, 1, none⟩ = some (.slice A m c) ∧ w'.cell? ⟨w.heap.size, 2, none⟩ = some (.slice D md cd) ∧ w'.cell? ⟨w.heap.size + 1, 0, none⟩ = some (.bool g') ∧ w'.cell? ⟨w.heap.size + 1, 1, none⟩ = some (.slice A' m' c') ∧ w'.cell? ⟨w.heap.size + 1, 2, none⟩ = some (.slice D' md' cd')) ∧ Below W.heap.size W w') from fun w' h => ⟨⟨keepCell h c0_0_0, keepCell h c0_1_0, keepCell h c0_2_0, keepCell h c1_0_0, keepCell h c1_1_0, keepCell h c1_2_0⟩, h⟩)
  go_cut [5] (fun s5 wr => BoxRat W s5 wr (a * b))
  case first =>
    go_region_held3 (fun w' => ((w'.cell? ⟨w.heap.size, 0, none⟩ = some (.bool g) ∧ w'.cell? ⟨w.heap.size, 1, none⟩ = some (.slice A m c) ∧ w'.cell? ⟨w.heap.size, 2, none⟩ = some (.slice D md cd) ∧ w'.cell? ⟨w.heap.size + 1, 0, none⟩ = some (.bool g') ∧ w'.cell? ⟨w.heap.size + 1, 1, none⟩ = some (.slice A' m' c') ∧ w'.cell? ⟨w.heap.size + 1, 2, none⟩ = some (.slice D' md' cd')) ∧ Below W.heap.size W w'))
      ((refine HS.out _ ?_; repeat (first | exact Below.refl _ _ | exact (by assumption : _ ∧ Below _ _ _).2 | with_reducible refine bdrew ?_ | with_reducible refine al2 ?_ _ | with_reducible refine set2 ?_ (by omega) | with_reducible refine bstep2 ?_ (by assumption))))
      (first
        | (go_at_call 33; (with_reducible refine (It.mul g A m c a.num g' A' m' c' b.num _ (by have h := (HX.out.below (by assumption : _ ∧ Below _ _ _).2); exact h.num) (by have h := (HY.out.below (by assumption : _ ∧ Below _ _ _).2); exact h.num) L1.out L3.out).mono ?_); rintro e u1 ⟨g2, A2, m2, c2, rfl, hn, hb1⟩; have hz1 := hb1.size; (try simp at hz1); have hze1 : W.heap.size ≤ u1.heap.size := (by omega); (try ((first | (have XB := Lib.hid (keepB (cs := #[.bool false, .slice none 0 0, .slice none 0 0]) (t := 40) hb1 XB.out)) | (have XB := Lib.hid (keepB (cs := #[.bool false, .slice none 0 0, .slice none 0 0]) (t := 40) hb1 (blk_new _ _ _)))); have XBc0 := blk_cell XB.out 0; have XBf0 := blk_fro XB.out 0; have XBc1 := blk_cell XB.out 1; have XBf1 := blk_fro XB.out 1; have XBc2 := blk_cell XB.out 2; have XBf2 := blk_fro XB.out 2)); have N2 := Lib.hid hn; clear hn)
        | (go_at_call 38; (with_reducible refine (den g A m c D md cd a _ (HX.out.below (by assumption : _ ∧ Below _ _ _).2)).mono ?_); rintro e u2 ⟨A3, m3, c3, rfl, hn, hb2⟩; have hz2 := hb2.size; (try simp at hz2); have hze2 : W.heap.size ≤ u2.heap.size := (by omega); (try ((first | (have XB := Lib.hid (keepB (cs := #[.bool false, .slice none 0 0, .slice none 0 0]) (t := 40) hb2 XB.out)) | (have XB := Lib.hid (keepB (cs := #[.bool false, .slice none 0 0, .slice none 0 0]) (t := 40) hb2 (blk_new _ _ _)))); have XBc0 := blk_cell XB.out 0; have XBf0 := blk_fro XB.out 0; have XBc1 := blk_cell XB.out 1; have XBf1 := blk_fro XB.out 1; have XBc2 := blk_cell XB.out 2; have XBf2 := blk_fro XB.out 2)); have N3 := Lib.hid hn; clear hn)
        | (go_at_call 38; (with_reducible refine (den g' A' m' c' D' md' cd' b _ (HY.out.below (by assumption : _ ∧ Below _ _ _).2)).mono ?_); rintro e u3 ⟨A4, m4, c4, rfl, hn, hb3⟩; have hz3 := hb3.size; (try simp at hz3); have hze3 : W.heap.size ≤ u3.heap.size := (by omega); (try ((first | (have XB := Lib.hid (keepB (cs := #[.bool false, .slice none 0 0, .slice none 0 0]) (t := 40) hb3 XB.out)) | (have XB := Lib.hid (keepB (cs := #[.bool false, .slice none 0 0, .slice none 0 0]) (t := 40) hb3 (blk_new _ _ _)))); have XBc0 := blk_cell XB.out 0; have XBf0 := blk_fro XB.out 0; have XBc1 := blk_cell XB.out 1; have XBf1 := blk_fro XB.out 1; have XBc2 := blk_cell XB.out 2; have XBf2 := blk_fro XB.out 2)); have N4 := Lib.hid hn; clear hn)
        | (go_at_call 37; (with_reducible refine (Pr.mul A3 A4 m3 c3 m4 c4 a.den b.den _ (by repeat (first | exact N3.out | with_reducible refine NatS.alloc ?_ _ | with_reducible refine NatS.drew ?_ | refine NatS.below ?_ hb3)) (by repeat (first | exact N4.out | with_reducible refine NatS.alloc ?_ _ | with_reducible refine NatS.drew ?_)) L5.out L6.out).mono ?_); rintro e u4 ⟨A5, m5, c5, rfl, hn, hb4⟩; have hz4 := hb4.size; (try simp at hz4); have hze4 : W.heap.size ≤ u4.heap.size := (by omega); (try ((first | (have XB := Lib.hid (keepB (cs := #[.bool false, .slice none 0 0, .slice none 0 0]) (t := 40) hb4 XB.out)) | (have XB := Lib.hid (keepB (cs := #[.bool false, .slice none 0 0, .slice none 0 0]) (t := 40) hb4 (blk_new _ _ _)))); have XBc0 := blk_cell XB.out 0; have XBf0 := blk_fro XB.out 0; have XBc1 := blk_cell XB.out 1; have XBf1 := blk_fro XB.out 1; have XBc2 := blk_cell XB.out 2; have XBf2 := blk_fro XB.out 2)); have N5 := Lib.hid hn; clear hn)
        | (go_at_call 36; (with_reducible refine (It.new false A5 m5 c5 (a.den * b.den) _ (by repeat (first | exact N5.out | with_reducible refine NatS.alloc ?_ _ | with_reducible refine NatS.drew ?_))).mono ?_); rintro e u5 ⟨g6, A6, m6, c6, rfl, hn, hb5⟩; have hz5 := hb5.size; (try simp at hz5); have hze5 : W.heap.size ≤ u5.heap.size := (by omega); (try ((first | (have XB := Lib.hid (keepB (cs := #[.bool false, .slice none 0 0, .slice none 0 0]) (t := 40) hb5 XB.out)) | (have XB := Lib.hid (keepB (cs := #[.bool false, .slice none 0 0, .slice none 0 0]) (t := 40) hb5 (blk_new _ _ _)))); have XBc0 := blk_cell XB.out 0; have XBf0 := blk_fro XB.out 0; have XBc1 := blk_cell XB.out 1; have XBf1 := blk_fro XB.out 1; have XBc2 := blk_cell XB.out 2; have XBf2 := blk_fro XB.out 2)); have N6 := Lib.hid (show IntS u5 g6 (.slice A6 m6 c6) ((a.den * b.den : Nat) : Int) from (by rw [if_neg (by decide)] at hn; exact hn)); clear hn)
        | (go_at_call 35; (with_reducible refine (newd g2 A2 m2 c2 (a.num * b.num) g6 A6 m6 c6 ((a.den * b.den : Nat) : Int) _ (by repeat (first | exact N2.out | with_reducible refine IntS.alloc ?_ _ | with_reducible refine IntS.drew ?_ | refine IntS.below ?_ hb5 | refine IntS.below ?_ hb4 | refine IntS.below ?_ hb3 | refine IntS.below ?_ hb2)) (by repeat (first | exact N6.out | with_reducible refine IntS.alloc ?_ _ | with_reducible refine IntS.drew ?_)) HD0.out L8.out L7.out).mono ?_); rintro e u6 ⟨g7, A7, m7, c7, D7, md7, cd7, rfl, hn, hb6⟩; have hz6 := hb6.size; (try simp at hz6); have hze6 : W.heap.size ≤ u6.heap.size := (by omega); (try ((first | (have XB := Lib.hid (keepB (cs := #[.bool false, .slice none 0 0, .slice none 0 0]) (t := 40) hb6 XB.out)) | (have XB := Lib.hid (keepB (cs := #[.bool false, .slice none 0 0, .slice none 0 0]) (t := 40) hb6 (blk_new _ _ _)))); have XBc0 := blk_cell XB.out 0; have XBf0 := blk_fro XB.out 0; have XBc1 := blk_cell XB.out 1; have XBf1 := blk_fro XB.out 1; have XBc2 := blk_cell XB.out 2; have XBf2 := blk_fro XB.out 2)); have N7 := Lib.hid (show RatS u6 g7 (.slice A7 m7 c7) (.slice D7 md7 cd7) (a * b) from (by rw [HV.out] at hn; exact hn)); clear hn)
        | fail)
    all_goals
      go_wp2
      go_meet
      case rel => (have hbe := (by assumption : _ ∧ Below W.heap.size W _).2; (first | (with_reducible refine BoxRat.of hbe ?_ XB.out N7.out; omega) | (with_reducible refine BoxRat.al hbe ?_ N7.out; omega) | (with_reducible refine BoxRat.of hbe ?_ (blk_new _ _ _) (N7.out.alloc _); omega)))
  case rest =>
    obtain ⟨nz, g9, A9, m9, c9, D9, md9, cd9, rfl, hbX, hnb, hkb, hi⟩ := hcut
    rename World => wz
    have KB0_1 := Lib.hid (keepBlk hbX KB0.out)
    have KB1_1 := Lib.hid (keepBlk hbX KB1.out)
    have KB2_1 := Lib.hid (keepBlk hbX KB2.out)
    have HX_1 := Lib.hid (HX.out.below hbX)
    have HY_1 := Lib.hid (HY.out.below hbX)
    have HR := Lib.hid (show RatS wz g9 (.slice A9 m9 c9) (.slice D9 md9 cd9) (a * b) from hi)
    have BB_1 := Lib.hid (BB.out.trans ((hbX).mono BB.out.size))
    obtain ⟨c0_0_1, c0_0_1d, c0_1_1, c0_1_1d, c0_2_1, c0_2_1d⟩ := bc3 KB0_1.out
    obtain ⟨c1_0_1, c1_0_1d, c1_1_1, c1_1_1d, c1_2_1, c1_2_1d⟩ := bc3 KB1_1.out
    obtain ⟨c2_0_1, c2_0_1d, fc2_0_1, fc2_0_1d, c2_1_1, c2_1_1d, fc2_1_1, fc2_1_1d, c2_2_1, c2_2_1d, fc2_2_1, fc2_2_1d⟩ := bf3 KB2_1.out
    have x0_1 : wz.cell? ⟨nz, 0, none⟩ = some (.bool g9) := blk_cell hkb 0
    have x0_1d := drewCell x0_1
    have x1_1 : wz.cell? ⟨nz, 1, none⟩ = some (.slice A9 m9 c9) := blk_cell hkb 1
    have x1_1d := drewCell x1_1
    have x2_1 : wz.cell? ⟨nz, 2, none⟩ = some (.slice D9 md9 cd9) := blk_cell hkb 2
    have x2_1d := drewCell x2_1
    clear hbX HS
    clear hi hkb
    go_wp2
    refine bodyPost_ret (v := .agg #[.bool g9, .slice A9 m9 c9, .slice D9 md9 cd9]) (by simp [results, Try.results11, go_sem, c2_0_1, c2_0_1d, c2_1_1, c2_1_1d, c2_2_1, c2_2_1d]) rfl ?_
    exact ⟨g9, A9, m9, c9, D9, md9, cd9, rfl, HR.out.set3 KB2_1.out (by decide) _ _ _, Below.setCell (Below.setCell (Below.setCell (BB_1.out) (p := ⟨w.heap.size + 1 + 1, 0, none⟩) (by show w.heap.size ≤ w.heap.size + 1 + 1; omega) _) (p := ⟨w.heap.size + 1 + 1, 1, none⟩) (by show w.heap.size ≤ w.heap.size + 1 + 1; omega) _) (p := ⟨w.heap.size + 1 + 1, 2, none⟩) (by show w.heap.size ≤ w.heap.size + 1 + 1; omega) _⟩
theorem add (g : Bool) (A : Option Addr) (m c : Nat) (D : Option Addr) (md cd : Nat) (a : Rat) (g' : Bool) (A' : Option Addr) (m' c' : Nat) (D' : Option Addr) (md' cd' : Nat) (b : Rat) (w : World) (h : RatS w g (.slice A m c) (.slice D md cd) a) (h' : RatS w g' (.slice A' m' c') (.slice D' md' cd') b) (hl : 4 * (mw a + mw b) + 8 ≤ LIM) :
    Calls Try.prog 10 #[.agg #[.bool g, .slice A m c, .slice D md cd], .agg #[.bool g', .slice A' m' c', .slice D' md' cd']] w (RetRat w (a + b)) := by
  have L1 := Lib.hid (show 4 * wlen a.num.natAbs ≤ LIM by have := mw_num a; omega)
  have L2 := Lib.hid (show 4 * wlen (b.den : Int).natAbs ≤ LIM by rw [Int.natAbs_natCast]; have := mw_den b; omega)
  have L3 := Lib.hid (show 4 * wlen b.num.natAbs ≤ LIM by have := mw_num b; omega)
  have L4 := Lib.hid (show 4 * wlen (a.den : Int).natAbs ≤ LIM by rw [Int.natAbs_natCast]; have := mw_den a; omega)
  have L5 := Lib.hid (show 4 * wlen a.den ≤ LIM by have := mw_den a; omega)
  have L6 := Lib.hid (show 4 * wlen b.den ≤ LIM by have := mw_den b; omega)
  have L7 := Lib.hid (show wlen (((a.den * b.den : Nat) : Int)).natAbs + 1 ≤ LIM by have := wlen_dens a b; omega)
  have M1 := Lib.hid (show wlen (a.num * (b.den : Int)).natAbs ≤ LIM by have h2 := wlen_imul a.num (b.den : Int); rw [Int.natAbs_natCast] at h2; have := mw_num a; have := mw_den b; omega)
  have M2 := Lib.hid (show wlen (b.num * (a.den : Int)).natAbs ≤ LIM by have h2 := wlen_imul b.num (a.den : Int); rw [Int.natAbs_natCast] at h2; have := mw_num b; have := mw_den a; omega)
  have L8 := Lib.hid (show wlen (a.num * (b.den : Int) + b.num * (a.den : Int)).natAbs + 1 ≤ LIM by have := wlen_addn a b; omega)
  have HV := Lib.hid (add_div a b)
  have HD0 := Lib.hid (den_ne a b)
  clear hl
  obtain ⟨W, hW⟩ : ∃ W, (((w.alloc (.cells #[.bool g, .slice A m c, .slice D md cd] 40)).alloc (.cells #[.bool g', .slice A' m' c', .slice D' md' cd'] 40)).alloc (.cells #[.bool false, .slice none 0 0, .slice none 0 0] 40)) = W := ⟨_, rfl⟩
  have KB0 := Lib.hid (show W.heap[w.heap.size]? = some (.cells #[.bool g, .slice A m c, .slice D md cd] 40 (0, 0)) by rw [← hW]; exact blk_al (blk_al (blk_nw (by simp))))
  have KB1 := Lib.hid (show W.heap[w.heap.size + 1]? = some (.cells #[.bool g', .slice A' m' c', .slice D' md' cd'] 40 (0, 0)) by rw [← hW]; exact blk_al (blk_nw (by simp)))
  have KB2 := Lib.hid (show W.heap[w.heap.size + 1 + 1]? = some (.cells #[.bool false, .slice none 0 0, .slice none 0 0] 40 (0, 0)) by rw [← hW]; exact blk_nw (by simp))
  have BB := Lib.hid (show Below w.heap.size w W by rw [← hW]; exact ((below_alloc w _).alloc (by simp) _).alloc (by simp; omega) _)
  have HZ := Lib.hid (show w.heap.size + 3 ≤ W.heap.size by rw [← hW]; simp)
  have HX := Lib.hid (show RatS W g (.slice A m c) (.slice D md cd) a by rw [← hW]; exact (((h).alloc _).alloc _).alloc _)
  have HY := Lib.hid (show RatS W g' (.slice A' m' c') (.slice D' md' cd') b by rw [← hW]; exact (((h').alloc _).alloc _).alloc _)
  obtain ⟨c0_0_0, c0_0_0d, c0_1_0, c0_1_0d, c0_2_0, c0_2_0d⟩ := bc3 KB0.out
  obtain ⟨c1_0_0, c1_0_0d, c1_1_0, c1_1_0d, c1_2_0, c1_2_0d⟩ := bc3 KB1.out
  obtain ⟨c2_0_0, c2_0_0d, fc2_0_0, fc2_0_0d, c2_1_0, c2_1_0d, fc2_1_0, fc2_1_0d, c2_2_0, c2_2_0d, fc2_2_0, fc2_2_0d⟩ := bf3 KB2.out
  clear h h'
  go_enter Try.func10, Try.ntmps10
  go_wp2_with fail
  clear hW
  have HS := Lib.hid (show ∀ w', Below W.heap.size W w' → ((w'.cell? ⟨w.heap.size, 0, none⟩ = some (.bool g) ∧ w'.cell? ⟨w.heap.size, 1, none⟩ = some (.slice A m c) ∧ w'.cell? ⟨w.heap.size, 2, none⟩ = some (.slice D md cd) ∧ w'.cell? ⟨w.heap.size + 1, 0, none⟩ = some (.bool g') ∧ w'.cell? ⟨w.heap.size + 1, 1, none⟩ = some (.slice A' m' c') ∧ w'.cell? ⟨w.heap.size + 1, 2, none⟩ = some (.slice D' md' cd')) ∧ Below W.heap.size W w') from fun w' h => ⟨⟨keepCell h c0_0_0, keepCell h c0_1_0, keepCell h c0_2_0, keepCell h c1_0_0, keepCell h c1_1_0, keepCell h c1_2_0⟩, h⟩)
  go_cut [5] (fun s5 wr => BoxInt W s5 wr (a.num * (b.den : Int) + b.num * (a.den : Int)))
  case first =>
    go_region_held3 (fun w' => ((w'.cell? ⟨w.heap.size, 0, none⟩ = some (.bool g) ∧ w'.cell? ⟨w.heap.size, 1, none⟩ = some (.slice A m c) ∧ w'.cell? ⟨w.heap.size, 2, none⟩ = some (.slice D md cd) ∧ w'.cell? ⟨w.heap.size + 1, 0, none⟩ = some (.bool g') ∧ w'.cell? ⟨w.heap.size + 1, 1, none⟩ = some (.slice A' m' c') ∧ w'.cell? ⟨w.heap.size + 1, 2, none⟩ = some (.slice D' md' cd')) ∧ Below W.heap.size W w'))
      ((refine HS.out _ ?_; repeat (first | exact Below.refl _ _ | exact (by assumption : _ ∧ Below _ _ _).2 | with_reducible refine bdrew ?_ | with_reducible refine al2 ?_ _ | with_reducible refine set2 ?_ (by omega) | with_reducible refine bstep2 ?_ (by assumption))))
      (first
        | (go_at_call 34; (with_reducible refine (below g' A' m' c' D' md' cd' b _ (HY.out.below (by assumption : _ ∧ Below _ _ _).2)).mono ?_); rintro e u1 ⟨g1, A1, m1, c1, rfl, hn, hb1⟩; have hz1 := hb1.size; (try simp at hz1); have hze1 : W.heap.size ≤ u1.heap.size := (by omega); (try ((first | (have XB := Lib.hid (keepB (cs := #[.bool false, .slice none 0 0]) (t := 38) hb1 XB.out)) | (have XB := Lib.hid (keepB (cs := #[.bool false, .slice none 0 0]) (t := 38) hb1 (blk_new _ _ _)))); have XBc0 := blk_cell XB.out 0; have XBf0 := blk_fro XB.out 0; have XBc1 := blk_cell XB.out 1; have XBf1 := blk_fro XB.out 1)); have N1 := Lib.hid hn; clear hn)
        | (go_at_call 33; (with_reducible refine (It.mul g A m c a.num g1 A1 m1 c1 (b.den : Int) _ (by have h := (HX.out.below (by assumption : _ ∧ Below _ _ _).2); exact h.num) (by repeat (first | exact N1.out | with_reducible refine IntS.alloc ?_ _ | with_reducible refine IntS.drew ?_)) L1.out L2.out).mono ?_); rintro e u2 ⟨g2, A2, m2, c2, rfl, hn, hb2⟩; have hz2 := hb2.size; (try simp at hz2); have hze2 : W.heap.size ≤ u2.heap.size := (by omega); (try ((first | (have XB := Lib.hid (keepB (cs := #[.bool false, .slice none 0 0]) (t := 38) hb2 XB.out)) | (have XB := Lib.hid (keepB (cs := #[.bool false, .slice none 0 0]) (t := 38) hb2 (blk_new _ _ _)))); have XBc0 := blk_cell XB.out 0; have XBf0 := blk_fro XB.out 0; have XBc1 := blk_cell XB.out 1; have XBf1 := blk_fro XB.out 1)); have N2 := Lib.hid hn; clear hn)
        | (go_at_call 34; (with_reducible refine (below g A m c D md cd a _ (HX.out.below (by assumption : _ ∧ Below _ _ _).2)).mono ?_); rintro e u3 ⟨g3, A3, m3, c3, rfl, hn, hb3⟩; have hz3 := hb3.size; (try simp at hz3); have hze3 : W.heap.size ≤ u3.heap.size := (by omega); (try ((first | (have XB := Lib.hid (keepB (cs := #[.bool false, .slice none 0 0]) (t := 38) hb3 XB.out)) | (have XB := Lib.hid (keepB (cs := #[.bool false, .slice none 0 0]) (t := 38) hb3 (blk_new _ _ _)))); have XBc0 := blk_cell XB.out 0; have XBf0 := blk_fro XB.out 0; have XBc1 := blk_cell XB.out 1; have XBf1 := blk_fro XB.out 1)); have N3 := Lib.hid hn; clear hn)
        | (go_at_call 33; (with_reducible refine (It.mul g' A' m' c' b.num g3 A3 m3 c3 (a.den : Int) _ (by have h := (HY.out.below (by assumption : _ ∧ Below _ _ _).2); exact h.num) (by repeat (first | exact N3.out | with_reducible refine IntS.alloc ?_ _ | with_reducible refine IntS.drew ?_)) L3.out L4.out).mono ?_); rintro e u4 ⟨g4, A4, m4, c4, rfl, hn, hb4⟩; have hz4 := hb4.size; (try simp at hz4); have hze4 : W.heap.size ≤ u4.heap.size := (by omega); (try ((first | (have XB := Lib.hid (keepB (cs := #[.bool false, .slice none 0 0]) (t := 38) hb4 XB.out)) | (have XB := Lib.hid (keepB (cs := #[.bool false, .slice none 0 0]) (t := 38) hb4 (blk_new _ _ _)))); have XBc0 := blk_cell XB.out 0; have XBf0 := blk_fro XB.out 0; have XBc1 := blk_cell XB.out 1; have XBf1 := blk_fro XB.out 1)); have N4 := Lib.hid hn; clear hn)
        | (go_at_call 32; (with_reducible refine (It.add g2 g4 A2 m2 c2 (a.num * (b.den : Int)) A4 m4 c4 (b.num * (a.den : Int)) _ (by repeat (first | exact N2.out | with_reducible refine IntS.alloc ?_ _ | with_reducible refine IntS.drew ?_ | refine IntS.below ?_ hb4 | refine IntS.below ?_ hb3)) (by repeat (first | exact N4.out | with_reducible refine IntS.alloc ?_ _ | with_reducible refine IntS.drew ?_)) M1.out M2.out).mono ?_); rintro e u5 ⟨g5, A5, m5, c5, rfl, hn, hb5⟩; have hz5 := hb5.size; (try simp at hz5); have hze5 : W.heap.size ≤ u5.heap.size := (by omega); (try ((first | (have XB := Lib.hid (keepB (cs := #[.bool false, .slice none 0 0]) (t := 38) hb5 XB.out)) | (have XB := Lib.hid (keepB (cs := #[.bool false, .slice none 0 0]) (t := 38) hb5 (blk_new _ _ _)))); have XBc0 := blk_cell XB.out 0; have XBf0 := blk_fro XB.out 0; have XBc1 := blk_cell XB.out 1; have XBf1 := blk_fro XB.out 1)); have N5 := Lib.hid hn; clear hn)
        | fail)
    all_goals
      go_wp2
      go_meet
      case rel => (have hbe := (by assumption : _ ∧ Below W.heap.size W _).2; (first | (with_reducible refine BoxInt.of hbe ?_ XB.out N5.out; omega) | (with_reducible refine BoxInt.al hbe ?_ N5.out; omega) | (with_reducible refine BoxInt.of hbe ?_ (blk_new _ _ _) (N5.out.alloc _); omega)))
  case rest =>
    obtain ⟨nb, g2, A2, m2, c2, rfl, hbX, hnb, hkb, hi⟩ := hcut
    rename World => wb
    have KB0_1 := Lib.hid (keepBlk hbX KB0.out)
    have KB1_1 := Lib.hid (keepBlk hbX KB1.out)
    have KB2_1 := Lib.hid (keepBlk hbX KB2.out)
    have HX_1 := Lib.hid (HX.out.below hbX)
    have HY_1 := Lib.hid (HY.out.below hbX)
    have HN := Lib.hid (show IntS wb g2 (.slice A2 m2 c2) (a.num * (b.den : Int) + b.num * (a.den : Int)) from hi)
    have BB_1 := Lib.hid (BB.out.trans ((hbX).mono BB.out.size))
    obtain ⟨c0_0_1, c0_0_1d, c0_1_1, c0_1_1d, c0_2_1, c0_2_1d⟩ := bc3 KB0_1.out
    obtain ⟨c1_0_1, c1_0_1d, c1_1_1, c1_1_1d, c1_2_1, c1_2_1d⟩ := bc3 KB1_1.out
    obtain ⟨c2_0_1, c2_0_1d, fc2_0_1, fc2_0_1d, c2_1_1, c2_1_1d, fc2_1_1, fc2_1_1d, c2_2_1, c2_2_1d, fc2_2_1, fc2_2_1d⟩ := bf3 KB2_1.out
    have x0_1 : wb.cell? ⟨nb, 0, none⟩ = some (.bool g2) := blk_cell hkb 0
    have x0_1d := drewCell x0_1
    have x1_1 : wb.cell? ⟨nb, 1, none⟩ = some (.slice A2 m2 c2) := blk_cell hkb 1
    have x1_1d := drewCell x1_1
    clear hbX HS
    clear hi hkb
    go_wp2_with fail
    have HS := Lib.hid (show ∀ w', Below wb.heap.size wb w' → ((w'.cell? ⟨w.heap.size, 0, none⟩ = some (.bool g) ∧ w'.cell? ⟨w.heap.size, 1, none⟩ = some (.slice A m c) ∧ w'.cell? ⟨w.heap.size, 2, none⟩ = some (.slice D md cd) ∧ w'.cell? ⟨w.heap.size + 1, 0, none⟩ = some (.bool g') ∧ w'.cell? ⟨w.heap.size + 1, 1, none⟩ = some (.slice A' m' c') ∧ w'.cell? ⟨w.heap.size + 1, 2, none⟩ = some (.slice D' md' cd') ∧ w'.cell? ⟨nb, 0, none⟩ = some (.bool g2) ∧ w'.cell? ⟨nb, 1, none⟩ = some (.slice A2 m2 c2)) ∧ Below wb.heap.size wb w') from fun w' h => ⟨⟨keepCell h c0_0_1, keepCell h c0_1_1, keepCell h c0_2_1, keepCell h c1_0_1, keepCell h c1_1_1, keepCell h c1_2_1, keepCell h x0_1, keepCell h x1_1⟩, h⟩)
    go_cut [6] (fun s6 wr => BoxRat wb s6 wr (a + b))
    case first =>
      go_region_held3 (fun w' => ((w'.cell? ⟨w.heap.size, 0, none⟩ = some (.bool g) ∧ w'.cell? ⟨w.heap.size, 1, none⟩ = some (.slice A m c) ∧ w'.cell? ⟨w.heap.size, 2, none⟩ = some (.slice D md cd) ∧ w'.cell? ⟨w.heap.size + 1, 0, none⟩ = some (.bool g') ∧ w'.cell? ⟨w.heap.size + 1, 1, none⟩ = some (.slice A' m' c') ∧ w'.cell? ⟨w.heap.size + 1, 2, none⟩ = some (.slice D' md' cd') ∧ w'.cell? ⟨nb, 0, none⟩ = some (.bool g2) ∧ w'.cell? ⟨nb, 1, none⟩ = some (.slice A2 m2 c2)) ∧ Below wb.heap.size wb w'))
        ((refine HS.out _ ?_; repeat (first | exact Below.refl _ _ | exact (by assumption : _ ∧ Below _ _ _).2 | with_reducible refine bdrew ?_ | with_reducible refine al2 ?_ _ | with_reducible refine set2 ?_ (by omega) | with_reducible refine bstep2 ?_ (by assumption))))
        (first
          | (go_at_call 38; (with_reducible refine (den g A m c D md cd a _ (HX_1.out.below (by assumption : _ ∧ Below _ _ _).2)).mono ?_); rintro e u1 ⟨A3, m3, c3, rfl, hn, hb1⟩; have hz1 := hb1.size; (try simp at hz1); have hze1 : wb.heap.size ≤ u1.heap.size := (by omega); (try ((first | (have XB := Lib.hid (keepB (cs := #[.bool false, .slice none 0 0, .slice none 0 0]) (t := 40) hb1 XB.out)) | (have XB := Lib.hid (keepB (cs := #[.bool false, .slice none 0 0, .slice none 0 0]) (t := 40) hb1 (blk_new _ _ _)))); have XBc0 := blk_cell XB.out 0; have XBf0 := blk_fro XB.out 0; have XBc1 := blk_cell XB.out 1; have XBf1 := blk_fro XB.out 1; have XBc2 := blk_cell XB.out 2; have XBf2 := blk_fro XB.out 2)); have N3 := Lib.hid hn; clear hn)
          | (go_at_call 38; (with_reducible refine (den g' A' m' c' D' md' cd' b _ (HY_1.out.below (by assumption : _ ∧ Below _ _ _).2)).mono ?_); rintro e u2 ⟨A4, m4, c4, rfl, hn, hb2⟩; have hz2 := hb2.size; (try simp at hz2); have hze2 : wb.heap.size ≤ u2.heap.size := (by omega); (try ((first | (have XB := Lib.hid (keepB (cs := #[.bool false, .slice none 0 0, .slice none 0 0]) (t := 40) hb2 XB.out)) | (have XB := Lib.hid (keepB (cs := #[.bool false, .slice none 0 0, .slice none 0 0]) (t := 40) hb2 (blk_new _ _ _)))); have XBc0 := blk_cell XB.out 0; have XBf0 := blk_fro XB.out 0; have XBc1 := blk_cell XB.out 1; have XBf1 := blk_fro XB.out 1; have XBc2 := blk_cell XB.out 2; have XBf2 := blk_fro XB.out 2)); have N4 := Lib.hid hn; clear hn)
          | (go_at_call 37; (with_reducible refine (Pr.mul A3 A4 m3 c3 m4 c4 a.den b.den _ (by repeat (first | exact N3.out | with_reducible refine NatS.alloc ?_ _ | with_reducible refine NatS.drew ?_ | refine NatS.below ?_ hb2)) (by repeat (first | exact N4.out | with_reducible refine NatS.alloc ?_ _ | with_reducible refine NatS.drew ?_)) L5.out L6.out).mono ?_); rintro e u3 ⟨A5, m5, c5, rfl, hn, hb3⟩; have hz3 := hb3.size; (try simp at hz3); have hze3 : wb.heap.size ≤ u3.heap.size := (by omega); (try ((first | (have XB := Lib.hid (keepB (cs := #[.bool false, .slice none 0 0, .slice none 0 0]) (t := 40) hb3 XB.out)) | (have XB := Lib.hid (keepB (cs := #[.bool false, .slice none 0 0, .slice none 0 0]) (t := 40) hb3 (blk_new _ _ _)))); have XBc0 := blk_cell XB.out 0; have XBf0 := blk_fro XB.out 0; have XBc1 := blk_cell XB.out 1; have XBf1 := blk_fro XB.out 1; have XBc2 := blk_cell XB.out 2; have XBf2 := blk_fro XB.out 2)); have N5 := Lib.hid hn; clear hn)
          | (go_at_call 36; (with_reducible refine (It.new false A5 m5 c5 (a.den * b.den) _ (by repeat (first | exact N5.out | with_reducible refine NatS.alloc ?_ _ | with_reducible refine NatS.drew ?_))).mono ?_); rintro e u4 ⟨g6, A6, m6, c6, rfl, hn, hb4⟩; have hz4 := hb4.size; (try simp at hz4); have hze4 : wb.heap.size ≤ u4.heap.size := (by omega); (try ((first | (have XB := Lib.hid (keepB (cs := #[.bool false, .slice none 0 0, .slice none 0 0]) (t := 40) hb4 XB.out)) | (have XB := Lib.hid (keepB (cs := #[.bool false, .slice none 0 0, .slice none 0 0]) (t := 40) hb4 (blk_new _ _ _)))); have XBc0 := blk_cell XB.out 0; have XBf0 := blk_fro XB.out 0; have XBc1 := blk_cell XB.out 1; have XBf1 := blk_fro XB.out 1; have XBc2 := blk_cell XB.out 2; have XBf2 := blk_fro XB.out 2)); have N6 := Lib.hid (show IntS u4 g6 (.slice A6 m6 c6) ((a.den * b.den : Nat) : Int) from (by rw [if_neg (by decide)] at hn; exact hn)); clear hn)
          | (go_at_call 35; (with_reducible refine (newd g2 A2 m2 c2 (a.num * (b.den : Int) + b.num * (a.den : Int)) g6 A6 m6 c6 ((a.den * b.den : Nat) : Int) _ (HN.out.below (by assumption : _ ∧ Below _ _ _).2) (by repeat (first | exact N6.out | with_reducible refine IntS.alloc ?_ _ | with_reducible refine IntS.drew ?_)) HD0.out L8.out L7.out).mono ?_); rintro e u5 ⟨g7, A7, m7, c7, D7, md7, cd7, rfl, hn, hb5⟩; have hz5 := hb5.size; (try simp at hz5); have hze5 : wb.heap.size ≤ u5.heap.size := (by omega); (try ((first | (have XB := Lib.hid (keepB (cs := #[.bool false, .slice none 0 0, .slice none 0 0]) (t := 40) hb5 XB.out)) | (have XB := Lib.hid (keepB (cs := #[.bool false, .slice none 0 0, .slice none 0 0]) (t := 40) hb5 (blk_new _ _ _)))); have XBc0 := blk_cell XB.out 0; have XBf0 := blk_fro XB.out 0; have XBc1 := blk_cell XB.out 1; have XBf1 := blk_fro XB.out 1; have XBc2 := blk_cell XB.out 2; have XBf2 := blk_fro XB.out 2)); have N7 := Lib.hid (show RatS u5 g7 (.slice A7 m7 c7) (.slice D7 md7 cd7) (a + b) from (by rw [HV.out] at hn; exact hn)); clear hn)
          | fail)
      all_goals
        go_wp2
        go_meet
        case rel => (have hbe := (by assumption : _ ∧ Below wb.heap.size wb _).2; (first | (with_reducible refine BoxRat.of hbe ?_ XB.out N7.out; omega) | (with_reducible refine BoxRat.al hbe ?_ N7.out; omega) | (with_reducible refine BoxRat.of hbe ?_ (blk_new _ _ _) (N7.out.alloc _); omega)))
    case rest =>
      obtain ⟨nz, g9, A9, m9, c9, D9, md9, cd9, rfl, hbX, hnb, hkb, hi⟩ := hcut
      rename World => wz
      have KB0_2 := Lib.hid (keepBlk hbX KB0_1.out)
      have KB1_2 := Lib.hid (keepBlk hbX KB1_1.out)
      have KB2_2 := Lib.hid (keepBlk hbX KB2_1.out)
      have HX_2 := Lib.hid (HX_1.out.below hbX)
      have HY_2 := Lib.hid (HY_1.out.below hbX)
      have HN_2 := Lib.hid (HN.out.below hbX)
      have HR := Lib.hid (show RatS wz g9 (.slice A9 m9 c9) (.slice D9 md9 cd9) (a + b) from hi)
      have BB_2 := Lib.hid (BB_1.out.trans ((hbX).mono BB_1.out.size))
      obtain ⟨c0_0_2, c0_0_2d, c0_1_2, c0_1_2d, c0_2_2, c0_2_2d⟩ := bc3 KB0_2.out
      obtain ⟨c1_0_2, c1_0_2d, c1_1_2, c1_1_2d, c1_2_2, c1_2_2d⟩ := bc3 KB1_2.out
      obtain ⟨c2_0_2, c2_0_2d, fc2_0_2, fc2_0_2d, c2_1_2, c2_1_2d, fc2_1_2, fc2_1_2d, c2_2_2, c2_2_2d, fc2_2_2, fc2_2_2d⟩ := bf3 KB2_2.out
      have x0_2 := keepCell hbX x0_1
      have x0_2d := drewCell x0_2
      have x1_2 := keepCell hbX x1_1
      have x1_2d := drewCell x1_2
      have x2_2 : wz.cell? ⟨nz, 0, none⟩ = some (.bool g9) := blk_cell hkb 0
      have x2_2d := drewCell x2_2
      have x3_2 : wz.cell? ⟨nz, 1, none⟩ = some (.slice A9 m9 c9) := blk_cell hkb 1
      have x3_2d := drewCell x3_2
      have x4_2 : wz.cell? ⟨nz, 2, none⟩ = some (.slice D9 md9 cd9) := blk_cell hkb 2
      have x4_2d := drewCell x4_2
      clear hbX HS
      clear hi hkb
      go_wp2
      refine bodyPost_ret (v := .agg #[.bool g9, .slice A9 m9 c9, .slice D9 md9 cd9]) (by simp [results, Try.results10, go_sem, c2_0_2, c2_0_2d, c2_1_2, c2_1_2d, c2_2_2, c2_2_2d]) rfl ?_
      exact ⟨g9, A9, m9, c9, D9, md9, cd9, rfl, HR.out.set3 KB2_2.out (by decide) _ _ _, Below.setCell (Below.setCell (Below.setCell (BB_2.out) (p := ⟨w.heap.size + 1 + 1, 0, none⟩) (by show w.heap.size ≤ w.heap.size + 1 + 1; omega) _) (p := ⟨w.heap.size + 1 + 1, 1, none⟩) (by show w.heap.size ≤ w.heap.size + 1 + 1; omega) _) (p := ⟨w.heap.size + 1 + 1, 2, none⟩) (by show w.heap.size ≤ w.heap.size + 1 + 1; omega) _⟩
theorem cmp (g : Bool) (A : Option Addr) (m c : Nat) (D : Option Addr) (md cd : Nat) (a : Rat) (g' : Bool) (A' : Option Addr) (m' c' : Nat) (D' : Option Addr) (md' cd' : Nat) (b : Rat) (w : World) (h : RatS w g (.slice A m c) (.slice D md cd) a) (h' : RatS w g' (.slice A' m' c') (.slice D' md' cd') b) (hl : 4 * (mw a + mw b) + 8 ≤ LIM) :
    Calls Try.prog 13 #[.agg #[.bool g, .slice A m c, .slice D md cd], .agg #[.bool g', .slice A' m' c', .slice D' md' cd']] w fun e w' => e = .returned (.int .i64 (cmpI (a.num * (b.den : Int)) (b.num * (a.den : Int)))) ∧ Below w.heap.size w w' := by
  have L1 := Lib.hid (show 4 * wlen a.num.natAbs ≤ LIM by have := mw_num a; omega)
  have L2 := Lib.hid (show 4 * wlen (b.den : Int).natAbs ≤ LIM by rw [Int.natAbs_natCast]; have := mw_den b; omega)
  have L3 := Lib.hid (show 4 * wlen b.num.natAbs ≤ LIM by have := mw_num b; omega)
  have L4 := Lib.hid (show 4 * wlen (a.den : Int).natAbs ≤ LIM by rw [Int.natAbs_natCast]; have := mw_den a; omega)
  have L5 := Lib.hid (show 4 * wlen a.den ≤ LIM by have := mw_den a; omega)
  have L6 := Lib.hid (show 4 * wlen b.den ≤ LIM by have := mw_den b; omega)
  have L7 := Lib.hid (show wlen (((a.den * b.den : Nat) : Int)).natAbs + 1 ≤ LIM by have := wlen_dens a b; omega)
  clear hl
  obtain ⟨W, hW⟩ : ∃ W, ((w.alloc (.cells #[.bool g, .slice A m c, .slice D md cd] 40)).alloc (.cells #[.bool g', .slice A' m' c', .slice D' md' cd'] 40)) = W := ⟨_, rfl⟩
  have KB0 := Lib.hid (show W.heap[w.heap.size]? = some (.cells #[.bool g, .slice A m c, .slice D md cd] 40 (0, 0)) by rw [← hW]; exact blk_al (blk_nw (by simp)))
  have KB1 := Lib.hid (show W.heap[w.heap.size + 1]? = some (.cells #[.bool g', .slice A' m' c', .slice D' md' cd'] 40 (0, 0)) by rw [← hW]; exact blk_nw (by simp))
  have BB := Lib.hid (show Below w.heap.size w W by rw [← hW]; exact (below_alloc w _).alloc (by simp) _)
  have HZ := Lib.hid (show w.heap.size + 2 ≤ W.heap.size by rw [← hW]; simp)
  have HX := Lib.hid (show RatS W g (.slice A m c) (.slice D md cd) a by rw [← hW]; exact ((h).alloc _).alloc _)
  have HY := Lib.hid (show RatS W g' (.slice A' m' c') (.slice D' md' cd') b by rw [← hW]; exact ((h').alloc _).alloc _)
  obtain ⟨c0_0_0, c0_0_0d, c0_1_0, c0_1_0d, c0_2_0, c0_2_0d⟩ := bc3 KB0.out
  obtain ⟨c1_0_0, c1_0_0d, c1_1_0, c1_1_0d, c1_2_0, c1_2_0d⟩ := bc3 KB1.out
  clear h h'
  go_enter Try.func13, Try.ntmps13
  go_wp2_with fail
  clear hW
  have HS := Lib.hid (show ∀ w', Below W.heap.size W w' → ((w'.cell? ⟨w.heap.size, 0, none⟩ = some (.bool g) ∧ w'.cell? ⟨w.heap.size, 1, none⟩ = some (.slice A m c) ∧ w'.cell? ⟨w.heap.size, 2, none⟩ = some (.slice D md cd) ∧ w'.cell? ⟨w.heap.size + 1, 0, none⟩ = some (.bool g') ∧ w'.cell? ⟨w.heap.size + 1, 1, none⟩ = some (.slice A' m' c') ∧ w'.cell? ⟨w.heap.size + 1, 2, none⟩ = some (.slice D' md' cd')) ∧ Below W.heap.size W w') from fun w' h => ⟨⟨keepCell h c0_0_0, keepCell h c0_1_0, keepCell h c0_2_0, keepCell h c1_0_0, keepCell h c1_1_0, keepCell h c1_2_0⟩, h⟩)
  go_region_held3 (fun w' => ((w'.cell? ⟨w.heap.size, 0, none⟩ = some (.bool g) ∧ w'.cell? ⟨w.heap.size, 1, none⟩ = some (.slice A m c) ∧ w'.cell? ⟨w.heap.size, 2, none⟩ = some (.slice D md cd) ∧ w'.cell? ⟨w.heap.size + 1, 0, none⟩ = some (.bool g') ∧ w'.cell? ⟨w.heap.size + 1, 1, none⟩ = some (.slice A' m' c') ∧ w'.cell? ⟨w.heap.size + 1, 2, none⟩ = some (.slice D' md' cd')) ∧ Below W.heap.size W w'))
    ((refine HS.out _ ?_; repeat (first | exact Below.refl _ _ | exact (by assumption : _ ∧ Below _ _ _).2 | with_reducible refine bdrew ?_ | with_reducible refine al2 ?_ _ | with_reducible refine set2 ?_ (by omega) | with_reducible refine bstep2 ?_ (by assumption))))
    (first
      | (go_at_call 34; (with_reducible refine (below g' A' m' c' D' md' cd' b _ (HY.out.below (by assumption : _ ∧ Below _ _ _).2)).mono ?_); rintro e u1 ⟨g1, A1, m1, c1, rfl, hn, hb1⟩; have hz1 := hb1.size; (try simp at hz1); have hze1 : W.heap.size ≤ u1.heap.size := (by omega); (try ((first | (have XB := Lib.hid (keepB (cs := #[.bool false, .slice none 0 0]) (t := 38) hb1 XB.out)) | (have XB := Lib.hid (keepB (cs := #[.bool false, .slice none 0 0]) (t := 38) hb1 (blk_new _ _ _)))); have XBc0 := blk_cell XB.out 0; have XBf0 := blk_fro XB.out 0; have XBc1 := blk_cell XB.out 1; have XBf1 := blk_fro XB.out 1)); have N1 := Lib.hid hn; clear hn)
      | (go_at_call 33; (with_reducible refine (It.mul g A m c a.num g1 A1 m1 c1 (b.den : Int) _ (by have h := (HX.out.below (by assumption : _ ∧ Below _ _ _).2); exact h.num) (by repeat (first | exact N1.out | with_reducible refine IntS.alloc ?_ _ | with_reducible refine IntS.drew ?_)) L1.out L2.out).mono ?_); rintro e u2 ⟨g2, A2, m2, c2, rfl, hn, hb2⟩; have hz2 := hb2.size; (try simp at hz2); have hze2 : W.heap.size ≤ u2.heap.size := (by omega); (try ((first | (have XB := Lib.hid (keepB (cs := #[.bool false, .slice none 0 0]) (t := 38) hb2 XB.out)) | (have XB := Lib.hid (keepB (cs := #[.bool false, .slice none 0 0]) (t := 38) hb2 (blk_new _ _ _)))); have XBc0 := blk_cell XB.out 0; have XBf0 := blk_fro XB.out 0; have XBc1 := blk_cell XB.out 1; have XBf1 := blk_fro XB.out 1)); have N2 := Lib.hid hn; clear hn)
      | (go_at_call 34; (with_reducible refine (below g A m c D md cd a _ (HX.out.below (by assumption : _ ∧ Below _ _ _).2)).mono ?_); rintro e u3 ⟨g3, A3, m3, c3, rfl, hn, hb3⟩; have hz3 := hb3.size; (try simp at hz3); have hze3 : W.heap.size ≤ u3.heap.size := (by omega); (try ((first | (have XB := Lib.hid (keepB (cs := #[.bool false, .slice none 0 0]) (t := 38) hb3 XB.out)) | (have XB := Lib.hid (keepB (cs := #[.bool false, .slice none 0 0]) (t := 38) hb3 (blk_new _ _ _)))); have XBc0 := blk_cell XB.out 0; have XBf0 := blk_fro XB.out 0; have XBc1 := blk_cell XB.out 1; have XBf1 := blk_fro XB.out 1)); have N3 := Lib.hid hn; clear hn)
      | (go_at_call 33; (with_reducible refine (It.mul g' A' m' c' b.num g3 A3 m3 c3 (a.den : Int) _ (by have h := (HY.out.below (by assumption : _ ∧ Below _ _ _).2); exact h.num) (by repeat (first | exact N3.out | with_reducible refine IntS.alloc ?_ _ | with_reducible refine IntS.drew ?_)) L3.out L4.out).mono ?_); rintro e u4 ⟨g4, A4, m4, c4, rfl, hn, hb4⟩; have hz4 := hb4.size; (try simp at hz4); have hze4 : W.heap.size ≤ u4.heap.size := (by omega); (try ((first | (have XB := Lib.hid (keepB (cs := #[.bool false, .slice none 0 0]) (t := 38) hb4 XB.out)) | (have XB := Lib.hid (keepB (cs := #[.bool false, .slice none 0 0]) (t := 38) hb4 (blk_new _ _ _)))); have XBc0 := blk_cell XB.out 0; have XBf0 := blk_fro XB.out 0; have XBc1 := blk_cell XB.out 1; have XBf1 := blk_fro XB.out 1)); have N4 := Lib.hid hn; clear hn)
      | (go_at_call 39; (with_reducible refine (It.cmp g2 A2 m2 c2 (a.num * (b.den : Int)) g4 A4 m4 c4 (b.num * (a.den : Int)) _ (by repeat (first | exact N2.out | with_reducible refine IntS.alloc ?_ _ | with_reducible refine IntS.drew ?_ | refine IntS.below ?_ hb4 | refine IntS.below ?_ hb3)) (by repeat (first | exact N4.out | with_reducible refine IntS.alloc ?_ _ | with_reducible refine IntS.drew ?_))).mono ?_); rintro e u5 ⟨rfl, hb5⟩; have hz5 := hb5.size; (try simp at hz5); have hze5 : W.heap.size ≤ u5.heap.size := (by omega); (try ((first | (have XB := Lib.hid (keepB (cs := #[.bool false, .slice none 0 0]) (t := 38) hb5 XB.out)) | (have XB := Lib.hid (keepB (cs := #[.bool false, .slice none 0 0]) (t := 38) hb5 (blk_new _ _ _)))); have XBc0 := blk_cell XB.out 0; have XBf0 := blk_fro XB.out 0; have XBc1 := blk_cell XB.out 1; have XBf1 := blk_fro XB.out 1)))
      | fail)
  go_wp2
  go_ret
  exact ⟨rfl, BB.out.trans (((by assumption : _ ∧ Below W.heap.size W _).2).mono BB.out.size)⟩
theorem sub (g : Bool) (A : Option Addr) (m c : Nat) (D : Option Addr) (md cd : Nat) (a : Rat) (g' : Bool) (A' : Option Addr) (m' c' : Nat) (D' : Option Addr) (md' cd' : Nat) (b : Rat) (w : World) (h : RatS w g (.slice A m c) (.slice D md cd) a) (h' : RatS w g' (.slice A' m' c') (.slice D' md' cd') b) (hl : 4 * (mw a + mw b) + 8 ≤ LIM) :
    Calls Try.prog 62 #[.agg #[.bool g, .slice A m c, .slice D md cd], .agg #[.bool g', .slice A' m' c', .slice D' md' cd']] w (RetRat w (a - b)) := by
  have HL := Lib.hid (show 4 * (mw a + mw (-b)) + 8 ≤ LIM by rw [mw_neg]; exact hl)
  have HV := Lib.hid (Rat.sub_eq_add_neg a b)
  clear hl
  obtain ⟨W, hW⟩ : ∃ W, (((w.alloc (.cells #[.bool g, .slice A m c, .slice D md cd] 40)).alloc (.cells #[.bool g', .slice A' m' c', .slice D' md' cd'] 40)).alloc (.cells #[.bool false, .slice none 0 0, .slice none 0 0] 40)) = W := ⟨_, rfl⟩
  have KB0 := Lib.hid (show W.heap[w.heap.size]? = some (.cells #[.bool g, .slice A m c, .slice D md cd] 40 (0, 0)) by rw [← hW]; exact blk_al (blk_al (blk_nw (by simp))))
  have KB1 := Lib.hid (show W.heap[w.heap.size + 1]? = some (.cells #[.bool g', .slice A' m' c', .slice D' md' cd'] 40 (0, 0)) by rw [← hW]; exact blk_al (blk_nw (by simp)))
  have KB2 := Lib.hid (show W.heap[w.heap.size + 1 + 1]? = some (.cells #[.bool false, .slice none 0 0, .slice none 0 0] 40 (0, 0)) by rw [← hW]; exact blk_nw (by simp))
  have BB := Lib.hid (show Below w.heap.size w W by rw [← hW]; exact ((below_alloc w _).alloc (by simp) _).alloc (by simp; omega) _)
  have HZ := Lib.hid (show w.heap.size + 3 ≤ W.heap.size by rw [← hW]; simp)
  have HX := Lib.hid (show RatS W g (.slice A m c) (.slice D md cd) a by rw [← hW]; exact (((h).alloc _).alloc _).alloc _)
  have HY := Lib.hid (show RatS W g' (.slice A' m' c') (.slice D' md' cd') b by rw [← hW]; exact (((h').alloc _).alloc _).alloc _)
  obtain ⟨c0_0_0, c0_0_0d, c0_1_0, c0_1_0d, c0_2_0, c0_2_0d⟩ := bc3 KB0.out
  obtain ⟨c1_0_0, c1_0_0d, c1_1_0, c1_1_0d, c1_2_0, c1_2_0d⟩ := bc3 KB1.out
  obtain ⟨c2_0_0, c2_0_0d, fc2_0_0, fc2_0_0d, c2_1_0, c2_1_0d, fc2_1_0, fc2_1_0d, c2_2_0, c2_2_0d, fc2_2_0, fc2_2_0d⟩ := bf3 KB2.out
  clear h h'
  go_enter Try.func62, Try.ntmps62
  go_wp2_with fail
  clear hW
  go_region_held3 (fun w' => w'.cell? ⟨w.heap.size, 0, none⟩ = some (.bool g) ∧ w'.cell? ⟨w.heap.size, 1, none⟩ = some (.slice A m c) ∧ w'.cell? ⟨w.heap.size, 2, none⟩ = some (.slice D md cd) ∧ w'.cell? ⟨w.heap.size + 1, 0, none⟩ = some (.bool g') ∧ w'.cell? ⟨w.heap.size + 1, 1, none⟩ = some (.slice A' m' c') ∧ w'.cell? ⟨w.heap.size + 1, 2, none⟩ = some (.slice D' md' cd'))
    (((try go_split_ands); (try simp only [World.cell?_drew]); (repeat' apply And.intro) <;> (repeat (first | with_reducible assumption | with_reducible refine cell_set (by omega) ?_ | with_reducible refine cell_al ?_))))
    (first
      | (go_at_call 75; (with_reducible refine (neg g' A' m' c' D' md' cd' b _ HY.out.drew).mono ?_); rintro e v1 ⟨g1, A1, m1, c1, D1, md1, cd1, rfl, hn, hb⟩; have KB0_1 := Lib.hid (keepBlk hb KB0.out); have KB1_1 := Lib.hid (keepBlk hb KB1.out); have KB2_1 := Lib.hid (keepBlk hb KB2.out); have HX_1 := Lib.hid (HX.out.drew.below hb); have HY_1 := Lib.hid (HY.out.drew.below hb); have HN := Lib.hid (show RatS v1 g1 (.slice A1 m1 c1) (.slice D1 md1 cd1) (-b) from hn); have BB_1 := Lib.hid (BB.out.trans ((It.bdrew0' hb).mono BB.out.size)); obtain ⟨c0_0_1, c0_0_1d, c0_1_1, c0_1_1d, c0_2_1, c0_2_1d⟩ := bc3 KB0_1.out; obtain ⟨c1_0_1, c1_0_1d, c1_1_1, c1_1_1d, c1_2_1, c1_2_1d⟩ := bc3 KB1_1.out; obtain ⟨c2_0_1, c2_0_1d, fc2_0_1, fc2_0_1d, c2_1_1, c2_1_1d, fc2_1_1, fc2_1_1d, c2_2_1, c2_2_1d, fc2_2_1, fc2_2_1d⟩ := bf3 KB2_1.out; clear hn hb)
      | (go_at_call 10; (with_reducible refine (add g A m c D md cd a g1 A1 m1 c1 D1 md1 cd1 (-b) _ HX_1.out HN.out HL.out).mono ?_); rintro e v2 ⟨g2, A2, m2, c2, D2, md2, cd2, rfl, hn, hb⟩; have KB0_2 := Lib.hid (keepBlk hb KB0_1.out); have KB1_2 := Lib.hid (keepBlk hb KB1_1.out); have KB2_2 := Lib.hid (keepBlk hb KB2_1.out); have HX_2 := Lib.hid (HX_1.out.below hb); have HY_2 := Lib.hid (HY_1.out.below hb); have HN_2 := Lib.hid (HN.out.below hb); have HR := Lib.hid (show RatS v2 g2 (.slice A2 m2 c2) (.slice D2 md2 cd2) (a + -b) from hn); have BB_2 := Lib.hid (BB_1.out.trans ((hb).mono BB_1.out.size)); obtain ⟨c0_0_2, c0_0_2d, c0_1_2, c0_1_2d, c0_2_2, c0_2_2d⟩ := bc3 KB0_2.out; obtain ⟨c1_0_2, c1_0_2d, c1_1_2, c1_1_2d, c1_2_2, c1_2_2d⟩ := bc3 KB1_2.out; obtain ⟨c2_0_2, c2_0_2d, fc2_0_2, fc2_0_2d, c2_1_2, c2_1_2d, fc2_1_2, fc2_1_2d, c2_2_2, c2_2_2d, fc2_2_2, fc2_2_2d⟩ := bf3 KB2_2.out; clear hn hb)
      | fail)
  all_goals
    go_wp2
    refine bodyPost_ret (v := .agg #[.bool g2, .slice A2 m2 c2, .slice D2 md2 cd2]) (by simp [results, Try.results62, go_sem, c2_0_2, c2_0_2d, c2_1_2, c2_1_2d, c2_2_2, c2_2_2d]) rfl ?_
    have hi := HR.out
    rw [← HV.out] at hi
    exact ⟨g2, A2, m2, c2, D2, md2, cd2, rfl, hi.set3 KB2_2.out (by decide) _ _ _, Below.setCell (Below.setCell (Below.setCell (BB_2.out) (p := ⟨w.heap.size + 1 + 1, 0, none⟩) (by show w.heap.size ≤ w.heap.size + 1 + 1; omega) _) (p := ⟨w.heap.size + 1 + 1, 1, none⟩) (by show w.heap.size ≤ w.heap.size + 1 + 1; omega) _) (p := ⟨w.heap.size + 1 + 1, 2, none⟩) (by show w.heap.size ≤ w.heap.size + 1 + 1; omega) _⟩
theorem of (p q : Int) (hq : q ≠ 0) (hp0 : -9223372036854775808 ≤ p) (hp1 : p ≤ 9223372036854775807) (hq0 : -9223372036854775808 ≤ q) (hq1 : q ≤ 9223372036854775807) (w : World) :
    Calls Try.prog 19 #[.int .i64 p, .int .i64 q] w (RetRatB w (Rat.divInt p q) true) := by
  have L1 := Lib.hid (show wlen p.natAbs + 1 ≤ LIM by have := wlen_word (n := p.natAbs) (by unfold B64; omega); have := LIM_eq; omega)
  have L2 := Lib.hid (show wlen q.natAbs + 1 ≤ LIM by have := wlen_word (n := q.natAbs) (by unfold B64; omega); have := LIM_eq; omega)
  have HQ := Lib.hid hq
  have HP0 := Lib.hid hp0
  have HP1 := Lib.hid hp1
  have HQ0 := Lib.hid hq0
  have HQ1 := Lib.hid hq1
  clear hq hp0 hp1 hq0 hq1
  obtain ⟨W, hW⟩ : ∃ W, (w.alloc (.cells #[.bool false, .slice none 0 0, .slice none 0 0] 40)) = W := ⟨_, rfl⟩
  have KB0 := Lib.hid (show W.heap[w.heap.size]? = some (.cells #[.bool false, .slice none 0 0, .slice none 0 0] 40 (0, 0)) by rw [← hW]; exact blk_nw (by simp))
  have BB := Lib.hid (show Below w.heap.size w W by rw [← hW]; exact below_alloc w _)
  have HZ := Lib.hid (show w.heap.size + 1 ≤ W.heap.size by rw [← hW]; simp)
  obtain ⟨c0_0_0, c0_0_0d, fc0_0_0, fc0_0_0d, c0_1_0, c0_1_0d, fc0_1_0, fc0_1_0d, c0_2_0, c0_2_0d, fc0_2_0, fc0_2_0d⟩ := bf3 KB0.out
  go_enter Try.func19, Try.ntmps19
  go_wp2_with fail
  clear hW
  with_reducible refine (It.of p HP0.out HP1.out _).mono ?_
  rintro e w1 ⟨g1, A1, m1, c1, rfl, hn, hb⟩
  have KB0_1 := Lib.hid (keepBlk hb KB0.out)
  have HI := Lib.hid (show IntS w1 g1 (.slice A1 m1 c1) p from hn)
  have BB_1 := Lib.hid (BB.out.trans ((hb).mono BB.out.size))
  obtain ⟨c0_0_1, c0_0_1d, fc0_0_1, fc0_0_1d, c0_1_1, c0_1_1d, fc0_1_1, fc0_1_1d, c0_2_1, c0_2_1d, fc0_2_1, fc0_2_1d⟩ := bf3 KB0_1.out
  clear hn hb
  go_wp2_with fail
  with_reducible refine (It.of q HQ0.out HQ1.out _).mono ?_
  rintro e w2 ⟨g2, A2, m2, c2, rfl, hn, hb⟩
  have KB0_2 := Lib.hid (keepBlk hb KB0_1.out)
  have HI_2 := Lib.hid (HI.out.below hb)
  have HJ := Lib.hid (show IntS w2 g2 (.slice A2 m2 c2) q from hn)
  have BB_2 := Lib.hid (BB_1.out.trans ((hb).mono BB_1.out.size))
  obtain ⟨c0_0_2, c0_0_2d, fc0_0_2, fc0_0_2d, c0_1_2, c0_1_2d, fc0_1_2, fc0_1_2d, c0_2_2, c0_2_2d, fc0_2_2, fc0_2_2d⟩ := bf3 KB0_2.out
  clear hn hb
  go_wp2_with fail
  with_reducible refine (newd g1 A1 m1 c1 p g2 A2 m2 c2 q _ HI_2.out HJ.out HQ.out L1.out L2.out).mono ?_
  rintro e w3 ⟨g3, A3, m3, c3, D3, md3, cd3, rfl, hn, hb⟩
  have KB0_3 := Lib.hid (keepBlk hb KB0_2.out)
  have HI_3 := Lib.hid (HI_2.out.below hb)
  have HJ_3 := Lib.hid (HJ.out.below hb)
  have HR := Lib.hid (show RatS w3 g3 (.slice A3 m3 c3) (.slice D3 md3 cd3) (Rat.divInt p q) from hn)
  have BB_3 := Lib.hid (BB_2.out.trans ((hb).mono BB_2.out.size))
  obtain ⟨c0_0_3, c0_0_3d, fc0_0_3, fc0_0_3d, c0_1_3, c0_1_3d, fc0_1_3, fc0_1_3d, c0_2_3, c0_2_3d, fc0_2_3, fc0_2_3d⟩ := bf3 KB0_3.out
  clear hn hb
  go_wp2
  refine bodyPost_ret (v := .tuple #[.agg #[.bool g3, .slice A3 m3 c3, .slice D3 md3 cd3], .bool true]) (by simp [results, Try.results19, go_sem, c0_0_3, c0_0_3d, c0_1_3, c0_1_3d, c0_2_3, c0_2_3d]) rfl ?_
  exact ⟨g3, A3, m3, c3, D3, md3, cd3, rfl, HR.out.set3 KB0_3.out (by decide) _ _ _, Below.setCell (Below.setCell (Below.setCell (BB_3.out) (p := ⟨w.heap.size, 0, none⟩) (by show w.heap.size ≤ w.heap.size; omega) _) (p := ⟨w.heap.size, 1, none⟩) (by show w.heap.size ≤ w.heap.size; omega) _) (p := ⟨w.heap.size, 2, none⟩) (by show w.heap.size ≤ w.heap.size; omega) _⟩
end Rt
end Go.Proofs.Ytohkhcbocknliaa
