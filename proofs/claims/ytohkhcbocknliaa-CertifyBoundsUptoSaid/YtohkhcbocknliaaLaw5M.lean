/- actuarylaw20.awake by its contract. Conditions: none. -/
import Derived.Test.YtohkhcbocknliaaLaw4M
namespace Go.Proofs.Ytohkhcbocknliaa
set_option linter.unusedSimpArgs false
set_option linter.unusedVariables false
open Go.RowKit Am
attribute [local go_sem ↓] Go.wp_at_zero Go.wp_at_succ
set_option maxHeartbeats 8000000
set_option maxRecDepth 100000
namespace Lw
theorem awake (w : World) : Calls Try.prog 4 #[] w fun e w' => e = .returned (.bool true) ∧ Below w.heap.size w w' := by
  have BB := Lib.hid (Below.refl w.heap.size w)
  have hW : w = w := rfl
  go_enter Try.func4, Try.ntmps4
  go_wp2_with fail
  clear hW
  have hb1z := below_alloc w (.cells #[.int .i64 1, .int .i64 1] 3)
  have BB_1 := Lib.hid (BB.out.trans ((hb1z).mono BB.out.size))
  with_reducible refine (Vc.of w.heap.size 2 2 [1, 1] _ rfl (ints2 w (1) (1)) (by decide) (by decide) (by decide)).mono ?_
  rintro e w1 ⟨S1, ns1, cs1, rfl, hv, hb⟩
  have HV1 := Lib.hid (show VecS (w1.alloc (.cells #[.int .i64 1, .int .i64 2] 3)) 0 (.slice S1 ns1 cs1) (rats [1, 1]) from ((hv.base (Nat.zero_le _))).alloc _)
  have BB_2 := Lib.hid (show Below w.heap.size w (w1.alloc (.cells #[.int .i64 1, .int .i64 2] 3)) from ((BB_1.out.trans ((hb).mono BB_1.out.size))).alloc ((BB_1.out.trans ((hb).mono BB_1.out.size))).size _)
  have KB0_2 := Lib.hid (show (w1.alloc (.cells #[.int .i64 1, .int .i64 2] 3)).heap[w1.heap.size]? = some (.cells #[.int .i64 1, .int .i64 2] 3 (0, 0)) from blk_nw (by simp))
  obtain ⟨c0_0_2, c0_0_2d, c0_1_2, c0_1_2d⟩ := bc2 KB0_2.out
  clear hv hb
  go_wp2_with fail
  with_reducible refine (Vc.of w1.heap.size 2 2 [1, 2] _ rfl (ints2 w1 (1) (2)) (by decide) (by decide) (by decide)).mono ?_
  rintro e w2 ⟨S2, ns2, cs2, rfl, hv, hb⟩
  have HV1_3 := Lib.hid (HV1.out.below hb)
  have HV2 := Lib.hid (show VecS w2 0 (.slice S2 ns2 cs2) (rats [1, 2]) from (hv.base (Nat.zero_le _)))
  have BB_3 := Lib.hid (BB_2.out.trans ((hb).mono BB_2.out.size))
  clear hv hb
  go_wp2_with fail
  with_reducible refine (Rt.int 4 (by decide) (by decide) _).mono ?_
  rintro e w3 ⟨g3, A3, m3, c3, D3, md3, cd3, rfl, hn, hb⟩
  have HV1_4 := Lib.hid (show VecS (w3.alloc (.cells #[.int .i64 3, .int .i64 1] 3)) 0 (.slice S1 ns1 cs1) (rats [1, 1]) from (HV1_3.out.below hb).alloc _)
  have HV2_4 := Lib.hid (show VecS (w3.alloc (.cells #[.int .i64 3, .int .i64 1] 3)) 0 (.slice S2 ns2 cs2) (rats [1, 2]) from (HV2.out.below hb).alloc _)
  have HR3 := Lib.hid (show RatS (w3.alloc (.cells #[.int .i64 3, .int .i64 1] 3)) g3 (.slice A3 m3 c3) (.slice D3 md3 cd3) ((4 : Int) : Rat) from (hn).alloc _)
  have BB_4 := Lib.hid (show Below w.heap.size w (w3.alloc (.cells #[.int .i64 3, .int .i64 1] 3)) from ((BB_3.out.trans ((hb).mono BB_3.out.size))).alloc ((BB_3.out.trans ((hb).mono BB_3.out.size))).size _)
  have KB0_4 := Lib.hid (show (w3.alloc (.cells #[.int .i64 3, .int .i64 1] 3)).heap[w3.heap.size]? = some (.cells #[.int .i64 3, .int .i64 1] 3 (0, 0)) from blk_nw (by simp))
  obtain ⟨c0_0_4, c0_0_4d, c0_1_4, c0_1_4d⟩ := bc2 KB0_4.out
  clear hn hb
  go_wp2_with fail
  with_reducible refine (Vc.of w3.heap.size 2 2 [3, 1] _ rfl (ints2 w3 (3) (1)) (by decide) (by decide) (by decide)).mono ?_
  rintro e w4 ⟨S4, ns4, cs4, rfl, hv, hb⟩
  have HV1_5 := Lib.hid (HV1_4.out.below hb)
  have HV2_5 := Lib.hid (HV2_4.out.below hb)
  have HR3_5 := Lib.hid (HR3.out.below hb)
  have HV4 := Lib.hid (show VecS w4 0 (.slice S4 ns4 cs4) (rats [3, 1]) from (hv.base (Nat.zero_le _)))
  have BB_5 := Lib.hid (BB_4.out.trans ((hb).mono BB_4.out.size))
  clear hv hb
  go_wp2_with fail
  with_reducible refine (Rt.int 9 (by decide) (by decide) _).mono ?_
  rintro e w5 ⟨g5, A5, m5, c5, D5, md5, cd5, rfl, hn, hb⟩
  have HV1_6 := Lib.hid (HV1_5.out.below hb)
  have HV2_6 := Lib.hid (HV2_5.out.below hb)
  have HR3_6 := Lib.hid (HR3_5.out.below hb)
  have HV4_6 := Lib.hid (HV4.out.below hb)
  have HR5 := Lib.hid (show RatS w5 g5 (.slice A5 m5 c5) (.slice D5 md5 cd5) ((9 : Int) : Rat) from hn)
  have BB_6 := Lib.hid (BB_5.out.trans ((hb).mono BB_5.out.size))
  clear hn hb
  obtain rfl : 2 = ns1 := HV1_6.out.len.symm
  have hb7z := below_alloc w5 (.cells #[.slice S2 ns2 cs2, .int .i64 2, .bool g3, .slice A3 m3 c3, .slice D3 md3 cd3, .slice S4 ns4 cs4, .int .i64 1, .bool g5, .slice A5 m5 c5, .slice D5 md5 cd5] 48)
  have HV1_7 := Lib.hid (HV1_6.out.below hb7z)
  have HV2_7 := Lib.hid (HV2_6.out.below hb7z)
  have HR3_7 := Lib.hid (HR3_6.out.below hb7z)
  have HV4_7 := Lib.hid (HV4_6.out.below hb7z)
  have HR5_7 := Lib.hid (HR5.out.below hb7z)
  have HRW := Lib.hid (show RowsS (w5.alloc (.cells #[.slice S2 ns2 cs2, .int .i64 2, .bool g3, .slice A3 m3 c3, .slice D3 md3 cd3, .slice S4 ns4 cs4, .int .i64 1, .bool g5, .slice A5 m5 c5, .slice D5 md5 cd5] 48)) 0 (.slice (some ⟨w5.heap.size, 0, none⟩) 2 2) aRows from (rows_lit2 rfl (r := ⟨.slice S2 ns2 cs2, 2, g3, .slice A3 m3 c3, .slice D3 md3 cd3⟩) (r' := ⟨.slice S4 ns4 cs4, 1, g5, .slice A5 m5 c5, .slice D5 md5 cd5⟩) (p := ⟨rats [1, 2], 2, ((4 : Int) : Rat)⟩) (p' := ⟨rats [3, 1], 1, ((9 : Int) : Rat)⟩) ⟨HV2_6.out, rfl, HR3_6.out⟩ ⟨HV4_6.out, rfl, HR5.out⟩))
  have BB_7 := Lib.hid (BB_6.out.trans ((hb7z).mono BB_6.out.size))
  have HCO := Lib.hid (show VecS (w5.alloc (.cells #[.slice S2 ns2 cs2, .int .i64 2, .bool g3, .slice A3 m3 c3, .slice D3 md3 cd3, .slice S4 ns4 cs4, .int .i64 1, .bool g5, .slice A5 m5 c5, .slice D5 md5 cd5] 48)) 0 (.slice S1 2 cs1) aCost from HV1_7.out)
  have hb8z := below_alloc (w5.alloc (.cells #[.slice S2 ns2 cs2, .int .i64 2, .bool g3, .slice A3 m3 c3, .slice D3 md3 cd3, .slice S4 ns4 cs4, .int .i64 1, .bool g5, .slice A5 m5 c5, .slice D5 md5 cd5] 48)) (.cells #[.slice S1 2 cs1, .slice (some ⟨w5.heap.size, 0, none⟩) 2 2] 31)
  have HRW_8 := Lib.hid (HRW.out.below hb8z)
  have HCO_8 := Lib.hid (HCO.out.below hb8z)
  have BB_8 := Lib.hid (BB_7.out.trans ((hb8z).mono BB_7.out.size))
  have KN8 := Lib.hid (show ((w5.alloc (.cells #[.slice S2 ns2 cs2, .int .i64 2, .bool g3, .slice A3 m3 c3, .slice D3 md3 cd3, .slice S4 ns4 cs4, .int .i64 1, .bool g5, .slice A5 m5 c5, .slice D5 md5 cd5] 48)).alloc (.cells #[.slice S1 2 cs1, .slice (some ⟨w5.heap.size, 0, none⟩) 2 2] 31)).heap[w5.heap.size + 1]? = some (.cells #[.slice S1 2 cs1, .slice (some ⟨w5.heap.size, 0, none⟩) 2 2] 31 (0, 0)) from blk_nw (by simp))
  obtain ⟨c0_0_8, c0_0_8d, c0_1_8, c0_1_8d⟩ := bc2 KN8.out
  go_wp2_with fail
  with_reducible refine (Rt.of 1 2 (by decide) (by decide) (by decide) (by decide) (by decide) _).mono ?_
  rintro e w6 ⟨g6, A6, m6, c6, D6, md6, cd6, rfl, hn, hb⟩
  have KB0_9 := Lib.hid (show (w6.alloc (.cells #[.bool g6, .slice A6 m6 c6, .slice D6 md6 cd6] 40)).heap[w5.heap.size + 1]? = some (.cells #[.slice S1 2 cs1, .slice (some ⟨w5.heap.size, 0, none⟩) 2 2] 31 (0, 0)) from blk_al (keepBlk hb KN8.out))
  have HRW_9 := Lib.hid (show RowsS (w6.alloc (.cells #[.bool g6, .slice A6 m6 c6, .slice D6 md6 cd6] 40)) 0 (.slice (some ⟨w5.heap.size, 0, none⟩) 2 2) aRows from (HRW_8.out.below hb).alloc _)
  have HCO_9 := Lib.hid (show VecS (w6.alloc (.cells #[.bool g6, .slice A6 m6 c6, .slice D6 md6 cd6] 40)) 0 (.slice S1 2 cs1) aCost from (HCO_8.out.below hb).alloc _)
  have HR6 := Lib.hid (show RatS (w6.alloc (.cells #[.bool g6, .slice A6 m6 c6, .slice D6 md6 cd6] 40)) g6 (.slice A6 m6 c6) (.slice D6 md6 cd6) (Rat.divInt 1 2) from (hn).alloc _)
  have BB_9 := Lib.hid (show Below w.heap.size w (w6.alloc (.cells #[.bool g6, .slice A6 m6 c6, .slice D6 md6 cd6] 40)) from ((BB_8.out.trans ((hb).mono BB_8.out.size))).alloc ((BB_8.out.trans ((hb).mono BB_8.out.size))).size _)
  have KB1_9 := Lib.hid (show (w6.alloc (.cells #[.bool g6, .slice A6 m6 c6, .slice D6 md6 cd6] 40)).heap[w6.heap.size]? = some (.cells #[.bool g6, .slice A6 m6 c6, .slice D6 md6 cd6] 40 (0, 0)) from blk_nw (by simp))
  obtain ⟨c0_0_9, c0_0_9d, c0_1_9, c0_1_9d⟩ := bc2 KB0_9.out
  obtain ⟨c1_0_9, c1_0_9d, c1_1_9, c1_1_9d, c1_2_9, c1_2_9d⟩ := bc3 KB1_9.out
  clear hn hb
  go_wp2_with fail
  with_reducible refine (Rt.of 1 4 (by decide) (by decide) (by decide) (by decide) (by decide) _).mono ?_
  rintro e w7 ⟨g7, A7, m7, c7, D7, md7, cd7, rfl, hn, hb⟩
  have KB0_10 := Lib.hid (show (w7.alloc (.cells #[.bool g7, .slice A7 m7 c7, .slice D7 md7 cd7] 40)).heap[w5.heap.size + 1]? = some (.cells #[.slice S1 2 cs1, .slice (some ⟨w5.heap.size, 0, none⟩) 2 2] 31 (0, 0)) from blk_al (keepBlk hb KB0_9.out))
  have KB1_10 := Lib.hid (show (w7.alloc (.cells #[.bool g7, .slice A7 m7 c7, .slice D7 md7 cd7] 40)).heap[w6.heap.size]? = some (.cells #[.bool g6, .slice A6 m6 c6, .slice D6 md6 cd6] 40 (0, 0)) from blk_al (keepBlk hb KB1_9.out))
  have HRW_10 := Lib.hid (show RowsS (w7.alloc (.cells #[.bool g7, .slice A7 m7 c7, .slice D7 md7 cd7] 40)) 0 (.slice (some ⟨w5.heap.size, 0, none⟩) 2 2) aRows from (HRW_9.out.below hb).alloc _)
  have HCO_10 := Lib.hid (show VecS (w7.alloc (.cells #[.bool g7, .slice A7 m7 c7, .slice D7 md7 cd7] 40)) 0 (.slice S1 2 cs1) aCost from (HCO_9.out.below hb).alloc _)
  have HR6_10 := Lib.hid (show RatS (w7.alloc (.cells #[.bool g7, .slice A7 m7 c7, .slice D7 md7 cd7] 40)) g6 (.slice A6 m6 c6) (.slice D6 md6 cd6) (Rat.divInt 1 2) from (HR6.out.below hb).alloc _)
  have HR7 := Lib.hid (show RatS (w7.alloc (.cells #[.bool g7, .slice A7 m7 c7, .slice D7 md7 cd7] 40)) g7 (.slice A7 m7 c7) (.slice D7 md7 cd7) (Rat.divInt 1 4) from (hn).alloc _)
  have BB_10 := Lib.hid (show Below w.heap.size w (w7.alloc (.cells #[.bool g7, .slice A7 m7 c7, .slice D7 md7 cd7] 40)) from ((BB_9.out.trans ((hb).mono BB_9.out.size))).alloc ((BB_9.out.trans ((hb).mono BB_9.out.size))).size _)
  have KB2_10 := Lib.hid (show (w7.alloc (.cells #[.bool g7, .slice A7 m7 c7, .slice D7 md7 cd7] 40)).heap[w7.heap.size]? = some (.cells #[.bool g7, .slice A7 m7 c7, .slice D7 md7 cd7] 40 (0, 0)) from blk_nw (by simp))
  obtain ⟨c0_0_10, c0_0_10d, c0_1_10, c0_1_10d⟩ := bc2 KB0_10.out
  obtain ⟨c1_0_10, c1_0_10d, c1_1_10, c1_1_10d, c1_2_10, c1_2_10d⟩ := bc3 KB1_10.out
  obtain ⟨c2_0_10, c2_0_10d, c2_1_10, c2_1_10d, c2_2_10, c2_2_10d⟩ := bc3 KB2_10.out
  clear hn hb
  go_wp2_with fail
  generalize hwa : (w7.alloc (.cells #[.bool g7, .slice A7 m7 c7, .slice D7 md7 cd7] 40)) = wa at *
  clear hwa
  have HS := Lib.hid (show ∀ w', Below wa.heap.size wa w' → ((w'.cell? ⟨w5.heap.size + 1, 0, none⟩ = some (.slice S1 2 cs1) ∧ w'.cell? ⟨w5.heap.size + 1, 1, none⟩ = some (.slice (some ⟨w5.heap.size, 0, none⟩) 2 2) ∧ w'.cell? ⟨w7.heap.size, 0, none⟩ = some (.bool g7) ∧ w'.cell? ⟨w7.heap.size, 1, none⟩ = some (.slice A7 m7 c7) ∧ w'.cell? ⟨w7.heap.size, 2, none⟩ = some (.slice D7 md7 cd7)) ∧ Below wa.heap.size wa w') from fun w' h => ⟨⟨keepCell h c0_0_10, keepCell h c0_1_10, keepCell h c2_0_10, keepCell h c2_1_10, keepCell h c2_2_10⟩, h⟩)
  go_cut [6, 7] (fun s6 s7 wr => BoxRat wa s6 wr (sb aQ aRows) ∧ s7 = .bool true)
  case first =>
    go_region_held3 (fun w' => ((w'.cell? ⟨w5.heap.size + 1, 0, none⟩ = some (.slice S1 2 cs1) ∧ w'.cell? ⟨w5.heap.size + 1, 1, none⟩ = some (.slice (some ⟨w5.heap.size, 0, none⟩) 2 2) ∧ w'.cell? ⟨w7.heap.size, 0, none⟩ = some (.bool g7) ∧ w'.cell? ⟨w7.heap.size, 1, none⟩ = some (.slice A7 m7 c7) ∧ w'.cell? ⟨w7.heap.size, 2, none⟩ = some (.slice D7 md7 cd7)) ∧ Below wa.heap.size wa w'))
      ((refine HS.out _ ?_; repeat (first | exact Below.refl _ _ | exact (by assumption : _ ∧ Below _ _ _).2 | with_reducible refine bdrew ?_ | with_reducible refine al2 ?_ _ | with_reducible refine set2 ?_ (by omega) | with_reducible refine bstep2 ?_ (by assumption))))
      (first
        | (go_at_call 18; (with_reducible refine (Rt.int 0 (by decide) (by decide) _).mono ?_); rintro e u1 ⟨g8, A8, m8, c8, D8, md8, cd8, rfl, hn, hb1⟩; have hz1 := hb1.size; (try simp at hz1); have hze1 : wa.heap.size ≤ u1.heap.size := (by omega); (try ((first | (have XB := Lib.hid (keepB (cs := #[.bool false, .slice none 0 0, .slice none 0 0]) (t := 40) hb1 XB.out)) | (have XB := Lib.hid (keepB (cs := #[.bool false, .slice none 0 0, .slice none 0 0]) (t := 40) hb1 (blk_new _ _ _)))); have XBc0 := blk_cell XB.out 0; have XBf0 := blk_fro XB.out 0; have XBc1 := blk_cell XB.out 1; have XBf1 := blk_fro XB.out 1; have XBc2 := blk_cell XB.out 2; have XBf2 := blk_fro XB.out 2)); have N8 := Lib.hid hn; clear hn)
        | (go_at_call 8; (with_reducible refine (Ct.bounds_yes S1 2 cs1 (some ⟨w5.heap.size, 0, none⟩) 2 2 aCost aRows _ 2 2 aQ _ (HCO_10.out.below (by assumption : _ ∧ Below _ _ _).2) (HRW_10.out.below (by assumption : _ ∧ Below _ _ _).2) (by repeat (first | with_reducible refine vec_lit2 rfl ?_ ?_ | with_reducible refine vec_lit2 (by simp) ?_ ?_ | with_reducible refine VecS.alloc ?_ _ | exact N8.out | exact HR7.out | with_reducible refine RatS.alloc ?_ _ | refine RatS.below ?_ hb1 | with_reducible refine RatS.drew ?_)) aQl aGood aQs aCl a1).mono ?_); rintro e u2 ⟨g9, A9, m9, c9, D9, md9, cd9, rfl, hn, hb2⟩; have hz2 := hb2.size; (try simp at hz2); have hze2 : wa.heap.size ≤ u2.heap.size := (by omega); (try ((first | (have XB := Lib.hid (keepB (cs := #[.bool false, .slice none 0 0, .slice none 0 0]) (t := 40) hb2 XB.out)) | (have XB := Lib.hid (keepB (cs := #[.bool false, .slice none 0 0, .slice none 0 0]) (t := 40) hb2 (blk_al XB.out))) | (have XB := Lib.hid (keepB (cs := #[.bool false, .slice none 0 0, .slice none 0 0]) (t := 40) hb2 (box_new1 _ _ _ _))) | (have XB := Lib.hid (keepB (cs := #[.bool false, .slice none 0 0, .slice none 0 0]) (t := 40) hb2 (blk_al (blk_new _ _ _)))) | (have XB := Lib.hid (keepB (cs := #[.bool false, .slice none 0 0, .slice none 0 0]) (t := 40) hb2 (blk_new _ _ _)))); have XBc0 := blk_cell XB.out 0; have XBf0 := blk_fro XB.out 0; have XBc1 := blk_cell XB.out 1; have XBf1 := blk_fro XB.out 1; have XBc2 := blk_cell XB.out 2; have XBf2 := blk_fro XB.out 2)); have N9 := Lib.hid hn; clear hn)
        | fail)
    all_goals
      go_wp2
      go_meet
      case rel => (have hbe := (by assumption : _ ∧ Below wa.heap.size wa _).2; (first | (with_reducible refine ⟨BoxRat.of hbe ?_ XB.out N9.out, rfl⟩; omega) | (with_reducible refine ⟨BoxRat.al hbe ?_ N9.out, rfl⟩; omega)))
  case rest =>
    obtain ⟨⟨nb, g9, A9, m9, c9, D9, md9, cd9, rfl, hbX, hnb, hkb, hi⟩, rfl⟩ := hcut
    rename World => wb
    have KB0_11 := Lib.hid (keepBlk hbX KB0_10.out)
    have KB1_11 := Lib.hid (keepBlk hbX KB1_10.out)
    have KB2_11 := Lib.hid (keepBlk hbX KB2_10.out)
    have HRW_11 := Lib.hid (HRW_10.out.below hbX)
    have HCO_11 := Lib.hid (HCO_10.out.below hbX)
    have HR6_11 := Lib.hid (HR6_10.out.below hbX)
    have HR7_11 := Lib.hid (HR7.out.below hbX)
    have HB9 := Lib.hid (show RatS wb g9 (.slice A9 m9 c9) (.slice D9 md9 cd9) (sb aQ aRows) from hi)
    have BB_11 := Lib.hid (BB_10.out.trans ((hbX).mono BB_10.out.size))
    obtain ⟨c0_0_11, c0_0_11d, c0_1_11, c0_1_11d⟩ := bc2 KB0_11.out
    obtain ⟨c1_0_11, c1_0_11d, c1_1_11, c1_1_11d, c1_2_11, c1_2_11d⟩ := bc3 KB1_11.out
    obtain ⟨c2_0_11, c2_0_11d, c2_1_11, c2_1_11d, c2_2_11, c2_2_11d⟩ := bc3 KB2_11.out
    have KNB := Lib.hid hkb
    obtain ⟨c0_0_11, c0_0_11d, c0_1_11, c0_1_11d⟩ := bc2 KB0_11.out
    obtain ⟨c1_0_11, c1_0_11d, c1_1_11, c1_1_11d, c1_2_11, c1_2_11d⟩ := bc3 KB1_11.out
    obtain ⟨c2_0_11, c2_0_11d, c2_1_11, c2_1_11d, c2_2_11, c2_2_11d⟩ := bc3 KB2_11.out
    obtain ⟨c3_0_11, c3_0_11d, c3_1_11, c3_1_11d, c3_2_11, c3_2_11d⟩ := bc3 KNB.out
    clear hbX hnb hkb hi HS
    go_wp2_with fail
    have HS := Lib.hid (show ∀ w', Below wb.heap.size wb w' → ((w'.cell? ⟨w5.heap.size + 1, 0, none⟩ = some (.slice S1 2 cs1) ∧ w'.cell? ⟨w5.heap.size + 1, 1, none⟩ = some (.slice (some ⟨w5.heap.size, 0, none⟩) 2 2)) ∧ Below wb.heap.size wb w') from fun w' h => ⟨⟨keepCell h c0_0_11, keepCell h c0_1_11⟩, h⟩)
    go_cut [9] (fun s9 wr => s9 = .bool false ∧ Below wb.heap.size wb wr)
    case first =>
      go_region_held3 (fun w' => ((w'.cell? ⟨w5.heap.size + 1, 0, none⟩ = some (.slice S1 2 cs1) ∧ w'.cell? ⟨w5.heap.size + 1, 1, none⟩ = some (.slice (some ⟨w5.heap.size, 0, none⟩) 2 2)) ∧ Below wb.heap.size wb w'))
        ((refine HS.out _ ?_; repeat (first | exact Below.refl _ _ | exact (by assumption : _ ∧ Below _ _ _).2 | with_reducible refine bdrew ?_ | with_reducible refine al2 ?_ _ | with_reducible refine set2 ?_ (by omega) | with_reducible refine bstep2 ?_ (by assumption))))
        (first
          | (go_at_call 17; (with_reducible refine (Vc.of _ 2 2 [1, 0] _ rfl (by repeat (first | with_reducible exact ints2' (by simp) 1 0 | with_reducible exact ints2' rfl 1 0 | with_reducible refine ints_drew ?_ | with_reducible refine ints_al ?_)) (by decide) (by decide) (by decide)).mono ?_); rintro e u1 ⟨S10, ns10, cs10, rfl, hv, hb1⟩; have hz1 := hb1.size; (try simp at hz1); have hze1 : wb.heap.size ≤ u1.heap.size := (by omega); (try ((first | (have XB := Lib.hid (keepB (cs := #[.bool false, .slice none 0 0, .slice none 0 0]) (t := 40) hb1 XB.out)) | (have XB := Lib.hid (keepB (cs := #[.bool false, .slice none 0 0, .slice none 0 0]) (t := 40) hb1 (blk_al XB.out))) | (have XB := Lib.hid (keepB (cs := #[.bool false, .slice none 0 0, .slice none 0 0]) (t := 40) hb1 (box_new1 _ _ _ _))) | (have XB := Lib.hid (keepB (cs := #[.bool false, .slice none 0 0, .slice none 0 0]) (t := 40) hb1 (blk_al (blk_new _ _ _)))) | (have XB := Lib.hid (keepB (cs := #[.bool false, .slice none 0 0, .slice none 0 0]) (t := 40) hb1 (blk_new _ _ _)))); have XBc0 := blk_cell XB.out 0; have XBf0 := blk_fro XB.out 0; have XBc1 := blk_cell XB.out 1; have XBf1 := blk_fro XB.out 1; have XBc2 := blk_cell XB.out 2; have XBf2 := blk_fro XB.out 2)); have N10 := Lib.hid (hv.base (Nat.zero_le _)); clear hv)
          | (go_at_call 8; (with_reducible refine (Ct.bounds_nope S1 2 cs1 (some ⟨w5.heap.size, 0, none⟩) 2 2 aCost aRows S10 ns10 cs10 (rats [1, 0]) _ (HCO_11.out.below (by assumption : _ ∧ Below _ _ _).2) (HRW_11.out.below (by assumption : _ ∧ Below _ _ _).2) (by repeat (first | exact N10.out | with_reducible refine VecS.alloc ?_ _ | with_reducible refine VecS.drew ?_)) aNl aGood aNs aCl a2).mono ?_); rintro e u2 ⟨g19, A19, m19, c19, D19, md19, cd19, rfl, hn, hb2⟩; have hz2 := hb2.size; (try simp at hz2); have hze2 : wb.heap.size ≤ u2.heap.size := (by omega); (try ((first | (have XB := Lib.hid (keepB (cs := #[.bool false, .slice none 0 0, .slice none 0 0]) (t := 40) hb2 XB.out)) | (have XB := Lib.hid (keepB (cs := #[.bool false, .slice none 0 0, .slice none 0 0]) (t := 40) hb2 (blk_al XB.out))) | (have XB := Lib.hid (keepB (cs := #[.bool false, .slice none 0 0, .slice none 0 0]) (t := 40) hb2 (box_new1 _ _ _ _))) | (have XB := Lib.hid (keepB (cs := #[.bool false, .slice none 0 0, .slice none 0 0]) (t := 40) hb2 (blk_al (blk_new _ _ _)))) | (have XB := Lib.hid (keepB (cs := #[.bool false, .slice none 0 0, .slice none 0 0]) (t := 40) hb2 (blk_new _ _ _)))); have XBc0 := blk_cell XB.out 0; have XBf0 := blk_fro XB.out 0; have XBc1 := blk_cell XB.out 1; have XBf1 := blk_fro XB.out 1; have XBc2 := blk_cell XB.out 2; have XBf2 := blk_fro XB.out 2)); clear hn)
          | fail)
      all_goals
        go_wp2
        go_meet
        case rel => exact ⟨rfl, (by assumption : _ ∧ Below wb.heap.size wb _).2⟩
    case rest =>
      obtain ⟨rfl, hbX⟩ := hcut
      rename World => wc
      have KB0_12 := Lib.hid (keepBlk hbX KB0_11.out)
      have KB1_12 := Lib.hid (keepBlk hbX KB1_11.out)
      have KB2_12 := Lib.hid (keepBlk hbX KB2_11.out)
      have KB3_12 := Lib.hid (keepBlk hbX KNB.out)
      have HRW_12 := Lib.hid (HRW_11.out.below hbX)
      have HCO_12 := Lib.hid (HCO_11.out.below hbX)
      have HR6_12 := Lib.hid (HR6_11.out.below hbX)
      have HR7_12 := Lib.hid (HR7_11.out.below hbX)
      have HB9_12 := Lib.hid (HB9.out.below hbX)
      have BB_12 := Lib.hid (BB_11.out.trans ((hbX).mono BB_11.out.size))
      obtain ⟨c0_0_12, c0_0_12d, c0_1_12, c0_1_12d⟩ := bc2 KB0_12.out
      obtain ⟨c1_0_12, c1_0_12d, c1_1_12, c1_1_12d, c1_2_12, c1_2_12d⟩ := bc3 KB1_12.out
      obtain ⟨c2_0_12, c2_0_12d, c2_1_12, c2_1_12d, c2_2_12, c2_2_12d⟩ := bc3 KB2_12.out
      obtain ⟨c3_0_12, c3_0_12d, c3_1_12, c3_1_12d, c3_2_12, c3_2_12d⟩ := bc3 KB3_12.out
      clear hbX HS
      go_wp2_with fail
      have hb13z := below_alloc wc (.cells #[.int .i64 0] 3)
      have KB0_13 := Lib.hid (keepBlk hb13z KB0_12.out)
      have KB1_13 := Lib.hid (keepBlk hb13z KB1_12.out)
      have KB2_13 := Lib.hid (keepBlk hb13z KB2_12.out)
      have KB3_13 := Lib.hid (keepBlk hb13z KB3_12.out)
      have HRW_13 := Lib.hid (HRW_12.out.below hb13z)
      have HCO_13 := Lib.hid (HCO_12.out.below hb13z)
      have HR6_13 := Lib.hid (HR6_12.out.below hb13z)
      have HR7_13 := Lib.hid (HR7_12.out.below hb13z)
      have HB9_13 := Lib.hid (HB9_12.out.below hb13z)
      have BB_13 := Lib.hid (BB_12.out.trans ((hb13z).mono BB_12.out.size))
      obtain ⟨c0_0_13, c0_0_13d, c0_1_13, c0_1_13d⟩ := bc2 KB0_13.out
      obtain ⟨c1_0_13, c1_0_13d, c1_1_13, c1_1_13d, c1_2_13, c1_2_13d⟩ := bc3 KB1_13.out
      obtain ⟨c2_0_13, c2_0_13d, c2_1_13, c2_1_13d, c2_2_13, c2_2_13d⟩ := bc3 KB2_13.out
      obtain ⟨c3_0_13, c3_0_13d, c3_1_13, c3_1_13d, c3_2_13, c3_2_13d⟩ := bc3 KB3_13.out
      with_reducible refine (Vc.of wc.heap.size 1 1 [0] _ rfl (ints1 wc (0)) (by decide) (by decide) (by decide)).mono ?_
      rintro e w10 ⟨S11, ns11, cs11, rfl, hv, hb⟩
      have KB0_14 := Lib.hid (show (w10.alloc (.cells #[.int .i64 1] 3)).heap[w5.heap.size + 1]? = some (.cells #[.slice S1 2 cs1, .slice (some ⟨w5.heap.size, 0, none⟩) 2 2] 31 (0, 0)) from blk_al (keepBlk hb KB0_13.out))
      have KB1_14 := Lib.hid (show (w10.alloc (.cells #[.int .i64 1] 3)).heap[w6.heap.size]? = some (.cells #[.bool g6, .slice A6 m6 c6, .slice D6 md6 cd6] 40 (0, 0)) from blk_al (keepBlk hb KB1_13.out))
      have KB2_14 := Lib.hid (show (w10.alloc (.cells #[.int .i64 1] 3)).heap[w7.heap.size]? = some (.cells #[.bool g7, .slice A7 m7 c7, .slice D7 md7 cd7] 40 (0, 0)) from blk_al (keepBlk hb KB2_13.out))
      have KB3_14 := Lib.hid (show (w10.alloc (.cells #[.int .i64 1] 3)).heap[nb]? = some (.cells #[.bool g9, .slice A9 m9 c9, .slice D9 md9 cd9] 40 (0, 0)) from blk_al (keepBlk hb KB3_13.out))
      have HRW_14 := Lib.hid (show RowsS (w10.alloc (.cells #[.int .i64 1] 3)) 0 (.slice (some ⟨w5.heap.size, 0, none⟩) 2 2) aRows from (HRW_13.out.below hb).alloc _)
      have HCO_14 := Lib.hid (show VecS (w10.alloc (.cells #[.int .i64 1] 3)) 0 (.slice S1 2 cs1) aCost from (HCO_13.out.below hb).alloc _)
      have HR6_14 := Lib.hid (show RatS (w10.alloc (.cells #[.int .i64 1] 3)) g6 (.slice A6 m6 c6) (.slice D6 md6 cd6) (Rat.divInt 1 2) from (HR6_13.out.below hb).alloc _)
      have HR7_14 := Lib.hid (show RatS (w10.alloc (.cells #[.int .i64 1] 3)) g7 (.slice A7 m7 c7) (.slice D7 md7 cd7) (Rat.divInt 1 4) from (HR7_13.out.below hb).alloc _)
      have HB9_14 := Lib.hid (show RatS (w10.alloc (.cells #[.int .i64 1] 3)) g9 (.slice A9 m9 c9) (.slice D9 md9 cd9) (sb aQ aRows) from (HB9_13.out.below hb).alloc _)
      have HV11 := Lib.hid (show VecS (w10.alloc (.cells #[.int .i64 1] 3)) 0 (.slice S11 ns11 cs11) (rats [0]) from ((hv.base (Nat.zero_le _))).alloc _)
      have BB_14 := Lib.hid (show Below w.heap.size w (w10.alloc (.cells #[.int .i64 1] 3)) from ((BB_13.out.trans ((hb).mono BB_13.out.size))).alloc ((BB_13.out.trans ((hb).mono BB_13.out.size))).size _)
      have KB4_14 := Lib.hid (show (w10.alloc (.cells #[.int .i64 1] 3)).heap[w10.heap.size]? = some (.cells #[.int .i64 1] 3 (0, 0)) from blk_nw (by simp))
      obtain ⟨c0_0_14, c0_0_14d, c0_1_14, c0_1_14d⟩ := bc2 KB0_14.out
      obtain ⟨c1_0_14, c1_0_14d, c1_1_14, c1_1_14d, c1_2_14, c1_2_14d⟩ := bc3 KB1_14.out
      obtain ⟨c2_0_14, c2_0_14d, c2_1_14, c2_1_14d, c2_2_14, c2_2_14d⟩ := bc3 KB2_14.out
      obtain ⟨c3_0_14, c3_0_14d, c3_1_14, c3_1_14d, c3_2_14, c3_2_14d⟩ := bc3 KB3_14.out
      obtain ⟨c4_0_14, c4_0_14d⟩ := bc1 KB4_14.out
      clear hv hb
      go_wp2_with fail
      with_reducible refine (Vc.of w10.heap.size 1 1 [1] _ rfl (ints1 w10 (1)) (by decide) (by decide) (by decide)).mono ?_
      rintro e w11 ⟨S12, ns12, cs12, rfl, hv, hb⟩
      have KB0_15 := Lib.hid (keepBlk hb KB0_14.out)
      have KB1_15 := Lib.hid (keepBlk hb KB1_14.out)
      have KB2_15 := Lib.hid (keepBlk hb KB2_14.out)
      have KB3_15 := Lib.hid (keepBlk hb KB3_14.out)
      have HRW_15 := Lib.hid (HRW_14.out.below hb)
      have HCO_15 := Lib.hid (HCO_14.out.below hb)
      have HR6_15 := Lib.hid (HR6_14.out.below hb)
      have HR7_15 := Lib.hid (HR7_14.out.below hb)
      have HB9_15 := Lib.hid (HB9_14.out.below hb)
      have HV11_15 := Lib.hid (HV11.out.below hb)
      have HV12 := Lib.hid (show VecS w11 0 (.slice S12 ns12 cs12) (rats [1]) from (hv.base (Nat.zero_le _)))
      have BB_15 := Lib.hid (BB_14.out.trans ((hb).mono BB_14.out.size))
      obtain ⟨c0_0_15, c0_0_15d, c0_1_15, c0_1_15d⟩ := bc2 KB0_15.out
      obtain ⟨c1_0_15, c1_0_15d, c1_1_15, c1_1_15d, c1_2_15, c1_2_15d⟩ := bc3 KB1_15.out
      obtain ⟨c2_0_15, c2_0_15d, c2_1_15, c2_1_15d, c2_2_15, c2_2_15d⟩ := bc3 KB2_15.out
      obtain ⟨c3_0_15, c3_0_15d, c3_1_15, c3_1_15d, c3_2_15, c3_2_15d⟩ := bc3 KB3_15.out
      clear hv hb
      go_wp2_with fail
      with_reducible refine (Rt.int (-1) (by decide) (by decide) _).mono ?_
      rintro e w12 ⟨g13, A13, m13, c13, D13, md13, cd13, rfl, hn, hb⟩
      have KB0_16 := Lib.hid (keepBlk hb KB0_15.out)
      have KB1_16 := Lib.hid (keepBlk hb KB1_15.out)
      have KB2_16 := Lib.hid (keepBlk hb KB2_15.out)
      have KB3_16 := Lib.hid (keepBlk hb KB3_15.out)
      have HRW_16 := Lib.hid (HRW_15.out.below hb)
      have HCO_16 := Lib.hid (HCO_15.out.below hb)
      have HR6_16 := Lib.hid (HR6_15.out.below hb)
      have HR7_16 := Lib.hid (HR7_15.out.below hb)
      have HB9_16 := Lib.hid (HB9_15.out.below hb)
      have HV11_16 := Lib.hid (HV11_15.out.below hb)
      have HV12_16 := Lib.hid (HV12.out.below hb)
      have HR13 := Lib.hid (show RatS w12 g13 (.slice A13 m13 c13) (.slice D13 md13 cd13) ((-1 : Int) : Rat) from hn)
      have BB_16 := Lib.hid (BB_15.out.trans ((hb).mono BB_15.out.size))
      obtain ⟨c0_0_16, c0_0_16d, c0_1_16, c0_1_16d⟩ := bc2 KB0_16.out
      obtain ⟨c1_0_16, c1_0_16d, c1_1_16, c1_1_16d, c1_2_16, c1_2_16d⟩ := bc3 KB1_16.out
      obtain ⟨c2_0_16, c2_0_16d, c2_1_16, c2_1_16d, c2_2_16, c2_2_16d⟩ := bc3 KB2_16.out
      obtain ⟨c3_0_16, c3_0_16d, c3_1_16, c3_1_16d, c3_2_16, c3_2_16d⟩ := bc3 KB3_16.out
      clear hn hb
      obtain rfl : 1 = ns11 := HV11_16.out.len.symm
      have hb17z := below_alloc w12 (.cells #[.slice S12 ns12 cs12, .int .i64 1, .bool g13, .slice A13 m13 c13, .slice D13 md13 cd13] 48)
      have KB0_17 := Lib.hid (keepBlk hb17z KB0_16.out)
      have KB1_17 := Lib.hid (keepBlk hb17z KB1_16.out)
      have KB2_17 := Lib.hid (keepBlk hb17z KB2_16.out)
      have KB3_17 := Lib.hid (keepBlk hb17z KB3_16.out)
      have HRW_17 := Lib.hid (HRW_16.out.below hb17z)
      have HCO_17 := Lib.hid (HCO_16.out.below hb17z)
      have HR6_17 := Lib.hid (HR6_16.out.below hb17z)
      have HR7_17 := Lib.hid (HR7_16.out.below hb17z)
      have HB9_17 := Lib.hid (HB9_16.out.below hb17z)
      have HV11_17 := Lib.hid (HV11_16.out.below hb17z)
      have HV12_17 := Lib.hid (HV12_16.out.below hb17z)
      have HR13_17 := Lib.hid (HR13.out.below hb17z)
      have HRX := Lib.hid (show RowsS (w12.alloc (.cells #[.slice S12 ns12 cs12, .int .i64 1, .bool g13, .slice A13 m13 c13, .slice D13 md13 cd13] 48)) 0 (.slice (some ⟨w12.heap.size, 0, none⟩) 1 1) iRows from (rows_lit1 rfl (r := ⟨.slice S12 ns12 cs12, 1, g13, .slice A13 m13 c13, .slice D13 md13 cd13⟩) (p := ⟨rats [1], 1, ((-1 : Int) : Rat)⟩) ⟨HV12_16.out, rfl, HR13.out⟩))
      have BB_17 := Lib.hid (BB_16.out.trans ((hb17z).mono BB_16.out.size))
      obtain ⟨c0_0_17, c0_0_17d, c0_1_17, c0_1_17d⟩ := bc2 KB0_17.out
      obtain ⟨c1_0_17, c1_0_17d, c1_1_17, c1_1_17d, c1_2_17, c1_2_17d⟩ := bc3 KB1_17.out
      obtain ⟨c2_0_17, c2_0_17d, c2_1_17, c2_1_17d, c2_2_17, c2_2_17d⟩ := bc3 KB2_17.out
      obtain ⟨c3_0_17, c3_0_17d, c3_1_17, c3_1_17d, c3_2_17, c3_2_17d⟩ := bc3 KB3_17.out
      have hb18z := below_alloc (w12.alloc (.cells #[.slice S12 ns12 cs12, .int .i64 1, .bool g13, .slice A13 m13 c13, .slice D13 md13 cd13] 48)) (.cells #[.int .i64 (-1)] 3)
      have KB0_18 := Lib.hid (keepBlk hb18z KB0_17.out)
      have KB1_18 := Lib.hid (keepBlk hb18z KB1_17.out)
      have KB2_18 := Lib.hid (keepBlk hb18z KB2_17.out)
      have KB3_18 := Lib.hid (keepBlk hb18z KB3_17.out)
      have HRW_18 := Lib.hid (HRW_17.out.below hb18z)
      have HCO_18 := Lib.hid (HCO_17.out.below hb18z)
      have HR6_18 := Lib.hid (HR6_17.out.below hb18z)
      have HR7_18 := Lib.hid (HR7_17.out.below hb18z)
      have HB9_18 := Lib.hid (HB9_17.out.below hb18z)
      have HV11_18 := Lib.hid (HV11_17.out.below hb18z)
      have HRX_18 := Lib.hid (HRX.out.below hb18z)
      have BB_18 := Lib.hid (BB_17.out.trans ((hb18z).mono BB_17.out.size))
      obtain ⟨c0_0_18, c0_0_18d, c0_1_18, c0_1_18d⟩ := bc2 KB0_18.out
      obtain ⟨c1_0_18, c1_0_18d, c1_1_18, c1_1_18d, c1_2_18, c1_2_18d⟩ := bc3 KB1_18.out
      obtain ⟨c2_0_18, c2_0_18d, c2_1_18, c2_1_18d, c2_2_18, c2_2_18d⟩ := bc3 KB2_18.out
      obtain ⟨c3_0_18, c3_0_18d, c3_1_18, c3_1_18d, c3_2_18, c3_2_18d⟩ := bc3 KB3_18.out
      go_wp2_with fail
      with_reducible refine (Vc.of (w12.heap.size + 1) 1 1 [-1] _ rfl (ints1' (by simp) (-1)) (by decide) (by decide) (by decide)).mono ?_
      rintro e w13 ⟨S14, ns14, cs14, rfl, hv, hb⟩
      have KB0_19 := Lib.hid (keepBlk hb KB0_18.out)
      have KB1_19 := Lib.hid (keepBlk hb KB1_18.out)
      have KB2_19 := Lib.hid (keepBlk hb KB2_18.out)
      have KB3_19 := Lib.hid (keepBlk hb KB3_18.out)
      have HRW_19 := Lib.hid (HRW_18.out.below hb)
      have HCO_19 := Lib.hid (HCO_18.out.below hb)
      have HR6_19 := Lib.hid (HR6_18.out.below hb)
      have HR7_19 := Lib.hid (HR7_18.out.below hb)
      have HB9_19 := Lib.hid (HB9_18.out.below hb)
      have HV11_19 := Lib.hid (HV11_18.out.below hb)
      have HRX_19 := Lib.hid (HRX_18.out.below hb)
      have HV14 := Lib.hid (show VecS w13 0 (.slice S14 ns14 cs14) (rats [-1]) from (hv.base (Nat.zero_le _)))
      have BB_19 := Lib.hid (BB_18.out.trans ((hb).mono BB_18.out.size))
      obtain ⟨c0_0_19, c0_0_19d, c0_1_19, c0_1_19d⟩ := bc2 KB0_19.out
      obtain ⟨c1_0_19, c1_0_19d, c1_1_19, c1_1_19d, c1_2_19, c1_2_19d⟩ := bc3 KB1_19.out
      obtain ⟨c2_0_19, c2_0_19d, c2_1_19, c2_1_19d, c2_2_19, c2_2_19d⟩ := bc3 KB2_19.out
      obtain ⟨c3_0_19, c3_0_19d, c3_1_19, c3_1_19d, c3_2_19, c3_2_19d⟩ := bc3 KB3_19.out
      clear hv hb
      go_wp2_with fail
      have HCI := Lib.hid (show VecS w13 0 (.slice S11 1 cs11) iCost from HV11_19.out)
      with_reducible refine (Ct.infeasible S11 1 cs11 (some ⟨w12.heap.size, 0, none⟩) 1 1 iCost iRows S14 ns14 cs14 (rats [-1]) _ HCI.out HRX_19.out HV14.out iYl iGood iYs i1 i2 i4).mono ?_
      rintro e w14 ⟨rfl, hb⟩
      have KB0_20 := Lib.hid (keepBlk hb KB0_19.out)
      have KB1_20 := Lib.hid (keepBlk hb KB1_19.out)
      have KB2_20 := Lib.hid (keepBlk hb KB2_19.out)
      have KB3_20 := Lib.hid (keepBlk hb KB3_19.out)
      have HRW_20 := Lib.hid (HRW_19.out.below hb)
      have HCO_20 := Lib.hid (HCO_19.out.below hb)
      have HR6_20 := Lib.hid (HR6_19.out.below hb)
      have HR7_20 := Lib.hid (HR7_19.out.below hb)
      have HB9_20 := Lib.hid (HB9_19.out.below hb)
      have HV11_20 := Lib.hid (HV11_19.out.below hb)
      have HRX_20 := Lib.hid (HRX_19.out.below hb)
      have HV14_20 := Lib.hid (HV14.out.below hb)
      have BB_20 := Lib.hid (BB_19.out.trans ((hb).mono BB_19.out.size))
      obtain ⟨c0_0_20, c0_0_20d, c0_1_20, c0_1_20d⟩ := bc2 KB0_20.out
      obtain ⟨c1_0_20, c1_0_20d, c1_1_20, c1_1_20d, c1_2_20, c1_2_20d⟩ := bc3 KB1_20.out
      obtain ⟨c2_0_20, c2_0_20d, c2_1_20, c2_1_20d, c2_2_20, c2_2_20d⟩ := bc3 KB2_20.out
      obtain ⟨c3_0_20, c3_0_20d, c3_1_20, c3_1_20d, c3_2_20, c3_2_20d⟩ := bc3 KB3_20.out
      clear hb
      go_wp2_with fail
      have HS := Lib.hid (show ∀ w', Below w14.heap.size w14 w' → ((w'.cell? ⟨w5.heap.size + 1, 0, none⟩ = some (.slice S1 2 cs1) ∧ w'.cell? ⟨w5.heap.size + 1, 1, none⟩ = some (.slice (some ⟨w5.heap.size, 0, none⟩) 2 2) ∧ w'.cell? ⟨w6.heap.size, 0, none⟩ = some (.bool g6) ∧ w'.cell? ⟨w6.heap.size, 1, none⟩ = some (.slice A6 m6 c6) ∧ w'.cell? ⟨w6.heap.size, 2, none⟩ = some (.slice D6 md6 cd6) ∧ w'.cell? ⟨nb, 0, none⟩ = some (.bool g9) ∧ w'.cell? ⟨nb, 1, none⟩ = some (.slice A9 m9 c9) ∧ w'.cell? ⟨nb, 2, none⟩ = some (.slice D9 md9 cd9)) ∧ Below w14.heap.size w14 w') from fun w' h => ⟨⟨keepCell h c0_0_20, keepCell h c0_1_20, keepCell h c1_0_20, keepCell h c1_1_20, keepCell h c1_2_20, keepCell h c3_0_20, keepCell h c3_1_20, keepCell h c3_2_20⟩, h⟩)
      go_region_held3 (fun w' => ((w'.cell? ⟨w5.heap.size + 1, 0, none⟩ = some (.slice S1 2 cs1) ∧ w'.cell? ⟨w5.heap.size + 1, 1, none⟩ = some (.slice (some ⟨w5.heap.size, 0, none⟩) 2 2) ∧ w'.cell? ⟨w6.heap.size, 0, none⟩ = some (.bool g6) ∧ w'.cell? ⟨w6.heap.size, 1, none⟩ = some (.slice A6 m6 c6) ∧ w'.cell? ⟨w6.heap.size, 2, none⟩ = some (.slice D6 md6 cd6) ∧ w'.cell? ⟨nb, 0, none⟩ = some (.bool g9) ∧ w'.cell? ⟨nb, 1, none⟩ = some (.slice A9 m9 c9) ∧ w'.cell? ⟨nb, 2, none⟩ = some (.slice D9 md9 cd9)) ∧ Below w14.heap.size w14 w'))
        ((refine HS.out _ ?_; repeat (first | exact Below.refl _ _ | exact (by assumption : _ ∧ Below _ _ _).2 | with_reducible refine bdrew ?_ | with_reducible refine al2 ?_ _ | with_reducible refine set2 ?_ (by omega) | with_reducible refine bstep2 ?_ (by assumption))))
        (first
          | ((fail_if_success have hx_ := N20.out); (go_at_call 17; (with_reducible refine (Vc.of _ 2 2 [0, 2] _ rfl (by repeat (first | with_reducible exact ints2' (by simp) 0 2 | with_reducible exact ints2' rfl 0 2 | with_reducible refine ints_drew ?_ | with_reducible refine ints_al ?_)) (by decide) (by decide) (by decide)).mono ?_); rintro e u1 ⟨S20, ns20, cs20, rfl, hv, hb1⟩; have hz1 := hb1.size; (try simp at hz1); have hze1 : w14.heap.size ≤ u1.heap.size := (by omega); (try ((first | (have XB := Lib.hid (keepB (cs := #[.bool false, .slice none 0 0, .slice none 0 0]) (t := 40) hb1 XB.out)) | (have XB := Lib.hid (keepB (cs := #[.bool false, .slice none 0 0, .slice none 0 0]) (t := 40) hb1 (blk_new _ _ _)))); have XBc0 := blk_cell XB.out 0; have XBf0 := blk_fro XB.out 0; have XBc1 := blk_cell XB.out 1; have XBf1 := blk_fro XB.out 1; have XBc2 := blk_cell XB.out 2; have XBf2 := blk_fro XB.out 2)); have N20 := Lib.hid (hv.base (Nat.zero_le _)); clear hv))
          | ((fail_if_success have hx_ := N21.out); (go_at_call 18; (with_reducible refine (Rt.int 0 (by decide) (by decide) _).mono ?_); rintro e u2 ⟨g21, A21, m21, c21, D21, md21, cd21, rfl, hn, hb2⟩; have hz2 := hb2.size; (try simp at hz2); have hze2 : w14.heap.size ≤ u2.heap.size := (by omega); (try ((first | (have XB := Lib.hid (keepB (cs := #[.bool false, .slice none 0 0, .slice none 0 0]) (t := 40) hb2 XB.out)) | (have XB := Lib.hid (keepB (cs := #[.bool false, .slice none 0 0, .slice none 0 0]) (t := 40) hb2 (blk_new _ _ _)))); have XBc0 := blk_cell XB.out 0; have XBf0 := blk_fro XB.out 0; have XBc1 := blk_cell XB.out 1; have XBf1 := blk_fro XB.out 1; have XBc2 := blk_cell XB.out 2; have XBf2 := blk_fro XB.out 2)); have N21 := Lib.hid hn; clear hn))
          | (go_at_call 21; (with_reducible refine (Ct.optimal S1 2 cs1 (some ⟨w5.heap.size, 0, none⟩) 2 2 aCost aRows S20 ns20 cs20 (rats [0, 2]) _ 2 2 aH _ (HCO_20.out.below (by assumption : _ ∧ Below _ _ _).2) (HRW_20.out.below (by assumption : _ ∧ Below _ _ _).2) (by repeat (first | exact N20.out | with_reducible refine VecS.alloc ?_ _ | with_reducible refine VecS.drew ?_ | refine VecS.below ?_ hb2)) (by repeat (first | with_reducible refine vec_lit2 rfl ?_ ?_ | with_reducible refine vec_lit2 (by simp) ?_ ?_ | with_reducible refine VecS.alloc ?_ _ | exact N21.out | exact HR6_20.out | with_reducible refine RatS.alloc ?_ _ | refine RatS.below ?_ hb2 | refine RatS.below ?_ hb1 | refine RatS.below ?_ hb2 | refine RatS.below ?_ hb1 | refine RatS.below ?_ hb2 | refine RatS.below ?_ hb1 | with_reducible refine RatS.drew ?_)) aHl aGood aHs aXs aCl a4 a5 aXl a6).mono ?_); rintro e u3 ⟨rfl, hb3⟩; have hz3 := hb3.size; (try simp at hz3); have hze3 : w14.heap.size ≤ u3.heap.size := (by omega); (try ((first | (have XB := Lib.hid (keepB (cs := #[.bool false, .slice none 0 0, .slice none 0 0]) (t := 40) hb3 XB.out)) | (have XB := Lib.hid (keepB (cs := #[.bool false, .slice none 0 0, .slice none 0 0]) (t := 40) hb3 (blk_new _ _ _)))); have XBc0 := blk_cell XB.out 0; have XBf0 := blk_fro XB.out 0; have XBc1 := blk_cell XB.out 1; have XBf1 := blk_fro XB.out 1; have XBc2 := blk_cell XB.out 2; have XBf2 := blk_fro XB.out 2)))
          | (go_at_call 22; (with_reducible refine (is_yes g9 A9 m9 c9 D9 md9 cd9 (sb aQ aRows) 1 1 _ (HB9_20.out.below (by assumption : _ ∧ Below _ _ _).2) one0 one64 one64 a3 a7).mono ?_); rintro e u4 ⟨rfl, hb4⟩; have hz4 := hb4.size; (try simp at hz4); have hze4 : w14.heap.size ≤ u4.heap.size := (by omega); (try ((first | (have XB := Lib.hid (keepB (cs := #[.bool false, .slice none 0 0, .slice none 0 0]) (t := 40) hb4 XB.out)) | (have XB := Lib.hid (keepB (cs := #[.bool false, .slice none 0 0, .slice none 0 0]) (t := 40) hb4 (blk_new _ _ _)))); have XBc0 := blk_cell XB.out 0; have XBf0 := blk_fro XB.out 0; have XBc1 := blk_cell XB.out 1; have XBf1 := blk_fro XB.out 1; have XBc2 := blk_cell XB.out 2; have XBf2 := blk_fro XB.out 2)))
          | (go_at_call 17; (with_reducible refine (Vc.of _ 2 2 [0, 2] _ rfl (by repeat (first | with_reducible exact ints2' (by simp) 0 2 | with_reducible exact ints2' rfl 0 2 | with_reducible refine ints_drew ?_ | with_reducible refine ints_al ?_)) (by decide) (by decide) (by decide)).mono ?_); rintro e u5 ⟨S25, ns25, cs25, rfl, hv, hb5⟩; have hz5 := hb5.size; (try simp at hz5); have hze5 : w14.heap.size ≤ u5.heap.size := (by omega); (try ((first | (have XB := Lib.hid (keepB (cs := #[.bool false, .slice none 0 0, .slice none 0 0]) (t := 40) hb5 XB.out)) | (have XB := Lib.hid (keepB (cs := #[.bool false, .slice none 0 0, .slice none 0 0]) (t := 40) hb5 (blk_new _ _ _)))); have XBc0 := blk_cell XB.out 0; have XBf0 := blk_fro XB.out 0; have XBc1 := blk_cell XB.out 1; have XBf1 := blk_fro XB.out 1; have XBc2 := blk_cell XB.out 2; have XBf2 := blk_fro XB.out 2)); have N25 := Lib.hid (hv.base (Nat.zero_le _)); clear hv)
          | (go_at_call 18; (with_reducible refine (Rt.int 0 (by decide) (by decide) _).mono ?_); rintro e u6 ⟨g26, A26, m26, c26, D26, md26, cd26, rfl, hn, hb6⟩; have hz6 := hb6.size; (try simp at hz6); have hze6 : w14.heap.size ≤ u6.heap.size := (by omega); (try ((first | (have XB := Lib.hid (keepB (cs := #[.bool false, .slice none 0 0, .slice none 0 0]) (t := 40) hb6 XB.out)) | (have XB := Lib.hid (keepB (cs := #[.bool false, .slice none 0 0, .slice none 0 0]) (t := 40) hb6 (blk_new _ _ _)))); have XBc0 := blk_cell XB.out 0; have XBf0 := blk_fro XB.out 0; have XBc1 := blk_cell XB.out 1; have XBf1 := blk_fro XB.out 1; have XBc2 := blk_cell XB.out 2; have XBf2 := blk_fro XB.out 2)); have N26 := Lib.hid hn; clear hn)
          | (go_at_call 23; (with_reducible refine (Ct.slack S1 2 cs1 (some ⟨w5.heap.size, 0, none⟩) 2 2 aCost aRows S25 ns25 cs25 (rats [0, 2]) _ 2 2 aH _ (HCO_20.out.below (by assumption : _ ∧ Below _ _ _).2) (HRW_20.out.below (by assumption : _ ∧ Below _ _ _).2) (by repeat (first | exact N25.out | with_reducible refine VecS.alloc ?_ _ | with_reducible refine VecS.drew ?_ | refine VecS.below ?_ hb6)) (by repeat (first | with_reducible refine vec_lit2 rfl ?_ ?_ | with_reducible refine vec_lit2 (by simp) ?_ ?_ | with_reducible refine VecS.alloc ?_ _ | exact N26.out | exact HR6_20.out | with_reducible refine RatS.alloc ?_ _ | refine RatS.below ?_ hb6 | refine RatS.below ?_ hb5 | refine RatS.below ?_ hb4 | refine RatS.below ?_ hb3 | refine RatS.below ?_ hb2 | refine RatS.below ?_ hb1 | with_reducible refine RatS.drew ?_)) aHl aGood aHs aXs aXl' s1 s2).mono ?_); rintro e u7 ⟨rfl, hb7⟩; have hz7 := hb7.size; (try simp at hz7); have hze7 : w14.heap.size ≤ u7.heap.size := (by omega); (try ((first | (have XB := Lib.hid (keepB (cs := #[.bool false, .slice none 0 0, .slice none 0 0]) (t := 40) hb7 XB.out)) | (have XB := Lib.hid (keepB (cs := #[.bool false, .slice none 0 0, .slice none 0 0]) (t := 40) hb7 (blk_new _ _ _)))); have XBc0 := blk_cell XB.out 0; have XBf0 := blk_fro XB.out 0; have XBc1 := blk_cell XB.out 1; have XBf1 := blk_fro XB.out 1; have XBc2 := blk_cell XB.out 2; have XBf2 := blk_fro XB.out 2)))
          | fail)
      all_goals
        go_wp2
        go_ret
        exact ⟨rfl, BB_20.out.trans (((by assumption : _ ∧ Below w14.heap.size w14 _).2).mono BB_20.out.size)⟩
end Lw
end Go.Proofs.Ytohkhcbocknliaa
