/- quot.DivMod by its contract: a number below the divisor. Conditions: as it says. -/
import Derived.Test.YtohkhcbocknliaaQuot5M
namespace Go.Proofs.Ytohkhcbocknliaa
open Go.RowKit Am
attribute [local go_sem ↓] Go.wp_at_zero Go.wp_at_succ
set_option maxHeartbeats 1000000
set_option maxRecDepth 100000
namespace Qt

theorem divMod_less (A B : Option Addr) (m c m' c' a b : Nat) (w : World) (ha : NatS w (.slice A m c) a) (hb : NatS w (.slice B m' c') b) (hb1 : ¬ wlen b ≤ 1) (hlt : a < b) :
    Calls Try.prog 77 #[.agg #[.slice A m c], .agg #[.slice B m' c']] w (RetQR w (a / b) (a % b) true) := by
  obtain ⟨ys, hy, hcy, hny, hly, hm⟩ := hb.words
  subst hm
  have HA := Lib.hid ha
  have HBN := Lib.hid hb
  have HY := Lib.hid hy
  have hyl : ¬ (ys.length : Int) ≤ 1 := by omega
  have HLY := Lib.hid hly
  have HNY := Lib.hid hny
  clear ha hb hy hly hny
  have W0 : ∃ W, W = (((w.alloc (.cells #[.slice A m c] 36)).alloc (.cells #[.slice B ys.length c'] 36)).alloc (.cells #[.slice none 0 0] 36)).alloc (.cells #[.slice none 0 0] 36) := ⟨_, rfl⟩
  obtain ⟨W, hW⟩ := W0
  have hz : W.heap.size = w.heap.size + 1 + 1 + 1 + 1 := by rw [hW]; simp
  have k0 : W.cell? ⟨w.heap.size, 0, none⟩ = some (.slice A m c) := by rw [hW]; exact cell_al (cell_al (cell_al (cell_nw rfl rfl)))
  have k1 : W.cell? ⟨w.heap.size + 1, 0, none⟩ = some (.slice B ys.length c') := by rw [hW]; exact cell_al (cell_al (cell_nw (by simp) rfl))
  have r2 : W.heap[w.heap.size + 1 + 1]? = some (.cells #[.slice none 0 0] 36 (0, 0)) := by rw [hW]; exact blk_al (blk_nw (by simp))
  have r3 : W.heap[w.heap.size + 1 + 1 + 1]? = some (.cells #[.slice none 0 0] 36 (0, 0)) := by rw [hW]; exact blk_nw (by simp)
  have hB : Below w.heap.size w W := by rw [hW]; exact (((below_alloc w _).alloc (by simp) _).alloc (by simp; omega) _).alloc (by simp; omega) _
  have NA := Lib.hid (HA.out.below hB)
  have NB := Lib.hid (HBN.out.below hB)
  have NY := Lib.hid (HY.out.below hB)
  have R2 := Lib.hid r2
  have R3 := Lib.hid r3
  have HB := Lib.hid hB
  have HZ := Lib.hid hz
  clear r2 r3 hB hz HA HBN HY
  go_enter Try.func77, Try.ntmps77
  go_wp2_with fail
  rw [← hW]
  clear hW
  refine (Nt.len (.slice B ys.length c') ys _ NY.out).mono ?_
  rintro e w' ⟨rfl, rfl⟩
  have k0 := cell_al (ob := .cells #[.slice B ys.length c'] 36) k0
  have k1 := cell_al (ob := .cells #[.slice B ys.length c'] 36) k1
  go_wp2_with fail
  refine (Nt.cmp A B m c ys.length c' a b _ (NA.out.alloc _) (NB.out.alloc _)).mono ?_
  rintro e w2 ⟨rfl, hb2⟩
  have hV : Below W.heap.size W w2 := ((below_alloc W _).trans (hb2.mono (by simp)))
  have k0 := keepCell hb2 k0
  have k1 := keepCell hb2 k1
  have NA := Lib.hid (NA.out.below hV)
  have NB := Lib.hid (NB.out.below hV)
  have NY := Lib.hid (NY.out.below hV)
  have R2 := Lib.hid (keepBlk hV R2.out)
  have R3 := Lib.hid (keepBlk hV R3.out)
  have HB := Lib.hid (HB.out.trans (hV.mono (by have := HZ.out; omega)))
  have HZ := Lib.hid (show w.heap.size + 4 ≤ w2.heap.size by have := HZ.out; have := hV.size; omega)
  clear hb2 hV
  rw [cmpI_lt (show (a : Int) < (b : Int) by omega)]
  go_wp2_with fail
  have g3 := blk_cell R2.out 0
  have g4 := blk_fro R2.out 0
  have g5 := blk_cell R3.out 0
  have g6 := blk_fro R3.out 0
  simp only [List.getElem?_toArray, List.getElem?_cons_zero] at g3 g5
  have hq : a / b = 0 := Nat.div_eq_of_lt hlt
  have hr : a % b = a := Nat.mod_eq_of_lt hlt
  have HQR := Lib.hid (And.intro hq hr)
  clear hq hr hlt
  go_region
  all_goals
    go_wp2
    refine bodyPost_ret (v := .tuple #[.agg #[.slice none 0 0], .agg #[.slice A m c], .bool true]) (by simp [results, Try.results77, go_sem, g3, g5]) rfl ?_
    have hz := HZ.out
    rw [HQR.out.1, HQR.out.2]
    exact ⟨_, _, _, _, _, _, rfl, NatS.zero _, (NatS.setBox (NatS.setBox NA.out (Box.of R2.out)) (Box.set (Box.of R3.out))).drew, (Below.setCell (Below.setCell HB.out (p := ⟨w.heap.size + 1 + 1, 0, none⟩) (by show w.heap.size ≤ w.heap.size + 1 + 1; omega) _) (p := ⟨w.heap.size + 1 + 1 + 1, 0, none⟩) (by show w.heap.size ≤ w.heap.size + 1 + 1 + 1; omega) _).drew⟩
end Qt
end Go.Proofs.Ytohkhcbocknliaa
