/- prod.Mul by its contract: Karatsuba from 8 words on. Conditions: as each says. -/
import Derived.Test.YtohkhcbocknliaaProd2M
import Derived.Test.YtohkhcbocknliaaNat4M
import Derived.Test.YtohkhcbocknliaaNat5M
import Derived.Test.YtohkhcbocknliaaStepM
namespace Go.Proofs.Ytohkhcbocknliaa
open Go.RowKit Am
attribute [local go_sem ↓] Go.wp_at_zero Go.wp_at_succ
set_option maxHeartbeats 1000000
set_option maxRecDepth 100000
namespace Pr
theorem mul_small (A B : Option Addr) (m c m' c' a b : Nat) (w : World) (ha : NatS w (.slice A m c) a) (hb : NatS w (.slice B m' c') b) (hla : wlen a + wlen b ≤ LIM) (hs : wlen a < 8 ∨ wlen b < 8) :
    Calls Try.prog 37 #[.agg #[.slice A m c], .agg #[.slice B m' c']] w (RetNat w (a * b)) := by
  obtain ⟨xs, hx, hcx, hvx, hlx, rfl⟩ := ha.words
  obtain ⟨ys, hy, hcy, hvy, hly, rfl⟩ := hb.words
  have HA := Lib.hid ha
  have HB := Lib.hid hb
  have HL := Lib.hid hla
  have HX := Lib.hid hx
  have HY := Lib.hid hy
  rw [← hlx, ← hly] at hs
  obtain ⟨mn, hmn⟩ : ∃ mn, mn = if ys.length < xs.length then ys.length else xs.length := ⟨_, rfl⟩
  have hm8 : (mn : Int) < 8 := by split at hmn <;> omega
  have hmin : (if ys.length < xs.length then (ys.length : Int) else (xs.length : Int)) = (mn : Int) := by rw [hmn]; split <;> rfl
  clear hmn hs
  clear ha hb hla hx hy hcx hcy hvx hvy hlx hly
  have c0 : (((w.alloc (.cells #[.slice A xs.length c] 36)).alloc (.cells #[.slice B ys.length c'] 36)).alloc (.cells #[.slice none 0 0] 36)).cell? ⟨w.heap.size, 0, none⟩ = some (.slice A xs.length c) := cell_al (cell_al (cell_nw rfl rfl))
  have c1 : (((w.alloc (.cells #[.slice A xs.length c] 36)).alloc (.cells #[.slice B ys.length c'] 36)).alloc (.cells #[.slice none 0 0] 36)).cell? ⟨w.heap.size + 1, 0, none⟩ = some (.slice B ys.length c') := cell_al (cell_nw (by simp) rfl)
  have k2 : (((w.alloc (.cells #[.slice A xs.length c] 36)).alloc (.cells #[.slice B ys.length c'] 36)).alloc (.cells #[.slice none 0 0] 36)).heap[w.heap.size + 1 + 1]? = some (.cells #[.slice none 0 0] 36 (0, 0)) := blk_nw (by simp)
  have kb : Below w.heap.size w (((w.alloc (.cells #[.slice A xs.length c] 36)).alloc (.cells #[.slice B ys.length c'] 36)).alloc (.cells #[.slice none 0 0] 36)) := ((below_alloc w _).alloc (by simp) _).alloc (by simp; omega) _
  have kz : (((w.alloc (.cells #[.slice A xs.length c] 36)).alloc (.cells #[.slice B ys.length c'] 36)).alloc (.cells #[.slice none 0 0] 36)).heap.size = w.heap.size + 1 + 1 + 1 := by simp
  have hA1 := HA.out.below kb
  have hB1 := HB.out.below kb
  have hX1 := HX.out.below kb
  have hY1 := HY.out.below kb
  go_enter Try.func37, Try.ntmps37
  go_wp2_with fail
  generalize (((w.alloc (.cells #[.slice A xs.length c] 36)).alloc (.cells #[.slice B ys.length c'] 36)).alloc (.cells #[.slice none 0 0] 36)) = W0 at *
  have HS := Lib.hid (show ∀ w', Below W0.heap.size W0 w' → ((w'.cell? ⟨w.heap.size, 0, none⟩ = some (.slice A xs.length c) ∧ w'.cell? ⟨w.heap.size + 1, 0, none⟩ = some (.slice B ys.length c')) ∧ Below W0.heap.size W0 w') from fun w' h => ⟨⟨keepCell h c0, keepCell h c1⟩, h⟩)
  have HX1 := Lib.hid hX1
  have HY1 := Lib.hid hY1
  have HA1 := Lib.hid hA1
  have HB1 := Lib.hid hB1
  have HK2 := Lib.hid k2
  have HKB := Lib.hid kb
  have HKZ := Lib.hid kz
  clear hX1 hY1 hA1 hB1 k2 kb kz
  go_region_held3 (fun w' => (w'.cell? ⟨w.heap.size, 0, none⟩ = some (.slice A xs.length c) ∧ w'.cell? ⟨w.heap.size + 1, 0, none⟩ = some (.slice B ys.length c')) ∧ Below W0.heap.size W0 w')
    ((refine HS.out _ ?_; repeat (first | exact Below.refl _ _ | exact (by assumption : _ ∧ Below _ _ _).2 | with_reducible refine bdrew ?_ | with_reducible refine al2 ?_ _)))
    (first
      | (go_at_call 55; (with_reducible refine (Nt.len (.slice A xs.length c) xs _ (HX1.out.below (by assumption : _ ∧ Below _ _ _).2)).mono ?_); rintro e w' ⟨rfl, rfl⟩)
      | (go_at_call 55; (with_reducible refine (Nt.len (.slice B ys.length c') ys _ (HY1.out.below (by assumption : _ ∧ Below _ _ _).2)).mono ?_); rintro e w' ⟨rfl, rfl⟩))
  go_wp2_with fail
  have hh := (by assumption : _ ∧ Below W0.heap.size W0 ((W0.alloc (.cells #[.slice A xs.length c] 36)).alloc (.cells #[.slice B ys.length c'] 36)).drew).2
  refine (school A B xs.length c ys.length c' a b _ (HA1.out.below hh) (HB1.out.below hh) HL.out).mono ?_
  rintro e w1 ⟨A1, m1, c1, rfl, hs1, hb1⟩
  have hk := keepBlk hb1 (keepBlk hh HK2.out)
  have hc : w1.cell? ⟨w.heap.size + 1 + 1, 0, none⟩ = some (.slice none 0 0) := blk_cell hk 0
  have hf := blk_fro hk 0
  have HK3 := Lib.hid hk
  have hbb := Lib.hid (bstep (HKB.out.trans (hh.mono (by have := HKZ.out; omega))) hb1 (by have := HKZ.out; have := hh.size; omega))
  have HS1 := Lib.hid hs1
  clear hk hs1 hh
  go_wp2
  refine bodyPost_ret (v := .agg #[.slice A1 m1 c1]) (by simp [results, Try.results37, go_sem, hc]) rfl ?_
  exact ⟨_, _, _, rfl, HS1.out.setCell (p := ⟨w.heap.size + 1 + 1, 0, none⟩) HK3.out (by decide) _, Below.setCell hbb.out (by simp; omega) _⟩
end Pr
end Go.Proofs.Ytohkhcbocknliaa
