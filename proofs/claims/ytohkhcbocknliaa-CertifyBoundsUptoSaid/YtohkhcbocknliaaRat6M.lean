/- rat.Cmp by the order, rat.Same. Conditions: as each says. -/
import Derived.Test.YtohkhcbocknliaaRat5M
namespace Go.Proofs.Ytohkhcbocknliaa
set_option linter.unusedSimpArgs false
set_option linter.unusedVariables false
open Go.RowKit Am
attribute [local go_sem ↓] Go.wp_at_zero Go.wp_at_succ
set_option maxHeartbeats 2000000
set_option maxRecDepth 100000
def cmpR (a b : Rat) : Int := if a < b then -1 else if b < a then 1 else 0
theorem cmpR_eq (a b : Rat) : cmpI (a.num * (b.den : Int)) (b.num * (a.den : Int)) = cmpR a b := by
  unfold cmpI cmpR
  simp only [← Rat.lt_iff]
theorem cmpR_zero (a b : Rat) : cmpR a b = 0 ↔ a = b := by
  unfold cmpR
  split
  · constructor
    · intro h; omega
    · rintro rfl; exact absurd ‹_› Rat.lt_irrefl
  · split
    · constructor
      · intro h; omega
      · rintro rfl; exact absurd ‹_› Rat.lt_irrefl
    · constructor
      · intro _; grind
      · intro _; rfl
theorem cmpR_le (a b : Rat) : cmpR a b ≤ 0 ↔ a ≤ b := by
  unfold cmpR
  split
  · constructor
    · intro _; grind
    · intro _; omega
  · split
    · constructor
      · intro h; omega
      · intro h; grind
    · constructor
      · intro _; grind
      · intro _; omega
def sameB (a b : Rat) : Bool := decide (a = b)
namespace Rt
theorem cmpr (g : Bool) (A : Option Addr) (m c : Nat) (D : Option Addr) (md cd : Nat) (a : Rat) (g' : Bool) (A' : Option Addr) (m' c' : Nat) (D' : Option Addr) (md' cd' : Nat) (b : Rat) (w : World) (h : RatS w g (.slice A m c) (.slice D md cd) a) (h' : RatS w g' (.slice A' m' c') (.slice D' md' cd') b) (hl : 4 * (mw a + mw b) + 8 ≤ LIM) :
    Calls Try.prog 13 #[.agg #[.bool g, .slice A m c, .slice D md cd], .agg #[.bool g', .slice A' m' c', .slice D' md' cd']] w fun e w' => e = .returned (.int .i64 (cmpR a b)) ∧ Below w.heap.size w w' := by
  rw [← cmpR_eq]; exact cmp g A m c D md cd a g' A' m' c' D' md' cd' b w h h' hl
theorem same (g : Bool) (A : Option Addr) (m c : Nat) (D : Option Addr) (md cd : Nat) (a : Rat) (g' : Bool) (A' : Option Addr) (m' c' : Nat) (D' : Option Addr) (md' cd' : Nat) (b : Rat) (w : World) (h : RatS w g (.slice A m c) (.slice D md cd) a) (h' : RatS w g' (.slice A' m' c') (.slice D' md' cd') b) (hl : 4 * (mw a + mw b) + 8 ≤ LIM) :
    Calls Try.prog 12 #[.agg #[.bool g, .slice A m c, .slice D md cd], .agg #[.bool g', .slice A' m' c', .slice D' md' cd']] w fun e w' => e = .returned (.bool (sameB a b)) ∧ Below w.heap.size w w' := by
  have HL := Lib.hid hl
  have HS := Lib.hid (show (cmpR a b == 0) = sameB a b from decide_eq_decide.2 (cmpR_zero a b))
  generalize sameB a b = bs at *
  clear hl
  obtain ⟨W, hW⟩ : ∃ W, ((w.alloc (.cells #[.bool g, .slice A m c, .slice D md cd] 40)).alloc (.cells #[.bool g', .slice A' m' c', .slice D' md' cd'] 40)) = W := ⟨_, rfl⟩
  have KB0 := Lib.hid (show W.heap[w.heap.size]? = some (.cells #[.bool g, .slice A m c, .slice D md cd] 40 (0, 0)) by rw [← hW]; exact blk_al (blk_nw (by simp)))
  have KB1 := Lib.hid (show W.heap[w.heap.size + 1]? = some (.cells #[.bool g', .slice A' m' c', .slice D' md' cd'] 40 (0, 0)) by rw [← hW]; exact blk_nw (by simp))
  have BB := Lib.hid (show Below w.heap.size w W by rw [← hW]; exact (below_alloc w _).alloc (by simp) _)
  have HZ := Lib.hid (show w.heap.size + 2 ≤ W.heap.size by rw [← hW]; simp)
  have HX := Lib.hid (show RatS W g (.slice A m c) (.slice D md cd) a by rw [← hW]; exact ((h).alloc _).alloc _)
  have HY := Lib.hid (show RatS W g' (.slice A' m' c') (.slice D' md' cd') b by rw [← hW]; exact ((h').alloc _).alloc _)
  obtain ⟨c0_0_0, c0_0_0d, c0_1_0, c0_1_0d, c0_2_0, c0_2_0d⟩ := bc3 KB0.out
  obtain ⟨c1_0_0, c1_0_0d, c1_1_0, c1_1_0d, c1_2_0, c1_2_0d⟩ := bc3 KB1.out
  clear h h'
  go_enter Try.func12, Try.ntmps12
  go_wp2_with fail
  clear hW
  with_reducible refine (cmpr g A m c D md cd a g' A' m' c' D' md' cd' b _ HX.out HY.out HL.out).mono ?_
  rintro e w1 ⟨rfl, hb⟩
  have KB0_1 := Lib.hid (keepBlk hb KB0.out)
  have KB1_1 := Lib.hid (keepBlk hb KB1.out)
  have HX_1 := Lib.hid (HX.out.below hb)
  have HY_1 := Lib.hid (HY.out.below hb)
  have BB_1 := Lib.hid (BB.out.trans ((hb).mono BB.out.size))
  obtain ⟨c0_0_1, c0_0_1d, c0_1_1, c0_1_1d, c0_2_1, c0_2_1d⟩ := bc3 KB0_1.out
  obtain ⟨c1_0_1, c1_0_1d, c1_1_1, c1_1_1d, c1_2_1, c1_2_1d⟩ := bc3 KB1_1.out
  clear hb
  have hs := HS.out
  go_wp2
  go_ret
  exact ⟨by rw [← HS.out]; rfl, BB_1.out⟩
end Rt
end Go.Proofs.Ytohkhcbocknliaa
