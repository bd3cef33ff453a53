/- rat.bare, New, Of by their contracts. Conditions: as each says. -/
import Derived.Test.YtohkhcbocknliaaRat1M
namespace Go.Proofs.Ytohkhcbocknliaa
set_option linter.unusedSimpArgs false
set_option linter.unusedVariables false
open Go.RowKit Am
attribute [local go_sem ↓] Go.wp_at_zero Go.wp_at_succ
set_option maxHeartbeats 1000000
set_option maxRecDepth 100000
namespace Rt
theorem bare_one (g : Bool) (A : Option Addr) (m c : Nat) (D : Option Addr) (md cd : Nat) (q : Rat) (w : World) (h : IntS w g (.slice A m c) q.num) (h' : NatS w (.slice D md cd) q.den) (hd : q.den = 1) :
    Calls Try.prog 53 #[.agg #[.bool g, .slice A m c], .agg #[.slice D md cd]] w (RetRat w q) := by
  have HD := Lib.hid hd
  have hlt : q.den < 18446744073709551616 := by rw [hd]; decide
  have HLT := Lib.hid hlt
  have h1 : ((q.den : Int) == 1) = true := by rw [hd]; rfl
  clear hd hlt
  obtain ⟨W, hW⟩ : ∃ W, (((w.alloc (.cells #[.bool g, .slice A m c] 38)).alloc (.cells #[.slice D md cd] 36)).alloc (.cells #[.bool false, .slice none 0 0, .slice none 0 0] 40)) = W := ⟨_, rfl⟩
  have KB0 := Lib.hid (show W.heap[w.heap.size]? = some (.cells #[.bool g, .slice A m c] 38 (0, 0)) by rw [← hW]; exact blk_al (blk_al (blk_nw (by simp))))
  have KB1 := Lib.hid (show W.heap[w.heap.size + 1]? = some (.cells #[.slice D md cd] 36 (0, 0)) by rw [← hW]; exact blk_al (blk_nw (by simp)))
  have KB2 := Lib.hid (show W.heap[w.heap.size + 1 + 1]? = some (.cells #[.bool false, .slice none 0 0, .slice none 0 0] 40 (0, 0)) by rw [← hW]; exact blk_nw (by simp))
  have BB := Lib.hid (show Below w.heap.size w W by rw [← hW]; exact ((below_alloc w _).alloc (by simp) _).alloc (by simp; omega) _)
  have HZ := Lib.hid (show w.heap.size + 3 ≤ W.heap.size by rw [← hW]; simp)
  have HX := Lib.hid (show IntS W g (.slice A m c) q.num by rw [← hW]; exact (((h).alloc _).alloc _).alloc _)
  have HY := Lib.hid (show NatS W (.slice D md cd) q.den by rw [← hW]; exact (((h').alloc _).alloc _).alloc _)
  obtain ⟨c0_0_0, c0_0_0d, c0_1_0, c0_1_0d⟩ := bc2 KB0.out
  obtain ⟨c1_0_0, c1_0_0d⟩ := bc1 KB1.out
  obtain ⟨c2_0_0, c2_0_0d, fc2_0_0, fc2_0_0d, c2_1_0, c2_1_0d, fc2_1_0, fc2_1_0d, c2_2_0, c2_2_0d, fc2_2_0, fc2_2_0d⟩ := bf3 KB2.out
  clear h h'
  go_enter Try.func53, Try.ntmps53
  go_wp2_with fail
  clear hW
  with_reducible refine (Nt.uint_one (.slice D md cd) q.den HLT.out _ HY.out).mono ?_
  rintro e w1 ⟨rfl, hb⟩
  have KB0_1 := Lib.hid (keepBlk hb KB0.out)
  have KB1_1 := Lib.hid (keepBlk hb KB1.out)
  have KB2_1 := Lib.hid (keepBlk hb KB2.out)
  have HX_1 := Lib.hid (HX.out.below hb)
  have HY_1 := Lib.hid (HY.out.below hb)
  have BB_1 := Lib.hid (BB.out.trans ((hb).mono BB.out.size))
  obtain ⟨c0_0_1, c0_0_1d, c0_1_1, c0_1_1d⟩ := bc2 KB0_1.out
  obtain ⟨c1_0_1, c1_0_1d⟩ := bc1 KB1_1.out
  obtain ⟨c2_0_1, c2_0_1d, fc2_0_1, fc2_0_1d, c2_1_1, c2_1_1d, fc2_1_1, fc2_1_1d, c2_2_1, c2_2_1d, fc2_2_1, fc2_2_1d⟩ := bf3 KB2_1.out
  clear hb
  go_wp2
  refine bodyPost_ret (v := .agg #[.bool g, .slice A m c, .slice none 0 0]) (by simp [results, Try.results53, go_sem, c2_0_1, c2_0_1d, c2_1_1, c2_1_1d, c2_2_1, c2_2_1d]) rfl ?_
  have hi : RatS w1 g (.slice A m c) (.slice none 0 0) q := ⟨HX_1.out, by rw [dn_one HD.out]; exact NatS.zero _⟩
  exact ⟨g, A, m, c, none, 0, 0, rfl, hi.set3 KB2_1.out (by decide) _ _ _, Below.setCell (Below.setCell (Below.setCell (BB_1.out) (p := ⟨w.heap.size + 1 + 1, 0, none⟩) (by show w.heap.size ≤ w.heap.size + 1 + 1; omega) _) (p := ⟨w.heap.size + 1 + 1, 1, none⟩) (by show w.heap.size ≤ w.heap.size + 1 + 1; omega) _) (p := ⟨w.heap.size + 1 + 1, 2, none⟩) (by show w.heap.size ≤ w.heap.size + 1 + 1; omega) _⟩
theorem bare_some (g : Bool) (A : Option Addr) (m c : Nat) (D : Option Addr) (md cd : Nat) (q : Rat) (w : World) (h : IntS w g (.slice A m c) q.num) (h' : NatS w (.slice D md cd) q.den) (hd : q.den ≠ 1) (hlt : q.den < 18446744073709551616) :
    Calls Try.prog 53 #[.agg #[.bool g, .slice A m c], .agg #[.slice D md cd]] w (RetRat w q) := by
  have HD := Lib.hid hd
  have HLT := Lib.hid hlt
  have h1 : ((q.den : Int) == 1) = false := by rw [show ((q.den : Int) == 1) = decide ((q.den : Int) = 1) from rfl, decide_eq_false]; omega
  clear hd hlt
  obtain ⟨W, hW⟩ : ∃ W, (((w.alloc (.cells #[.bool g, .slice A m c] 38)).alloc (.cells #[.slice D md cd] 36)).alloc (.cells #[.bool false, .slice none 0 0, .slice none 0 0] 40)) = W := ⟨_, rfl⟩
  have KB0 := Lib.hid (show W.heap[w.heap.size]? = some (.cells #[.bool g, .slice A m c] 38 (0, 0)) by rw [← hW]; exact blk_al (blk_al (blk_nw (by simp))))
  have KB1 := Lib.hid (show W.heap[w.heap.size + 1]? = some (.cells #[.slice D md cd] 36 (0, 0)) by rw [← hW]; exact blk_al (blk_nw (by simp)))
  have KB2 := Lib.hid (show W.heap[w.heap.size + 1 + 1]? = some (.cells #[.bool false, .slice none 0 0, .slice none 0 0] 40 (0, 0)) by rw [← hW]; exact blk_nw (by simp))
  have BB := Lib.hid (show Below w.heap.size w W by rw [← hW]; exact ((below_alloc w _).alloc (by simp) _).alloc (by simp; omega) _)
  have HZ := Lib.hid (show w.heap.size + 3 ≤ W.heap.size by rw [← hW]; simp)
  have HX := Lib.hid (show IntS W g (.slice A m c) q.num by rw [← hW]; exact (((h).alloc _).alloc _).alloc _)
  have HY := Lib.hid (show NatS W (.slice D md cd) q.den by rw [← hW]; exact (((h').alloc _).alloc _).alloc _)
  obtain ⟨c0_0_0, c0_0_0d, c0_1_0, c0_1_0d⟩ := bc2 KB0.out
  obtain ⟨c1_0_0, c1_0_0d⟩ := bc1 KB1.out
  obtain ⟨c2_0_0, c2_0_0d, fc2_0_0, fc2_0_0d, c2_1_0, c2_1_0d, fc2_1_0, fc2_1_0d, c2_2_0, c2_2_0d, fc2_2_0, fc2_2_0d⟩ := bf3 KB2.out
  clear h h'
  go_enter Try.func53, Try.ntmps53
  go_wp2_with fail
  clear hW
  with_reducible refine (Nt.uint_one (.slice D md cd) q.den HLT.out _ HY.out).mono ?_
  rintro e w1 ⟨rfl, hb⟩
  have KB0_1 := Lib.hid (keepBlk hb KB0.out)
  have KB1_1 := Lib.hid (keepBlk hb KB1.out)
  have KB2_1 := Lib.hid (keepBlk hb KB2.out)
  have HX_1 := Lib.hid (HX.out.below hb)
  have HY_1 := Lib.hid (HY.out.below hb)
  have BB_1 := Lib.hid (BB.out.trans ((hb).mono BB.out.size))
  obtain ⟨c0_0_1, c0_0_1d, c0_1_1, c0_1_1d⟩ := bc2 KB0_1.out
  obtain ⟨c1_0_1, c1_0_1d⟩ := bc1 KB1_1.out
  obtain ⟨c2_0_1, c2_0_1d, fc2_0_1, fc2_0_1d, c2_1_1, c2_1_1d, fc2_1_1, fc2_1_1d, c2_2_1, c2_2_1d, fc2_2_1, fc2_2_1d⟩ := bf3 KB2_1.out
  clear hb
  go_wp2
  refine bodyPost_ret (v := .agg #[.bool g, .slice A m c, .slice D md cd]) (by simp [results, Try.results53, go_sem, c2_0_1, c2_0_1d, c2_1_1, c2_1_1d, c2_2_1, c2_2_1d]) rfl ?_
  have hi : RatS w1 g (.slice A m c) (.slice D md cd) q := ⟨HX_1.out, by rw [dn_more HD.out]; exact HY_1.out⟩
  exact ⟨g, A, m, c, D, md, cd, rfl, hi.set3 KB2_1.out (by decide) _ _ _, Below.setCell (Below.setCell (Below.setCell (BB_1.out) (p := ⟨w.heap.size + 1 + 1, 0, none⟩) (by show w.heap.size ≤ w.heap.size + 1 + 1; omega) _) (p := ⟨w.heap.size + 1 + 1, 1, none⟩) (by show w.heap.size ≤ w.heap.size + 1 + 1; omega) _) (p := ⟨w.heap.size + 1 + 1, 2, none⟩) (by show w.heap.size ≤ w.heap.size + 1 + 1; omega) _⟩
theorem bare_big (g : Bool) (A : Option Addr) (m c : Nat) (D : Option Addr) (md cd : Nat) (q : Rat) (w : World) (h : IntS w g (.slice A m c) q.num) (h' : NatS w (.slice D md cd) q.den) (hlt : 18446744073709551616 ≤ q.den) :
    Calls Try.prog 53 #[.agg #[.bool g, .slice A m c], .agg #[.slice D md cd]] w (RetRat w q) := by
  have HD := Lib.hid (show q.den ≠ 1 by omega)
  have HLT := Lib.hid hlt
  clear hlt
  obtain ⟨W, hW⟩ : ∃ W, (((w.alloc (.cells #[.bool g, .slice A m c] 38)).alloc (.cells #[.slice D md cd] 36)).alloc (.cells #[.bool false, .slice none 0 0, .slice none 0 0] 40)) = W := ⟨_, rfl⟩
  have KB0 := Lib.hid (show W.heap[w.heap.size]? = some (.cells #[.bool g, .slice A m c] 38 (0, 0)) by rw [← hW]; exact blk_al (blk_al (blk_nw (by simp))))
  have KB1 := Lib.hid (show W.heap[w.heap.size + 1]? = some (.cells #[.slice D md cd] 36 (0, 0)) by rw [← hW]; exact blk_al (blk_nw (by simp)))
  have KB2 := Lib.hid (show W.heap[w.heap.size + 1 + 1]? = some (.cells #[.bool false, .slice none 0 0, .slice none 0 0] 40 (0, 0)) by rw [← hW]; exact blk_nw (by simp))
  have BB := Lib.hid (show Below w.heap.size w W by rw [← hW]; exact ((below_alloc w _).alloc (by simp) _).alloc (by simp; omega) _)
  have HZ := Lib.hid (show w.heap.size + 3 ≤ W.heap.size by rw [← hW]; simp)
  have HX := Lib.hid (show IntS W g (.slice A m c) q.num by rw [← hW]; exact (((h).alloc _).alloc _).alloc _)
  have HY := Lib.hid (show NatS W (.slice D md cd) q.den by rw [← hW]; exact (((h').alloc _).alloc _).alloc _)
  obtain ⟨c0_0_0, c0_0_0d, c0_1_0, c0_1_0d⟩ := bc2 KB0.out
  obtain ⟨c1_0_0, c1_0_0d⟩ := bc1 KB1.out
  obtain ⟨c2_0_0, c2_0_0d, fc2_0_0, fc2_0_0d, c2_1_0, c2_1_0d, fc2_1_0, fc2_1_0d, c2_2_0, c2_2_0d, fc2_2_0, fc2_2_0d⟩ := bf3 KB2.out
  clear h h'
  go_enter Try.func53, Try.ntmps53
  go_wp2_with fail
  clear hW
  with_reducible refine (Nt.uint_more (.slice D md cd) q.den HLT.out _ HY.out).mono ?_
  rintro e w1 ⟨rfl, hb⟩
  have KB0_1 := Lib.hid (keepBlk hb KB0.out)
  have KB1_1 := Lib.hid (keepBlk hb KB1.out)
  have KB2_1 := Lib.hid (keepBlk hb KB2.out)
  have HX_1 := Lib.hid (HX.out.below hb)
  have HY_1 := Lib.hid (HY.out.below hb)
  have BB_1 := Lib.hid (BB.out.trans ((hb).mono BB.out.size))
  obtain ⟨c0_0_1, c0_0_1d, c0_1_1, c0_1_1d⟩ := bc2 KB0_1.out
  obtain ⟨c1_0_1, c1_0_1d⟩ := bc1 KB1_1.out
  obtain ⟨c2_0_1, c2_0_1d, fc2_0_1, fc2_0_1d, c2_1_1, c2_1_1d, fc2_1_1, fc2_1_1d, c2_2_1, c2_2_1d, fc2_2_1, fc2_2_1d⟩ := bf3 KB2_1.out
  clear hb
  go_wp2
  refine bodyPost_ret (v := .agg #[.bool g, .slice A m c, .slice D md cd]) (by simp [results, Try.results53, go_sem, c2_0_1, c2_0_1d, c2_1_1, c2_1_1d, c2_2_1, c2_2_1d]) rfl ?_
  have hi : RatS w1 g (.slice A m c) (.slice D md cd) q := ⟨HX_1.out, by rw [dn_more HD.out]; exact HY_1.out⟩
  exact ⟨g, A, m, c, D, md, cd, rfl, hi.set3 KB2_1.out (by decide) _ _ _, Below.setCell (Below.setCell (Below.setCell (BB_1.out) (p := ⟨w.heap.size + 1 + 1, 0, none⟩) (by show w.heap.size ≤ w.heap.size + 1 + 1; omega) _) (p := ⟨w.heap.size + 1 + 1, 1, none⟩) (by show w.heap.size ≤ w.heap.size + 1 + 1; omega) _) (p := ⟨w.heap.size + 1 + 1, 2, none⟩) (by show w.heap.size ≤ w.heap.size + 1 + 1; omega) _⟩
theorem bare (g : Bool) (A : Option Addr) (m c : Nat) (D : Option Addr) (md cd : Nat) (q : Rat) (w : World) (h : IntS w g (.slice A m c) q.num) (h' : NatS w (.slice D md cd) q.den)  :
    Calls Try.prog 53 #[.agg #[.bool g, .slice A m c], .agg #[.slice D md cd]] w (RetRat w q) := by
  by_cases hd : q.den = 1
  · exact bare_one g A m c D md cd q w h h' hd
  · by_cases hlt : q.den < 18446744073709551616
    · exact bare_some g A m c D md cd q w h h' hd hlt
    · exact bare_big g A m c D md cd q w h h' (by omega)
/-- what rat.New makes of two whole numbers -/
theorem div_num (x y : Int) (hy : y ≠ 0) : (if (!(decide (x < 0) == decide (y < 0))) = true then -((x.natAbs / Nat.gcd x.natAbs y.natAbs : Nat) : Int) else ((x.natAbs / Nat.gcd x.natAbs y.natAbs : Nat) : Int)) = (Rat.divInt x y).num := by
  rw [Rat.num_divInt]
  have hg : y.gcd x = Nat.gcd x.natAbs y.natAbs := by rw [Int.gcd_comm]; rfl
  rw [hg]
  have hd : (Nat.gcd x.natAbs y.natAbs) ∣ x.natAbs := Nat.gcd_dvd_left _ _
  generalize Nat.gcd x.natAbs y.natAbs = k at *
  have e : ((x.natAbs / k : Nat) : Int) = (x.natAbs : Int) / (k : Int) := Int.natCast_ediv _ _
  rw [e]
  have en : (-(x.natAbs : Int)) / (k : Int) = -((x.natAbs : Int) / (k : Int)) := Int.neg_ediv_of_dvd (Int.natCast_dvd_natCast.2 hd)
  rcases Int.lt_trichotomy y 0 with h | h | h
  · rw [Int.sign_eq_neg_one_of_neg h, decide_eq_true h]
    by_cases hx0 : x < 0
    · rw [decide_eq_true hx0]
      have : (x.natAbs : Int) = -1 * x := by omega
      simp [this]
    · rw [decide_eq_false hx0, ← en]
      have : -(x.natAbs : Int) = -1 * x := by omega
      rw [this]; simp
  · exact absurd h hy
  · rw [Int.sign_eq_one_of_pos h, decide_eq_false (show ¬ y < 0 by omega)]
    by_cases hx0 : x < 0
    · rw [decide_eq_true hx0, ← en]
      have : -(x.natAbs : Int) = 1 * x := by omega
      rw [this]; simp
    · rw [decide_eq_false hx0]
      have : (x.natAbs : Int) = 1 * x := by omega
      rw [this]; simp
theorem div_den (x y : Int) (hy : y ≠ 0) : y.natAbs / Nat.gcd x.natAbs y.natAbs = (Rat.divInt x y).den := by
  rw [Rat.den_divInt, if_neg hy, Int.gcd_comm]; rfl
end Rt
end Go.Proofs.Ytohkhcbocknliaa
