/- prob.Row.Over, Holds, prob.Cost, Fits by their contracts. Conditions: as each says. -/
import Derived.Test.YtohkhcbocknliaaProb1M
import Derived.Test.YtohkhcbocknliaaVec7M
namespace Go.Proofs.Ytohkhcbocknliaa
set_option linter.unusedSimpArgs false
set_option linter.unusedVariables false
open Go.RowKit Am
attribute [local go_sem ↓] Go.wp_at_zero Go.wp_at_succ
set_option maxHeartbeats 4000000
set_option maxRecDepth 100000
/-- all are small enough to be reckoned with -/
abbrev Sm (xs : List Rat) : Prop := ∀ q ∈ xs, mw q ≤ 10000
/-- how much a row is over -/
def rowOver (p : PRow) (x : List Rat) : Rat := dot p.coef x - p.rhs
/-- does a row hold? -/
def holdsB (p : PRow) (x : List Rat) : Bool := if p.kind = 1 then decide (rowOver p x ≤ 0) else if p.kind = 2 then decide (0 ≤ rowOver p x) else decide (p.kind = 3) && decide (rowOver p x = 0)
theorem mw_dot {xs ys : List Rat} (zx : Sm xs) (zy : Sm ys) (h : xs.length ≤ 1000) : mw (dot xs ys) ≤ 20002000 := by
  have h1 := mw_dotTo zx zy xs.length
  have h2 : xs.length * 20001 ≤ 1000 * 20001 := Nat.mul_le_mul_right _ h
  unfold dot; omega
theorem num_nonpos (q : Rat) : q.num ≤ 0 ↔ q ≤ 0 := by
  have h := Rat.num_nonneg (q := -q)
  rw [Rat.neg_num] at h
  constructor
  · intro h1; have := h.1 (by omega); grind
  · intro h1; have := h.2 (by grind); omega
theorem holds_le {p : PRow} {x : List Rat} (h : p.kind = 1) : decide ((rowOver p x).num ≤ 0) = holdsB p x := by
  unfold holdsB; rw [if_pos h]; exact decide_eq_decide.2 (num_nonpos _)
theorem holds_ge {p : PRow} {x : List Rat} (h : p.kind = 2) : decide (0 ≤ rowOver p x) = holdsB p x := by
  unfold holdsB; rw [if_neg (by omega), if_pos h]
theorem holds_eq {p : PRow} {x : List Rat} (h : p.kind = 3) : zr (rowOver p x) = holdsB p x := by
  unfold holdsB; rw [if_neg (by omega), if_neg (by omega), decide_eq_true h, Bool.true_and]; rfl
theorem holds_no {p : PRow} {x : List Rat} (h1 : p.kind ≠ 1) (h2 : p.kind ≠ 2) (h3 : p.kind ≠ 3) : false = holdsB p x := by
  unfold holdsB; rw [if_neg h1, if_neg h2, decide_eq_false h3, Bool.false_and]
namespace Pb
theorem over (C : Option Addr) (nc cc : Nat) (g : Bool) (A : Option Addr) (m c : Nat) (D : Option Addr) (md cd : Nat) (kd : Int) (p : PRow) (hk : p.kind = kd) (X : Option Addr) (nx cx : Nat) (x : List Rat) (w : World) (hc : VecS w 0 (.slice C nc cc) p.coef) (hr : RatS w g (.slice A m c) (.slice D md cd) p.rhs) (hx : VecS w 0 (.slice X nx cx) x) (hl : p.coef.length = x.length) (hb : nc ≤ 1000) (zc : Sm p.coef) (zr : mw p.rhs ≤ 10000) (zx : Sm x) :
    Calls Try.prog 46 #[.agg #[.slice C nc cc, .int .i64 kd, .bool g, .slice A m c, .slice D md cd], .slice X nx cx] w (RetRatB w (rowOver p x) true) := by
  have hn := hc.len
  have HL := Lib.hid hl
  have HB := Lib.hid hb
  have ZC := Lib.hid zc
  have ZR := Lib.hid zr
  have ZX := Lib.hid zx
  have L1 := Lib.hid (show 4 * (mw (dot p.coef x) + mw p.rhs) + 8 ≤ LIM by have := mw_dot zc zx (by omega); have := LIM_eq; omega)
  clear hn hl hb zc zr zx
  obtain ⟨W, hW⟩ : ∃ W, ((w.alloc (.cells #[.slice C nc cc, .int .i64 kd, .bool g, .slice A m c, .slice D md cd] 48)).alloc (.cells #[.bool false, .slice none 0 0, .slice none 0 0] 40)) = W := ⟨_, rfl⟩
  have KB0 := Lib.hid (show W.heap[w.heap.size]? = some (.cells #[.slice C nc cc, .int .i64 kd, .bool g, .slice A m c, .slice D md cd] 48 (0, 0)) by rw [← hW]; exact blk_al (blk_nw (by simp)))
  have KB1 := Lib.hid (show W.heap[w.heap.size + 1]? = some (.cells #[.bool false, .slice none 0 0, .slice none 0 0] 40 (0, 0)) by rw [← hW]; exact blk_nw (by simp))
  have BB := Lib.hid (show Below w.heap.size w W by rw [← hW]; exact (below_alloc w _).alloc (by simp) _)
  have HZ := Lib.hid (show w.heap.size + 2 ≤ W.heap.size by rw [← hW]; simp)
  have HC := Lib.hid (show VecS W 0 (.slice C nc cc) p.coef by rw [← hW]; exact ((hc).alloc _).alloc _)
  have HX := Lib.hid (show VecS W 0 (.slice X nx cx) x by rw [← hW]; exact ((hx).alloc _).alloc _)
  have HR := Lib.hid (show RatS W g (.slice A m c) (.slice D md cd) p.rhs by rw [← hW]; exact ((hr).alloc _).alloc _)
  obtain ⟨c0_0_0, c0_0_0d, c0_1_0, c0_1_0d, c0_2_0, c0_2_0d, c0_3_0, c0_3_0d, c0_4_0, c0_4_0d⟩ := bc5 KB0.out
  obtain ⟨c1_0_0, c1_0_0d, fc1_0_0, fc1_0_0d, c1_1_0, c1_1_0d, fc1_1_0, fc1_1_0d, c1_2_0, c1_2_0d, fc1_2_0, fc1_2_0d⟩ := bf3 KB1.out
  clear hc hr hx
  go_enter Try.func46, Try.ntmps46
  go_wp2_with fail
  clear hW
  with_reducible refine (Vc.dot_ok C nc cc p.coef X nx cx x 0 0 _ HC.out HX.out HL.out HB.out ZC.out ZX.out).mono ?_
  rintro e w1 ⟨g2, A2, m2, c2, D2, md2, cd2, rfl, hn, hb⟩
  have KB0_1 := Lib.hid (show (w1.alloc (.cells #[.bool g2, .slice A2 m2 c2, .slice D2 md2 cd2] 40)).heap[w.heap.size]? = some (.cells #[.slice C nc cc, .int .i64 kd, .bool g, .slice A m c, .slice D md cd] 48 (0, 0)) from blk_al (keepBlk hb KB0.out))
  have KB1_1 := Lib.hid (show (w1.alloc (.cells #[.bool g2, .slice A2 m2 c2, .slice D2 md2 cd2] 40)).heap[w.heap.size + 1]? = some (.cells #[.bool false, .slice none 0 0, .slice none 0 0] 40 (0, 0)) from blk_al (keepBlk hb KB1.out))
  have HC_1 := Lib.hid (show VecS (w1.alloc (.cells #[.bool g2, .slice A2 m2 c2, .slice D2 md2 cd2] 40)) 0 (.slice C nc cc) p.coef from (HC.out.below hb).alloc _)
  have HX_1 := Lib.hid (show VecS (w1.alloc (.cells #[.bool g2, .slice A2 m2 c2, .slice D2 md2 cd2] 40)) 0 (.slice X nx cx) x from (HX.out.below hb).alloc _)
  have HR_1 := Lib.hid (show RatS (w1.alloc (.cells #[.bool g2, .slice A2 m2 c2, .slice D2 md2 cd2] 40)) g (.slice A m c) (.slice D md cd) p.rhs from (HR.out.below hb).alloc _)
  have HS := Lib.hid (show RatS (w1.alloc (.cells #[.bool g2, .slice A2 m2 c2, .slice D2 md2 cd2] 40)) g2 (.slice A2 m2 c2) (.slice D2 md2 cd2) (dot p.coef x) from (hn).alloc _)
  have BB_1 := Lib.hid (show Below w.heap.size w (w1.alloc (.cells #[.bool g2, .slice A2 m2 c2, .slice D2 md2 cd2] 40)) from ((BB.out.trans ((hb).mono BB.out.size))).alloc ((BB.out.trans ((hb).mono BB.out.size))).size _)
  have KB2_1 := Lib.hid (show (w1.alloc (.cells #[.bool g2, .slice A2 m2 c2, .slice D2 md2 cd2] 40)).heap[w1.heap.size]? = some (.cells #[.bool g2, .slice A2 m2 c2, .slice D2 md2 cd2] 40 (0, 0)) from blk_nw (by simp))
  obtain ⟨c0_0_1, c0_0_1d, c0_1_1, c0_1_1d, c0_2_1, c0_2_1d, c0_3_1, c0_3_1d, c0_4_1, c0_4_1d⟩ := bc5 KB0_1.out
  obtain ⟨c1_0_1, c1_0_1d, fc1_0_1, fc1_0_1d, c1_1_1, c1_1_1d, fc1_1_1, fc1_1_1d, c1_2_1, c1_2_1d, fc1_2_1, fc1_2_1d⟩ := bf3 KB1_1.out
  obtain ⟨c2_0_1, c2_0_1d, c2_1_1, c2_1_1d, c2_2_1, c2_2_1d⟩ := bc3 KB2_1.out
  clear hn hb
  go_wp2_with fail
  with_reducible refine (Rt.sub g2 A2 m2 c2 D2 md2 cd2 (dot p.coef x) g A m c D md cd p.rhs _ HS.out HR_1.out L1.out).mono ?_
  rintro e w2 ⟨g3, A3, m3, c3, D3, md3, cd3, rfl, hn, hb⟩
  have KB0_2 := Lib.hid (keepBlk hb KB0_1.out)
  have KB1_2 := Lib.hid (keepBlk hb KB1_1.out)
  have KB2_2 := Lib.hid (keepBlk hb KB2_1.out)
  have HC_2 := Lib.hid (HC_1.out.below hb)
  have HX_2 := Lib.hid (HX_1.out.below hb)
  have HR_2 := Lib.hid (HR_1.out.below hb)
  have HS_2 := Lib.hid (HS.out.below hb)
  have HT := Lib.hid (show RatS w2 g3 (.slice A3 m3 c3) (.slice D3 md3 cd3) (rowOver p x) from hn)
  have BB_2 := Lib.hid (BB_1.out.trans ((hb).mono BB_1.out.size))
  obtain ⟨c0_0_2, c0_0_2d, c0_1_2, c0_1_2d, c0_2_2, c0_2_2d, c0_3_2, c0_3_2d, c0_4_2, c0_4_2d⟩ := bc5 KB0_2.out
  obtain ⟨c1_0_2, c1_0_2d, fc1_0_2, fc1_0_2d, c1_1_2, c1_1_2d, fc1_1_2, fc1_1_2d, c1_2_2, c1_2_2d, fc1_2_2, fc1_2_2d⟩ := bf3 KB1_2.out
  obtain ⟨c2_0_2, c2_0_2d, c2_1_2, c2_1_2d, c2_2_2, c2_2_2d⟩ := bc3 KB2_2.out
  clear hn hb
  go_wp2
  refine bodyPost_ret (v := .tuple #[.agg #[.bool g3, .slice A3 m3 c3, .slice D3 md3 cd3], .bool true]) (by simp [results, Try.results46, go_sem, c1_0_2, c1_0_2d, c1_1_2, c1_1_2d, c1_2_2, c1_2_2d]) rfl ?_
  exact ⟨_, _, _, _, _, _, _, rfl, HT.out.set3 KB1_2.out (by decide) _ _ _, Below.setCell (Below.setCell (Below.setCell (BB_2.out) (p := ⟨w.heap.size + 1, 0, none⟩) (by show w.heap.size ≤ w.heap.size + 1; omega) _) (p := ⟨w.heap.size + 1, 1, none⟩) (by show w.heap.size ≤ w.heap.size + 1; omega) _) (p := ⟨w.heap.size + 1, 2, none⟩) (by show w.heap.size ≤ w.heap.size + 1; omega) _⟩
theorem holds (C : Option Addr) (nc cc : Nat) (g : Bool) (A : Option Addr) (m c : Nat) (D : Option Addr) (md cd : Nat) (kd : Int) (p : PRow) (hk : p.kind = kd) (X : Option Addr) (nx cx : Nat) (x : List Rat) (w : World) (hc : VecS w 0 (.slice C nc cc) p.coef) (hr : RatS w g (.slice A m c) (.slice D md cd) p.rhs) (hx : VecS w 0 (.slice X nx cx) x) (hl : p.coef.length = x.length) (hb : nc ≤ 1000) (zc : Sm p.coef) (zr : mw p.rhs ≤ 10000) (zx : Sm x) :
    Calls Try.prog 41 #[.agg #[.slice C nc cc, .int .i64 kd, .bool g, .slice A m c, .slice D md cd], .slice X nx cx] w fun e w' => e = .returned (.bool (holdsB p x)) ∧ Below w.heap.size w w' := by
  have hn := hc.len
  have HL := Lib.hid hl
  have HB := Lib.hid hb
  have ZC := Lib.hid zc
  have ZR := Lib.hid zr
  have ZX := Lib.hid zx
  have HK := Lib.hid hk
  clear hk hn hl hb zc zr zx
  obtain ⟨W, hW⟩ : ∃ W, (w.alloc (.cells #[.slice C nc cc, .int .i64 kd, .bool g, .slice A m c, .slice D md cd] 48)) = W := ⟨_, rfl⟩
  have KB0 := Lib.hid (show W.heap[w.heap.size]? = some (.cells #[.slice C nc cc, .int .i64 kd, .bool g, .slice A m c, .slice D md cd] 48 (0, 0)) by rw [← hW]; exact blk_nw (by simp))
  have BB := Lib.hid (show Below w.heap.size w W by rw [← hW]; exact below_alloc w _)
  have HZ := Lib.hid (show w.heap.size + 1 ≤ W.heap.size by rw [← hW]; simp)
  have HC := Lib.hid (show VecS W 0 (.slice C nc cc) p.coef by rw [← hW]; exact (hc).alloc _)
  have HX := Lib.hid (show VecS W 0 (.slice X nx cx) x by rw [← hW]; exact (hx).alloc _)
  have HR := Lib.hid (show RatS W g (.slice A m c) (.slice D md cd) p.rhs by rw [← hW]; exact (hr).alloc _)
  obtain ⟨c0_0_0, c0_0_0d, c0_1_0, c0_1_0d, c0_2_0, c0_2_0d, c0_3_0, c0_3_0d, c0_4_0, c0_4_0d⟩ := bc5 KB0.out
  clear hc hr hx
  go_enter Try.func41, Try.ntmps41
  go_wp2_with fail
  clear hW
  with_reducible refine (over C nc cc g A m c D md cd kd p HK.out X nx cx x _ HC.out HR.out HX.out HL.out HB.out ZC.out ZR.out ZX.out).mono ?_
  rintro e w1 ⟨g2, A2, m2, c2, D2, md2, cd2, rfl, hn, hb⟩
  have KB0_1 := Lib.hid (show (w1.alloc (.cells #[.bool g2, .slice A2 m2 c2, .slice D2 md2 cd2] 40)).heap[w.heap.size]? = some (.cells #[.slice C nc cc, .int .i64 kd, .bool g, .slice A m c, .slice D md cd] 48 (0, 0)) from blk_al (keepBlk hb KB0.out))
  have HC_1 := Lib.hid (show VecS (w1.alloc (.cells #[.bool g2, .slice A2 m2 c2, .slice D2 md2 cd2] 40)) 0 (.slice C nc cc) p.coef from (HC.out.below hb).alloc _)
  have HX_1 := Lib.hid (show VecS (w1.alloc (.cells #[.bool g2, .slice A2 m2 c2, .slice D2 md2 cd2] 40)) 0 (.slice X nx cx) x from (HX.out.below hb).alloc _)
  have HR_1 := Lib.hid (show RatS (w1.alloc (.cells #[.bool g2, .slice A2 m2 c2, .slice D2 md2 cd2] 40)) g (.slice A m c) (.slice D md cd) p.rhs from (HR.out.below hb).alloc _)
  have HS := Lib.hid (show RatS (w1.alloc (.cells #[.bool g2, .slice A2 m2 c2, .slice D2 md2 cd2] 40)) g2 (.slice A2 m2 c2) (.slice D2 md2 cd2) (rowOver p x) from (hn).alloc _)
  have BB_1 := Lib.hid (show Below w.heap.size w (w1.alloc (.cells #[.bool g2, .slice A2 m2 c2, .slice D2 md2 cd2] 40)) from ((BB.out.trans ((hb).mono BB.out.size))).alloc ((BB.out.trans ((hb).mono BB.out.size))).size _)
  have KB1_1 := Lib.hid (show (w1.alloc (.cells #[.bool g2, .slice A2 m2 c2, .slice D2 md2 cd2] 40)).heap[w1.heap.size]? = some (.cells #[.bool g2, .slice A2 m2 c2, .slice D2 md2 cd2] 40 (0, 0)) from blk_nw (by simp))
  obtain ⟨c0_0_1, c0_0_1d, c0_1_1, c0_1_1d, c0_2_1, c0_2_1d, c0_3_1, c0_3_1d, c0_4_1, c0_4_1d⟩ := bc5 KB0_1.out
  obtain ⟨c1_0_1, c1_0_1d, c1_1_1, c1_1_1d, c1_2_1, c1_2_1d⟩ := bc3 KB1_1.out
  clear hn hb
  by_cases h1 : kd = 1
  · have hk1 : (kd == 1) = true := by simp [h1]
    go_wp2_with fail
    with_reducible refine (Rt.sign g2 A2 m2 c2 D2 md2 cd2 (rowOver p x) _ HS.out).mono ?_
    rintro e w2 ⟨rfl, hb⟩
    have KB0_2 := Lib.hid (keepBlk hb KB0_1.out)
    have KB1_2 := Lib.hid (keepBlk hb KB1_1.out)
    have HC_2 := Lib.hid (HC_1.out.below hb)
    have HX_2 := Lib.hid (HX_1.out.below hb)
    have HR_2 := Lib.hid (HR_1.out.below hb)
    have HS_2 := Lib.hid (HS.out.below hb)
    have BB_2 := Lib.hid (BB_1.out.trans ((hb).mono BB_1.out.size))
    obtain ⟨c0_0_2, c0_0_2d, c0_1_2, c0_1_2d, c0_2_2, c0_2_2d, c0_3_2, c0_3_2d, c0_4_2, c0_4_2d⟩ := bc5 KB0_2.out
    obtain ⟨c1_0_2, c1_0_2d, c1_1_2, c1_1_2d, c1_2_2, c1_2_2d⟩ := bc3 KB1_2.out
    clear hb
    go_wp2
    go_ret
    have hq := holds_le (p := p) (x := x) (HK.out.trans h1)
    exact ⟨by rw [← hq]; rfl, BB_2.out⟩
  · have hk1 : (kd == 1) = false := by simp [h1]
    by_cases h2 : kd = 2
    · have hk2 : (kd == 2) = true := by simp [h2]
      go_wp2_with fail
      with_reducible refine (Rt.sign g2 A2 m2 c2 D2 md2 cd2 (rowOver p x) _ HS.out).mono ?_
      rintro e w2 ⟨rfl, hb⟩
      have KB0_2 := Lib.hid (keepBlk hb KB0_1.out)
      have KB1_2 := Lib.hid (keepBlk hb KB1_1.out)
      have HC_2 := Lib.hid (HC_1.out.below hb)
      have HX_2 := Lib.hid (HX_1.out.below hb)
      have HR_2 := Lib.hid (HR_1.out.below hb)
      have HS_2 := Lib.hid (HS.out.below hb)
      have BB_2 := Lib.hid (BB_1.out.trans ((hb).mono BB_1.out.size))
      obtain ⟨c0_0_2, c0_0_2d, c0_1_2, c0_1_2d, c0_2_2, c0_2_2d, c0_3_2, c0_3_2d, c0_4_2, c0_4_2d⟩ := bc5 KB0_2.out
      obtain ⟨c1_0_2, c1_0_2d, c1_1_2, c1_1_2d, c1_2_2, c1_2_2d⟩ := bc3 KB1_2.out
      clear hb
      go_wp2
      go_ret
      have hq := holds_ge (p := p) (x := x) (HK.out.trans h2)
      exact ⟨by rw [← hq]; rfl, BB_2.out⟩
    · have hk2 : (kd == 2) = false := by simp [h2]
      by_cases h3 : kd = 3
      · have hk3 : (kd == 3) = true := by simp [h3]
        go_wp2_with fail
        with_reducible refine (Rt.zero g2 A2 m2 c2 D2 md2 cd2 (rowOver p x) _ HS.out).mono ?_
        rintro e w2 ⟨rfl, hb⟩
        have KB0_2 := Lib.hid (keepBlk hb KB0_1.out)
        have KB1_2 := Lib.hid (keepBlk hb KB1_1.out)
        have HC_2 := Lib.hid (HC_1.out.below hb)
        have HX_2 := Lib.hid (HX_1.out.below hb)
        have HR_2 := Lib.hid (HR_1.out.below hb)
        have HS_2 := Lib.hid (HS.out.below hb)
        have BB_2 := Lib.hid (BB_1.out.trans ((hb).mono BB_1.out.size))
        obtain ⟨c0_0_2, c0_0_2d, c0_1_2, c0_1_2d, c0_2_2, c0_2_2d, c0_3_2, c0_3_2d, c0_4_2, c0_4_2d⟩ := bc5 KB0_2.out
        obtain ⟨c1_0_2, c1_0_2d, c1_1_2, c1_1_2d, c1_2_2, c1_2_2d⟩ := bc3 KB1_2.out
        clear hb
        go_wp2
        go_ret
        have hq := holds_eq (p := p) (x := x) (HK.out.trans h3)
        exact ⟨by rw [← hq]; rfl, BB_2.out⟩
      · have hk3 : (kd == 3) = false := by simp [h3]
        go_wp2
        go_ret
        have hq := holds_no (p := p) (x := x) (by rw [HK.out]; exact h1) (by rw [HK.out]; exact h2) (by rw [HK.out]; exact h3)
        exact ⟨by rw [← hq]; rfl, BB_1.out⟩
theorem cost_ok (C : Option Addr) (nc cc : Nat) (R : Option Addr) (nr cr : Nat) (cost : List Rat) (rows : List PRow) (X : Option Addr) (nx cx : Nat) (x : List Rat) (w : World) (hc : VecS w 0 (.slice C nc cc) cost) (hr : RowsS w 0 (.slice R nr cr) rows) (hx : VecS w 0 (.slice X nx cx) x) (hl : cost.length = x.length) (hb : nc ≤ 1000) (zc : Sm cost) (zx : Sm x) :
    Calls Try.prog 15 #[.agg #[.slice C nc cc, .slice R nr cr], .slice X nx cx] w (RetRatB w (dot cost x) true) := by
  have HL := Lib.hid hl
  have HB := Lib.hid hb
  have ZC := Lib.hid zc
  have ZX := Lib.hid zx
  clear hl hb zc zx
  obtain ⟨W, hW⟩ : ∃ W, ((w.alloc (.cells #[.slice C nc cc, .slice R nr cr] 31)).alloc (.cells #[.bool false, .slice none 0 0, .slice none 0 0] 40)) = W := ⟨_, rfl⟩
  have KB0 := Lib.hid (show W.heap[w.heap.size]? = some (.cells #[.slice C nc cc, .slice R nr cr] 31 (0, 0)) by rw [← hW]; exact blk_al (blk_nw (by simp)))
  have KB1 := Lib.hid (show W.heap[w.heap.size + 1]? = some (.cells #[.bool false, .slice none 0 0, .slice none 0 0] 40 (0, 0)) by rw [← hW]; exact blk_nw (by simp))
  have BB := Lib.hid (show Below w.heap.size w W by rw [← hW]; exact (below_alloc w _).alloc (by simp) _)
  have HZ := Lib.hid (show w.heap.size + 2 ≤ W.heap.size by rw [← hW]; simp)
  have HC := Lib.hid (show VecS W 0 (.slice C nc cc) cost by rw [← hW]; exact ((hc).alloc _).alloc _)
  have HX := Lib.hid (show VecS W 0 (.slice X nx cx) x by rw [← hW]; exact ((hx).alloc _).alloc _)
  have HR := Lib.hid (show RowsS W 0 (.slice R nr cr) rows by rw [← hW]; exact ((hr).alloc _).alloc _)
  obtain ⟨c0_0_0, c0_0_0d, c0_1_0, c0_1_0d⟩ := bc2 KB0.out
  obtain ⟨c1_0_0, c1_0_0d, fc1_0_0, fc1_0_0d, c1_1_0, c1_1_0d, fc1_1_0, fc1_1_0d, c1_2_0, c1_2_0d, fc1_2_0, fc1_2_0d⟩ := bf3 KB1.out
  clear hc hr hx
  go_enter Try.func15, Try.ntmps15
  go_wp2_with fail
  clear hW
  with_reducible refine (Vc.dot_ok C nc cc cost X nx cx x 0 0 _ HC.out HX.out HL.out HB.out ZC.out ZX.out).mono ?_
  rintro e w1 ⟨g2, A2, m2, c2, D2, md2, cd2, rfl, hn, hb⟩
  have KB0_1 := Lib.hid (keepBlk hb KB0.out)
  have KB1_1 := Lib.hid (keepBlk hb KB1.out)
  have HC_1 := Lib.hid (HC.out.below hb)
  have HX_1 := Lib.hid (HX.out.below hb)
  have HR_1 := Lib.hid (HR.out.below hb)
  have HS := Lib.hid (show RatS w1 g2 (.slice A2 m2 c2) (.slice D2 md2 cd2) (dot cost x) from hn)
  have BB_1 := Lib.hid (BB.out.trans ((hb).mono BB.out.size))
  obtain ⟨c0_0_1, c0_0_1d, c0_1_1, c0_1_1d⟩ := bc2 KB0_1.out
  obtain ⟨c1_0_1, c1_0_1d, fc1_0_1, fc1_0_1d, c1_1_1, c1_1_1d, fc1_1_1, fc1_1_1d, c1_2_1, c1_2_1d, fc1_2_1, fc1_2_1d⟩ := bf3 KB1_1.out
  clear hn hb
  go_wp2
  refine bodyPost_ret (v := .tuple #[.agg #[.bool g2, .slice A2 m2 c2, .slice D2 md2 cd2], .bool true]) (by simp [results, Try.results15, go_sem, c1_0_1, c1_0_1d, c1_1_1, c1_1_1d, c1_2_1, c1_2_1d]) rfl ?_
  exact ⟨_, _, _, _, _, _, _, rfl, HS.out.set3 KB1_1.out (by decide) _ _ _, Below.setCell (Below.setCell (Below.setCell (BB_1.out) (p := ⟨w.heap.size + 1, 0, none⟩) (by show w.heap.size ≤ w.heap.size + 1; omega) _) (p := ⟨w.heap.size + 1, 1, none⟩) (by show w.heap.size ≤ w.heap.size + 1; omega) _) (p := ⟨w.heap.size + 1, 2, none⟩) (by show w.heap.size ≤ w.heap.size + 1; omega) _⟩
theorem cost_no (C : Option Addr) (nc cc : Nat) (R : Option Addr) (nr cr : Nat) (cost : List Rat) (rows : List PRow) (X : Option Addr) (nx cx : Nat) (x : List Rat) (w : World) (hc : VecS w 0 (.slice C nc cc) cost) (hr : RowsS w 0 (.slice R nr cr) rows) (hx : VecS w 0 (.slice X nx cx) x) (hl : cost.length ≠ x.length) :
    Calls Try.prog 15 #[.agg #[.slice C nc cc, .slice R nr cr], .slice X nx cx] w (RetRatB w (0) false) := by
  have HL := Lib.hid hl
  obtain ⟨W, hW⟩ : ∃ W, ((w.alloc (.cells #[.slice C nc cc, .slice R nr cr] 31)).alloc (.cells #[.bool false, .slice none 0 0, .slice none 0 0] 40)) = W := ⟨_, rfl⟩
  have KB0 := Lib.hid (show W.heap[w.heap.size]? = some (.cells #[.slice C nc cc, .slice R nr cr] 31 (0, 0)) by rw [← hW]; exact blk_al (blk_nw (by simp)))
  have KB1 := Lib.hid (show W.heap[w.heap.size + 1]? = some (.cells #[.bool false, .slice none 0 0, .slice none 0 0] 40 (0, 0)) by rw [← hW]; exact blk_nw (by simp))
  have BB := Lib.hid (show Below w.heap.size w W by rw [← hW]; exact (below_alloc w _).alloc (by simp) _)
  have HZ := Lib.hid (show w.heap.size + 2 ≤ W.heap.size by rw [← hW]; simp)
  have HC := Lib.hid (show VecS W 0 (.slice C nc cc) cost by rw [← hW]; exact ((hc).alloc _).alloc _)
  have HX := Lib.hid (show VecS W 0 (.slice X nx cx) x by rw [← hW]; exact ((hx).alloc _).alloc _)
  have HR := Lib.hid (show RowsS W 0 (.slice R nr cr) rows by rw [← hW]; exact ((hr).alloc _).alloc _)
  obtain ⟨c0_0_0, c0_0_0d, c0_1_0, c0_1_0d⟩ := bc2 KB0.out
  obtain ⟨c1_0_0, c1_0_0d, fc1_0_0, fc1_0_0d, c1_1_0, c1_1_0d, fc1_1_0, fc1_1_0d, c1_2_0, c1_2_0d, fc1_2_0, fc1_2_0d⟩ := bf3 KB1.out
  clear hc hr hx
  go_enter Try.func15, Try.ntmps15
  go_wp2_with fail
  clear hW
  with_reducible refine (Vc.dot_no C nc cc cost X nx cx x 0 0 _ HC.out HX.out HL.out).mono ?_
  rintro e w1 ⟨g2, A2, m2, c2, D2, md2, cd2, rfl, hn, hb⟩
  have KB0_1 := Lib.hid (keepBlk hb KB0.out)
  have KB1_1 := Lib.hid (keepBlk hb KB1.out)
  have HC_1 := Lib.hid (HC.out.below hb)
  have HX_1 := Lib.hid (HX.out.below hb)
  have HR_1 := Lib.hid (HR.out.below hb)
  have HS := Lib.hid (show RatS w1 g2 (.slice A2 m2 c2) (.slice D2 md2 cd2) (0) from hn)
  have BB_1 := Lib.hid (BB.out.trans ((hb).mono BB.out.size))
  obtain ⟨c0_0_1, c0_0_1d, c0_1_1, c0_1_1d⟩ := bc2 KB0_1.out
  obtain ⟨c1_0_1, c1_0_1d, fc1_0_1, fc1_0_1d, c1_1_1, c1_1_1d, fc1_1_1, fc1_1_1d, c1_2_1, c1_2_1d, fc1_2_1, fc1_2_1d⟩ := bf3 KB1_1.out
  clear hn hb
  go_wp2
  refine bodyPost_ret (v := .tuple #[.agg #[.bool g2, .slice A2 m2 c2, .slice D2 md2 cd2], .bool false]) (by simp [results, Try.results15, go_sem, c1_0_1, c1_0_1d, c1_1_1, c1_1_1d, c1_2_1, c1_2_1d]) rfl ?_
  exact ⟨_, _, _, _, _, _, _, rfl, HS.out.set3 KB1_1.out (by decide) _ _ _, Below.setCell (Below.setCell (Below.setCell (BB_1.out) (p := ⟨w.heap.size + 1, 0, none⟩) (by show w.heap.size ≤ w.heap.size + 1; omega) _) (p := ⟨w.heap.size + 1, 1, none⟩) (by show w.heap.size ≤ w.heap.size + 1; omega) _) (p := ⟨w.heap.size + 1, 2, none⟩) (by show w.heap.size ≤ w.heap.size + 1; omega) _⟩
end Pb
end Go.Proofs.Ytohkhcbocknliaa
