/- certify.Optimal, Infeasible by their contracts, where they say yes. Conditions: as each says. -/
import Derived.Test.YtohkhcbocknliaaCert2M
import Derived.Test.YtohkhcbocknliaaRat6M
namespace Go.Proofs.Ytohkhcbocknliaa
set_option linter.unusedSimpArgs false
set_option linter.unusedVariables false
open Go.RowKit Am
attribute [local go_sem ↓] Go.wp_at_zero Go.wp_at_succ
set_option maxHeartbeats 4000000
set_option maxRecDepth 100000
namespace Ct
theorem bounds_yes (C : Option Addr) (nc cc : Nat) (R : Option Addr) (nr cr : Nat) (cost : List Rat) (rows : List PRow) (Y : Option Addr) (ny cy : Nat) (y : List Rat) (w : World) (hc : VecS w 0 (.slice C nc cc) cost) (hr : RowsS w 0 (.slice R nr cr) rows) (hy : VecS w 0 (.slice Y ny cy) y) (hl : y.length = rows.length) (hg : Good nc nr cost rows) (zy : Sm y) (hcl : cost.length = nc) (hbb : boundsB nc cost rows y = true) :
    Calls Try.prog 8 #[.agg #[.slice C nc cc, .slice R nr cr], .slice Y ny cy] w (RetRatB w (sb y rows) true) := by
  have h := bounds_ok C nc cc R nr cr cost rows Y ny cy y w hc hr hy hl hg zy hcl
  rw [hbb] at h; exact h
theorem fits_yes (C : Option Addr) (nc cc : Nat) (R : Option Addr) (nr cr : Nat) (cost : List Rat) (rows : List PRow) (X : Option Addr) (nx cx : Nat) (x : List Rat) (w : World) (hc : VecS w 0 (.slice C nc cc) cost) (hr : RowsS w 0 (.slice R nr cr) rows) (hx : VecS w 0 (.slice X nx cx) x) (hg : Good nc nr cost rows) (zx : Sm x) (hf : fitsB cost rows x = true) :
    Calls Try.prog 16 #[.agg #[.slice C nc cc, .slice R nr cr], .slice X nx cx] w fun e w' => e = .returned (.bool true) ∧ Below w.heap.size w w' := by
  have h := Pb.fits C nc cc R nr cr cost rows X nx cx x w hc hr hx (Nat.le_trans hg.hc (by decide)) hg.rw_ zx (Nat.le_trans hg.hr (by decide))
  rw [hf] at h; exact h
theorem signed_yes (C : Option Addr) (nc cc : Nat) (R : Option Addr) (nr cr : Nat) (cost : List Rat) (rows : List PRow) (Y : Option Addr) (ny cy : Nat) (y : List Rat) (w : World) (hc : VecS w 0 (.slice C nc cc) cost) (hr : RowsS w 0 (.slice R nr cr) rows) (hy : VecS w 0 (.slice Y ny cy) y) (hl : y.length = rows.length) (hnr : nr ≤ 1000) (hs : signedB rows y = true) :
    Calls Try.prog 28 #[.agg #[.slice C nc cc, .slice R nr cr], .slice Y ny cy] w fun e w' => e = .returned (.bool true) ∧ Below w.heap.size w w' := by
  have h := signed C nc cc R nr cr cost rows Y ny cy y w hc hr hy hl hnr
  rw [hs] at h; exact h
theorem same_yes (g : Bool) (A : Option Addr) (m c : Nat) (D : Option Addr) (md cd : Nat) (a : Rat) (g' : Bool) (A' : Option Addr) (m' c' : Nat) (D' : Option Addr) (md' cd' : Nat) (b : Rat) (w : World) (h : RatS w g (.slice A m c) (.slice D md cd) a) (h' : RatS w g' (.slice A' m' c') (.slice D' md' cd') b) (hl : 4 * (mw a + mw b) + 8 ≤ LIM) (he : a = b) :
    Calls Try.prog 12 #[.agg #[.bool g, .slice A m c, .slice D md cd], .agg #[.bool g', .slice A' m' c', .slice D' md' cd']] w fun e w' => e = .returned (.bool true) ∧ Below w.heap.size w w' := by
  have h := Rt.same g A m c D md cd a g' A' m' c' D' md' cd' b w h h' hl
  rw [show sameB a b = true from decide_eq_true he] at h; exact h
theorem below_no (A : Option Addr) (n c : Nat) (qs : List Rat) (H : Nat) (w : World) (h : VecS w H (.slice A n c) qs) (hb : (qs.any fun q => decide (q < 0)) = false) :
    Calls Try.prog 30 #[.slice A n c] w fun e w' => e = .returned (.bool false) ∧ Below w.heap.size w w' := by
  rw [← hb]; exact Vc.below A n c qs H w h
theorem optimal (C : Option Addr) (nc cc : Nat) (R : Option Addr) (nr cr : Nat) (cost : List Rat) (rows : List PRow) (X : Option Addr) (nx cx : Nat) (x : List Rat) (Y : Option Addr) (ny cy : Nat) (y : List Rat) (w : World) (hc : VecS w 0 (.slice C nc cc) cost) (hr : RowsS w 0 (.slice R nr cr) rows) (hx : VecS w 0 (.slice X nx cx) x) (hy : VecS w 0 (.slice Y ny cy) y) (hl : y.length = rows.length) (hg : Good nc nr cost rows) (zy : Sm y) (zx : Sm x) (hcl : cost.length = nc) (hbb : boundsB nc cost rows y = true) (hf : fitsB cost rows x = true) (hlx : cost.length = x.length) (he : sb y rows = dot cost x) :
    Calls Try.prog 21 #[.agg #[.slice C nc cc, .slice R nr cr], .slice X nx cx, .slice Y ny cy] w fun e w' => e = .returned (.bool true) ∧ Below w.heap.size w w' := by
  have HL := Lib.hid hl
  have HG := Lib.hid hg
  have ZY := Lib.hid zy
  have ZX := Lib.hid zx
  have HCL := Lib.hid hcl
  have HBB := Lib.hid hbb
  have HF := Lib.hid hf
  have HLX := Lib.hid hlx
  have HE := Lib.hid he
  have L1 := Lib.hid (show 4 * (mw (sb y rows) + mw (dot cost x)) + 8 ≤ LIM by have := mw_sb hg.rw_ zy (by rw [← hr.len]; exact hg.hr); have := mw_dot hg.sc zx (by have := hg.hc; omega); have := LIM_eq; omega)
  clear hl hg zy zx hcl hbb hf hlx he
  obtain ⟨W, hW⟩ : ∃ W, (w.alloc (.cells #[.slice C nc cc, .slice R nr cr] 31)) = W := ⟨_, rfl⟩
  have KB0 := Lib.hid (show W.heap[w.heap.size]? = some (.cells #[.slice C nc cc, .slice R nr cr] 31 (0, 0)) by rw [← hW]; exact blk_nw (by simp))
  have BB := Lib.hid (show Below w.heap.size w W by rw [← hW]; exact below_alloc w _)
  have HZ := Lib.hid (show w.heap.size + 1 ≤ W.heap.size by rw [← hW]; simp)
  have HC := Lib.hid (show VecS W 0 (.slice C nc cc) cost by rw [← hW]; exact (hc).alloc _)
  have HR := Lib.hid (show RowsS W 0 (.slice R nr cr) rows by rw [← hW]; exact (hr).alloc _)
  have HX := Lib.hid (show VecS W 0 (.slice X nx cx) x by rw [← hW]; exact (hx).alloc _)
  have HY := Lib.hid (show VecS W 0 (.slice Y ny cy) y by rw [← hW]; exact (hy).alloc _)
  obtain ⟨c0_0_0, c0_0_0d, c0_1_0, c0_1_0d⟩ := bc2 KB0.out
  clear hc hr hx hy
  go_enter Try.func21, Try.ntmps21
  go_wp2_with fail
  clear hW
  with_reducible refine (bounds_yes C nc cc R nr cr cost rows Y ny cy y _ HC.out HR.out HY.out HL.out HG.out ZY.out HCL.out HBB.out).mono ?_
  rintro e w1 ⟨g2, A2, m2, c2, D2, md2, cd2, rfl, hn, hb⟩
  have KB0_1 := Lib.hid (show (w1.alloc (.cells #[.bool g2, .slice A2 m2 c2, .slice D2 md2 cd2] 40)).heap[w.heap.size]? = some (.cells #[.slice C nc cc, .slice R nr cr] 31 (0, 0)) from blk_al (keepBlk hb KB0.out))
  have HC_1 := Lib.hid (show VecS (w1.alloc (.cells #[.bool g2, .slice A2 m2 c2, .slice D2 md2 cd2] 40)) 0 (.slice C nc cc) cost from (HC.out.below hb).alloc _)
  have HR_1 := Lib.hid (show RowsS (w1.alloc (.cells #[.bool g2, .slice A2 m2 c2, .slice D2 md2 cd2] 40)) 0 (.slice R nr cr) rows from (HR.out.below hb).alloc _)
  have HX_1 := Lib.hid (show VecS (w1.alloc (.cells #[.bool g2, .slice A2 m2 c2, .slice D2 md2 cd2] 40)) 0 (.slice X nx cx) x from (HX.out.below hb).alloc _)
  have HY_1 := Lib.hid (show VecS (w1.alloc (.cells #[.bool g2, .slice A2 m2 c2, .slice D2 md2 cd2] 40)) 0 (.slice Y ny cy) y from (HY.out.below hb).alloc _)
  have HS := Lib.hid (show RatS (w1.alloc (.cells #[.bool g2, .slice A2 m2 c2, .slice D2 md2 cd2] 40)) g2 (.slice A2 m2 c2) (.slice D2 md2 cd2) (sb y rows) from (hn).alloc _)
  have BB_1 := Lib.hid (show Below w.heap.size w (w1.alloc (.cells #[.bool g2, .slice A2 m2 c2, .slice D2 md2 cd2] 40)) from ((BB.out.trans ((hb).mono BB.out.size))).alloc ((BB.out.trans ((hb).mono BB.out.size))).size _)
  have KB1_1 := Lib.hid (show (w1.alloc (.cells #[.bool g2, .slice A2 m2 c2, .slice D2 md2 cd2] 40)).heap[w1.heap.size]? = some (.cells #[.bool g2, .slice A2 m2 c2, .slice D2 md2 cd2] 40 (0, 0)) from blk_nw (by simp))
  obtain ⟨c0_0_1, c0_0_1d, c0_1_1, c0_1_1d⟩ := bc2 KB0_1.out
  obtain ⟨c1_0_1, c1_0_1d, c1_1_1, c1_1_1d, c1_2_1, c1_2_1d⟩ := bc3 KB1_1.out
  clear hn hb
  go_wp2_with fail
  with_reducible refine (fits_yes C nc cc R nr cr cost rows X nx cx x _ HC_1.out HR_1.out HX_1.out HG.out ZX.out HF.out).mono ?_
  rintro e w2 ⟨rfl, hb⟩
  have KB0_2 := Lib.hid (keepBlk hb KB0_1.out)
  have KB1_2 := Lib.hid (keepBlk hb KB1_1.out)
  have HC_2 := Lib.hid (HC_1.out.below hb)
  have HR_2 := Lib.hid (HR_1.out.below hb)
  have HX_2 := Lib.hid (HX_1.out.below hb)
  have HY_2 := Lib.hid (HY_1.out.below hb)
  have HS_2 := Lib.hid (HS.out.below hb)
  have BB_2 := Lib.hid (BB_1.out.trans ((hb).mono BB_1.out.size))
  obtain ⟨c0_0_2, c0_0_2d, c0_1_2, c0_1_2d⟩ := bc2 KB0_2.out
  obtain ⟨c1_0_2, c1_0_2d, c1_1_2, c1_1_2d, c1_2_2, c1_2_2d⟩ := bc3 KB1_2.out
  clear hb
  go_wp2_with fail
  with_reducible refine (Pb.cost_ok C nc cc R nr cr cost rows X nx cx x _ HC_2.out HR_2.out HX_2.out HLX.out (Nat.le_trans HG.out.hc (by decide)) HG.out.sc ZX.out).mono ?_
  rintro e w3 ⟨g3, A3, m3, c3, D3, md3, cd3, rfl, hn, hb⟩
  have KB0_3 := Lib.hid (show (w3.alloc (.cells #[.bool g3, .slice A3 m3 c3, .slice D3 md3 cd3] 40)).heap[w.heap.size]? = some (.cells #[.slice C nc cc, .slice R nr cr] 31 (0, 0)) from blk_al (keepBlk hb KB0_2.out))
  have KB1_3 := Lib.hid (show (w3.alloc (.cells #[.bool g3, .slice A3 m3 c3, .slice D3 md3 cd3] 40)).heap[w1.heap.size]? = some (.cells #[.bool g2, .slice A2 m2 c2, .slice D2 md2 cd2] 40 (0, 0)) from blk_al (keepBlk hb KB1_2.out))
  have HC_3 := Lib.hid (show VecS (w3.alloc (.cells #[.bool g3, .slice A3 m3 c3, .slice D3 md3 cd3] 40)) 0 (.slice C nc cc) cost from (HC_2.out.below hb).alloc _)
  have HR_3 := Lib.hid (show RowsS (w3.alloc (.cells #[.bool g3, .slice A3 m3 c3, .slice D3 md3 cd3] 40)) 0 (.slice R nr cr) rows from (HR_2.out.below hb).alloc _)
  have HX_3 := Lib.hid (show VecS (w3.alloc (.cells #[.bool g3, .slice A3 m3 c3, .slice D3 md3 cd3] 40)) 0 (.slice X nx cx) x from (HX_2.out.below hb).alloc _)
  have HY_3 := Lib.hid (show VecS (w3.alloc (.cells #[.bool g3, .slice A3 m3 c3, .slice D3 md3 cd3] 40)) 0 (.slice Y ny cy) y from (HY_2.out.below hb).alloc _)
  have HS_3 := Lib.hid (show RatS (w3.alloc (.cells #[.bool g3, .slice A3 m3 c3, .slice D3 md3 cd3] 40)) g2 (.slice A2 m2 c2) (.slice D2 md2 cd2) (sb y rows) from (HS_2.out.below hb).alloc _)
  have HD := Lib.hid (show RatS (w3.alloc (.cells #[.bool g3, .slice A3 m3 c3, .slice D3 md3 cd3] 40)) g3 (.slice A3 m3 c3) (.slice D3 md3 cd3) (dot cost x) from (hn).alloc _)
  have BB_3 := Lib.hid (show Below w.heap.size w (w3.alloc (.cells #[.bool g3, .slice A3 m3 c3, .slice D3 md3 cd3] 40)) from ((BB_2.out.trans ((hb).mono BB_2.out.size))).alloc ((BB_2.out.trans ((hb).mono BB_2.out.size))).size _)
  have KB2_3 := Lib.hid (show (w3.alloc (.cells #[.bool g3, .slice A3 m3 c3, .slice D3 md3 cd3] 40)).heap[w3.heap.size]? = some (.cells #[.bool g3, .slice A3 m3 c3, .slice D3 md3 cd3] 40 (0, 0)) from blk_nw (by simp))
  obtain ⟨c0_0_3, c0_0_3d, c0_1_3, c0_1_3d⟩ := bc2 KB0_3.out
  obtain ⟨c1_0_3, c1_0_3d, c1_1_3, c1_1_3d, c1_2_3, c1_2_3d⟩ := bc3 KB1_3.out
  obtain ⟨c2_0_3, c2_0_3d, c2_1_3, c2_1_3d, c2_2_3, c2_2_3d⟩ := bc3 KB2_3.out
  clear hn hb
  go_wp2_with fail
  with_reducible refine (same_yes g2 A2 m2 c2 D2 md2 cd2 (sb y rows) g3 A3 m3 c3 D3 md3 cd3 (dot cost x) _ HS_3.out HD.out L1.out HE.out).mono ?_
  rintro e w4 ⟨rfl, hb⟩
  have KB0_4 := Lib.hid (keepBlk hb KB0_3.out)
  have KB1_4 := Lib.hid (keepBlk hb KB1_3.out)
  have KB2_4 := Lib.hid (keepBlk hb KB2_3.out)
  have HC_4 := Lib.hid (HC_3.out.below hb)
  have HR_4 := Lib.hid (HR_3.out.below hb)
  have HX_4 := Lib.hid (HX_3.out.below hb)
  have HY_4 := Lib.hid (HY_3.out.below hb)
  have HS_4 := Lib.hid (HS_3.out.below hb)
  have HD_4 := Lib.hid (HD.out.below hb)
  have BB_4 := Lib.hid (BB_3.out.trans ((hb).mono BB_3.out.size))
  obtain ⟨c0_0_4, c0_0_4d, c0_1_4, c0_1_4d⟩ := bc2 KB0_4.out
  obtain ⟨c1_0_4, c1_0_4d, c1_1_4, c1_1_4d, c1_2_4, c1_2_4d⟩ := bc3 KB1_4.out
  obtain ⟨c2_0_4, c2_0_4d, c2_1_4, c2_1_4d, c2_2_4, c2_2_4d⟩ := bc3 KB2_4.out
  clear hb
  go_wp2
  go_ret
  exact ⟨rfl, BB_4.out⟩
theorem infeasible (C : Option Addr) (nc cc : Nat) (R : Option Addr) (nr cr : Nat) (cost : List Rat) (rows : List PRow) (Y : Option Addr) (ny cy : Nat) (y : List Rat) (w : World) (hc : VecS w 0 (.slice C nc cc) cost) (hr : RowsS w 0 (.slice R nr cr) rows) (hy : VecS w 0 (.slice Y ny cy) y) (hl : y.length = rows.length) (hg : Good nc nr cost rows) (zy : Sm y) (hs : signedB rows y = true) (hd : ((scale ((-1 : Int) : Rat) (sv nc y rows)).any fun q => decide (q < 0)) = false) (hp : 0 < sb y rows) :
    Calls Try.prog 20 #[.agg #[.slice C nc cc, .slice R nr cr], .slice Y ny cy] w fun e w' => e = .returned (.bool true) ∧ Below w.heap.size w w' := by
  have HL := Lib.hid hl
  have HG := Lib.hid hg
  have ZY := Lib.hid zy
  have HS := Lib.hid hs
  have HD := Lib.hid hd
  have HRL := Lib.hid (show rows.length ≤ 4 by rw [← hr.len]; exact hg.hr)
  have hs1 := (num_pos (sb y rows)).2 hp
  have hs2 := (sign_pos (sb y rows)).2 hp
  clear hl hg zy hs hd
  obtain ⟨W, hW⟩ : ∃ W, (w.alloc (.cells #[.slice C nc cc, .slice R nr cr] 31)) = W := ⟨_, rfl⟩
  have KB0 := Lib.hid (show W.heap[w.heap.size]? = some (.cells #[.slice C nc cc, .slice R nr cr] 31 (0, 0)) by rw [← hW]; exact blk_nw (by simp))
  have BB := Lib.hid (show Below w.heap.size w W by rw [← hW]; exact below_alloc w _)
  have HZ := Lib.hid (show w.heap.size + 1 ≤ W.heap.size by rw [← hW]; simp)
  have HC := Lib.hid (show VecS W 0 (.slice C nc cc) cost by rw [← hW]; exact (hc).alloc _)
  have HR := Lib.hid (show RowsS W 0 (.slice R nr cr) rows by rw [← hW]; exact (hr).alloc _)
  have HY := Lib.hid (show VecS W 0 (.slice Y ny cy) y by rw [← hW]; exact (hy).alloc _)
  obtain ⟨c0_0_0, c0_0_0d, c0_1_0, c0_1_0d⟩ := bc2 KB0.out
  clear hc hr hy
  go_enter Try.func20, Try.ntmps20
  go_wp2_with fail
  clear hW
  with_reducible refine (sum_ok C nc cc R nr cr cost rows Y ny cy y _ HC.out HR.out HY.out HL.out HG.out.hr (Nat.le_trans HG.out.hc (by decide)) HG.out.rw_ ZY.out).mono ?_
  rintro e w1 ⟨S2, ns2, cs2, g2, A2, m2, c2, D2, md2, cd2, rfl, hv, hn, hb⟩
  have KB0_1 := Lib.hid (show (w1.alloc (.cells #[.bool g2, .slice A2 m2 c2, .slice D2 md2 cd2] 40)).heap[w.heap.size]? = some (.cells #[.slice C nc cc, .slice R nr cr] 31 (0, 0)) from blk_al (keepBlk hb KB0.out))
  have HC_1 := Lib.hid (show VecS (w1.alloc (.cells #[.bool g2, .slice A2 m2 c2, .slice D2 md2 cd2] 40)) 0 (.slice C nc cc) cost from (HC.out.below hb).alloc _)
  have HR_1 := Lib.hid (show RowsS (w1.alloc (.cells #[.bool g2, .slice A2 m2 c2, .slice D2 md2 cd2] 40)) 0 (.slice R nr cr) rows from (HR.out.below hb).alloc _)
  have HY_1 := Lib.hid (show VecS (w1.alloc (.cells #[.bool g2, .slice A2 m2 c2, .slice D2 md2 cd2] 40)) 0 (.slice Y ny cy) y from (HY.out.below hb).alloc _)
  have HV := Lib.hid (show VecS (w1.alloc (.cells #[.bool g2, .slice A2 m2 c2, .slice D2 md2 cd2] 40)) 0 (.slice S2 ns2 cs2) (sv nc y rows) from ((hv.base (Nat.zero_le _))).alloc _)
  have HQ := Lib.hid (show RatS (w1.alloc (.cells #[.bool g2, .slice A2 m2 c2, .slice D2 md2 cd2] 40)) g2 (.slice A2 m2 c2) (.slice D2 md2 cd2) (sb y rows) from (hn).alloc _)
  have BB_1 := Lib.hid (show Below w.heap.size w (w1.alloc (.cells #[.bool g2, .slice A2 m2 c2, .slice D2 md2 cd2] 40)) from ((BB.out.trans ((hb).mono BB.out.size))).alloc ((BB.out.trans ((hb).mono BB.out.size))).size _)
  have KB1_1 := Lib.hid (show (w1.alloc (.cells #[.bool g2, .slice A2 m2 c2, .slice D2 md2 cd2] 40)).heap[w1.heap.size]? = some (.cells #[.bool g2, .slice A2 m2 c2, .slice D2 md2 cd2] 40 (0, 0)) from blk_nw (by simp))
  obtain ⟨c0_0_1, c0_0_1d, c0_1_1, c0_1_1d⟩ := bc2 KB0_1.out
  obtain ⟨c1_0_1, c1_0_1d, c1_1_1, c1_1_1d, c1_2_1, c1_2_1d⟩ := bc3 KB1_1.out
  clear hv hn hb
  go_wp2_with fail
  with_reducible refine (Pb.may C nc cc R nr cr cost rows _ HC_1.out HR_1.out HG.out.hc (Nat.le_trans HG.out.hr (by decide)) HG.out.rw_ HG.out.kd).mono ?_
  rintro e w2 ⟨rfl, hb⟩
  have KB0_2 := Lib.hid (keepBlk hb KB0_1.out)
  have KB1_2 := Lib.hid (keepBlk hb KB1_1.out)
  have HC_2 := Lib.hid (HC_1.out.below hb)
  have HR_2 := Lib.hid (HR_1.out.below hb)
  have HY_2 := Lib.hid (HY_1.out.below hb)
  have HV_2 := Lib.hid (HV.out.below hb)
  have HQ_2 := Lib.hid (HQ.out.below hb)
  have BB_2 := Lib.hid (BB_1.out.trans ((hb).mono BB_1.out.size))
  obtain ⟨c0_0_2, c0_0_2d, c0_1_2, c0_1_2d⟩ := bc2 KB0_2.out
  obtain ⟨c1_0_2, c1_0_2d, c1_1_2, c1_1_2d, c1_2_2, c1_2_2d⟩ := bc3 KB1_2.out
  clear hb
  go_wp2_with fail
  with_reducible refine (signed_yes C nc cc R nr cr cost rows Y ny cy y _ HC_2.out HR_2.out HY_2.out HL.out (Nat.le_trans HG.out.hr (by decide)) HS.out).mono ?_
  rintro e w3 ⟨rfl, hb⟩
  have KB0_3 := Lib.hid (keepBlk hb KB0_2.out)
  have KB1_3 := Lib.hid (keepBlk hb KB1_2.out)
  have HC_3 := Lib.hid (HC_2.out.below hb)
  have HR_3 := Lib.hid (HR_2.out.below hb)
  have HY_3 := Lib.hid (HY_2.out.below hb)
  have HV_3 := Lib.hid (HV_2.out.below hb)
  have HQ_3 := Lib.hid (HQ_2.out.below hb)
  have BB_3 := Lib.hid (BB_2.out.trans ((hb).mono BB_2.out.size))
  obtain ⟨c0_0_3, c0_0_3d, c0_1_3, c0_1_3d⟩ := bc2 KB0_3.out
  obtain ⟨c1_0_3, c1_0_3d, c1_1_3, c1_1_3d, c1_2_3, c1_2_3d⟩ := bc3 KB1_3.out
  clear hb
  go_wp2_with fail
  with_reducible refine (Rt.int (-1) (by decide) (by decide) _).mono ?_
  rintro e w4 ⟨g3, A3, m3, c3, D3, md3, cd3, rfl, hn, hb⟩
  have KB0_4 := Lib.hid (keepBlk hb KB0_3.out)
  have KB1_4 := Lib.hid (keepBlk hb KB1_3.out)
  have HC_4 := Lib.hid (HC_3.out.below hb)
  have HR_4 := Lib.hid (HR_3.out.below hb)
  have HY_4 := Lib.hid (HY_3.out.below hb)
  have HV_4 := Lib.hid (HV_3.out.below hb)
  have HQ_4 := Lib.hid (HQ_3.out.below hb)
  have HM := Lib.hid (show RatS w4 g3 (.slice A3 m3 c3) (.slice D3 md3 cd3) ((-1 : Int) : Rat) from hn)
  have BB_4 := Lib.hid (BB_3.out.trans ((hb).mono BB_3.out.size))
  obtain ⟨c0_0_4, c0_0_4d, c0_1_4, c0_1_4d⟩ := bc2 KB0_4.out
  obtain ⟨c1_0_4, c1_0_4d, c1_1_4, c1_1_4d, c1_2_4, c1_2_4d⟩ := bc3 KB1_4.out
  clear hn hb
  go_wp2_with fail
  with_reducible refine (Vc.scale g3 A3 m3 c3 D3 md3 cd3 ((-1 : Int) : Rat) S2 ns2 cs2 (sv nc y rows) 0 _ HV_4.out HM.out (by rw [(HV_4.out).len, sv_len HG.out.rw_]; have := HG.out.hc; omega) (mw_sv HG.out.rw_ ZY.out HRL.out) (Nat.le_trans (mw_int _ (by constructor <;> decide)) (by decide))).mono ?_
  rintro e w5 ⟨T3, nt3, ct3, rfl, hv, hb⟩
  have KB0_5 := Lib.hid (keepBlk hb KB0_4.out)
  have KB1_5 := Lib.hid (keepBlk hb KB1_4.out)
  have HC_5 := Lib.hid (HC_4.out.below hb)
  have HR_5 := Lib.hid (HR_4.out.below hb)
  have HY_5 := Lib.hid (HY_4.out.below hb)
  have HV_5 := Lib.hid (HV_4.out.below hb)
  have HQ_5 := Lib.hid (HQ_4.out.below hb)
  have HM_5 := Lib.hid (HM.out.below hb)
  have HO := Lib.hid (show VecS w5 0 (.slice T3 nt3 ct3) (scale ((-1 : Int) : Rat) (sv nc y rows)) from (hv.base (Nat.zero_le _)))
  have BB_5 := Lib.hid (BB_4.out.trans ((hb).mono BB_4.out.size))
  obtain ⟨c0_0_5, c0_0_5d, c0_1_5, c0_1_5d⟩ := bc2 KB0_5.out
  obtain ⟨c1_0_5, c1_0_5d, c1_1_5, c1_1_5d, c1_2_5, c1_2_5d⟩ := bc3 KB1_5.out
  clear hv hb
  go_wp2_with fail
  with_reducible refine (below_no T3 nt3 ct3 _ 0 _ HO.out HD.out).mono ?_
  rintro e w6 ⟨rfl, hb⟩
  have KB0_6 := Lib.hid (keepBlk hb KB0_5.out)
  have KB1_6 := Lib.hid (keepBlk hb KB1_5.out)
  have HC_6 := Lib.hid (HC_5.out.below hb)
  have HR_6 := Lib.hid (HR_5.out.below hb)
  have HY_6 := Lib.hid (HY_5.out.below hb)
  have HV_6 := Lib.hid (HV_5.out.below hb)
  have HQ_6 := Lib.hid (HQ_5.out.below hb)
  have HM_6 := Lib.hid (HM_5.out.below hb)
  have HO_6 := Lib.hid (HO.out.below hb)
  have BB_6 := Lib.hid (BB_5.out.trans ((hb).mono BB_5.out.size))
  obtain ⟨c0_0_6, c0_0_6d, c0_1_6, c0_1_6d⟩ := bc2 KB0_6.out
  obtain ⟨c1_0_6, c1_0_6d, c1_1_6, c1_1_6d, c1_2_6, c1_2_6d⟩ := bc3 KB1_6.out
  clear hb
  go_wp2_with fail
  with_reducible refine (Rt.sign g2 A2 m2 c2 D2 md2 cd2 (sb y rows) _ HQ_6.out).mono ?_
  rintro e w7 ⟨rfl, hb⟩
  have KB0_7 := Lib.hid (keepBlk hb KB0_6.out)
  have KB1_7 := Lib.hid (keepBlk hb KB1_6.out)
  have HC_7 := Lib.hid (HC_6.out.below hb)
  have HR_7 := Lib.hid (HR_6.out.below hb)
  have HY_7 := Lib.hid (HY_6.out.below hb)
  have HV_7 := Lib.hid (HV_6.out.below hb)
  have HQ_7 := Lib.hid (HQ_6.out.below hb)
  have HM_7 := Lib.hid (HM_6.out.below hb)
  have HO_7 := Lib.hid (HO_6.out.below hb)
  have BB_7 := Lib.hid (BB_6.out.trans ((hb).mono BB_6.out.size))
  obtain ⟨c0_0_7, c0_0_7d, c0_1_7, c0_1_7d⟩ := bc2 KB0_7.out
  obtain ⟨c1_0_7, c1_0_7d, c1_1_7, c1_1_7d, c1_2_7, c1_2_7d⟩ := bc3 KB1_7.out
  clear hb
  go_wp2
  go_ret
  exact ⟨rfl, BB_7.out⟩
end Ct
end Go.Proofs.Ytohkhcbocknliaa
