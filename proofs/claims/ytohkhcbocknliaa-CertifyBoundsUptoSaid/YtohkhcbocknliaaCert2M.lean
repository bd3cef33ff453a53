/- certify.Bounds by its contract. Conditions: as it says. -/
import Derived.Test.YtohkhcbocknliaaCert1M
namespace Go.Proofs.Ytohkhcbocknliaa
set_option linter.unusedSimpArgs false
set_option linter.unusedVariables false
open Go.RowKit Am
attribute [local go_sem ↓] Go.wp_at_zero Go.wp_at_succ
set_option maxHeartbeats 4000000
set_option maxRecDepth 100000
/-- is a number worth more than it costs? -/
def dearB (n : Nat) (cost : List Rat) (rows : List PRow) (ys : List Rat) : Bool := (addT cost ((-1 : Int) : Rat) (sv n ys rows)).any fun q => decide (q < 0)
/-- do the rows' worths bound? -/
def boundsB (n : Nat) (cost : List Rat) (rows : List PRow) (ys : List Rat) : Bool := signedB rows ys && !dearB n cost rows ys
/-- a problem that may be, small -/
structure Good (nc nr : Nat) (cost : List Rat) (rows : List PRow) : Prop where
  hc : nc ≤ 24
  hr : nr ≤ 4
  sc : Sm cost
  rw_ : Rows nc rows
  kd : Kinds rows
theorem sv_len {n : Nat} {ys : List Rat} {rows : List PRow} (h : Rows n rows) : (sv n ys rows).length = n := svTo_len h _ (Nat.le_refl _)
theorem mw_sv {n : Nat} {ys : List Rat} {rows : List PRow} (h : Rows n rows) (zy : Sm ys) (hr : rows.length ≤ 4) : ∀ q ∈ sv n ys rows, mw q ≤ 100000 := fun q hq => Nat.le_trans (mw_svTo h zy _ (Nat.le_refl _) q hq) (by omega)
theorem mw_sb {n : Nat} {ys : List Rat} {rows : List PRow} (h : Rows n rows) (zy : Sm ys) (hr : rows.length ≤ 4) : mw (sb ys rows) ≤ 100000 := Nat.le_trans (mw_sbTo h zy rows.length) (by omega)
theorem Vc.below_dear (A : Option Addr) (n c : Nat) (nc : Nat) (cost : List Rat) (rows : List PRow) (y : List Rat) (H : Nat) (w : World) (h : VecS w H (.slice A n c) (addT cost ((-1 : Int) : Rat) (sv nc y rows))) (b : Bool) (hb : dearB nc cost rows y = b) :
    Calls Try.prog 30 #[.slice A n c] w fun e w' => e = .returned (.bool b) ∧ Below w.heap.size w w' := by
  rw [← hb]; exact Vc.below A n c _ H w h
namespace Ct
theorem bounds_no (C : Option Addr) (nc cc : Nat) (R : Option Addr) (nr cr : Nat) (cost : List Rat) (rows : List PRow) (Y : Option Addr) (ny cy : Nat) (y : List Rat) (w : World) (hc : VecS w 0 (.slice C nc cc) cost) (hr : RowsS w 0 (.slice R nr cr) rows) (hy : VecS w 0 (.slice Y ny cy) y) (hl : y.length ≠ rows.length) :
    Calls Try.prog 8 #[.agg #[.slice C nc cc, .slice R nr cr], .slice Y ny cy] w (RetRatB w 0 false) := by
  have HL := Lib.hid hl
  clear hl
  obtain ⟨W, hW⟩ : ∃ W, ((w.alloc (.cells #[.slice C nc cc, .slice R nr cr] 31)).alloc (.cells #[.bool false, .slice none 0 0, .slice none 0 0] 40)) = W := ⟨_, rfl⟩
  have KB0 := Lib.hid (show W.heap[w.heap.size]? = some (.cells #[.slice C nc cc, .slice R nr cr] 31 (0, 0)) by rw [← hW]; exact blk_al (blk_nw (by simp)))
  have KB1 := Lib.hid (show W.heap[w.heap.size + 1]? = some (.cells #[.bool false, .slice none 0 0, .slice none 0 0] 40 (0, 0)) by rw [← hW]; exact blk_nw (by simp))
  have BB := Lib.hid (show Below w.heap.size w W by rw [← hW]; exact (below_alloc w _).alloc (by simp) _)
  have HZ := Lib.hid (show w.heap.size + 2 ≤ W.heap.size by rw [← hW]; simp)
  have HC := Lib.hid (show VecS W 0 (.slice C nc cc) cost by rw [← hW]; exact ((hc).alloc _).alloc _)
  have HY := Lib.hid (show VecS W 0 (.slice Y ny cy) y by rw [← hW]; exact ((hy).alloc _).alloc _)
  have HR := Lib.hid (show RowsS W 0 (.slice R nr cr) rows by rw [← hW]; exact ((hr).alloc _).alloc _)
  obtain ⟨c0_0_0, c0_0_0d, c0_1_0, c0_1_0d⟩ := bc2 KB0.out
  obtain ⟨c1_0_0, c1_0_0d, fc1_0_0, fc1_0_0d, c1_1_0, c1_1_0d, fc1_1_0, fc1_1_0d, c1_2_0, c1_2_0d, fc1_2_0, fc1_2_0d⟩ := bf3 KB1.out
  clear hc hr hy
  go_enter Try.func8, Try.ntmps8
  go_wp2_with fail
  clear hW
  with_reducible refine (sum_no C nc cc R nr cr cost rows Y ny cy y _ HC.out HR.out HY.out HL.out).mono ?_
  rintro e w1 ⟨S2, ns2, cs2, g2, A2, m2, c2, D2, md2, cd2, rfl, hv, hn, hb⟩
  have KB0_1 := Lib.hid (show (w1.alloc (.cells #[.bool g2, .slice A2 m2 c2, .slice D2 md2 cd2] 40)).heap[w.heap.size]? = some (.cells #[.slice C nc cc, .slice R nr cr] 31 (0, 0)) from blk_al (keepBlk hb KB0.out))
  have KB1_1 := Lib.hid (show (w1.alloc (.cells #[.bool g2, .slice A2 m2 c2, .slice D2 md2 cd2] 40)).heap[w.heap.size + 1]? = some (.cells #[.bool false, .slice none 0 0, .slice none 0 0] 40 (0, 0)) from blk_al (keepBlk hb KB1.out))
  have HC_1 := Lib.hid (show VecS (w1.alloc (.cells #[.bool g2, .slice A2 m2 c2, .slice D2 md2 cd2] 40)) 0 (.slice C nc cc) cost from (HC.out.below hb).alloc _)
  have HY_1 := Lib.hid (show VecS (w1.alloc (.cells #[.bool g2, .slice A2 m2 c2, .slice D2 md2 cd2] 40)) 0 (.slice Y ny cy) y from (HY.out.below hb).alloc _)
  have HR_1 := Lib.hid (show RowsS (w1.alloc (.cells #[.bool g2, .slice A2 m2 c2, .slice D2 md2 cd2] 40)) 0 (.slice R nr cr) rows from (HR.out.below hb).alloc _)
  have BB_1 := Lib.hid (show Below w.heap.size w (w1.alloc (.cells #[.bool g2, .slice A2 m2 c2, .slice D2 md2 cd2] 40)) from ((BB.out.trans ((hb).mono BB.out.size))).alloc ((BB.out.trans ((hb).mono BB.out.size))).size _)
  have KB2_1 := Lib.hid (show (w1.alloc (.cells #[.bool g2, .slice A2 m2 c2, .slice D2 md2 cd2] 40)).heap[w1.heap.size]? = some (.cells #[.bool g2, .slice A2 m2 c2, .slice D2 md2 cd2] 40 (0, 0)) from blk_nw (by simp))
  obtain ⟨c0_0_1, c0_0_1d, c0_1_1, c0_1_1d⟩ := bc2 KB0_1.out
  obtain ⟨c1_0_1, c1_0_1d, fc1_0_1, fc1_0_1d, c1_1_1, c1_1_1d, fc1_1_1, fc1_1_1d, c1_2_1, c1_2_1d, fc1_2_1, fc1_2_1d⟩ := bf3 KB1_1.out
  obtain ⟨c2_0_1, c2_0_1d, c2_1_1, c2_1_1d, c2_2_1, c2_2_1d⟩ := bc3 KB2_1.out
  clear hv hn hb
  go_wp2
  refine bodyPost_ret (v := .tuple #[.agg #[.bool false, .slice none 0 0, .slice none 0 0], .bool false]) (by simp [results, Try.results8, go_sem, c1_0_1, c1_0_1d, c1_1_1, c1_1_1d, c1_2_1, c1_2_1d]) rfl ?_
  exact ⟨_, _, _, _, _, _, _, rfl, (RatS.zero _).set3 KB1_1.out (by decide) _ _ _, Below.setCell (Below.setCell (Below.setCell (BB_1.out) (p := ⟨w.heap.size + 1, 0, none⟩) (by show w.heap.size ≤ w.heap.size + 1; omega) _) (p := ⟨w.heap.size + 1, 1, none⟩) (by show w.heap.size ≤ w.heap.size + 1; omega) _) (p := ⟨w.heap.size + 1, 2, none⟩) (by show w.heap.size ≤ w.heap.size + 1; omega) _⟩
theorem bounds_ok (C : Option Addr) (nc cc : Nat) (R : Option Addr) (nr cr : Nat) (cost : List Rat) (rows : List PRow) (Y : Option Addr) (ny cy : Nat) (y : List Rat) (w : World) (hc : VecS w 0 (.slice C nc cc) cost) (hr : RowsS w 0 (.slice R nr cr) rows) (hy : VecS w 0 (.slice Y ny cy) y) (hl : y.length = rows.length) (hg : Good nc nr cost rows) (zy : Sm y) (hcl : cost.length = nc) :
    Calls Try.prog 8 #[.agg #[.slice C nc cc, .slice R nr cr], .slice Y ny cy] w (RetRatB w (if boundsB nc cost rows y then sb y rows else 0) (boundsB nc cost rows y)) := by
  have HL := Lib.hid hl
  have HG := Lib.hid hg
  have ZY := Lib.hid zy
  have HCL := Lib.hid hcl
  have HRL := Lib.hid (show rows.length ≤ 4 by rw [← hr.len]; exact hg.hr)
  generalize hBB : boundsB nc cost rows y = bb
  generalize hBQ : (if bb = true then sb y rows else 0) = bq
  have HBB := Lib.hid hBB
  have HBQ := Lib.hid hBQ
  clear hl hg zy hcl hBB hBQ
  obtain ⟨W, hW⟩ : ∃ W, ((w.alloc (.cells #[.slice C nc cc, .slice R nr cr] 31)).alloc (.cells #[.bool false, .slice none 0 0, .slice none 0 0] 40)) = W := ⟨_, rfl⟩
  have KB0 := Lib.hid (show W.heap[w.heap.size]? = some (.cells #[.slice C nc cc, .slice R nr cr] 31 (0, 0)) by rw [← hW]; exact blk_al (blk_nw (by simp)))
  have KB1 := Lib.hid (show W.heap[w.heap.size + 1]? = some (.cells #[.bool false, .slice none 0 0, .slice none 0 0] 40 (0, 0)) by rw [← hW]; exact blk_nw (by simp))
  have BB := Lib.hid (show Below w.heap.size w W by rw [← hW]; exact (below_alloc w _).alloc (by simp) _)
  have HZ := Lib.hid (show w.heap.size + 2 ≤ W.heap.size by rw [← hW]; simp)
  have HC := Lib.hid (show VecS W 0 (.slice C nc cc) cost by rw [← hW]; exact ((hc).alloc _).alloc _)
  have HY := Lib.hid (show VecS W 0 (.slice Y ny cy) y by rw [← hW]; exact ((hy).alloc _).alloc _)
  have HR := Lib.hid (show RowsS W 0 (.slice R nr cr) rows by rw [← hW]; exact ((hr).alloc _).alloc _)
  obtain ⟨c0_0_0, c0_0_0d, c0_1_0, c0_1_0d⟩ := bc2 KB0.out
  obtain ⟨c1_0_0, c1_0_0d, fc1_0_0, fc1_0_0d, c1_1_0, c1_1_0d, fc1_1_0, fc1_1_0d, c1_2_0, c1_2_0d, fc1_2_0, fc1_2_0d⟩ := bf3 KB1.out
  clear hc hr hy
  go_enter Try.func8, Try.ntmps8
  go_wp2_with fail
  clear hW
  with_reducible refine (sum_ok C nc cc R nr cr cost rows Y ny cy y _ HC.out HR.out HY.out HL.out HG.out.hr (Nat.le_trans HG.out.hc (by decide)) HG.out.rw_ ZY.out).mono ?_
  rintro e w1 ⟨S2, ns2, cs2, g2, A2, m2, c2, D2, md2, cd2, rfl, hv, hn, hb⟩
  have KB0_1 := Lib.hid (show (w1.alloc (.cells #[.bool g2, .slice A2 m2 c2, .slice D2 md2 cd2] 40)).heap[w.heap.size]? = some (.cells #[.slice C nc cc, .slice R nr cr] 31 (0, 0)) from blk_al (keepBlk hb KB0.out))
  have KB1_1 := Lib.hid (show (w1.alloc (.cells #[.bool g2, .slice A2 m2 c2, .slice D2 md2 cd2] 40)).heap[w.heap.size + 1]? = some (.cells #[.bool false, .slice none 0 0, .slice none 0 0] 40 (0, 0)) from blk_al (keepBlk hb KB1.out))
  have HC_1 := Lib.hid (show VecS (w1.alloc (.cells #[.bool g2, .slice A2 m2 c2, .slice D2 md2 cd2] 40)) 0 (.slice C nc cc) cost from (HC.out.below hb).alloc _)
  have HY_1 := Lib.hid (show VecS (w1.alloc (.cells #[.bool g2, .slice A2 m2 c2, .slice D2 md2 cd2] 40)) 0 (.slice Y ny cy) y from (HY.out.below hb).alloc _)
  have HR_1 := Lib.hid (show RowsS (w1.alloc (.cells #[.bool g2, .slice A2 m2 c2, .slice D2 md2 cd2] 40)) 0 (.slice R nr cr) rows from (HR.out.below hb).alloc _)
  have HV := Lib.hid (show VecS (w1.alloc (.cells #[.bool g2, .slice A2 m2 c2, .slice D2 md2 cd2] 40)) 0 (.slice S2 ns2 cs2) (sv nc y rows) from ((hv.base (Nat.zero_le _))).alloc _)
  have HS := Lib.hid (show RatS (w1.alloc (.cells #[.bool g2, .slice A2 m2 c2, .slice D2 md2 cd2] 40)) g2 (.slice A2 m2 c2) (.slice D2 md2 cd2) (sb y rows) from (hn).alloc _)
  have BB_1 := Lib.hid (show Below w.heap.size w (w1.alloc (.cells #[.bool g2, .slice A2 m2 c2, .slice D2 md2 cd2] 40)) from ((BB.out.trans ((hb).mono BB.out.size))).alloc ((BB.out.trans ((hb).mono BB.out.size))).size _)
  have KB2_1 := Lib.hid (show (w1.alloc (.cells #[.bool g2, .slice A2 m2 c2, .slice D2 md2 cd2] 40)).heap[w1.heap.size]? = some (.cells #[.bool g2, .slice A2 m2 c2, .slice D2 md2 cd2] 40 (0, 0)) from blk_nw (by simp))
  obtain ⟨c0_0_1, c0_0_1d, c0_1_1, c0_1_1d⟩ := bc2 KB0_1.out
  obtain ⟨c1_0_1, c1_0_1d, fc1_0_1, fc1_0_1d, c1_1_1, c1_1_1d, fc1_1_1, fc1_1_1d, c1_2_1, c1_2_1d, fc1_2_1, fc1_2_1d⟩ := bf3 KB1_1.out
  obtain ⟨c2_0_1, c2_0_1d, c2_1_1, c2_1_1d, c2_2_1, c2_2_1d⟩ := bc3 KB2_1.out
  clear hv hn hb
  go_wp2_with fail
  with_reducible refine (Pb.may C nc cc R nr cr cost rows _ HC_1.out HR_1.out HG.out.hc (Nat.le_trans HG.out.hr (by decide)) HG.out.rw_ HG.out.kd).mono ?_
  rintro e w2 ⟨rfl, hb⟩
  have KB0_2 := Lib.hid (keepBlk hb KB0_1.out)
  have KB1_2 := Lib.hid (keepBlk hb KB1_1.out)
  have KB2_2 := Lib.hid (keepBlk hb KB2_1.out)
  have HC_2 := Lib.hid (HC_1.out.below hb)
  have HY_2 := Lib.hid (HY_1.out.below hb)
  have HR_2 := Lib.hid (HR_1.out.below hb)
  have HV_2 := Lib.hid (HV.out.below hb)
  have HS_2 := Lib.hid (HS.out.below hb)
  have BB_2 := Lib.hid (BB_1.out.trans ((hb).mono BB_1.out.size))
  obtain ⟨c0_0_2, c0_0_2d, c0_1_2, c0_1_2d⟩ := bc2 KB0_2.out
  obtain ⟨c1_0_2, c1_0_2d, fc1_0_2, fc1_0_2d, c1_1_2, c1_1_2d, fc1_1_2, fc1_1_2d, c1_2_2, c1_2_2d, fc1_2_2, fc1_2_2d⟩ := bf3 KB1_2.out
  obtain ⟨c2_0_2, c2_0_2d, c2_1_2, c2_1_2d, c2_2_2, c2_2_2d⟩ := bc3 KB2_2.out
  clear hb
  go_wp2_with fail
  with_reducible refine (signed C nc cc R nr cr cost rows Y ny cy y _ HC_2.out HR_2.out HY_2.out HL.out (Nat.le_trans HG.out.hr (by decide))).mono ?_
  rintro e w3 ⟨rfl, hb⟩
  have KB0_3 := Lib.hid (keepBlk hb KB0_2.out)
  have KB1_3 := Lib.hid (keepBlk hb KB1_2.out)
  have KB2_3 := Lib.hid (keepBlk hb KB2_2.out)
  have HC_3 := Lib.hid (HC_2.out.below hb)
  have HY_3 := Lib.hid (HY_2.out.below hb)
  have HR_3 := Lib.hid (HR_2.out.below hb)
  have HV_3 := Lib.hid (HV_2.out.below hb)
  have HS_3 := Lib.hid (HS_2.out.below hb)
  have BB_3 := Lib.hid (BB_2.out.trans ((hb).mono BB_2.out.size))
  obtain ⟨c0_0_3, c0_0_3d, c0_1_3, c0_1_3d⟩ := bc2 KB0_3.out
  obtain ⟨c1_0_3, c1_0_3d, fc1_0_3, fc1_0_3d, c1_1_3, c1_1_3d, fc1_1_3, fc1_1_3d, c1_2_3, c1_2_3d, fc1_2_3, fc1_2_3d⟩ := bf3 KB1_3.out
  obtain ⟨c2_0_3, c2_0_3d, c2_1_3, c2_1_3d, c2_2_3, c2_2_3d⟩ := bc3 KB2_3.out
  clear hb
  cases hsg : signedB rows y
  · have hbb : boundsB nc cost rows y = false := by unfold boundsB; rw [hsg]; rfl
    go_wp2
    refine bodyPost_ret (v := .tuple #[.agg #[.bool false, .slice none 0 0, .slice none 0 0], .bool false]) (by simp [results, Try.results8, go_sem, c1_0_3, c1_0_3d, c1_1_3, c1_1_3d, c1_2_3, c1_2_3d]) rfl ?_
    have e1 : bb = false := HBB.out.symm.trans hbb
    have e2 : bq = 0 := by rw [← HBQ.out, e1]; rfl
    subst e1 e2
    exact ⟨_, _, _, _, _, _, _, rfl, (RatS.zero _).set3 KB1_3.out (by decide) _ _ _, Below.setCell (Below.setCell (Below.setCell (BB_3.out) (p := ⟨w.heap.size + 1, 0, none⟩) (by show w.heap.size ≤ w.heap.size + 1; omega) _) (p := ⟨w.heap.size + 1, 1, none⟩) (by show w.heap.size ≤ w.heap.size + 1; omega) _) (p := ⟨w.heap.size + 1, 2, none⟩) (by show w.heap.size ≤ w.heap.size + 1; omega) _⟩
  · skip
    go_wp2_with fail
    with_reducible refine (Vc.sub C nc cc cost S2 ns2 cs2 (sv nc y rows) 0 0 _ HC_3.out HV_3.out (by rw [sv_len HG.out.rw_, HCL.out]) (Nat.le_trans HG.out.hc (by decide)) (fun q hq => Nat.le_trans (HG.out.sc q hq) (by decide)) (mw_sv HG.out.rw_ ZY.out HRL.out)).mono ?_
    rintro e w4 ⟨T3, nt3, ct3, rfl, hv, hb⟩
    have KB0_4 := Lib.hid (keepBlk hb KB0_3.out)
    have KB1_4 := Lib.hid (keepBlk hb KB1_3.out)
    have KB2_4 := Lib.hid (keepBlk hb KB2_3.out)
    have HC_4 := Lib.hid (HC_3.out.below hb)
    have HY_4 := Lib.hid (HY_3.out.below hb)
    have HR_4 := Lib.hid (HR_3.out.below hb)
    have HV_4 := Lib.hid (HV_3.out.below hb)
    have HS_4 := Lib.hid (HS_3.out.below hb)
    have HO := Lib.hid (show VecS w4 0 (.slice T3 nt3 ct3) (addT cost ((-1 : Int) : Rat) (sv nc y rows)) from (hv.base (Nat.zero_le _)))
    have BB_4 := Lib.hid (BB_3.out.trans ((hb).mono BB_3.out.size))
    obtain ⟨c0_0_4, c0_0_4d, c0_1_4, c0_1_4d⟩ := bc2 KB0_4.out
    obtain ⟨c1_0_4, c1_0_4d, fc1_0_4, fc1_0_4d, c1_1_4, c1_1_4d, fc1_1_4, fc1_1_4d, c1_2_4, c1_2_4d, fc1_2_4, fc1_2_4d⟩ := bf3 KB1_4.out
    obtain ⟨c2_0_4, c2_0_4d, c2_1_4, c2_1_4d, c2_2_4, c2_2_4d⟩ := bc3 KB2_4.out
    clear hv hb
    go_wp2_with fail
    cases hde : dearB nc cost rows y
    · have hbb : boundsB nc cost rows y = true := by unfold boundsB; rw [hsg, hde]; rfl
      with_reducible refine (Vc.below_dear T3 nt3 ct3 nc cost rows y 0 _ HO.out false hde).mono ?_
      rintro e w5 ⟨rfl, hb⟩
      have KB0_5 := Lib.hid (keepBlk hb KB0_4.out)
      have KB1_5 := Lib.hid (keepBlk hb KB1_4.out)
      have KB2_5 := Lib.hid (keepBlk hb KB2_4.out)
      have HC_5 := Lib.hid (HC_4.out.below hb)
      have HY_5 := Lib.hid (HY_4.out.below hb)
      have HR_5 := Lib.hid (HR_4.out.below hb)
      have HV_5 := Lib.hid (HV_4.out.below hb)
      have HS_5 := Lib.hid (HS_4.out.below hb)
      have HO_5 := Lib.hid (HO.out.below hb)
      have BB_5 := Lib.hid (BB_4.out.trans ((hb).mono BB_4.out.size))
      obtain ⟨c0_0_5, c0_0_5d, c0_1_5, c0_1_5d⟩ := bc2 KB0_5.out
      obtain ⟨c1_0_5, c1_0_5d, fc1_0_5, fc1_0_5d, c1_1_5, c1_1_5d, fc1_1_5, fc1_1_5d, c1_2_5, c1_2_5d, fc1_2_5, fc1_2_5d⟩ := bf3 KB1_5.out
      obtain ⟨c2_0_5, c2_0_5d, c2_1_5, c2_1_5d, c2_2_5, c2_2_5d⟩ := bc3 KB2_5.out
      clear hb
      go_wp2
      refine bodyPost_ret (v := .tuple #[.agg #[.bool g2, .slice A2 m2 c2, .slice D2 md2 cd2], .bool true]) (by simp [results, Try.results8, go_sem, c1_0_5, c1_0_5d, c1_1_5, c1_1_5d, c1_2_5, c1_2_5d]) rfl ?_
      have e1 : bb = true := HBB.out.symm.trans hbb
      have e2 : bq = sb y rows := by rw [← HBQ.out, e1]; rfl
      subst e1 e2
      exact ⟨_, _, _, _, _, _, _, rfl, HS_5.out.set3 KB1_5.out (by decide) _ _ _, Below.setCell (Below.setCell (Below.setCell (BB_5.out) (p := ⟨w.heap.size + 1, 0, none⟩) (by show w.heap.size ≤ w.heap.size + 1; omega) _) (p := ⟨w.heap.size + 1, 1, none⟩) (by show w.heap.size ≤ w.heap.size + 1; omega) _) (p := ⟨w.heap.size + 1, 2, none⟩) (by show w.heap.size ≤ w.heap.size + 1; omega) _⟩
    · have hbb : boundsB nc cost rows y = false := by unfold boundsB; rw [hsg, hde]; rfl
      with_reducible refine (Vc.below_dear T3 nt3 ct3 nc cost rows y 0 _ HO.out true hde).mono ?_
      rintro e w5 ⟨rfl, hb⟩
      have KB0_5 := Lib.hid (keepBlk hb KB0_4.out)
      have KB1_5 := Lib.hid (keepBlk hb KB1_4.out)
      have KB2_5 := Lib.hid (keepBlk hb KB2_4.out)
      have HC_5 := Lib.hid (HC_4.out.below hb)
      have HY_5 := Lib.hid (HY_4.out.below hb)
      have HR_5 := Lib.hid (HR_4.out.below hb)
      have HV_5 := Lib.hid (HV_4.out.below hb)
      have HS_5 := Lib.hid (HS_4.out.below hb)
      have HO_5 := Lib.hid (HO.out.below hb)
      have BB_5 := Lib.hid (BB_4.out.trans ((hb).mono BB_4.out.size))
      obtain ⟨c0_0_5, c0_0_5d, c0_1_5, c0_1_5d⟩ := bc2 KB0_5.out
      obtain ⟨c1_0_5, c1_0_5d, fc1_0_5, fc1_0_5d, c1_1_5, c1_1_5d, fc1_1_5, fc1_1_5d, c1_2_5, c1_2_5d, fc1_2_5, fc1_2_5d⟩ := bf3 KB1_5.out
      obtain ⟨c2_0_5, c2_0_5d, c2_1_5, c2_1_5d, c2_2_5, c2_2_5d⟩ := bc3 KB2_5.out
      clear hb
      go_wp2
      refine bodyPost_ret (v := .tuple #[.agg #[.bool false, .slice none 0 0, .slice none 0 0], .bool false]) (by simp [results, Try.results8, go_sem, c1_0_5, c1_0_5d, c1_1_5, c1_1_5d, c1_2_5, c1_2_5d]) rfl ?_
      have e1 : bb = false := HBB.out.symm.trans hbb
      have e2 : bq = 0 := by rw [← HBQ.out, e1]; rfl
      subst e1 e2
      exact ⟨_, _, _, _, _, _, _, rfl, (RatS.zero _).set3 KB1_5.out (by decide) _ _ _, Below.setCell (Below.setCell (Below.setCell (BB_5.out) (p := ⟨w.heap.size + 1, 0, none⟩) (by show w.heap.size ≤ w.heap.size + 1; omega) _) (p := ⟨w.heap.size + 1, 1, none⟩) (by show w.heap.size ≤ w.heap.size + 1; omega) _) (p := ⟨w.heap.size + 1, 2, none⟩) (by show w.heap.size ≤ w.heap.size + 1; omega) _⟩
end Ct
end Go.Proofs.Ytohkhcbocknliaa
