/- certify.Slack by its contract, where it says yes. Conditions: as it says. -/
import Derived.Test.YtohkhcbocknliaaCert3M
namespace Go.Proofs.Ytohkhcbocknliaa
set_option linter.unusedSimpArgs false
set_option linter.unusedVariables false
open Go.RowKit Am
attribute [local go_sem ↓] Go.wp_at_zero Go.wp_at_succ
set_option maxHeartbeats 4000000
set_option maxRecDepth 100000
theorem Rt.zero_is (g : Bool) (A : Option Addr) (m c : Nat) (D : Option Addr) (md cd : Nat) (q : Rat) (w : World) (h : RatS w g (.slice A m c) (.slice D md cd) q) (b : Bool) (hb : zr q = b) :
    Calls Try.prog 9 #[.agg #[.bool g, .slice A m c, .slice D md cd]] w fun e w' => e = .returned (.bool b) ∧ Below w.heap.size w w' := by
  rw [← hb]; exact Rt.zero g A m c D md cd q w h
theorem zr_is {q : Rat} (h : q = 0) : zr q = true := decide_eq_true h
theorem zr_not {q : Rat} (h : q ≠ 0) : zr q = false := decide_eq_false h
namespace Ct
theorem slack (C : Option Addr) (nc cc : Nat) (R : Option Addr) (nr cr : Nat) (cost : List Rat) (rows : List PRow) (X : Option Addr) (nx cx : Nat) (x : List Rat) (Y : Option Addr) (ny cy : Nat) (y : List Rat) (w : World) (hc : VecS w 0 (.slice C nc cc) cost) (hr : RowsS w 0 (.slice R nr cr) rows) (hx : VecS w 0 (.slice X nx cx) x) (hy : VecS w 0 (.slice Y ny cy) y) (hl : y.length = rows.length) (hg : Good nc nr cost rows) (zy : Sm y) (zx : Sm x) (hlx : x.length = cost.length) (h1 : ∀ (j : Nat) (a s c : Rat), x[j]? = some a → (sv nc y rows)[j]? = some s → cost[j]? = some c → a = 0 ∨ s = c) (h2 : ∀ (k : Nat) (p : PRow) (q : Rat), rows[k]? = some p → y[k]? = some q → rowOver p x = 0 ∨ q = 0) :
    Calls Try.prog 23 #[.agg #[.slice C nc cc, .slice R nr cr], .slice X nx cx, .slice Y ny cy] w fun e w' => e = .returned (.bool true) ∧ Below w.heap.size w w' := by
  have hn1 := hx.len
  have hn2 := hc.len
  have en : nc = nx := by omega
  subst en
  have hn3 := hr.len
  have hn4 := hy.len
  have en : nr = ny := by omega
  subst en
  have HL := Lib.hid hl
  have HG := Lib.hid hg
  have ZY := Lib.hid zy
  have ZX := Lib.hid zx
  have HLX := Lib.hid hlx
  have H1 := Lib.hid h1
  have H2 := Lib.hid h2
  have HN1 := Lib.hid hn1
  have HN2 := Lib.hid hn2
  have HN3 := Lib.hid hn3
  have HNB := Lib.hid (show nc ≤ 24 ∧ nr ≤ 4 from ⟨hg.hc, hg.hr⟩)
  have HLS := Lib.hid (show (sv nc y rows).length = nc from sv_len hg.rw_)
  have HZV := Lib.hid (show ∀ q ∈ sv nc y rows, mw q ≤ 100000 from mw_sv hg.rw_ zy (by rw [← hn3]; exact hg.hr))
  have hnb1 : nc ≤ 9223372036854775807 := Nat.le_trans hg.hc (by decide)
  have hnb2 : nr ≤ 9223372036854775807 := Nat.le_trans hg.hr (by decide)
  clear hl hg zy zx hlx h1 h2 hn1 hn2 hn3 hn4
  obtain ⟨W, hW⟩ : ∃ W, (w.alloc (.cells #[.slice C nc cc, .slice R nr cr] 31)) = W := ⟨_, rfl⟩
  have KB0 := Lib.hid (show W.heap[w.heap.size]? = some (.cells #[.slice C nc cc, .slice R nr cr] 31 (0, 0)) by rw [← hW]; exact blk_nw (by simp))
  have BB := Lib.hid (show Below w.heap.size w W by rw [← hW]; exact below_alloc w _)
  have HZ := Lib.hid (show w.heap.size + 1 ≤ W.heap.size by rw [← hW]; simp)
  have HC := Lib.hid (show VecS W 0 (.slice C nc cc) cost by rw [← hW]; exact (hc).alloc _)
  have HR := Lib.hid (show RowsS W 0 (.slice R nr cr) rows by rw [← hW]; exact (hr).alloc _)
  have HX := Lib.hid (show VecS W 0 (.slice X nc cx) x by rw [← hW]; exact (hx).alloc _)
  have HY := Lib.hid (show VecS W 0 (.slice Y nr cy) y by rw [← hW]; exact (hy).alloc _)
  obtain ⟨c0_0_0, c0_0_0d, c0_1_0, c0_1_0d⟩ := bc2 KB0.out
  clear hc hr hx hy
  go_enter Try.func23, Try.ntmps23
  go_wp2_with fail
  clear hW
  with_reducible refine (sum_ok C nc cc R nr cr cost rows Y nr cy y _ HC.out HR.out HY.out HL.out HG.out.hr (Nat.le_trans HG.out.hc (by decide)) HG.out.rw_ ZY.out).mono ?_
  rintro e w1 ⟨S2, ns2, cs2, g2, A2, m2, c2, D2, md2, cd2, rfl, hv, hn, hb⟩
  have KB0_1 := Lib.hid (show (w1.alloc (.cells #[.bool g2, .slice A2 m2 c2, .slice D2 md2 cd2] 40)).heap[w.heap.size]? = some (.cells #[.slice C nc cc, .slice R nr cr] 31 (0, 0)) from blk_al (keepBlk hb KB0.out))
  have HC_1 := Lib.hid (show VecS (w1.alloc (.cells #[.bool g2, .slice A2 m2 c2, .slice D2 md2 cd2] 40)) 0 (.slice C nc cc) cost from (HC.out.below hb).alloc _)
  have HR_1 := Lib.hid (show RowsS (w1.alloc (.cells #[.bool g2, .slice A2 m2 c2, .slice D2 md2 cd2] 40)) 0 (.slice R nr cr) rows from (HR.out.below hb).alloc _)
  have HX_1 := Lib.hid (show VecS (w1.alloc (.cells #[.bool g2, .slice A2 m2 c2, .slice D2 md2 cd2] 40)) 0 (.slice X nc cx) x from (HX.out.below hb).alloc _)
  have HY_1 := Lib.hid (show VecS (w1.alloc (.cells #[.bool g2, .slice A2 m2 c2, .slice D2 md2 cd2] 40)) 0 (.slice Y nr cy) y from (HY.out.below hb).alloc _)
  have HV := Lib.hid (show VecS (w1.alloc (.cells #[.bool g2, .slice A2 m2 c2, .slice D2 md2 cd2] 40)) 0 (.slice S2 ns2 cs2) (sv nc y rows) from ((hv.base (Nat.zero_le _))).alloc _)
  have BB_1 := Lib.hid (show Below w.heap.size w (w1.alloc (.cells #[.bool g2, .slice A2 m2 c2, .slice D2 md2 cd2] 40)) from ((BB.out.trans ((hb).mono BB.out.size))).alloc ((BB.out.trans ((hb).mono BB.out.size))).size _)
  have KB1_1 := Lib.hid (show (w1.alloc (.cells #[.bool g2, .slice A2 m2 c2, .slice D2 md2 cd2] 40)).heap[w1.heap.size]? = some (.cells #[.bool g2, .slice A2 m2 c2, .slice D2 md2 cd2] 40 (0, 0)) from blk_nw (by simp))
  obtain ⟨c0_0_1, c0_0_1d, c0_1_1, c0_1_1d⟩ := bc2 KB0_1.out
  obtain ⟨c1_0_1, c1_0_1d, c1_1_1, c1_1_1d, c1_2_1, c1_2_1d⟩ := bc3 KB1_1.out
  clear hv hn hb
  obtain rfl : nc = ns2 := by rw [HV.out.len, HLS.out]
  go_wp2
  go_loopw [34] (fun i wr => ∃ k : Nat, i = .int .i64 k ∧ k ≤ nc ∧ Below (w1.alloc (.cells #[.bool g2, .slice A2 m2 c2, .slice D2 md2 cd2] 40)).heap.size (w1.alloc (.cells #[.bool g2, .slice A2 m2 c2, .slice D2 md2 cd2] 40)) wr)
    (fun i _ => nc - (intOf i).toNat)
  case atStart => exact ⟨0, rfl, Nat.zero_le _, Below.refl _ _⟩
  case round =>
    obtain ⟨k, rfl, hk, hB⟩ := hrel
    by_cases hlt : k < nc
    · obtain ⟨a, ha⟩ : ∃ a, x[k]? = some a := ⟨x[k]'(by rw [← HN1.out]; exact hlt), List.getElem?_eq_getElem _⟩
      obtain ⟨s, hs⟩ : ∃ s, (sv nc y rows)[k]? = some s := ⟨(sv nc y rows)[k]'(by rw [HLS.out]; exact hlt), List.getElem?_eq_getElem _⟩
      obtain ⟨c0, hc0⟩ : ∃ c0, cost[k]? = some c0 := ⟨cost[k]'(by rw [← HN2.out]; exact hlt), List.getElem?_eq_getElem _⟩
      obtain ⟨bx, rfl, hbx0, hbx1⟩ := (HX_1.out).has (by omega)
      obtain ⟨bs, rfl, hbs0, hbs1⟩ := (HV.out).has (by omega)
      obtain ⟨bc, rfl, hbc0, hbc1⟩ := (HC_1.out).has (by omega)
      obtain ⟨ga, Aa, ma, ca, Da, mda, cda, k0, k1, k2, hRa⟩ := (HX_1.out.below hB).at_ ha
      obtain ⟨gs, As, ms, cs_, Ds, mds, cds, l0, l1, l2, hRs⟩ := (HV.out.below hB).at_ hs
      obtain ⟨gc, Ac, mc, cc_, Dc, mdc, cdc, o0, o1, o2, hRc⟩ := (HC_1.out.below hB).at_ hc0
      have KB0_2 := Lib.hid (keepBlk hB KB0_1.out)
      have KB1_2 := Lib.hid (keepBlk hB KB1_1.out)
      have HC_2 := Lib.hid (HC_1.out.below hB)
      have HR_2 := Lib.hid (HR_1.out.below hB)
      have HX_2 := Lib.hid (HX_1.out.below hB)
      have HY_2 := Lib.hid (HY_1.out.below hB)
      have HV_2 := Lib.hid (HV.out.below hB)
      have HRa := Lib.hid (show RatS wr ga (.slice Aa ma ca) (.slice Da mda cda) a from hRa)
      have HRs := Lib.hid (show RatS wr gs (.slice As ms cs_) (.slice Ds mds cds) s from hRs)
      have HRc := Lib.hid (show RatS wr gc (.slice Ac mc cc_) (.slice Dc mdc cdc) c0 from hRc)
      have HW := Lib.hid (show Bel (w1.alloc (.cells #[.bool g2, .slice A2 m2 c2, .slice D2 md2 cd2] 40)) wr from Bel.mk hB)
      have BB_2 := Lib.hid (BB_1.out.trans ((hB).mono BB_1.out.size))
      obtain ⟨c0_0_2, c0_0_2d, c0_1_2, c0_1_2d⟩ := bc2 KB0_2.out
      obtain ⟨c1_0_2, c1_0_2d, c1_1_2, c1_1_2d, c1_2_2, c1_2_2d⟩ := bc3 KB1_2.out
      have x0_2 : wr.cell? ⟨bx, k * 3, none⟩ = some (.bool ga) := k0
      have x0_2d := drewCell x0_2
      have x1_2 : wr.cell? ⟨bx, k * 3 + 1, none⟩ = some (.slice Aa ma ca) := k1
      have x1_2d := drewCell x1_2
      have x2_2 : wr.cell? ⟨bx, k * 3 + 2, none⟩ = some (.slice Da mda cda) := k2
      have x2_2d := drewCell x2_2
      have x3_2 : wr.cell? ⟨bs, k * 3, none⟩ = some (.bool gs) := l0
      have x3_2d := drewCell x3_2
      have x4_2 : wr.cell? ⟨bs, k * 3 + 1, none⟩ = some (.slice As ms cs_) := l1
      have x4_2d := drewCell x4_2
      have x5_2 : wr.cell? ⟨bs, k * 3 + 2, none⟩ = some (.slice Ds mds cds) := l2
      have x5_2d := drewCell x5_2
      have x6_2 : wr.cell? ⟨bc, k * 3, none⟩ = some (.bool gc) := o0
      have x6_2d := drewCell x6_2
      have x7_2 : wr.cell? ⟨bc, k * 3 + 1, none⟩ = some (.slice Ac mc cc_) := o1
      have x7_2d := drewCell x7_2
      have x8_2 : wr.cell? ⟨bc, k * 3 + 2, none⟩ = some (.slice Dc mdc cdc) := o2
      have x8_2d := drewCell x8_2
      have HOR := Lib.hid (H1.out k a s c0 ha hs hc0)
      have L1 := Lib.hid (show 4 * (mw s + mw c0) + 8 ≤ LIM by have := HZV.out s (List.mem_of_getElem? hs); have := HG.out.sc c0 (List.mem_of_getElem? hc0); have := LIM_eq; omega)
      clear hB ha hs hc0 k0 k1 k2 l0 l1 l2 o0 o1 o2 hRa hRs hRc
      have hi1 : (0 : Int) ≤ (k : Int) := Int.natCast_nonneg _
      have hi2 : (k : Int) < (nc : Int) := by omega
      by_cases hza : a = 0
      · have HZA := Lib.hid (zr_is hza)
        clear hza
        go_wp2_with fail
        refine wp_region_noPanic ?_
        refine wp_region_held_drew (S := fun w' => w'.cell? ⟨w.heap.size, 0, none⟩ = some (.slice (some ⟨bc, 0, none⟩) nc cc) ∧ w'.cell? ⟨w.heap.size, 1, none⟩ = some (.slice R nr cr) ∧ w'.cell? ⟨bx, k * 3, none⟩ = some (.bool ga) ∧ w'.cell? ⟨bx, k * 3 + 1, none⟩ = some (.slice Aa ma ca) ∧ w'.cell? ⟨bx, k * 3 + 2, none⟩ = some (.slice Da mda cda) ∧ w'.cell? ⟨bs, k * 3, none⟩ = some (.bool gs) ∧ w'.cell? ⟨bs, k * 3 + 1, none⟩ = some (.slice As ms cs_) ∧ w'.cell? ⟨bs, k * 3 + 2, none⟩ = some (.slice Ds mds cds) ∧ w'.cell? ⟨bc, k * 3, none⟩ = some (.bool gc) ∧ w'.cell? ⟨bc, k * 3 + 1, none⟩ = some (.slice Ac mc cc_) ∧ w'.cell? ⟨bc, k * 3 + 2, none⟩ = some (.slice Dc mdc cdc)) (by kernel_rfl) ?_ (fun hHeld => ?_)
        · (((try go_split_ands); (try simp only [World.cell?_drew]); (repeat' apply And.intro) <;> (repeat (first | with_reducible assumption | with_reducible refine cell_set (by omega) ?_ | with_reducible refine cell_al ?_))))
        refine wpAnyH_take (i := 0) (v := ?_) rfl (by kernel_rfl) (by kernel_rfl) (by kernel_rfl) (fun _ _ _ h => h) (Or.inl ⟨by rfl, ?_⟩) hHeld ?_
        rotate_left
        · ((intro w hSw; (try dsimp only at hSw); go_simp); (try with_reducible rfl))
        try simp only [Act.put, List.setIfInBounds_toArray, List.set_cons_zero, List.set_cons_succ, List.getElem_toArray, List.getElem_cons_zero, List.getElem_cons_succ]
        refine wpAnyH_take (i := 1) (v := ?_) rfl (by kernel_rfl) (by kernel_rfl) (by kernel_rfl) (fun _ _ _ h => h) (Or.inl ⟨by rfl, ?_⟩) hHeld ?_
        rotate_left
        · ((intro w hSw; (try dsimp only at hSw); go_simp); (try with_reducible rfl))
        try simp only [Act.put, List.setIfInBounds_toArray, List.set_cons_zero, List.set_cons_succ, List.getElem_toArray, List.getElem_cons_zero, List.getElem_cons_succ]
        refine wpAnyH_take (i := 2) (v := ?_) rfl (by kernel_rfl) (by kernel_rfl) (by kernel_rfl) (fun _ _ _ h => h) (Or.inl ⟨by rfl, ?_⟩) hHeld ?_
        rotate_left
        · ((intro w hSw; (try dsimp only at hSw); go_simp); (try with_reducible rfl))
        try simp only [Act.put, List.setIfInBounds_toArray, List.set_cons_zero, List.set_cons_succ, List.getElem_toArray, List.getElem_cons_zero, List.getElem_cons_succ]
        refine wpAnyH_take (i := 3) (v := ?_) rfl (by kernel_rfl) (by kernel_rfl) (by kernel_rfl) (fun _ _ _ h => h) (Or.inl ⟨by rfl, ?_⟩) hHeld ?_
        rotate_left
        · ((intro w hSw; (try dsimp only at hSw); go_simp); (try with_reducible rfl))
        try simp only [Act.put, List.setIfInBounds_toArray, List.set_cons_zero, List.set_cons_succ, List.getElem_toArray, List.getElem_cons_zero, List.getElem_cons_succ]
        refine wpAnyH_ready (rs := [4]) (by kernel_rfl) (by simp) ?_
        refine AllReadyH.cons rfl (fun K hK => ?_) AllReadyH.nil
        go_simp
        (go_at_call 9; (with_reducible refine (Rt.zero_is ga Aa ma ca Da mda cda a _ HRa.out.drew true HZA.out).mono ?_); rintro e v1 ⟨rfl, hb⟩; have KB0_3 := Lib.hid (keepBlk hb KB0_2.out); have KB1_3 := Lib.hid (keepBlk hb KB1_2.out); have HC_3 := Lib.hid (HC_2.out.drew.below hb); have HR_3 := Lib.hid (HR_2.out.drew.below hb); have HX_3 := Lib.hid (HX_2.out.drew.below hb); have HY_3 := Lib.hid (HY_2.out.drew.below hb); have HV_3 := Lib.hid (HV_2.out.drew.below hb); have HRa_3 := Lib.hid (HRa.out.drew.below hb); have HRs_3 := Lib.hid (HRs.out.drew.below hb); have HRc_3 := Lib.hid (HRc.out.drew.below hb); have HW_3 := Lib.hid (HW.out.drew.below hb); have BB_3 := Lib.hid (BB_2.out.trans ((It.bdrew0' hb).mono BB_2.out.size)); obtain ⟨c0_0_3, c0_0_3d, c0_1_3, c0_1_3d⟩ := bc2 KB0_3.out; obtain ⟨c1_0_3, c1_0_3d, c1_1_3, c1_1_3d, c1_2_3, c1_2_3d⟩ := bc3 KB1_3.out; have x0_3 := keepCell hb x0_2d; have x0_3d := drewCell x0_3; have x1_3 := keepCell hb x1_2d; have x1_3d := drewCell x1_3; have x2_3 := keepCell hb x2_2d; have x2_3d := drewCell x2_3; have x3_3 := keepCell hb x3_2d; have x3_3d := drewCell x3_3; have x4_3 := keepCell hb x4_2d; have x4_3d := drewCell x4_3; have x5_3 := keepCell hb x5_2d; have x5_3d := drewCell x5_3; have x6_3 := keepCell hb x6_2d; have x6_3d := drewCell x6_3; have x7_3 := keepCell hb x7_2d; have x7_3d := drewCell x7_3; have x8_3 := keepCell hb x8_2d; have x8_3d := drewCell x8_3; clear hb)
        (try go_wp2_with fail)
        refine hK.out _ _ ?_ (fun hHeld => ?_)
        · (((try go_split_ands); (try simp only [World.cell?_drew]); (repeat' apply And.intro) <;> (repeat (first | with_reducible assumption | with_reducible refine cell_set (by omega) ?_ | with_reducible refine cell_al ?_))))
        clear hK K
        try simp only [Act.put, List.setIfInBounds_toArray, List.set_cons_zero, List.set_cons_succ, List.getElem_toArray, List.getElem_cons_zero, List.getElem_cons_succ]
        refine wpAnyH_take (i := 5) (v := ?_) rfl (by kernel_rfl) (by kernel_rfl) (by kernel_rfl) (fun _ _ _ h => h) (Or.inl ⟨by rfl, ?_⟩) hHeld ?_
        rotate_left
        · ((intro w hSw; (try dsimp only at hSw); go_simp); (try with_reducible rfl))
        try simp only [Act.put, List.setIfInBounds_toArray, List.set_cons_zero, List.set_cons_succ, List.getElem_toArray, List.getElem_cons_zero, List.getElem_cons_succ]
        refine wpAnyH_take (i := 6) (v := ?_) rfl (by kernel_rfl) (by kernel_rfl) (by kernel_rfl) (fun _ _ _ h => h) (Or.inl ⟨by rfl, ?_⟩) hHeld ?_
        rotate_left
        · ((intro w hSw; (try dsimp only at hSw); go_simp); (try with_reducible rfl))
        try simp only [Act.put, List.setIfInBounds_toArray, List.set_cons_zero, List.set_cons_succ, List.getElem_toArray, List.getElem_cons_zero, List.getElem_cons_succ]
        refine wpAnyH_take (i := 7) (v := undef) rfl (by kernel_rfl) (by kernel_rfl) (by kernel_rfl) (fun _ _ _ h => h) (Or.inr ⟨by rfl, rfl⟩) hHeld ?_
        try simp only [Act.put, List.setIfInBounds_toArray, List.set_cons_zero, List.set_cons_succ, List.getElem_toArray, List.getElem_cons_zero, List.getElem_cons_succ]
        refine wpAnyH_take (i := 8) (v := undef) rfl (by kernel_rfl) (by kernel_rfl) (by kernel_rfl) (fun _ _ _ h => h) (Or.inr ⟨by rfl, rfl⟩) hHeld ?_
        try simp only [Act.put, List.setIfInBounds_toArray, List.set_cons_zero, List.set_cons_succ, List.getElem_toArray, List.getElem_cons_zero, List.getElem_cons_succ]
        refine wpAnyH_take (i := 9) (v := undef) rfl (by kernel_rfl) (by kernel_rfl) (by kernel_rfl) (fun _ _ _ h => h) (Or.inr ⟨by rfl, rfl⟩) hHeld ?_
        try simp only [Act.put, List.setIfInBounds_toArray, List.set_cons_zero, List.set_cons_succ, List.getElem_toArray, List.getElem_cons_zero, List.getElem_cons_succ]
        refine wpAnyH_take (i := 10) (v := undef) rfl (by kernel_rfl) (by kernel_rfl) (by kernel_rfl) (fun _ _ _ h => h) (Or.inr ⟨by rfl, rfl⟩) hHeld ?_
        try simp only [Act.put, List.setIfInBounds_toArray, List.set_cons_zero, List.set_cons_succ, List.getElem_toArray, List.getElem_cons_zero, List.getElem_cons_succ]
        refine wpAnyH_take (i := 11) (v := undef) rfl (by kernel_rfl) (by kernel_rfl) (by kernel_rfl) (fun _ _ _ h => h) (Or.inr ⟨by rfl, rfl⟩) hHeld ?_
        try simp only [Act.put, List.setIfInBounds_toArray, List.set_cons_zero, List.set_cons_succ, List.getElem_toArray, List.getElem_cons_zero, List.getElem_cons_succ]
        refine wpAnyH_take (i := 12) (v := undef) rfl (by kernel_rfl) (by kernel_rfl) (by kernel_rfl) (fun _ _ _ h => h) (Or.inr ⟨by rfl, rfl⟩) hHeld ?_
        try simp only [Act.put, List.setIfInBounds_toArray, List.set_cons_zero, List.set_cons_succ, List.getElem_toArray, List.getElem_cons_zero, List.getElem_cons_succ]
        refine wpAnyH_take (i := 13) (v := undef) rfl (by kernel_rfl) (by kernel_rfl) (by kernel_rfl) (fun _ _ _ h => h) (Or.inr ⟨by rfl, rfl⟩) hHeld ?_
        try simp only [Act.put, List.setIfInBounds_toArray, List.set_cons_zero, List.set_cons_succ, List.getElem_toArray, List.getElem_cons_zero, List.getElem_cons_succ]
        refine wpAnyH_take (i := 14) (v := undef) rfl (by kernel_rfl) (by kernel_rfl) (by kernel_rfl) (fun _ _ _ h => h) (Or.inr ⟨by rfl, rfl⟩) hHeld ?_
        try simp only [Act.put, List.setIfInBounds_toArray, List.set_cons_zero, List.set_cons_succ, List.getElem_toArray, List.getElem_cons_zero, List.getElem_cons_succ]
        refine wpAnyH_take (i := 15) (v := undef) rfl (by kernel_rfl) (by kernel_rfl) (by kernel_rfl) (fun _ _ _ h => h) (Or.inr ⟨by rfl, rfl⟩) hHeld ?_
        try simp only [Act.put, List.setIfInBounds_toArray, List.set_cons_zero, List.set_cons_succ, List.getElem_toArray, List.getElem_cons_zero, List.getElem_cons_succ]
        refine wpAnyH_take (i := 16) (v := undef) rfl (by kernel_rfl) (by kernel_rfl) (by kernel_rfl) (fun _ _ _ h => h) (Or.inr ⟨by rfl, rfl⟩) hHeld ?_
        try simp only [Act.put, List.setIfInBounds_toArray, List.set_cons_zero, List.set_cons_succ, List.getElem_toArray, List.getElem_cons_zero, List.getElem_cons_succ]
        refine wpAnyH_take (i := 17) (v := undef) rfl (by kernel_rfl) (by kernel_rfl) (by kernel_rfl) (fun _ _ _ h => h) (Or.inr ⟨by rfl, rfl⟩) hHeld ?_
        try simp only [Act.put, List.setIfInBounds_toArray, List.set_cons_zero, List.set_cons_succ, List.getElem_toArray, List.getElem_cons_zero, List.getElem_cons_succ]
        refine wpAnyH_take (i := 18) (v := ?_) rfl (by kernel_rfl) (by kernel_rfl) (by kernel_rfl) (fun _ _ _ h => h) (Or.inl ⟨by rfl, ?_⟩) hHeld ?_
        rotate_left
        · ((intro w hSw; (try dsimp only at hSw); go_simp); (try with_reducible rfl))
        try simp only [Act.put, List.setIfInBounds_toArray, List.set_cons_zero, List.set_cons_succ, List.getElem_toArray, List.getElem_cons_zero, List.getElem_cons_succ]
        refine wpAnyH_done (by kernel_rfl) ?_ _
        refine NoPanic.normal ?_
        all_goals
          go_wp2
          go_roundw
          case rel => exact ⟨k + 1, by go_num, by omega, HW_3.out.b⟩
          case measure => simp [intOf]; omega
      · have HZA := Lib.hid (zr_not hza)
        have HEQ := Lib.hid (HOR.out.resolve_left hza)
        clear hza
        go_wp2_with fail
        go_region_held3 (fun w' => w'.cell? ⟨w.heap.size, 0, none⟩ = some (.slice (some ⟨bc, 0, none⟩) nc cc) ∧ w'.cell? ⟨w.heap.size, 1, none⟩ = some (.slice R nr cr) ∧ w'.cell? ⟨bx, k * 3, none⟩ = some (.bool ga) ∧ w'.cell? ⟨bx, k * 3 + 1, none⟩ = some (.slice Aa ma ca) ∧ w'.cell? ⟨bx, k * 3 + 2, none⟩ = some (.slice Da mda cda) ∧ w'.cell? ⟨bs, k * 3, none⟩ = some (.bool gs) ∧ w'.cell? ⟨bs, k * 3 + 1, none⟩ = some (.slice As ms cs_) ∧ w'.cell? ⟨bs, k * 3 + 2, none⟩ = some (.slice Ds mds cds) ∧ w'.cell? ⟨bc, k * 3, none⟩ = some (.bool gc) ∧ w'.cell? ⟨bc, k * 3 + 1, none⟩ = some (.slice Ac mc cc_) ∧ w'.cell? ⟨bc, k * 3 + 2, none⟩ = some (.slice Dc mdc cdc))
          (((try go_split_ands); (try simp only [World.cell?_drew]); (repeat' apply And.intro) <;> (repeat (first | with_reducible assumption | with_reducible refine cell_set (by omega) ?_ | with_reducible refine cell_al ?_))))
          (first
            | (go_at_call 9; (with_reducible refine (Rt.zero_is ga Aa ma ca Da mda cda a _ HRa.out.drew false HZA.out).mono ?_); rintro e v1 ⟨rfl, hb⟩; have KB0_3 := Lib.hid (keepBlk hb KB0_2.out); have KB1_3 := Lib.hid (keepBlk hb KB1_2.out); have HC_3 := Lib.hid (HC_2.out.drew.below hb); have HR_3 := Lib.hid (HR_2.out.drew.below hb); have HX_3 := Lib.hid (HX_2.out.drew.below hb); have HY_3 := Lib.hid (HY_2.out.drew.below hb); have HV_3 := Lib.hid (HV_2.out.drew.below hb); have HRa_3 := Lib.hid (HRa.out.drew.below hb); have HRs_3 := Lib.hid (HRs.out.drew.below hb); have HRc_3 := Lib.hid (HRc.out.drew.below hb); have HW_3 := Lib.hid (HW.out.drew.below hb); have BB_3 := Lib.hid (BB_2.out.trans ((It.bdrew0' hb).mono BB_2.out.size)); obtain ⟨c0_0_3, c0_0_3d, c0_1_3, c0_1_3d⟩ := bc2 KB0_3.out; obtain ⟨c1_0_3, c1_0_3d, c1_1_3, c1_1_3d, c1_2_3, c1_2_3d⟩ := bc3 KB1_3.out; have x0_3 := keepCell hb x0_2d; have x0_3d := drewCell x0_3; have x1_3 := keepCell hb x1_2d; have x1_3d := drewCell x1_3; have x2_3 := keepCell hb x2_2d; have x2_3d := drewCell x2_3; have x3_3 := keepCell hb x3_2d; have x3_3d := drewCell x3_3; have x4_3 := keepCell hb x4_2d; have x4_3d := drewCell x4_3; have x5_3 := keepCell hb x5_2d; have x5_3d := drewCell x5_3; have x6_3 := keepCell hb x6_2d; have x6_3d := drewCell x6_3; have x7_3 := keepCell hb x7_2d; have x7_3d := drewCell x7_3; have x8_3 := keepCell hb x8_2d; have x8_3d := drewCell x8_3; clear hb)
            | (go_at_call 12; (with_reducible refine (same_yes gs As ms cs_ Ds mds cds s gc Ac mc cc_ Dc mdc cdc c0 _ HRs_3.out HRc_3.out L1.out HEQ.out).mono ?_); rintro e v2 ⟨rfl, hb⟩; have KB0_4 := Lib.hid (keepBlk hb KB0_3.out); have KB1_4 := Lib.hid (keepBlk hb KB1_3.out); have HC_4 := Lib.hid (HC_3.out.below hb); have HR_4 := Lib.hid (HR_3.out.below hb); have HX_4 := Lib.hid (HX_3.out.below hb); have HY_4 := Lib.hid (HY_3.out.below hb); have HV_4 := Lib.hid (HV_3.out.below hb); have HRa_4 := Lib.hid (HRa_3.out.below hb); have HRs_4 := Lib.hid (HRs_3.out.below hb); have HRc_4 := Lib.hid (HRc_3.out.below hb); have HW_4 := Lib.hid (HW_3.out.below hb); have BB_4 := Lib.hid (BB_3.out.trans ((hb).mono BB_3.out.size)); obtain ⟨c0_0_4, c0_0_4d, c0_1_4, c0_1_4d⟩ := bc2 KB0_4.out; obtain ⟨c1_0_4, c1_0_4d, c1_1_4, c1_1_4d, c1_2_4, c1_2_4d⟩ := bc3 KB1_4.out; have x0_4 := keepCell hb x0_3; have x0_4d := drewCell x0_4; have x1_4 := keepCell hb x1_3; have x1_4d := drewCell x1_4; have x2_4 := keepCell hb x2_3; have x2_4d := drewCell x2_4; have x3_4 := keepCell hb x3_3; have x3_4d := drewCell x3_4; have x4_4 := keepCell hb x4_3; have x4_4d := drewCell x4_4; have x5_4 := keepCell hb x5_3; have x5_4d := drewCell x5_4; have x6_4 := keepCell hb x6_3; have x6_4d := drewCell x6_4; have x7_4 := keepCell hb x7_3; have x7_4d := drewCell x7_4; have x8_4 := keepCell hb x8_3; have x8_4d := drewCell x8_4; clear hb)
            | fail)
        all_goals
          go_wp2
          go_roundw
          case rel => exact ⟨k + 1, by go_num, by omega, HW_4.out.b⟩
          case measure => simp [intOf]; omega
    · obtain rfl : nc = k := by omega
      have KB0_2 := Lib.hid (keepBlk hB KB0_1.out)
      have KB1_2 := Lib.hid (keepBlk hB KB1_1.out)
      have HC_2 := Lib.hid (HC_1.out.below hB)
      have HR_2 := Lib.hid (HR_1.out.below hB)
      have HX_2 := Lib.hid (HX_1.out.below hB)
      have HY_2 := Lib.hid (HY_1.out.below hB)
      have HV_2 := Lib.hid (HV.out.below hB)
      have BB_2 := Lib.hid (BB_1.out.trans ((hB).mono BB_1.out.size))
      obtain ⟨c0_0_2, c0_0_2d, c0_1_2, c0_1_2d⟩ := bc2 KB0_2.out
      obtain ⟨c1_0_2, c1_0_2d, c1_1_2, c1_1_2d, c1_2_2, c1_2_2d⟩ := bc3 KB1_2.out
      clear hB
      go_wp2
      go_loopw [60] (fun i wz => ∃ k : Nat, i = .int .i64 k ∧ k ≤ nr ∧ Below wr.heap.size wr wz)
        (fun i _ => nr - (intOf i).toNat)
      case atStart => exact ⟨0, rfl, Nat.zero_le _, Below.refl _ _⟩
      case round =>
        rename World => wz
        obtain ⟨k, rfl, hk, hB⟩ := hrel
        by_cases hlt : k < nr
        · obtain ⟨p, hp⟩ : ∃ p, rows[k]? = some p := ⟨rows[k]'(by rw [← HN3.out]; exact hlt), List.getElem?_eq_getElem _⟩
          obtain ⟨q, hq⟩ : ∃ q, y[k]? = some q := ⟨y[k]'(by rw [HL.out, ← HN3.out]; exact hlt), List.getElem?_eq_getElem _⟩
          obtain ⟨b, rfl, hb0, hb1⟩ := (HR_2.out).has (by omega)
          obtain ⟨by_, rfl, hby0, hby1⟩ := (HY_2.out).has (by omega)
          obtain ⟨Q, nq, cq, g, A, m, c, D, md, cd, k0, k1, k2, k3, k4, hvq, hrh⟩ := (HR_2.out.below hB).at_ hp
          obtain ⟨gb, Ab, mb, cb, Db, mdb, cdb, l0, l1, l2, hRb⟩ := (HY_2.out.below hB).at_ hq
          have HPR := Lib.hid (HG.out.rw_ p (List.mem_of_getElem? hp))
          have HOR := Lib.hid (H2.out k p q hp hq)
          obtain rfl : nc = nq := by rw [hvq.len, HPR.out.1]
          generalize hkd : p.kind = kd at k1
          have HKD := Lib.hid hkd
          have KB0_3 := Lib.hid (keepBlk hB KB0_2.out)
          have KB1_3 := Lib.hid (keepBlk hB KB1_2.out)
          have HC_3 := Lib.hid (HC_2.out.below hB)
          have HR_3 := Lib.hid (HR_2.out.below hB)
          have HX_3 := Lib.hid (HX_2.out.below hB)
          have HY_3 := Lib.hid (HY_2.out.below hB)
          have HV_3 := Lib.hid (HV_2.out.below hB)
          have HRb := Lib.hid (show RatS wz gb (.slice Ab mb cb) (.slice Db mdb cdb) q from hRb)
          have HVQ := Lib.hid (show VecS wz 0 (.slice Q nc cq) p.coef from hvq)
          have HRH := Lib.hid (show RatS wz g (.slice A m c) (.slice D md cd) p.rhs from hrh)
          have HW2 := Lib.hid (show Bel wr wz from Bel.mk hB)
          have BB_3 := Lib.hid (BB_2.out.trans ((hB).mono BB_2.out.size))
          obtain ⟨c0_0_3, c0_0_3d, c0_1_3, c0_1_3d⟩ := bc2 KB0_3.out
          obtain ⟨c1_0_3, c1_0_3d, c1_1_3, c1_1_3d, c1_2_3, c1_2_3d⟩ := bc3 KB1_3.out
          have x0_3 : wz.cell? ⟨by_, k * 3, none⟩ = some (.bool gb) := l0
          have x0_3d := drewCell x0_3
          have x1_3 : wz.cell? ⟨by_, k * 3 + 1, none⟩ = some (.slice Ab mb cb) := l1
          have x1_3d := drewCell x1_3
          have x2_3 : wz.cell? ⟨by_, k * 3 + 2, none⟩ = some (.slice Db mdb cdb) := l2
          have x2_3d := drewCell x2_3
          clear hB hp hq hvq hrh hRb hkd l0 l1 l2
          have hi1 : (0 : Int) ≤ (k : Int) := Int.natCast_nonneg _
          have hi2 : (k : Int) < (nr : Int) := by omega
          have hb4z := below_alloc wz (.cells #[.slice Q nc cq, .int .i64 kd, .bool g, .slice A m c, .slice D md cd] 48)
          have KB0_4 := Lib.hid (keepBlk hb4z KB0_3.out)
          have KB1_4 := Lib.hid (keepBlk hb4z KB1_3.out)
          have HC_4 := Lib.hid (HC_3.out.below hb4z)
          have HR_4 := Lib.hid (HR_3.out.below hb4z)
          have HX_4 := Lib.hid (HX_3.out.below hb4z)
          have HY_4 := Lib.hid (HY_3.out.below hb4z)
          have HV_4 := Lib.hid (HV_3.out.below hb4z)
          have HRb_4 := Lib.hid (HRb.out.below hb4z)
          have HVQ_4 := Lib.hid (HVQ.out.below hb4z)
          have HRH_4 := Lib.hid (HRH.out.below hb4z)
          have HW2_4 := Lib.hid (HW2.out.below hb4z)
          have BB_4 := Lib.hid (BB_3.out.trans ((hb4z).mono BB_3.out.size))
          obtain ⟨c0_0_4, c0_0_4d, c0_1_4, c0_1_4d⟩ := bc2 KB0_4.out
          obtain ⟨c1_0_4, c1_0_4d, c1_1_4, c1_1_4d, c1_2_4, c1_2_4d⟩ := bc3 KB1_4.out
          have x0_4 := keepCell hb4z x0_3
          have x0_4d := drewCell x0_4
          have x1_4 := keepCell hb4z x1_3
          have x1_4d := drewCell x1_4
          have x2_4 := keepCell hb4z x2_3
          have x2_4d := drewCell x2_4
          go_wp2_with fail
          with_reducible refine (Pb.over Q nc cq g A m c D md cd kd p HKD.out X nc cx x _ HVQ_4.out HRH_4.out HX_4.out (by rw [HPR.out.1]; exact HN1.out) (Nat.le_trans HG.out.hc (by decide)) HPR.out.2.1 HPR.out.2.2 ZX.out).mono ?_
          rintro e v1 ⟨g5, A5, m5, c5, D5, md5, cd5, rfl, hn, hb⟩
          have KB0_5 := Lib.hid (show (v1.alloc (.cells #[.bool g5, .slice A5 m5 c5, .slice D5 md5 cd5] 40)).heap[w.heap.size]? = some (.cells #[.slice C nc cc, .slice (some ⟨b, 0, none⟩) nr cr] 31 (0, 0)) from blk_al (keepBlk hb KB0_4.out))
          have KB1_5 := Lib.hid (show (v1.alloc (.cells #[.bool g5, .slice A5 m5 c5, .slice D5 md5 cd5] 40)).heap[w1.heap.size]? = some (.cells #[.bool g2, .slice A2 m2 c2, .slice D2 md2 cd2] 40 (0, 0)) from blk_al (keepBlk hb KB1_4.out))
          have HC_5 := Lib.hid (show VecS (v1.alloc (.cells #[.bool g5, .slice A5 m5 c5, .slice D5 md5 cd5] 40)) 0 (.slice C nc cc) cost from (HC_4.out.below hb).alloc _)
          have HR_5 := Lib.hid (show RowsS (v1.alloc (.cells #[.bool g5, .slice A5 m5 c5, .slice D5 md5 cd5] 40)) 0 (.slice (some ⟨b, 0, none⟩) nr cr) rows from (HR_4.out.below hb).alloc _)
          have HX_5 := Lib.hid (show VecS (v1.alloc (.cells #[.bool g5, .slice A5 m5 c5, .slice D5 md5 cd5] 40)) 0 (.slice X nc cx) x from (HX_4.out.below hb).alloc _)
          have HY_5 := Lib.hid (show VecS (v1.alloc (.cells #[.bool g5, .slice A5 m5 c5, .slice D5 md5 cd5] 40)) 0 (.slice (some ⟨by_, 0, none⟩) nr cy) y from (HY_4.out.below hb).alloc _)
          have HV_5 := Lib.hid (show VecS (v1.alloc (.cells #[.bool g5, .slice A5 m5 c5, .slice D5 md5 cd5] 40)) 0 (.slice S2 nc cs2) (sv nc y rows) from (HV_4.out.below hb).alloc _)
          have HRb_5 := Lib.hid (show RatS (v1.alloc (.cells #[.bool g5, .slice A5 m5 c5, .slice D5 md5 cd5] 40)) gb (.slice Ab mb cb) (.slice Db mdb cdb) q from (HRb_4.out.below hb).alloc _)
          have HVQ_5 := Lib.hid (show VecS (v1.alloc (.cells #[.bool g5, .slice A5 m5 c5, .slice D5 md5 cd5] 40)) 0 (.slice Q nc cq) p.coef from (HVQ_4.out.below hb).alloc _)
          have HRH_5 := Lib.hid (show RatS (v1.alloc (.cells #[.bool g5, .slice A5 m5 c5, .slice D5 md5 cd5] 40)) g (.slice A m c) (.slice D md cd) p.rhs from (HRH_4.out.below hb).alloc _)
          have HW2_5 := Lib.hid (show Bel wr (v1.alloc (.cells #[.bool g5, .slice A5 m5 c5, .slice D5 md5 cd5] 40)) from (HW2_4.out.below hb).alloc _)
          have HO := Lib.hid (show RatS (v1.alloc (.cells #[.bool g5, .slice A5 m5 c5, .slice D5 md5 cd5] 40)) g5 (.slice A5 m5 c5) (.slice D5 md5 cd5) (rowOver p x) from (hn).alloc _)
          have BB_5 := Lib.hid (show Below w.heap.size w (v1.alloc (.cells #[.bool g5, .slice A5 m5 c5, .slice D5 md5 cd5] 40)) from ((BB_4.out.trans ((hb).mono BB_4.out.size))).alloc ((BB_4.out.trans ((hb).mono BB_4.out.size))).size _)
          have KB2_5 := Lib.hid (show (v1.alloc (.cells #[.bool g5, .slice A5 m5 c5, .slice D5 md5 cd5] 40)).heap[v1.heap.size]? = some (.cells #[.bool g5, .slice A5 m5 c5, .slice D5 md5 cd5] 40 (0, 0)) from blk_nw (by simp))
          obtain ⟨c0_0_5, c0_0_5d, c0_1_5, c0_1_5d⟩ := bc2 KB0_5.out
          obtain ⟨c1_0_5, c1_0_5d, c1_1_5, c1_1_5d, c1_2_5, c1_2_5d⟩ := bc3 KB1_5.out
          obtain ⟨c2_0_5, c2_0_5d, c2_1_5, c2_1_5d, c2_2_5, c2_2_5d⟩ := bc3 KB2_5.out
          have x0_5 : (v1.alloc (.cells #[.bool g5, .slice A5 m5 c5, .slice D5 md5 cd5] 40)).cell? ⟨by_, k * 3, none⟩ = some (.bool gb) := cell_al (keepCell hb x0_4)
          have x0_5d := drewCell x0_5
          have x1_5 : (v1.alloc (.cells #[.bool g5, .slice A5 m5 c5, .slice D5 md5 cd5] 40)).cell? ⟨by_, k * 3 + 1, none⟩ = some (.slice Ab mb cb) := cell_al (keepCell hb x1_4)
          have x1_5d := drewCell x1_5
          have x2_5 : (v1.alloc (.cells #[.bool g5, .slice A5 m5 c5, .slice D5 md5 cd5] 40)).cell? ⟨by_, k * 3 + 2, none⟩ = some (.slice Db mdb cdb) := cell_al (keepCell hb x2_4)
          have x2_5d := drewCell x2_5
          clear hn hb
          go_wp2_with fail
          by_cases hzo : rowOver p x = 0
          · have HZO := Lib.hid (zr_is hzo)
            clear hzo
            with_reducible refine (Rt.zero_is g5 A5 m5 c5 D5 md5 cd5 (rowOver p x) _ HO.out true HZO.out).mono ?_
            rintro e v2 ⟨rfl, hb⟩
            have KB0_6 := Lib.hid (keepBlk hb KB0_5.out)
            have KB1_6 := Lib.hid (keepBlk hb KB1_5.out)
            have KB2_6 := Lib.hid (keepBlk hb KB2_5.out)
            have HC_6 := Lib.hid (HC_5.out.below hb)
            have HR_6 := Lib.hid (HR_5.out.below hb)
            have HX_6 := Lib.hid (HX_5.out.below hb)
            have HY_6 := Lib.hid (HY_5.out.below hb)
            have HV_6 := Lib.hid (HV_5.out.below hb)
            have HRb_6 := Lib.hid (HRb_5.out.below hb)
            have HVQ_6 := Lib.hid (HVQ_5.out.below hb)
            have HRH_6 := Lib.hid (HRH_5.out.below hb)
            have HW2_6 := Lib.hid (HW2_5.out.below hb)
            have HO_6 := Lib.hid (HO.out.below hb)
            have BB_6 := Lib.hid (BB_5.out.trans ((hb).mono BB_5.out.size))
            obtain ⟨c0_0_6, c0_0_6d, c0_1_6, c0_1_6d⟩ := bc2 KB0_6.out
            obtain ⟨c1_0_6, c1_0_6d, c1_1_6, c1_1_6d, c1_2_6, c1_2_6d⟩ := bc3 KB1_6.out
            obtain ⟨c2_0_6, c2_0_6d, c2_1_6, c2_1_6d, c2_2_6, c2_2_6d⟩ := bc3 KB2_6.out
            have x0_6 := keepCell hb x0_5
            have x0_6d := drewCell x0_6
            have x1_6 := keepCell hb x1_5
            have x1_6d := drewCell x1_6
            have x2_6 := keepCell hb x2_5
            have x2_6d := drewCell x2_6
            clear hb
            go_wp2
            go_roundw
            case rel => exact ⟨k + 1, by go_num, by omega, HW2_6.out.b⟩
            case measure => simp [intOf]; omega
          · have HZO := Lib.hid (zr_not hzo)
            have HZQ := Lib.hid (zr_is (HOR.out.resolve_left hzo))
            clear hzo
            with_reducible refine (Rt.zero_is g5 A5 m5 c5 D5 md5 cd5 (rowOver p x) _ HO.out false HZO.out).mono ?_
            rintro e v2 ⟨rfl, hb⟩
            have KB0_6 := Lib.hid (keepBlk hb KB0_5.out)
            have KB1_6 := Lib.hid (keepBlk hb KB1_5.out)
            have KB2_6 := Lib.hid (keepBlk hb KB2_5.out)
            have HC_6 := Lib.hid (HC_5.out.below hb)
            have HR_6 := Lib.hid (HR_5.out.below hb)
            have HX_6 := Lib.hid (HX_5.out.below hb)
            have HY_6 := Lib.hid (HY_5.out.below hb)
            have HV_6 := Lib.hid (HV_5.out.below hb)
            have HRb_6 := Lib.hid (HRb_5.out.below hb)
            have HVQ_6 := Lib.hid (HVQ_5.out.below hb)
            have HRH_6 := Lib.hid (HRH_5.out.below hb)
            have HW2_6 := Lib.hid (HW2_5.out.below hb)
            have HO_6 := Lib.hid (HO.out.below hb)
            have BB_6 := Lib.hid (BB_5.out.trans ((hb).mono BB_5.out.size))
            obtain ⟨c0_0_6, c0_0_6d, c0_1_6, c0_1_6d⟩ := bc2 KB0_6.out
            obtain ⟨c1_0_6, c1_0_6d, c1_1_6, c1_1_6d, c1_2_6, c1_2_6d⟩ := bc3 KB1_6.out
            obtain ⟨c2_0_6, c2_0_6d, c2_1_6, c2_1_6d, c2_2_6, c2_2_6d⟩ := bc3 KB2_6.out
            have x0_6 := keepCell hb x0_5
            have x0_6d := drewCell x0_6
            have x1_6 := keepCell hb x1_5
            have x1_6d := drewCell x1_6
            have x2_6 := keepCell hb x2_5
            have x2_6d := drewCell x2_6
            clear hb
            go_wp2_with fail
            with_reducible refine (Rt.zero_is gb Ab mb cb Db mdb cdb q _ HRb_6.out true HZQ.out).mono ?_
            rintro e v3 ⟨rfl, hb⟩
            have KB0_7 := Lib.hid (keepBlk hb KB0_6.out)
            have KB1_7 := Lib.hid (keepBlk hb KB1_6.out)
            have KB2_7 := Lib.hid (keepBlk hb KB2_6.out)
            have HC_7 := Lib.hid (HC_6.out.below hb)
            have HR_7 := Lib.hid (HR_6.out.below hb)
            have HX_7 := Lib.hid (HX_6.out.below hb)
            have HY_7 := Lib.hid (HY_6.out.below hb)
            have HV_7 := Lib.hid (HV_6.out.below hb)
            have HRb_7 := Lib.hid (HRb_6.out.below hb)
            have HVQ_7 := Lib.hid (HVQ_6.out.below hb)
            have HRH_7 := Lib.hid (HRH_6.out.below hb)
            have HW2_7 := Lib.hid (HW2_6.out.below hb)
            have HO_7 := Lib.hid (HO_6.out.below hb)
            have BB_7 := Lib.hid (BB_6.out.trans ((hb).mono BB_6.out.size))
            obtain ⟨c0_0_7, c0_0_7d, c0_1_7, c0_1_7d⟩ := bc2 KB0_7.out
            obtain ⟨c1_0_7, c1_0_7d, c1_1_7, c1_1_7d, c1_2_7, c1_2_7d⟩ := bc3 KB1_7.out
            obtain ⟨c2_0_7, c2_0_7d, c2_1_7, c2_1_7d, c2_2_7, c2_2_7d⟩ := bc3 KB2_7.out
            have x0_7 := keepCell hb x0_6
            have x0_7d := drewCell x0_7
            have x1_7 := keepCell hb x1_6
            have x1_7d := drewCell x1_7
            have x2_7 := keepCell hb x2_6
            have x2_7d := drewCell x2_7
            clear hb
            go_wp2
            go_roundw
            case rel => exact ⟨k + 1, by go_num, by omega, HW2_7.out.b⟩
            case measure => simp [intOf]; omega
        · have hkn2 : k = nr := by omega
          have KB0_3 := Lib.hid (keepBlk hB KB0_2.out)
          have KB1_3 := Lib.hid (keepBlk hB KB1_2.out)
          have HC_3 := Lib.hid (HC_2.out.below hB)
          have HR_3 := Lib.hid (HR_2.out.below hB)
          have HX_3 := Lib.hid (HX_2.out.below hB)
          have HY_3 := Lib.hid (HY_2.out.below hB)
          have HV_3 := Lib.hid (HV_2.out.below hB)
          have BB_3 := Lib.hid (BB_2.out.trans ((hB).mono BB_2.out.size))
          obtain ⟨c0_0_3, c0_0_3d, c0_1_3, c0_1_3d⟩ := bc2 KB0_3.out
          obtain ⟨c1_0_3, c1_0_3d, c1_1_3, c1_1_3d, c1_2_3, c1_2_3d⟩ := bc3 KB1_3.out
          clear hB
          go_wp2
          go_ret
          exact ⟨rfl, BB_3.out⟩
end Ct
end Go.Proofs.Ytohkhcbocknliaa
