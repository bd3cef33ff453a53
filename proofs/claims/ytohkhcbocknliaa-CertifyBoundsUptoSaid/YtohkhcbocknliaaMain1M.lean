/- actuarylaw20.CertifyBounds: where there are not as many worths as rows. Conditions: as it says. -/
import Derived.Test.YtohkhcbocknliaaRegM
import Derived.Test.YtohkhcbocknliaaLaw5M
import Derived.Test.YtohkhcbocknliaaLaw3M
import Derived.Test.YtohkhcbocknliaaDualM
namespace Go.Proofs.Ytohkhcbocknliaa
set_option linter.unusedSimpArgs false
set_option linter.unusedVariables false
open Go.RowKit Am
attribute [local go_sem ↓] Go.wp_at_zero Go.wp_at_succ
set_option maxHeartbeats 8000000
set_option maxRecDepth 100000
theorem Pb.cost_any (C : Option Addr) (nc cc : Nat) (R : Option Addr) (nr cr : Nat) (cost : List Rat) (rows : List PRow) (X : Option Addr) (nx cx : Nat) (x : List Rat) (w : World) (hc : VecS w 0 (.slice C nc cc) cost) (hr : RowsS w 0 (.slice R nr cr) rows) (hx : VecS w 0 (.slice X nx cx) x) (hb : nc ≤ 1000) (zc : Sm cost) (zx : Sm x) :
    Calls Try.prog 15 #[.agg #[.slice C nc cc, .slice R nr cr], .slice X nx cx] w fun e w' => ∃ (q : Rat) (b : Bool), RetRatB w q b e w' ∧ (cost.length = x.length → q = dot cost x) := by
  by_cases hl : cost.length = x.length
  · exact (Pb.cost_ok C nc cc R nr cr cost rows X nx cx x w hc hr hx hl hb zc zx).mono fun e w' h => ⟨_, _, h, fun _ => rfl⟩
  · exact (Pb.cost_no C nc cc R nr cr cost rows X nx cx x w hc hr hx hl).mono fun e w' h => ⟨_, _, h, fun h => absurd h hl⟩
theorem Pb.fits_is (C : Option Addr) (nc cc : Nat) (R : Option Addr) (nr cr : Nat) (cost : List Rat) (rows : List PRow) (X : Option Addr) (nx cx : Nat) (x : List Rat) (w : World) (hc : VecS w 0 (.slice C nc cc) cost) (hr : RowsS w 0 (.slice R nr cr) rows) (hx : VecS w 0 (.slice X nx cx) x) (hb : nc ≤ 1000) (hrr : Rows nc rows) (zx : Sm x) (hnr : nr ≤ 1000) (b : Bool) (hf : fitsB cost rows x = b) :
    Calls Try.prog 16 #[.agg #[.slice C nc cc, .slice R nr cr], .slice X nx cx] w fun e w' => e = .returned (.bool b) ∧ Below w.heap.size w w' := by
  rw [← hf]; exact Pb.fits C nc cc R nr cr cost rows X nx cx x w hc hr hx hb hrr zx hnr
theorem fits_lens {cost x : List Rat} {rows : List PRow} (h : fitsB cost rows x = true) : x.length = cost.length := by
  unfold fitsB at h
  rw [Bool.and_eq_true, Bool.and_eq_true] at h
  exact of_decide_eq_true h.1.1
theorem mw_coef {n : Nat} {rows : List PRow} (h : Rows n rows) (i j : Nat) : mw (el (rows.getD i default).coef j) ≤ 10000 := by
  rw [List.getD_eq_getElem?_getD]
  cases e : rows[i]? with
  | none => exact mw_el (xs := []) (by omega) (fun q hq => by cases hq) j
  | some p => exact mw_el (by omega) (h p (List.mem_of_getElem? e)).2.1 j
namespace Lw
theorem main (A : Option Addr) (nA cA : Nat) (L : Option Addr) (nL cL : Nat) (X : Option Addr) (nX cX : Nat) (Y : Option Addr) (nY cY : Nat) (cs : List (Int × Int)) (ls : List LineV) (xs ys : List (Int × Int)) (w : World) (hf : FracsAt w A cs) (hlines : LinesAt w L ls) (hx : FracsAt w X xs) (hy : FracsAt w Y ys) (hn : nA = cs.length) (hm : nL = ls.length) (hb : nA ≤ cA) (hb2 : nL ≤ cL) (hc : cA ≤ 9223372036854775807) (hc2 : cL ≤ 9223372036854775807) (hnx : nX = xs.length) (hny : nY = ys.length) (hbx : nX ≤ 1048576) (hby : nY ≤ 1048576) :
    Calls Try.prog 3 #[.agg #[.slice A nA cA, .slice L nL cL], .slice X nX cX, .slice Y nY cY] w fun e w' => e = .returned (.bool true) ∧ Below w.heap.size w w' := by
  have HH := Lib.hid (And.intro hn (And.intro hm (And.intro hb (And.intro hb2 (And.intro hc hc2)))))
  have HX1 := Lib.hid (And.intro hnx hbx)
  have HY1 := Lib.hid (And.intro hny hby)
  have HSX := Lib.hid (frs_sm hx)
  have HSY := Lib.hid (frs_sm hy)
  clear hn hm hb hb2 hc hc2 hnx hbx hny hby
  obtain ⟨W, hW⟩ : ∃ W, (w.alloc (.cells #[.slice A nA cA, .slice L nL cL] 25)) = W := ⟨_, rfl⟩
  have KB0 := Lib.hid (show W.heap[w.heap.size]? = some (.cells #[.slice A nA cA, .slice L nL cL] 25 (0, 0)) by rw [← hW]; exact blk_nw (by simp))
  have BB := Lib.hid (show Below w.heap.size w W by rw [← hW]; exact below_alloc w _)
  have HZ := Lib.hid (show w.heap.size + 1 ≤ W.heap.size by rw [← hW]; simp)
  have HF := Lib.hid (show FracsAt W A cs by rw [← hW]; exact (hf).alloc _)
  have HL := Lib.hid (show LinesAt W L ls by rw [← hW]; exact (hlines).alloc _)
  have HXF := Lib.hid (show FracsAt W X xs by rw [← hW]; exact (hx).alloc _)
  have HYF := Lib.hid (show FracsAt W Y ys by rw [← hW]; exact (hy).alloc _)
  obtain ⟨c0_0_0, c0_0_0d, c0_1_0, c0_1_0d⟩ := bc2 KB0.out
  clear hf hlines hx hy
  go_enter Try.func3, Try.ntmps3
  go_wp2_with fail
  clear hW
  with_reducible refine (awake _).mono ?_
  rintro e w1 ⟨rfl, hb⟩
  have KB0_1 := Lib.hid (keepBlk hb KB0.out)
  have HF_1 := Lib.hid (HF.out.below hb)
  have HL_1 := Lib.hid (HL.out.below hb)
  have HXF_1 := Lib.hid (HXF.out.below hb)
  have HYF_1 := Lib.hid (HYF.out.below hb)
  have BB_1 := Lib.hid (BB.out.trans ((hb).mono BB.out.size))
  obtain ⟨c0_0_1, c0_0_1d, c0_1_1, c0_1_1d⟩ := bc2 KB0_1.out
  clear hb
  go_wp2_with fail
  with_reducible refine (right16 A nA cA L nL cL cs ls _ HF_1.out HL_1.out HH.out.1 HH.out.2.1 HH.out.2.2.1 HH.out.2.2.2.1 HH.out.2.2.2.2.1 HH.out.2.2.2.2.2).mono ?_
  rintro e w2 ⟨C, nC, cC, R, nR, cR, cost, rows, rfl, hv, hr, hg, h5, hb⟩
  have KB0_2 := Lib.hid (keepBlk hb KB0_1.out)
  have HF_2 := Lib.hid (HF_1.out.below hb)
  have HL_2 := Lib.hid (HL_1.out.below hb)
  have HXF_2 := Lib.hid (HXF_1.out.below hb)
  have HYF_2 := Lib.hid (HYF_1.out.below hb)
  have HC := Lib.hid (show VecS w2 0 (.slice C nC cC) cost from (hv.base (Nat.zero_le _)))
  have HR := Lib.hid (show RowsS w2 0 (.slice R nR cR) rows from (hr.base (Nat.zero_le _)))
  have BB_2 := Lib.hid (BB_1.out.trans ((hb).mono BB_1.out.size))
  obtain ⟨c0_0_2, c0_0_2d, c0_1_2, c0_1_2d⟩ := bc2 KB0_2.out
  have HG := Lib.hid hg
  have HLC := Lib.hid hv.len
  have HLR := Lib.hid hr.len
  clear hv hr hg h5 hb
  go_wp2_with fail
  with_reducible refine (make X nX cX xs _ HX1.out.1 HXF_2.out HX1.out.2).mono ?_
  rintro e w3 ⟨X2, nx, cx, rfl, hv, hb⟩
  have KB0_3 := Lib.hid (keepBlk hb KB0_2.out)
  have HXF_3 := Lib.hid (HXF_2.out.below hb)
  have HYF_3 := Lib.hid (HYF_2.out.below hb)
  have HC_3 := Lib.hid (HC.out.below hb)
  have HR_3 := Lib.hid (HR.out.below hb)
  have HX := Lib.hid (show VecS w3 0 (.slice X2 nx cx) (frs xs) from (hv.base (Nat.zero_le _)))
  have BB_3 := Lib.hid (BB_2.out.trans ((hb).mono BB_2.out.size))
  obtain ⟨c0_0_3, c0_0_3d, c0_1_3, c0_1_3d⟩ := bc2 KB0_3.out
  have HLX := Lib.hid hv.len
  clear hv hb
  go_wp2_with fail
  with_reducible refine (make Y nY cY ys _ HY1.out.1 HYF_3.out HY1.out.2).mono ?_
  rintro e w4 ⟨Y2, ny, cy, rfl, hv, hb⟩
  have KB0_4 := Lib.hid (show (w4.alloc (.cells #[.slice C nC cC, .slice R nR cR] 31)).heap[w.heap.size]? = some (.cells #[.slice A nA cA, .slice L nL cL] 25 (0, 0)) from blk_al (keepBlk hb KB0_3.out))
  have HYF_4 := Lib.hid (show FracsAt (w4.alloc (.cells #[.slice C nC cC, .slice R nR cR] 31)) Y ys from (HYF_3.out.below hb).alloc _)
  have HC_4 := Lib.hid (show VecS (w4.alloc (.cells #[.slice C nC cC, .slice R nR cR] 31)) 0 (.slice C nC cC) cost from (HC_3.out.below hb).alloc _)
  have HR_4 := Lib.hid (show RowsS (w4.alloc (.cells #[.slice C nC cC, .slice R nR cR] 31)) 0 (.slice R nR cR) rows from (HR_3.out.below hb).alloc _)
  have HX_4 := Lib.hid (show VecS (w4.alloc (.cells #[.slice C nC cC, .slice R nR cR] 31)) 0 (.slice X2 nx cx) (frs xs) from (HX.out.below hb).alloc _)
  have HY := Lib.hid (show VecS (w4.alloc (.cells #[.slice C nC cC, .slice R nR cR] 31)) 0 (.slice Y2 ny cy) (frs ys) from ((hv.base (Nat.zero_le _))).alloc _)
  have BB_4 := Lib.hid (show Below w.heap.size w (w4.alloc (.cells #[.slice C nC cC, .slice R nR cR] 31)) from ((BB_3.out.trans ((hb).mono BB_3.out.size))).alloc ((BB_3.out.trans ((hb).mono BB_3.out.size))).size _)
  have KB1_4 := Lib.hid (show (w4.alloc (.cells #[.slice C nC cC, .slice R nR cR] 31)).heap[w4.heap.size]? = some (.cells #[.slice C nC cC, .slice R nR cR] 31 (0, 0)) from blk_nw (by simp))
  obtain ⟨c0_0_4, c0_0_4d, c0_1_4, c0_1_4d⟩ := bc2 KB0_4.out
  obtain ⟨c1_0_4, c1_0_4d, c1_1_4, c1_1_4d⟩ := bc2 KB1_4.out
  have HLY := Lib.hid hv.len
  clear hv hb
  go_wp2_with fail
  generalize frs xs = x at *
  generalize frs ys = y at *
  generalize hwa : (w4.alloc (.cells #[.slice C nC cC, .slice R nR cR] 31)) = wa at *
  generalize hpb : w4.heap.size = pb at *
  clear hwa hpb
  by_cases hl : ny = nR
  · obtain rfl : nR = ny := hl.symm
    have HL := Lib.hid (show y.length = rows.length from by rw [← HLY.out, ← HLR.out])
    with_reducible refine (Ct.sum_ok C nC cC R nR cR cost rows Y2 nR cy y _ HC_4.out HR_4.out HY.out HL.out HG.out.hr (Nat.le_trans HG.out.hc (by decide)) HG.out.rw_ HSY.out).mono ?_
    rintro e w5 ⟨S2, ns2, cs2, g2, A2, m2, c2, D2, md2, cd2, rfl, hv, hn, hb⟩
    have KB0_5 := Lib.hid (show (w5.alloc (.cells #[.bool g2, .slice A2 m2 c2, .slice D2 md2 cd2] 40)).heap[w.heap.size]? = some (.cells #[.slice A nA cA, .slice L nL cL] 25 (0, 0)) from blk_al (keepBlk hb KB0_4.out))
    have KB1_5 := Lib.hid (show (w5.alloc (.cells #[.bool g2, .slice A2 m2 c2, .slice D2 md2 cd2] 40)).heap[pb]? = some (.cells #[.slice C nC cC, .slice R nR cR] 31 (0, 0)) from blk_al (keepBlk hb KB1_4.out))
    have HC_5 := Lib.hid (show VecS (w5.alloc (.cells #[.bool g2, .slice A2 m2 c2, .slice D2 md2 cd2] 40)) 0 (.slice C nC cC) cost from (HC_4.out.below hb).alloc _)
    have HR_5 := Lib.hid (show RowsS (w5.alloc (.cells #[.bool g2, .slice A2 m2 c2, .slice D2 md2 cd2] 40)) 0 (.slice R nR cR) rows from (HR_4.out.below hb).alloc _)
    have HX_5 := Lib.hid (show VecS (w5.alloc (.cells #[.bool g2, .slice A2 m2 c2, .slice D2 md2 cd2] 40)) 0 (.slice X2 nx cx) x from (HX_4.out.below hb).alloc _)
    have HY_5 := Lib.hid (show VecS (w5.alloc (.cells #[.bool g2, .slice A2 m2 c2, .slice D2 md2 cd2] 40)) 0 (.slice Y2 nR cy) y from (HY.out.below hb).alloc _)
    have HV := Lib.hid (show VecS (w5.alloc (.cells #[.bool g2, .slice A2 m2 c2, .slice D2 md2 cd2] 40)) 0 (.slice S2 ns2 cs2) (sv nC y rows) from ((hv.base (Nat.zero_le _))).alloc _)
    have HS := Lib.hid (show RatS (w5.alloc (.cells #[.bool g2, .slice A2 m2 c2, .slice D2 md2 cd2] 40)) g2 (.slice A2 m2 c2) (.slice D2 md2 cd2) (sb y rows) from (hn).alloc _)
    have BB_5 := Lib.hid (show Below w.heap.size w (w5.alloc (.cells #[.bool g2, .slice A2 m2 c2, .slice D2 md2 cd2] 40)) from ((BB_4.out.trans ((hb).mono BB_4.out.size))).alloc ((BB_4.out.trans ((hb).mono BB_4.out.size))).size _)
    have KB2_5 := Lib.hid (show (w5.alloc (.cells #[.bool g2, .slice A2 m2 c2, .slice D2 md2 cd2] 40)).heap[w5.heap.size]? = some (.cells #[.bool g2, .slice A2 m2 c2, .slice D2 md2 cd2] 40 (0, 0)) from blk_nw (by simp))
    obtain ⟨c0_0_5, c0_0_5d, c0_1_5, c0_1_5d⟩ := bc2 KB0_5.out
    obtain ⟨c1_0_5, c1_0_5d, c1_1_5, c1_1_5d⟩ := bc2 KB1_5.out
    obtain ⟨c2_0_5, c2_0_5d, c2_1_5, c2_1_5d, c2_2_5, c2_2_5d⟩ := bc3 KB2_5.out
    obtain rfl : nC = ns2 := by rw [hv.len, sv_len HG.out.rw_]
    clear hv hn hb
    have HB4 := Lib.hid (And.intro HG.out.hc HG.out.hr)
    have hnC : nC ≤ 9223372036854775807 := Nat.le_trans HG.out.hc (by decide)
    have hnR : nR ≤ 9223372036854775807 := Nat.le_trans HG.out.hr (by decide)
    go_wp2
    generalize hwb : (w5.alloc (.cells #[.bool g2, .slice A2 m2 c2, .slice D2 md2 cd2] 40)) = wb at *
    generalize hbb : w5.heap.size = bb at *
    clear hwb hbb
    go_loopw [15, 16] (fun wv jv wr => ∃ j : Nat, jv = .int .i64 j ∧ j ≤ nC ∧ wv = .bool (cheapTo cost rows y j) ∧ Below wb.heap.size wb wr)
      (fun _ jv _ => nC - (intOf jv).toNat)
    case atStart => exact ⟨0, rfl, Nat.zero_le _, rfl, Below.refl _ _⟩
    case round =>
      obtain ⟨j, rfl, hj, rfl, hB⟩ := hrel
      by_cases hlt : j < nC
      · have hj1 : (0 : Int) ≤ (j : Int) := Int.natCast_nonneg _
        have hj2 : (j : Int) < (nC : Int) := by omega
        have KB0_6 := Lib.hid (keepBlk hB KB0_5.out)
        have KB1_6 := Lib.hid (keepBlk hB KB1_5.out)
        have KB2_6 := Lib.hid (keepBlk hB KB2_5.out)
        have HC_6 := Lib.hid (HC_5.out.below hB)
        have HR_6 := Lib.hid (HR_5.out.below hB)
        have HX_6 := Lib.hid (HX_5.out.below hB)
        have HY_6 := Lib.hid (HY_5.out.below hB)
        have HV_6 := Lib.hid (HV.out.below hB)
        have HS_6 := Lib.hid (HS.out.below hB)
        have HW := Lib.hid (show Bel wb wr from Bel.mk hB)
        have BB_6 := Lib.hid (BB_5.out.trans ((hB).mono BB_5.out.size))
        obtain ⟨c0_0_6, c0_0_6d, c0_1_6, c0_1_6d⟩ := bc2 KB0_6.out
        obtain ⟨c1_0_6, c1_0_6d, c1_1_6, c1_1_6d⟩ := bc2 KB1_6.out
        obtain ⟨c2_0_6, c2_0_6d, c2_1_6, c2_1_6d, c2_2_6, c2_2_6d⟩ := bc3 KB2_6.out
        clear hB
        go_wp2
        go_loopw [18] (fun kv wz => ∃ (k : Nat) (gt : Bool) (At : Option Addr) (mt ct : Nat) (Dt : Option Addr) (mdt cdt : Nat), kv = .int .i64 k ∧ k ≤ nR ∧ wz.heap[wr.heap.size]? = some (.cells #[.bool gt, .slice At mt ct, .slice Dt mdt cdt] 40 (0, 0)) ∧ RatS wz gt (.slice At mt ct) (.slice Dt mdt cdt) (tj rows y j k) ∧ Below wr.heap.size wr wz)
          (fun kv _ => nR - (intOf kv).toNat)
        case atStart => exact ⟨0, _, _, _, _, _, _, _, rfl, Nat.zero_le _, blk_new _ _ _, RatS.zero _, below_alloc wr _⟩
        case round =>
          rename World => wz
          obtain ⟨k, gt, At, mt, ct, Dt, mdt, cdt, rfl, hk, hbox, hP, hB⟩ := hrel
          by_cases hkl : k < nR
          · obtain ⟨p, hp⟩ : ∃ p, rows[k]? = some p := ⟨rows[k]'(by rw [← HLR.out]; exact hkl), List.getElem?_eq_getElem _⟩
            obtain ⟨q, hq⟩ : ∃ q, y[k]? = some q := ⟨y[k]'(by rw [HL.out, ← HLR.out]; exact hkl), List.getElem?_eq_getElem _⟩
            obtain ⟨bR, rfl, hbR0, hbR1⟩ := (HR_6.out).has (by omega)
            obtain ⟨bY, rfl, hbY0, hbY1⟩ := (HY_6.out).has (by omega)
            obtain ⟨Q, nq, cq, g, A0, m0, c0, D0, md0, cd0, k0, k1, k2, k3, k4, hvq, hrh⟩ := (HR_6.out).at_ hp
            obtain ⟨gb, Ab, mb, cb, Db, mdb, cdb, l0, l1, l2, hRb⟩ := (HY_6.out).at_ hq
            have HPR := Lib.hid (HG.out.rw_ p (List.mem_of_getElem? hp))
            have HPK := Lib.hid (HG.out.kd p (List.mem_of_getElem? hp))
            have HQZ := Lib.hid (HSY.out q (List.mem_of_getElem? hq))
            have HP1 := Lib.hid hp
            have HQ1 := Lib.hid hq
            obtain rfl : nC = nq := by rw [hvq.len, HPR.out.1]
            obtain ⟨a, ha⟩ : ∃ a, p.coef[j]? = some a := ⟨p.coef[j]'(by rw [HPR.out.1]; exact hlt), List.getElem?_eq_getElem _⟩
            obtain ⟨bQ, rfl, hbQ0, hbQ1⟩ := hvq.has (by omega)
            obtain ⟨ga, Aa, ma, ca, Da, mda, cda, n0, n1, n2, hRa⟩ := hvq.at_ ha
            have KB0_7 := Lib.hid (keepBlk hB KB0_6.out)
            have KB1_7 := Lib.hid (keepBlk hB KB1_6.out)
            have KB2_7 := Lib.hid (keepBlk hB KB2_6.out)
            have HC_7 := Lib.hid (HC_6.out.below hB)
            have HR_7 := Lib.hid (HR_6.out.below hB)
            have HX_7 := Lib.hid (HX_6.out.below hB)
            have HY_7 := Lib.hid (HY_6.out.below hB)
            have HV_7 := Lib.hid (HV_6.out.below hB)
            have HS_7 := Lib.hid (HS_6.out.below hB)
            have HW_7 := Lib.hid (HW.out.below hB)
            have HRa := Lib.hid (show RatS wz ga (.slice Aa ma ca) (.slice Da mda cda) a from (hRa.below hB))
            have HRb := Lib.hid (show RatS wz gb (.slice Ab mb cb) (.slice Db mdb cdb) q from (hRb.below hB))
            have HP := Lib.hid (show RatS wz gt (.slice At mt ct) (.slice Dt mdt cdt) (tj rows y j k) from hP)
            have HW2 := Lib.hid (show Bel wr wz from Bel.mk hB)
            have BB_7 := Lib.hid (BB_6.out.trans ((hB).mono BB_6.out.size))
            obtain ⟨c0_0_7, c0_0_7d, c0_1_7, c0_1_7d⟩ := bc2 KB0_7.out
            obtain ⟨c1_0_7, c1_0_7d, c1_1_7, c1_1_7d⟩ := bc2 KB1_7.out
            obtain ⟨c2_0_7, c2_0_7d, c2_1_7, c2_1_7d, c2_2_7, c2_2_7d⟩ := bc3 KB2_7.out
            have x0_7 : wz.cell? ⟨bY, k * 3, none⟩ = some (.bool gb) := keepCell hB l0
            have x0_7d := drewCell x0_7
            have x1_7 : wz.cell? ⟨bY, k * 3 + 1, none⟩ = some (.slice Ab mb cb) := keepCell hB l1
            have x1_7d := drewCell x1_7
            have x2_7 : wz.cell? ⟨bY, k * 3 + 2, none⟩ = some (.slice Db mdb cdb) := keepCell hB l2
            have x2_7d := drewCell x2_7
            have x3_7 : wz.cell? ⟨bR, k * 5, none⟩ = some (.slice (some ⟨bQ, 0, none⟩) nC cq) := keepCell hB k0
            have x3_7d := drewCell x3_7
            have x4_7 : wz.cell? ⟨bQ, j * 3, none⟩ = some (.bool ga) := keepCell hB n0
            have x4_7d := drewCell x4_7
            have x5_7 : wz.cell? ⟨bQ, j * 3 + 1, none⟩ = some (.slice Aa ma ca) := keepCell hB n1
            have x5_7d := drewCell x5_7
            have x6_7 : wz.cell? ⟨bQ, j * 3 + 2, none⟩ = some (.slice Da mda cda) := keepCell hB n2
            have x6_7d := drewCell x6_7
            have KBO := Lib.hid hbox
            obtain ⟨c0_0_7, c0_0_7d, c0_1_7, c0_1_7d⟩ := bc2 KB0_7.out
            obtain ⟨c1_0_7, c1_0_7d, c1_1_7, c1_1_7d⟩ := bc2 KB1_7.out
            obtain ⟨c2_0_7, c2_0_7d, c2_1_7, c2_1_7d, c2_2_7, c2_2_7d⟩ := bc3 KB2_7.out
            obtain ⟨c3_0_7, c3_0_7d, fc3_0_7, fc3_0_7d, c3_1_7, c3_1_7d, fc3_1_7, fc3_1_7d, c3_2_7, c3_2_7d, fc3_2_7, fc3_2_7d⟩ := bf3 KBO.out
            have x0_7 := keepCell hB l0
            have x0_7d := drewCell x0_7
            have x1_7 := keepCell hB l1
            have x1_7d := drewCell x1_7
            have x2_7 := keepCell hB l2
            have x2_7d := drewCell x2_7
            have x3_7 := keepCell hB k0
            have x3_7d := drewCell x3_7
            have x4_7 := keepCell hB n0
            have x4_7d := drewCell x4_7
            have x5_7 := keepCell hB n1
            have x5_7d := drewCell x5_7
            have x6_7 := keepCell hB n2
            have x6_7d := drewCell x6_7
            have HAZ := Lib.hid (HPR.out.2.1 a (List.mem_of_getElem? ha))
            have HTS := Lib.hid (show tj rows y j (k + 1) = tj rows y j k + q * a by unfold tj; rw [sumTo, getD_of hp, el_of hq, el_of ha])
            have HTM := Lib.hid (show mw (tj rows y j k) ≤ k * 20001 + 1 from mw_sumTo (fun i => Nat.le_trans (mw_mul _ _) (by have := mw_el (by omega) HSY.out i; have := mw_coef HG.out.rw_ i j; omega)) k)
            have L1 := Lib.hid (show 4 * (mw q + mw a) + 8 ≤ LIM by have := HQZ.out; have := HAZ.out; have := LIM_eq; omega)
            have L2 := Lib.hid (show 4 * (mw (tj rows y j k) + mw (q * a)) + 8 ≤ LIM by have := HQZ.out; have := HAZ.out; have := LIM_eq; have := mw_mul q a; have := HTM.out; have := HB4.out.2; omega)
            have hzp : pb < wr.heap.size := (Array.getElem?_eq_some_iff.1 KB1_6.out).1
            clear hbox hP hB hp hq ha hvq hrh hRa hRb k0 k1 k2 k3 k4 l0 l1 l2 n0 n1 n2
            have hi1 : (0 : Int) ≤ (k : Int) := Int.natCast_nonneg _
            have hi2 : (k : Int) < (nR : Int) := by omega
            have hzb := HW2.out.b.size
            go_wp2_with fail
            refine wp_region_E (S := fun w' => w'.cell? ⟨pb, 0, none⟩ = some (.slice C nC cC) ∧ w'.cell? ⟨pb, 1, none⟩ = some (.slice (some ⟨bR, 0, none⟩) nR cR) ∧ w'.cell? ⟨wr.heap.size, 0, none⟩ = some (.bool gt) ∧ w'.cell? ⟨wr.heap.size, 1, none⟩ = some (.slice At mt ct) ∧ w'.cell? ⟨wr.heap.size, 2, none⟩ = some (.slice Dt mdt cdt) ∧ w'.cell? ⟨bY, k * 3, none⟩ = some (.bool gb) ∧ w'.cell? ⟨bY, k * 3 + 1, none⟩ = some (.slice Ab mb cb) ∧ w'.cell? ⟨bY, k * 3 + 2, none⟩ = some (.slice Db mdb cdb) ∧ w'.cell? ⟨bR, k * 5, none⟩ = some (.slice (some ⟨bQ, 0, none⟩) nC cq) ∧ w'.cell? ⟨bQ, j * 3, none⟩ = some (.bool ga) ∧ w'.cell? ⟨bQ, j * 3 + 1, none⟩ = some (.slice Aa ma ca) ∧ w'.cell? ⟨bQ, j * 3 + 2, none⟩ = some (.slice Da mda cda)) 16 (by kernel_rfl) ?_ (fun hHeld => ?_)
            · (((try go_split_ands); (try simp only [World.cell?_drew]); (repeat' apply And.intro) <;> (repeat (first | with_reducible assumption | with_reducible refine cell_set (by omega) ?_ | with_reducible refine cell_al ?_))))
            refine wpAnyE_take (i := 0) (v := ?_) rfl (by kernel_rfl) (fun _ _ _ h => h) (Or.inl ⟨by rfl, ?_⟩) hHeld ?_
            rotate_left
            · ((intro w hSw; (try dsimp only at hSw); go_simp); (try with_reducible rfl))
            try simp only [Act.put, List.setIfInBounds_toArray, List.set_cons_zero, List.set_cons_succ, List.getElem_toArray, List.getElem_cons_zero, List.getElem_cons_succ]
            refine wpAnyE_take (i := 1) (v := ?_) rfl (by kernel_rfl) (fun _ _ _ h => h) (Or.inl ⟨by rfl, ?_⟩) hHeld ?_
            rotate_left
            · ((intro w hSw; (try dsimp only at hSw); go_simp); (try with_reducible rfl))
            try simp only [Act.put, List.setIfInBounds_toArray, List.set_cons_zero, List.set_cons_succ, List.getElem_toArray, List.getElem_cons_zero, List.getElem_cons_succ]
            refine wpAnyE_take (i := 2) (v := ?_) rfl (by kernel_rfl) (fun _ _ _ h => h) (Or.inl ⟨by rfl, ?_⟩) hHeld ?_
            rotate_left
            · ((intro w hSw; (try dsimp only at hSw); go_simp); (try with_reducible rfl))
            try simp only [Act.put, List.setIfInBounds_toArray, List.set_cons_zero, List.set_cons_succ, List.getElem_toArray, List.getElem_cons_zero, List.getElem_cons_succ]
            refine wpAnyE_take (i := 3) (v := ?_) rfl (by kernel_rfl) (fun _ _ _ h => h) (Or.inl ⟨by rfl, ?_⟩) hHeld ?_
            rotate_left
            · ((intro w hSw; (try dsimp only at hSw); go_simp); (try with_reducible rfl))
            try simp only [Act.put, List.setIfInBounds_toArray, List.set_cons_zero, List.set_cons_succ, List.getElem_toArray, List.getElem_cons_zero, List.getElem_cons_succ]
            refine wpAnyE_take (i := 4) (v := ?_) rfl (by kernel_rfl) (fun _ _ _ h => h) (Or.inl ⟨by rfl, ?_⟩) hHeld ?_
            rotate_left
            · ((intro w hSw; (try dsimp only at hSw); go_simp); (try with_reducible rfl))
            try simp only [Act.put, List.setIfInBounds_toArray, List.set_cons_zero, List.set_cons_succ, List.getElem_toArray, List.getElem_cons_zero, List.getElem_cons_succ]
            refine wpAnyE_take (i := 5) (v := ?_) rfl (by kernel_rfl) (fun _ _ _ h => h) (Or.inl ⟨by rfl, ?_⟩) hHeld ?_
            rotate_left
            · ((intro w hSw; (try dsimp only at hSw); go_simp); (try with_reducible rfl))
            try simp only [Act.put, List.setIfInBounds_toArray, List.set_cons_zero, List.set_cons_succ, List.getElem_toArray, List.getElem_cons_zero, List.getElem_cons_succ]
            refine wpAnyE_take (i := 6) (v := ?_) rfl (by kernel_rfl) (fun _ _ _ h => h) (Or.inl ⟨by rfl, ?_⟩) hHeld ?_
            rotate_left
            · ((intro w hSw; (try dsimp only at hSw); go_simp); (try with_reducible rfl))
            try simp only [Act.put, List.setIfInBounds_toArray, List.set_cons_zero, List.set_cons_succ, List.getElem_toArray, List.getElem_cons_zero, List.getElem_cons_succ]
            refine wpAnyE_take (i := 7) (v := ?_) rfl (by kernel_rfl) (fun _ _ _ h => h) (Or.inl ⟨by rfl, ?_⟩) hHeld ?_
            rotate_left
            · ((intro w hSw; (try dsimp only at hSw); go_simp); (try with_reducible rfl))
            try simp only [Act.put, List.setIfInBounds_toArray, List.set_cons_zero, List.set_cons_succ, List.getElem_toArray, List.getElem_cons_zero, List.getElem_cons_succ]
            refine wpAnyE_take (i := 8) (v := ?_) rfl (by kernel_rfl) (fun _ _ _ h => h) (Or.inl ⟨by rfl, ?_⟩) hHeld ?_
            rotate_left
            · ((intro w hSw; (try dsimp only at hSw); go_simp); (try with_reducible rfl))
            try simp only [Act.put, List.setIfInBounds_toArray, List.set_cons_zero, List.set_cons_succ, List.getElem_toArray, List.getElem_cons_zero, List.getElem_cons_succ]
            refine wpAnyE_take (i := 9) (v := ?_) rfl (by kernel_rfl) (fun _ _ _ h => h) (Or.inl ⟨by rfl, ?_⟩) hHeld ?_
            rotate_left
            · ((intro w hSw; (try dsimp only at hSw); go_simp); (try with_reducible rfl))
            try simp only [Act.put, List.setIfInBounds_toArray, List.set_cons_zero, List.set_cons_succ, List.getElem_toArray, List.getElem_cons_zero, List.getElem_cons_succ]
            refine wpAnyE_take (i := 10) (v := ?_) rfl (by kernel_rfl) (fun _ _ _ h => h) (Or.inl ⟨by rfl, ?_⟩) hHeld ?_
            rotate_left
            · ((intro w hSw; (try dsimp only at hSw); go_simp); (try with_reducible rfl))
            try simp only [Act.put, List.setIfInBounds_toArray, List.set_cons_zero, List.set_cons_succ, List.getElem_toArray, List.getElem_cons_zero, List.getElem_cons_succ]
            refine wpAnyE_take (i := 11) (v := ?_) rfl (by kernel_rfl) (fun _ _ _ h => h) (Or.inl ⟨by rfl, ?_⟩) hHeld ?_
            rotate_left
            · ((intro w hSw; (try dsimp only at hSw); go_simp); (try with_reducible rfl))
            try simp only [Act.put, List.setIfInBounds_toArray, List.set_cons_zero, List.set_cons_succ, List.getElem_toArray, List.getElem_cons_zero, List.getElem_cons_succ]
            refine wpAnyE_take (i := 12) (v := ?_) rfl (by kernel_rfl) (fun _ _ _ h => h) (Or.inl ⟨by rfl, ?_⟩) hHeld ?_
            rotate_left
            · ((intro w hSw; (try dsimp only at hSw); go_simp); (try with_reducible rfl))
            try simp only [Act.put, List.setIfInBounds_toArray, List.set_cons_zero, List.set_cons_succ, List.getElem_toArray, List.getElem_cons_zero, List.getElem_cons_succ]
            refine wpAnyE_take (i := 13) (v := ?_) rfl (by kernel_rfl) (fun _ _ _ h => h) (Or.inl ⟨by rfl, ?_⟩) hHeld ?_
            rotate_left
            · ((intro w hSw; (try dsimp only at hSw); go_simp); (try with_reducible rfl))
            try simp only [Act.put, List.setIfInBounds_toArray, List.set_cons_zero, List.set_cons_succ, List.getElem_toArray, List.getElem_cons_zero, List.getElem_cons_succ]
            refine wpAnyE_one (i := 14) rfl (by kernel_rfl) (fun K hK => ?_)
            go_simp
            (go_at_call 11; (with_reducible refine (Rt.mul gb Ab mb cb Db mdb cdb q ga Aa ma ca Da mda cda a _ HRb.out.drew HRa.out.drew L1.out).mono ?_); rintro e v1 ⟨g4, A4, m4, c4, D4, md4, cd4, rfl, hn, hb⟩; have KB0_8 := Lib.hid (keepBlk hb KB0_7.out); have KB1_8 := Lib.hid (keepBlk hb KB1_7.out); have KB2_8 := Lib.hid (keepBlk hb KB2_7.out); have KB3_8 := Lib.hid (keepBlk hb KBO.out); have HC_8 := Lib.hid (HC_7.out.drew.below hb); have HR_8 := Lib.hid (HR_7.out.drew.below hb); have HX_8 := Lib.hid (HX_7.out.drew.below hb); have HY_8 := Lib.hid (HY_7.out.drew.below hb); have HV_8 := Lib.hid (HV_7.out.drew.below hb); have HS_8 := Lib.hid (HS_7.out.drew.below hb); have HW_8 := Lib.hid (HW_7.out.drew.below hb); have HRa_8 := Lib.hid (HRa.out.drew.below hb); have HRb_8 := Lib.hid (HRb.out.drew.below hb); have HP_8 := Lib.hid (HP.out.drew.below hb); have HW2_8 := Lib.hid (HW2.out.drew.below hb); have HM := Lib.hid (show RatS v1 g4 (.slice A4 m4 c4) (.slice D4 md4 cd4) (q * a) from hn); have BB_8 := Lib.hid (BB_7.out.trans ((It.bdrew0' hb).mono BB_7.out.size)); obtain ⟨c0_0_8, c0_0_8d, c0_1_8, c0_1_8d⟩ := bc2 KB0_8.out; obtain ⟨c1_0_8, c1_0_8d, c1_1_8, c1_1_8d⟩ := bc2 KB1_8.out; obtain ⟨c2_0_8, c2_0_8d, c2_1_8, c2_1_8d, c2_2_8, c2_2_8d⟩ := bc3 KB2_8.out; obtain ⟨c3_0_8, c3_0_8d, fc3_0_8, fc3_0_8d, c3_1_8, c3_1_8d, fc3_1_8, fc3_1_8d, c3_2_8, c3_2_8d, fc3_2_8, fc3_2_8d⟩ := bf3 KB3_8.out; have x0_8 := keepCell hb x0_7d; have x0_8d := drewCell x0_8; have x1_8 := keepCell hb x1_7d; have x1_8d := drewCell x1_8; have x2_8 := keepCell hb x2_7d; have x2_8d := drewCell x2_8; have x3_8 := keepCell hb x3_7d; have x3_8d := drewCell x3_8; have x4_8 := keepCell hb x4_7d; have x4_8d := drewCell x4_8; have x5_8 := keepCell hb x5_7d; have x5_8d := drewCell x5_8; have x6_8 := keepCell hb x6_7d; have x6_8d := drewCell x6_8; clear hn hb)
            (try go_wp2_with fail)
            refine hK.out _ _ ?_ (fun hHeld => ?_)
            · (((try go_split_ands); (try simp only [World.cell?_drew]); (repeat' apply And.intro) <;> (repeat (first | with_reducible assumption | with_reducible refine cell_set (by omega) ?_ | with_reducible refine cell_al ?_))))
            clear hK K
            try simp only [Act.put, List.setIfInBounds_toArray, List.set_cons_zero, List.set_cons_succ, List.getElem_toArray, List.getElem_cons_zero, List.getElem_cons_succ]
            refine wpAnyE_one (i := 15) rfl (by kernel_rfl) (fun K hK => ?_)
            go_simp
            (go_at_call 10; (with_reducible refine (Rt.add gt At mt ct Dt mdt cdt (tj rows y j k) g4 A4 m4 c4 D4 md4 cd4 (q * a) _ HP_8.out HM.out L2.out).mono ?_); rintro e v2 ⟨g5, A5, m5, c5, D5, md5, cd5, rfl, hn, hb⟩; have KB0_9 := Lib.hid (keepBlk hb KB0_8.out); have KB1_9 := Lib.hid (keepBlk hb KB1_8.out); have KB2_9 := Lib.hid (keepBlk hb KB2_8.out); have KB3_9 := Lib.hid (keepBlk hb KB3_8.out); have HC_9 := Lib.hid (HC_8.out.below hb); have HR_9 := Lib.hid (HR_8.out.below hb); have HX_9 := Lib.hid (HX_8.out.below hb); have HY_9 := Lib.hid (HY_8.out.below hb); have HV_9 := Lib.hid (HV_8.out.below hb); have HS_9 := Lib.hid (HS_8.out.below hb); have HW_9 := Lib.hid (HW_8.out.below hb); have HRa_9 := Lib.hid (HRa_8.out.below hb); have HRb_9 := Lib.hid (HRb_8.out.below hb); have HP_9 := Lib.hid (HP_8.out.below hb); have HW2_9 := Lib.hid (HW2_8.out.below hb); have HM_9 := Lib.hid (HM.out.below hb); have HT := Lib.hid (show RatS v2 g5 (.slice A5 m5 c5) (.slice D5 md5 cd5) (tj rows y j k + q * a) from hn); have BB_9 := Lib.hid (BB_8.out.trans ((hb).mono BB_8.out.size)); obtain ⟨c0_0_9, c0_0_9d, c0_1_9, c0_1_9d⟩ := bc2 KB0_9.out; obtain ⟨c1_0_9, c1_0_9d, c1_1_9, c1_1_9d⟩ := bc2 KB1_9.out; obtain ⟨c2_0_9, c2_0_9d, c2_1_9, c2_1_9d, c2_2_9, c2_2_9d⟩ := bc3 KB2_9.out; obtain ⟨c3_0_9, c3_0_9d, fc3_0_9, fc3_0_9d, c3_1_9, c3_1_9d, fc3_1_9, fc3_1_9d, c3_2_9, c3_2_9d, fc3_2_9, fc3_2_9d⟩ := bf3 KB3_9.out; have x0_9 := keepCell hb x0_8; have x0_9d := drewCell x0_9; have x1_9 := keepCell hb x1_8; have x1_9d := drewCell x1_9; have x2_9 := keepCell hb x2_8; have x2_9d := drewCell x2_9; have x3_9 := keepCell hb x3_8; have x3_9d := drewCell x3_9; have x4_9 := keepCell hb x4_8; have x4_9d := drewCell x4_9; have x5_9 := keepCell hb x5_8; have x5_9d := drewCell x5_9; have x6_9 := keepCell hb x6_8; have x6_9d := drewCell x6_9; clear hn hb)
            (try go_wp2_with fail)
            refine hK.out _ _ ?_ (fun hHeld => ?_)
            · (((try go_split_ands); (try simp only [World.cell?_drew]); (repeat' apply And.intro) <;> (repeat (first | with_reducible assumption | with_reducible refine cell_set (by omega) ?_ | with_reducible refine cell_al ?_))))
            clear hK K
            try simp only [Act.put, List.setIfInBounds_toArray, List.set_cons_zero, List.set_cons_succ, List.getElem_toArray, List.getElem_cons_zero, List.getElem_cons_succ]
            refine wpAnyE_fin rfl (by kernel_rfl) (fun K hK => ?_)
            go_simp
            refine hK.out _ _ ?_
            clear hK K
            try simp only [Act.put, List.setIfInBounds_toArray, List.set_cons_zero, List.set_cons_succ, List.getElem_toArray, List.getElem_cons_zero, List.getElem_cons_succ]
            refine wpAnyE_done (by kernel_rfl) ?_ _
            all_goals
              go_wp2
              go_roundw
              case rel => exact ⟨k + 1, g5, A5, m5, c5, D5, md5, cd5, by go_num, by omega, blk_set _ (blk_set _ (blk_set _ KB3_9.out)), by rw [HTS.out]; exact HT.out.set3 KB3_9.out (by decide) _ _ _, (Bel.set3 HW2_9.out (Nat.le_refl _) _ _ _).b⟩
              case measure => simp [intOf]; omega
          · obtain rfl : nR = k := by omega
            obtain ⟨a, ha⟩ : ∃ a, (sv nC y rows)[j]? = some a := ⟨(sv nC y rows)[j]'(by rw [sv_len HG.out.rw_]; exact hlt), List.getElem?_eq_getElem _⟩
            obtain ⟨c, hc⟩ : ∃ c, cost[j]? = some c := ⟨cost[j]'(by rw [← HLC.out]; exact hlt), List.getElem?_eq_getElem _⟩
            obtain ⟨bS, rfl, hbS0, hbS1⟩ := (HV_6.out).has (by omega)
            obtain ⟨bC, rfl, hbC0, hbC1⟩ := (HC_6.out).has (by omega)
            obtain ⟨ga, Aa, ma, ca, Da, mda, cda, k0, k1, k2, hRa⟩ := (HV_6.out.below hB).at_ ha
            obtain ⟨gc, Ac, mc, cc, Dc, mdc, cdc, l0, l1, l2, hRc⟩ := (HC_6.out.below hB).at_ hc
            have KB0_7 := Lib.hid (keepBlk hB KB0_6.out)
            have KB1_7 := Lib.hid (keepBlk hB KB1_6.out)
            have KB2_7 := Lib.hid (keepBlk hB KB2_6.out)
            have HC_7 := Lib.hid (HC_6.out.below hB)
            have HR_7 := Lib.hid (HR_6.out.below hB)
            have HX_7 := Lib.hid (HX_6.out.below hB)
            have HY_7 := Lib.hid (HY_6.out.below hB)
            have HV_7 := Lib.hid (HV_6.out.below hB)
            have HS_7 := Lib.hid (HS_6.out.below hB)
            have HW_7 := Lib.hid (HW.out.below hB)
            have HRa := Lib.hid (show RatS wz ga (.slice Aa ma ca) (.slice Da mda cda) a from hRa)
            have HRc := Lib.hid (show RatS wz gc (.slice Ac mc cc) (.slice Dc mdc cdc) c from hRc)
            have HP := Lib.hid (show RatS wz gt (.slice At mt ct) (.slice Dt mdt cdt) (tj rows y j nR) from hP)
            have BB_7 := Lib.hid (BB_6.out.trans ((hB).mono BB_6.out.size))
            obtain ⟨c0_0_7, c0_0_7d, c0_1_7, c0_1_7d⟩ := bc2 KB0_7.out
            obtain ⟨c1_0_7, c1_0_7d, c1_1_7, c1_1_7d⟩ := bc2 KB1_7.out
            obtain ⟨c2_0_7, c2_0_7d, c2_1_7, c2_1_7d, c2_2_7, c2_2_7d⟩ := bc3 KB2_7.out
            have x0_7 : wz.cell? ⟨bS, j * 3, none⟩ = some (.bool ga) := k0
            have x0_7d := drewCell x0_7
            have x1_7 : wz.cell? ⟨bS, j * 3 + 1, none⟩ = some (.slice Aa ma ca) := k1
            have x1_7d := drewCell x1_7
            have x2_7 : wz.cell? ⟨bS, j * 3 + 2, none⟩ = some (.slice Da mda cda) := k2
            have x2_7d := drewCell x2_7
            have x3_7 : wz.cell? ⟨bC, j * 3, none⟩ = some (.bool gc) := l0
            have x3_7d := drewCell x3_7
            have x4_7 : wz.cell? ⟨bC, j * 3 + 1, none⟩ = some (.slice Ac mc cc) := l1
            have x4_7d := drewCell x4_7
            have x5_7 : wz.cell? ⟨bC, j * 3 + 2, none⟩ = some (.slice Dc mdc cdc) := l2
            have x5_7d := drewCell x5_7
            have KBO := Lib.hid hbox
            obtain ⟨c0_0_7, c0_0_7d, c0_1_7, c0_1_7d⟩ := bc2 KB0_7.out
            obtain ⟨c1_0_7, c1_0_7d, c1_1_7, c1_1_7d⟩ := bc2 KB1_7.out
            obtain ⟨c2_0_7, c2_0_7d, c2_1_7, c2_1_7d, c2_2_7, c2_2_7d⟩ := bc3 KB2_7.out
            obtain ⟨c3_0_7, c3_0_7d, c3_1_7, c3_1_7d, c3_2_7, c3_2_7d⟩ := bc3 KBO.out
            have x0_7 := k0
            have x0_7d := drewCell x0_7
            have x1_7 := k1
            have x1_7d := drewCell x1_7
            have x2_7 := k2
            have x2_7d := drewCell x2_7
            have x3_7 := l0
            have x3_7d := drewCell x3_7
            have x4_7 := l1
            have x4_7d := drewCell x4_7
            have x5_7 := l2
            have x5_7d := drewCell x5_7
            have HAT := Lib.hid (show a = tj rows y j nR by rw [HLR.out, ← el_sv y HG.out.rw_ hlt]; exact (el_of ha).symm)
            have HCE := Lib.hid (show el cost j = c from el_of hc)
            have HTM := Lib.hid (show mw (tj rows y j nR) ≤ nR * 20001 + 1 from mw_sumTo (fun i => Nat.le_trans (mw_mul _ _) (by have := mw_el (by omega) HSY.out i; have := mw_coef HG.out.rw_ i j; omega)) nR)
            have HCM := Lib.hid (HG.out.sc c (List.mem_of_getElem? hc))
            have L1 := Lib.hid (show 4 * (mw a + mw (tj rows y j nR)) + 8 ≤ LIM by rw [HAT.out]; have := HTM.out; have := LIM_eq; have := HB4.out.2; omega)
            have L2 := Lib.hid (show 4 * (mw (tj rows y j nR) + mw c) + 8 ≤ LIM by have := HTM.out; have := HCM.out; have := LIM_eq; have := HB4.out.2; omega)
            have HCS := Lib.hid (show cheapTo cost rows y (j + 1) = (cheapTo cost rows y j && decide (tj rows y j nR ≤ c)) by rw [cheap_succ, ← HLR.out, HCE.out])
            clear hbox hP hB ha hc hRa hRc k0 k1 k2 l0 l1 l2
            go_wp2_with fail
            go_region_held3 (fun w' => w'.cell? ⟨pb, 0, none⟩ = some (.slice (some ⟨bC, 0, none⟩) nC cC) ∧ w'.cell? ⟨pb, 1, none⟩ = some (.slice R nR cR) ∧ w'.cell? ⟨wr.heap.size, 0, none⟩ = some (.bool gt) ∧ w'.cell? ⟨wr.heap.size, 1, none⟩ = some (.slice At mt ct) ∧ w'.cell? ⟨wr.heap.size, 2, none⟩ = some (.slice Dt mdt cdt) ∧ w'.cell? ⟨bS, j * 3, none⟩ = some (.bool ga) ∧ w'.cell? ⟨bS, j * 3 + 1, none⟩ = some (.slice Aa ma ca) ∧ w'.cell? ⟨bS, j * 3 + 2, none⟩ = some (.slice Da mda cda) ∧ w'.cell? ⟨bC, j * 3, none⟩ = some (.bool gc) ∧ w'.cell? ⟨bC, j * 3 + 1, none⟩ = some (.slice Ac mc cc) ∧ w'.cell? ⟨bC, j * 3 + 2, none⟩ = some (.slice Dc mdc cdc))
              (((try go_split_ands); (try simp only [World.cell?_drew]); (repeat' apply And.intro) <;> (repeat (first | with_reducible assumption | with_reducible refine cell_set (by omega) ?_ | with_reducible refine cell_al ?_))))
              (first
                | (go_at_call 12; (with_reducible refine (Ct.same_yes ga Aa ma ca Da mda cda a gt At mt ct Dt mdt cdt (tj rows y j nR) _ HRa.out.drew HP.out.drew L1.out HAT.out).mono ?_); rintro e v1 ⟨rfl, hb⟩; have KB0_8 := Lib.hid (keepBlk hb KB0_7.out); have KB1_8 := Lib.hid (keepBlk hb KB1_7.out); have KB2_8 := Lib.hid (keepBlk hb KB2_7.out); have KB3_8 := Lib.hid (keepBlk hb KBO.out); have HC_8 := Lib.hid (HC_7.out.drew.below hb); have HR_8 := Lib.hid (HR_7.out.drew.below hb); have HX_8 := Lib.hid (HX_7.out.drew.below hb); have HY_8 := Lib.hid (HY_7.out.drew.below hb); have HV_8 := Lib.hid (HV_7.out.drew.below hb); have HS_8 := Lib.hid (HS_7.out.drew.below hb); have HW_8 := Lib.hid (HW_7.out.drew.below hb); have HRa_8 := Lib.hid (HRa.out.drew.below hb); have HRc_8 := Lib.hid (HRc.out.drew.below hb); have HP_8 := Lib.hid (HP.out.drew.below hb); have BB_8 := Lib.hid (BB_7.out.trans ((It.bdrew0' hb).mono BB_7.out.size)); obtain ⟨c0_0_8, c0_0_8d, c0_1_8, c0_1_8d⟩ := bc2 KB0_8.out; obtain ⟨c1_0_8, c1_0_8d, c1_1_8, c1_1_8d⟩ := bc2 KB1_8.out; obtain ⟨c2_0_8, c2_0_8d, c2_1_8, c2_1_8d, c2_2_8, c2_2_8d⟩ := bc3 KB2_8.out; obtain ⟨c3_0_8, c3_0_8d, c3_1_8, c3_1_8d, c3_2_8, c3_2_8d⟩ := bc3 KB3_8.out; have x0_8 := keepCell hb x0_7d; have x0_8d := drewCell x0_8; have x1_8 := keepCell hb x1_7d; have x1_8d := drewCell x1_8; have x2_8 := keepCell hb x2_7d; have x2_8d := drewCell x2_8; have x3_8 := keepCell hb x3_7d; have x3_8d := drewCell x3_8; have x4_8 := keepCell hb x4_7d; have x4_8d := drewCell x4_8; have x5_8 := keepCell hb x5_7d; have x5_8d := drewCell x5_8; clear hb)
                | fail)
            cases hw : cheapTo cost rows y j
            · go_wp2_with fail
              refine wp_region_noPanic ?_
              refine wp_region_held_drew (S := fun w' => w'.cell? ⟨pb, 0, none⟩ = some (.slice (some ⟨bC, 0, none⟩) nC cC) ∧ w'.cell? ⟨pb, 1, none⟩ = some (.slice R nR cR) ∧ w'.cell? ⟨bS, j * 3, none⟩ = some (.bool ga) ∧ w'.cell? ⟨bS, j * 3 + 1, none⟩ = some (.slice Aa ma ca) ∧ w'.cell? ⟨bS, j * 3 + 2, none⟩ = some (.slice Da mda cda) ∧ w'.cell? ⟨bC, j * 3, none⟩ = some (.bool gc) ∧ w'.cell? ⟨bC, j * 3 + 1, none⟩ = some (.slice Ac mc cc) ∧ w'.cell? ⟨bC, j * 3 + 2, none⟩ = some (.slice Dc mdc cdc)) (by kernel_rfl) ?_ (fun hHeld => ?_)
              · (((try go_split_ands); (try simp only [World.cell?_drew]); (repeat' apply And.intro) <;> (repeat (first | with_reducible assumption | with_reducible refine cell_set (by omega) ?_ | with_reducible refine cell_al ?_))))
              refine wpAnyH_take (i := 0) (v := ?_) rfl (by kernel_rfl) (by kernel_rfl) (by kernel_rfl) (fun _ _ _ h => h) (Or.inl ⟨by rfl, ?_⟩) hHeld ?_
              rotate_left
              · ((intro w hSw; (try dsimp only at hSw); go_simp); (try with_reducible rfl))
              try simp only [Act.put, List.setIfInBounds_toArray, List.set_cons_zero, List.set_cons_succ, List.getElem_toArray, List.getElem_cons_zero, List.getElem_cons_succ]
              refine wpAnyH_take (i := 1) (v := ?_) rfl (by kernel_rfl) (by kernel_rfl) (by kernel_rfl) (fun _ _ _ h => h) (Or.inl ⟨by rfl, ?_⟩) hHeld ?_
              rotate_left
              · ((intro w hSw; (try dsimp only at hSw); go_simp); (try with_reducible rfl))
              try simp only [Act.put, List.setIfInBounds_toArray, List.set_cons_zero, List.set_cons_succ, List.getElem_toArray, List.getElem_cons_zero, List.getElem_cons_succ]
              refine wpAnyH_take (i := 2) (v := undef) rfl (by kernel_rfl) (by kernel_rfl) (by kernel_rfl) (fun _ _ _ h => h) (Or.inr ⟨by rfl, rfl⟩) hHeld ?_
              try simp only [Act.put, List.setIfInBounds_toArray, List.set_cons_zero, List.set_cons_succ, List.getElem_toArray, List.getElem_cons_zero, List.getElem_cons_succ]
              refine wpAnyH_take (i := 3) (v := undef) rfl (by kernel_rfl) (by kernel_rfl) (by kernel_rfl) (fun _ _ _ h => h) (Or.inr ⟨by rfl, rfl⟩) hHeld ?_
              try simp only [Act.put, List.setIfInBounds_toArray, List.set_cons_zero, List.set_cons_succ, List.getElem_toArray, List.getElem_cons_zero, List.getElem_cons_succ]
              refine wpAnyH_take (i := 4) (v := undef) rfl (by kernel_rfl) (by kernel_rfl) (by kernel_rfl) (fun _ _ _ h => h) (Or.inr ⟨by rfl, rfl⟩) hHeld ?_
              try simp only [Act.put, List.setIfInBounds_toArray, List.set_cons_zero, List.set_cons_succ, List.getElem_toArray, List.getElem_cons_zero, List.getElem_cons_succ]
              refine wpAnyH_take (i := 5) (v := undef) rfl (by kernel_rfl) (by kernel_rfl) (by kernel_rfl) (fun _ _ _ h => h) (Or.inr ⟨by rfl, rfl⟩) hHeld ?_
              try simp only [Act.put, List.setIfInBounds_toArray, List.set_cons_zero, List.set_cons_succ, List.getElem_toArray, List.getElem_cons_zero, List.getElem_cons_succ]
              refine wpAnyH_take (i := 6) (v := undef) rfl (by kernel_rfl) (by kernel_rfl) (by kernel_rfl) (fun _ _ _ h => h) (Or.inr ⟨by rfl, rfl⟩) hHeld ?_
              try simp only [Act.put, List.setIfInBounds_toArray, List.set_cons_zero, List.set_cons_succ, List.getElem_toArray, List.getElem_cons_zero, List.getElem_cons_succ]
              refine wpAnyH_take (i := 7) (v := undef) rfl (by kernel_rfl) (by kernel_rfl) (by kernel_rfl) (fun _ _ _ h => h) (Or.inr ⟨by rfl, rfl⟩) hHeld ?_
              try simp only [Act.put, List.setIfInBounds_toArray, List.set_cons_zero, List.set_cons_succ, List.getElem_toArray, List.getElem_cons_zero, List.getElem_cons_succ]
              refine wpAnyH_take (i := 8) (v := undef) rfl (by kernel_rfl) (by kernel_rfl) (by kernel_rfl) (fun _ _ _ h => h) (Or.inr ⟨by rfl, rfl⟩) hHeld ?_
              try simp only [Act.put, List.setIfInBounds_toArray, List.set_cons_zero, List.set_cons_succ, List.getElem_toArray, List.getElem_cons_zero, List.getElem_cons_succ]
              refine wpAnyH_take (i := 9) (v := undef) rfl (by kernel_rfl) (by kernel_rfl) (by kernel_rfl) (fun _ _ _ h => h) (Or.inr ⟨by rfl, rfl⟩) hHeld ?_
              try simp only [Act.put, List.setIfInBounds_toArray, List.set_cons_zero, List.set_cons_succ, List.getElem_toArray, List.getElem_cons_zero, List.getElem_cons_succ]
              refine wpAnyH_take (i := 10) (v := ?_) rfl (by kernel_rfl) (by kernel_rfl) (by kernel_rfl) (fun _ _ _ h => h) (Or.inl ⟨by rfl, ?_⟩) hHeld ?_
              rotate_left
              · ((intro w hSw; (try dsimp only at hSw); go_simp); (try with_reducible rfl))
              try simp only [Act.put, List.setIfInBounds_toArray, List.set_cons_zero, List.set_cons_succ, List.getElem_toArray, List.getElem_cons_zero, List.getElem_cons_succ]
              refine wpAnyH_take (i := 11) (v := ?_) rfl (by kernel_rfl) (by kernel_rfl) (by kernel_rfl) (fun _ _ _ h => h) (Or.inl ⟨by rfl, ?_⟩) hHeld ?_
              rotate_left
              · ((intro w hSw; (try dsimp only at hSw); go_simp); (try with_reducible rfl))
              try simp only [Act.put, List.setIfInBounds_toArray, List.set_cons_zero, List.set_cons_succ, List.getElem_toArray, List.getElem_cons_zero, List.getElem_cons_succ]
              refine wpAnyH_done (by kernel_rfl) ?_ _
              refine NoPanic.normal ?_
              have HF := Lib.hid (show cheapTo cost rows y (j + 1) = false by rw [HCS.out, hw]; rfl)
              go_wp2
              go_roundw
              case rel => exact ⟨j + 1, by go_num, by omega, by rw [HF.out], HW_8.out.drew.b⟩
              case measure => simp [intOf]; omega
            · go_wp2_with fail
              go_region_held3 (fun w' => w'.cell? ⟨pb, 0, none⟩ = some (.slice (some ⟨bC, 0, none⟩) nC cC) ∧ w'.cell? ⟨pb, 1, none⟩ = some (.slice R nR cR) ∧ w'.cell? ⟨wr.heap.size, 0, none⟩ = some (.bool gt) ∧ w'.cell? ⟨wr.heap.size, 1, none⟩ = some (.slice At mt ct) ∧ w'.cell? ⟨wr.heap.size, 2, none⟩ = some (.slice Dt mdt cdt) ∧ w'.cell? ⟨bS, j * 3, none⟩ = some (.bool ga) ∧ w'.cell? ⟨bS, j * 3 + 1, none⟩ = some (.slice Aa ma ca) ∧ w'.cell? ⟨bS, j * 3 + 2, none⟩ = some (.slice Da mda cda) ∧ w'.cell? ⟨bC, j * 3, none⟩ = some (.bool gc) ∧ w'.cell? ⟨bC, j * 3 + 1, none⟩ = some (.slice Ac mc cc) ∧ w'.cell? ⟨bC, j * 3 + 2, none⟩ = some (.slice Dc mdc cdc))
                (((try go_split_ands); (try simp only [World.cell?_drew]); (repeat' apply And.intro) <;> (repeat (first | with_reducible assumption | with_reducible refine cell_set (by omega) ?_ | with_reducible refine cell_al ?_))))
                (first
                  | (go_at_call 13; (with_reducible refine (Rt.cmpr gt At mt ct Dt mdt cdt (tj rows y j nR) gc Ac mc cc Dc mdc cdc c _ HP_8.out.drew HRc_8.out.drew L2.out).mono ?_); rintro e v3 ⟨rfl, hb⟩; have KB0_9 := Lib.hid (keepBlk hb KB0_8.out); have KB1_9 := Lib.hid (keepBlk hb KB1_8.out); have KB2_9 := Lib.hid (keepBlk hb KB2_8.out); have KB3_9 := Lib.hid (keepBlk hb KB3_8.out); have HC_9 := Lib.hid (HC_8.out.drew.below hb); have HR_9 := Lib.hid (HR_8.out.drew.below hb); have HX_9 := Lib.hid (HX_8.out.drew.below hb); have HY_9 := Lib.hid (HY_8.out.drew.below hb); have HV_9 := Lib.hid (HV_8.out.drew.below hb); have HS_9 := Lib.hid (HS_8.out.drew.below hb); have HW_9 := Lib.hid (HW_8.out.drew.below hb); have HRa_9 := Lib.hid (HRa_8.out.drew.below hb); have HRc_9 := Lib.hid (HRc_8.out.drew.below hb); have HP_9 := Lib.hid (HP_8.out.drew.below hb); have BB_9 := Lib.hid (BB_8.out.trans ((It.bdrew0' hb).mono BB_8.out.size)); obtain ⟨c0_0_9, c0_0_9d, c0_1_9, c0_1_9d⟩ := bc2 KB0_9.out; obtain ⟨c1_0_9, c1_0_9d, c1_1_9, c1_1_9d⟩ := bc2 KB1_9.out; obtain ⟨c2_0_9, c2_0_9d, c2_1_9, c2_1_9d, c2_2_9, c2_2_9d⟩ := bc3 KB2_9.out; obtain ⟨c3_0_9, c3_0_9d, c3_1_9, c3_1_9d, c3_2_9, c3_2_9d⟩ := bc3 KB3_9.out; have x0_9 := keepCell hb x0_8d; have x0_9d := drewCell x0_9; have x1_9 := keepCell hb x1_8d; have x1_9d := drewCell x1_9; have x2_9 := keepCell hb x2_8d; have x2_9d := drewCell x2_9; have x3_9 := keepCell hb x3_8d; have x3_9d := drewCell x3_9; have x4_9 := keepCell hb x4_8d; have x4_9d := drewCell x4_9; have x5_9 := keepCell hb x5_8d; have x5_9d := drewCell x5_9; clear hb)
                  | fail)
              have HF := Lib.hid (show cheapTo cost rows y (j + 1) = decide (cmpR (tj rows y j nR) c ≤ 0) by rw [HCS.out, hw, Bool.true_and]; exact (decide_eq_decide.2 (cmpR_le _ _)).symm)
              go_wp2
              go_roundw
              case rel => exact ⟨j + 1, by go_num, by omega, by rw [HF.out], HW_9.out.b⟩
              case measure => simp [intOf]; omega
      · obtain rfl : nC = j := by omega
        have KB0_6 := Lib.hid (keepBlk hB KB0_5.out)
        have KB1_6 := Lib.hid (keepBlk hB KB1_5.out)
        have KB2_6 := Lib.hid (keepBlk hB KB2_5.out)
        have HC_6 := Lib.hid (HC_5.out.below hB)
        have HR_6 := Lib.hid (HR_5.out.below hB)
        have HX_6 := Lib.hid (HX_5.out.below hB)
        have HY_6 := Lib.hid (HY_5.out.below hB)
        have HV_6 := Lib.hid (HV.out.below hB)
        have HS_6 := Lib.hid (HS.out.below hB)
        have BB_6 := Lib.hid (BB_5.out.trans ((hB).mono BB_5.out.size))
        obtain ⟨c0_0_6, c0_0_6d, c0_1_6, c0_1_6d⟩ := bc2 KB0_6.out
        obtain ⟨c1_0_6, c1_0_6d, c1_1_6, c1_1_6d⟩ := bc2 KB1_6.out
        obtain ⟨c2_0_6, c2_0_6d, c2_1_6, c2_1_6d, c2_2_6, c2_2_6d⟩ := bc3 KB2_6.out
        clear hB
        go_wp2
        go_loopw [15, 20] (fun wv kv wz => ∃ (k : Nat) (gt : Bool) (At : Option Addr) (mt ct : Nat) (Dt : Option Addr) (mdt cdt : Nat), kv = .int .i64 k ∧ k ≤ nR ∧ wv = .bool (cheapTo cost rows y nC && signedTo rows y k) ∧ wz.heap[wr.heap.size]? = some (.cells #[.bool gt, .slice At mt ct, .slice Dt mdt cdt] 40 (0, 0)) ∧ RatS wz gt (.slice At mt ct) (.slice Dt mdt cdt) (sbTo y rows k) ∧ Below wr.heap.size wr wz)
          (fun _ kv _ => nR - (intOf kv).toNat)
        case atStart => exact ⟨0, _, _, _, _, _, _, _, rfl, Nat.zero_le _, by cases cheapTo cost rows y nC <;> rfl, blk_new _ _ _, RatS.zero _, below_alloc wr _⟩
        case round =>
          rename World => wz
          obtain ⟨k, gt, At, mt, ct, Dt, mdt, cdt, rfl, hk, rfl, hbox, hP, hB⟩ := hrel
          by_cases hkl : k < nR
          · obtain ⟨p, hp⟩ : ∃ p, rows[k]? = some p := ⟨rows[k]'(by rw [← HLR.out]; exact hkl), List.getElem?_eq_getElem _⟩
            obtain ⟨q, hq⟩ : ∃ q, y[k]? = some q := ⟨y[k]'(by rw [HL.out, ← HLR.out]; exact hkl), List.getElem?_eq_getElem _⟩
            obtain ⟨bR, rfl, hbR0, hbR1⟩ := (HR_6.out).has (by omega)
            obtain ⟨bY, rfl, hbY0, hbY1⟩ := (HY_6.out).has (by omega)
            obtain ⟨Q, nq, cq, g, A0, m0, c0, D0, md0, cd0, k0, k1, k2, k3, k4, hvq, hrh⟩ := (HR_6.out).at_ hp
            obtain ⟨gb, Ab, mb, cb, Db, mdb, cdb, l0, l1, l2, hRb⟩ := (HY_6.out).at_ hq
            have HPR := Lib.hid (HG.out.rw_ p (List.mem_of_getElem? hp))
            have HPK := Lib.hid (HG.out.kd p (List.mem_of_getElem? hp))
            have HQZ := Lib.hid (HSY.out q (List.mem_of_getElem? hq))
            have HP1 := Lib.hid hp
            have HQ1 := Lib.hid hq
            generalize hkd : p.kind = kd at k1
            have HKD := Lib.hid hkd
            have HCL := Lib.hid (And.intro l0 (And.intro l1 (And.intro l2 k1)))
            have HRB0 := Lib.hid hRb
            have KB0_7 := Lib.hid (keepBlk hB KB0_6.out)
            have KB1_7 := Lib.hid (keepBlk hB KB1_6.out)
            have KB2_7 := Lib.hid (keepBlk hB KB2_6.out)
            have HC_7 := Lib.hid (HC_6.out.below hB)
            have HR_7 := Lib.hid (HR_6.out.below hB)
            have HX_7 := Lib.hid (HX_6.out.below hB)
            have HY_7 := Lib.hid (HY_6.out.below hB)
            have HV_7 := Lib.hid (HV_6.out.below hB)
            have HS_7 := Lib.hid (HS_6.out.below hB)
            have HRb := Lib.hid (show RatS wz gb (.slice Ab mb cb) (.slice Db mdb cdb) q from (hRb.below hB))
            have HRH := Lib.hid (show RatS wz g (.slice A0 m0 c0) (.slice D0 md0 cd0) p.rhs from (hrh.below hB))
            have HP := Lib.hid (show RatS wz gt (.slice At mt ct) (.slice Dt mdt cdt) (sbTo y rows k) from hP)
            have HW2 := Lib.hid (show Bel wr wz from Bel.mk hB)
            have BB_7 := Lib.hid (BB_6.out.trans ((hB).mono BB_6.out.size))
            obtain ⟨c0_0_7, c0_0_7d, c0_1_7, c0_1_7d⟩ := bc2 KB0_7.out
            obtain ⟨c1_0_7, c1_0_7d, c1_1_7, c1_1_7d⟩ := bc2 KB1_7.out
            obtain ⟨c2_0_7, c2_0_7d, c2_1_7, c2_1_7d, c2_2_7, c2_2_7d⟩ := bc3 KB2_7.out
            have x0_7 : wz.cell? ⟨bY, k * 3, none⟩ = some (.bool gb) := keepCell hB l0
            have x0_7d := drewCell x0_7
            have x1_7 : wz.cell? ⟨bY, k * 3 + 1, none⟩ = some (.slice Ab mb cb) := keepCell hB l1
            have x1_7d := drewCell x1_7
            have x2_7 : wz.cell? ⟨bY, k * 3 + 2, none⟩ = some (.slice Db mdb cdb) := keepCell hB l2
            have x2_7d := drewCell x2_7
            have x3_7 : wz.cell? ⟨bR, k * 5 + 1, none⟩ = some (.int .i64 kd) := keepCell hB k1
            have x3_7d := drewCell x3_7
            have x4_7 : wz.cell? ⟨bR, k * 5 + 2, none⟩ = some (.bool g) := keepCell hB k2
            have x4_7d := drewCell x4_7
            have x5_7 : wz.cell? ⟨bR, k * 5 + 3, none⟩ = some (.slice A0 m0 c0) := keepCell hB k3
            have x5_7d := drewCell x5_7
            have x6_7 : wz.cell? ⟨bR, k * 5 + 4, none⟩ = some (.slice D0 md0 cd0) := keepCell hB k4
            have x6_7d := drewCell x6_7
            have KBO := Lib.hid hbox
            obtain ⟨c0_0_7, c0_0_7d, c0_1_7, c0_1_7d⟩ := bc2 KB0_7.out
            obtain ⟨c1_0_7, c1_0_7d, c1_1_7, c1_1_7d⟩ := bc2 KB1_7.out
            obtain ⟨c2_0_7, c2_0_7d, c2_1_7, c2_1_7d, c2_2_7, c2_2_7d⟩ := bc3 KB2_7.out
            obtain ⟨c3_0_7, c3_0_7d, fc3_0_7, fc3_0_7d, c3_1_7, c3_1_7d, fc3_1_7, fc3_1_7d, c3_2_7, c3_2_7d, fc3_2_7, fc3_2_7d⟩ := bf3 KBO.out
            have x0_7 := keepCell hB l0
            have x0_7d := drewCell x0_7
            have x1_7 := keepCell hB l1
            have x1_7d := drewCell x1_7
            have x2_7 := keepCell hB l2
            have x2_7d := drewCell x2_7
            have x3_7 := keepCell hB k1
            have x3_7d := drewCell x3_7
            have x4_7 := keepCell hB k2
            have x4_7d := drewCell x4_7
            have x5_7 := keepCell hB k3
            have x5_7d := drewCell x5_7
            have x6_7 := keepCell hB k4
            have x6_7d := drewCell x6_7
            have HSS := Lib.hid (sbTo_succ (ys := y) hp hq)
            have HTM := Lib.hid (mw_sbTo HG.out.rw_ HSY.out k)
            have L1 := Lib.hid (show 4 * (mw q + mw p.rhs) + 8 ≤ LIM by have := HQZ.out; have := HPR.out.2.2; have := LIM_eq; omega)
            have L2 := Lib.hid (show 4 * (mw (sbTo y rows k) + mw (q * p.rhs)) + 8 ≤ LIM by have := HQZ.out; have := HPR.out.2.2; have := LIM_eq; have := mw_mul q p.rhs; have := HTM.out; have := HB4.out.2; omega)
            have HSG := Lib.hid (show signedTo rows y (k + 1) = (signedTo rows y k && signB p q) by unfold signedTo; rw [List.range_succ, List.all_append, List.all_cons, getD_of hp, el_of hq]; simp)
            have hzp : pb < wr.heap.size := (Array.getElem?_eq_some_iff.1 KB1_6.out).1
            clear hbox hP hB hp hq hvq hrh hRb hkd k0 k1 k2 k3 k4 l0 l1 l2
            have hi1 : (0 : Int) ≤ (k : Int) := Int.natCast_nonneg _
            have hi2 : (k : Int) < (nR : Int) := by omega
            have hzb := HW2.out.b.size
            go_wp2_with fail
            go_cut [] (fun wy => ∃ (g5 : Bool) (A5 : Option Addr) (m5 c5 : Nat) (D5 : Option Addr) (md5 cd5 : Nat), wy.heap[wr.heap.size]? = some (.cells #[.bool g5, .slice A5 m5 c5, .slice D5 md5 cd5] 40 (0, 0)) ∧ RatS wy g5 (.slice A5 m5 c5) (.slice D5 md5 cd5) (sbTo y rows (k + 1)) ∧ Below wr.heap.size wr wy)
            case first =>
              refine wp_region_E (S := fun w' => w'.cell? ⟨pb, 0, none⟩ = some (.slice C nC cC) ∧ w'.cell? ⟨pb, 1, none⟩ = some (.slice (some ⟨bR, 0, none⟩) nR cR) ∧ w'.cell? ⟨wr.heap.size, 0, none⟩ = some (.bool gt) ∧ w'.cell? ⟨wr.heap.size, 1, none⟩ = some (.slice At mt ct) ∧ w'.cell? ⟨wr.heap.size, 2, none⟩ = some (.slice Dt mdt cdt) ∧ w'.cell? ⟨bY, k * 3, none⟩ = some (.bool gb) ∧ w'.cell? ⟨bY, k * 3 + 1, none⟩ = some (.slice Ab mb cb) ∧ w'.cell? ⟨bY, k * 3 + 2, none⟩ = some (.slice Db mdb cdb) ∧ w'.cell? ⟨bR, k * 5 + 1, none⟩ = some (.int .i64 kd) ∧ w'.cell? ⟨bR, k * 5 + 2, none⟩ = some (.bool g) ∧ w'.cell? ⟨bR, k * 5 + 3, none⟩ = some (.slice A0 m0 c0) ∧ w'.cell? ⟨bR, k * 5 + 4, none⟩ = some (.slice D0 md0 cd0)) 13 (by kernel_rfl) ?_ (fun hHeld => ?_)
              · (((try go_split_ands); (try simp only [World.cell?_drew]); (repeat' apply And.intro) <;> (repeat (first | with_reducible assumption | with_reducible refine cell_set (by omega) ?_ | with_reducible refine cell_al ?_))))
              refine wpAnyE_take (i := 0) (v := ?_) rfl (by kernel_rfl) (fun _ _ _ h => h) (Or.inl ⟨by rfl, ?_⟩) hHeld ?_
              rotate_left
              · ((intro w hSw; (try dsimp only at hSw); go_simp); (try with_reducible rfl))
              try simp only [Act.put, List.setIfInBounds_toArray, List.set_cons_zero, List.set_cons_succ, List.getElem_toArray, List.getElem_cons_zero, List.getElem_cons_succ]
              refine wpAnyE_take (i := 1) (v := ?_) rfl (by kernel_rfl) (fun _ _ _ h => h) (Or.inl ⟨by rfl, ?_⟩) hHeld ?_
              rotate_left
              · ((intro w hSw; (try dsimp only at hSw); go_simp); (try with_reducible rfl))
              try simp only [Act.put, List.setIfInBounds_toArray, List.set_cons_zero, List.set_cons_succ, List.getElem_toArray, List.getElem_cons_zero, List.getElem_cons_succ]
              refine wpAnyE_take (i := 2) (v := ?_) rfl (by kernel_rfl) (fun _ _ _ h => h) (Or.inl ⟨by rfl, ?_⟩) hHeld ?_
              rotate_left
              · ((intro w hSw; (try dsimp only at hSw); go_simp); (try with_reducible rfl))
              try simp only [Act.put, List.setIfInBounds_toArray, List.set_cons_zero, List.set_cons_succ, List.getElem_toArray, List.getElem_cons_zero, List.getElem_cons_succ]
              refine wpAnyE_take (i := 3) (v := ?_) rfl (by kernel_rfl) (fun _ _ _ h => h) (Or.inl ⟨by rfl, ?_⟩) hHeld ?_
              rotate_left
              · ((intro w hSw; (try dsimp only at hSw); go_simp); (try with_reducible rfl))
              try simp only [Act.put, List.setIfInBounds_toArray, List.set_cons_zero, List.set_cons_succ, List.getElem_toArray, List.getElem_cons_zero, List.getElem_cons_succ]
              refine wpAnyE_take (i := 4) (v := ?_) rfl (by kernel_rfl) (fun _ _ _ h => h) (Or.inl ⟨by rfl, ?_⟩) hHeld ?_
              rotate_left
              · ((intro w hSw; (try dsimp only at hSw); go_simp); (try with_reducible rfl))
              try simp only [Act.put, List.setIfInBounds_toArray, List.set_cons_zero, List.set_cons_succ, List.getElem_toArray, List.getElem_cons_zero, List.getElem_cons_succ]
              refine wpAnyE_take (i := 5) (v := ?_) rfl (by kernel_rfl) (fun _ _ _ h => h) (Or.inl ⟨by rfl, ?_⟩) hHeld ?_
              rotate_left
              · ((intro w hSw; (try dsimp only at hSw); go_simp); (try with_reducible rfl))
              try simp only [Act.put, List.setIfInBounds_toArray, List.set_cons_zero, List.set_cons_succ, List.getElem_toArray, List.getElem_cons_zero, List.getElem_cons_succ]
              refine wpAnyE_take (i := 6) (v := ?_) rfl (by kernel_rfl) (fun _ _ _ h => h) (Or.inl ⟨by rfl, ?_⟩) hHeld ?_
              rotate_left
              · ((intro w hSw; (try dsimp only at hSw); go_simp); (try with_reducible rfl))
              try simp only [Act.put, List.setIfInBounds_toArray, List.set_cons_zero, List.set_cons_succ, List.getElem_toArray, List.getElem_cons_zero, List.getElem_cons_succ]
              refine wpAnyE_take (i := 7) (v := ?_) rfl (by kernel_rfl) (fun _ _ _ h => h) (Or.inl ⟨by rfl, ?_⟩) hHeld ?_
              rotate_left
              · ((intro w hSw; (try dsimp only at hSw); go_simp); (try with_reducible rfl))
              try simp only [Act.put, List.setIfInBounds_toArray, List.set_cons_zero, List.set_cons_succ, List.getElem_toArray, List.getElem_cons_zero, List.getElem_cons_succ]
              refine wpAnyE_take (i := 8) (v := ?_) rfl (by kernel_rfl) (fun _ _ _ h => h) (Or.inl ⟨by rfl, ?_⟩) hHeld ?_
              rotate_left
              · ((intro w hSw; (try dsimp only at hSw); go_simp); (try with_reducible rfl))
              try simp only [Act.put, List.setIfInBounds_toArray, List.set_cons_zero, List.set_cons_succ, List.getElem_toArray, List.getElem_cons_zero, List.getElem_cons_succ]
              refine wpAnyE_take (i := 9) (v := ?_) rfl (by kernel_rfl) (fun _ _ _ h => h) (Or.inl ⟨by rfl, ?_⟩) hHeld ?_
              rotate_left
              · ((intro w hSw; (try dsimp only at hSw); go_simp); (try with_reducible rfl))
              try simp only [Act.put, List.setIfInBounds_toArray, List.set_cons_zero, List.set_cons_succ, List.getElem_toArray, List.getElem_cons_zero, List.getElem_cons_succ]
              refine wpAnyE_take (i := 10) (v := ?_) rfl (by kernel_rfl) (fun _ _ _ h => h) (Or.inl ⟨by rfl, ?_⟩) hHeld ?_
              rotate_left
              · ((intro w hSw; (try dsimp only at hSw); go_simp); (try with_reducible rfl))
              try simp only [Act.put, List.setIfInBounds_toArray, List.set_cons_zero, List.set_cons_succ, List.getElem_toArray, List.getElem_cons_zero, List.getElem_cons_succ]
              refine wpAnyE_one (i := 11) rfl (by kernel_rfl) (fun K hK => ?_)
              go_simp
              (go_at_call 11; (with_reducible refine (Rt.mul gb Ab mb cb Db mdb cdb q g A0 m0 c0 D0 md0 cd0 p.rhs _ HRb.out.drew HRH.out.drew L1.out).mono ?_); rintro e v1 ⟨g4, A4, m4, c4, D4, md4, cd4, rfl, hn, hb⟩; have KB0_8 := Lib.hid (keepBlk hb KB0_7.out); have KB1_8 := Lib.hid (keepBlk hb KB1_7.out); have KB2_8 := Lib.hid (keepBlk hb KB2_7.out); have KB3_8 := Lib.hid (keepBlk hb KBO.out); have HC_8 := Lib.hid (HC_7.out.drew.below hb); have HR_8 := Lib.hid (HR_7.out.drew.below hb); have HX_8 := Lib.hid (HX_7.out.drew.below hb); have HY_8 := Lib.hid (HY_7.out.drew.below hb); have HV_8 := Lib.hid (HV_7.out.drew.below hb); have HS_8 := Lib.hid (HS_7.out.drew.below hb); have HRb_8 := Lib.hid (HRb.out.drew.below hb); have HRH_8 := Lib.hid (HRH.out.drew.below hb); have HP_8 := Lib.hid (HP.out.drew.below hb); have HW2_8 := Lib.hid (HW2.out.drew.below hb); have HM := Lib.hid (show RatS v1 g4 (.slice A4 m4 c4) (.slice D4 md4 cd4) (q * p.rhs) from hn); have BB_8 := Lib.hid (BB_7.out.trans ((It.bdrew0' hb).mono BB_7.out.size)); obtain ⟨c0_0_8, c0_0_8d, c0_1_8, c0_1_8d⟩ := bc2 KB0_8.out; obtain ⟨c1_0_8, c1_0_8d, c1_1_8, c1_1_8d⟩ := bc2 KB1_8.out; obtain ⟨c2_0_8, c2_0_8d, c2_1_8, c2_1_8d, c2_2_8, c2_2_8d⟩ := bc3 KB2_8.out; obtain ⟨c3_0_8, c3_0_8d, fc3_0_8, fc3_0_8d, c3_1_8, c3_1_8d, fc3_1_8, fc3_1_8d, c3_2_8, c3_2_8d, fc3_2_8, fc3_2_8d⟩ := bf3 KB3_8.out; have x0_8 := keepCell hb x0_7d; have x0_8d := drewCell x0_8; have x1_8 := keepCell hb x1_7d; have x1_8d := drewCell x1_8; have x2_8 := keepCell hb x2_7d; have x2_8d := drewCell x2_8; have x3_8 := keepCell hb x3_7d; have x3_8d := drewCell x3_8; have x4_8 := keepCell hb x4_7d; have x4_8d := drewCell x4_8; have x5_8 := keepCell hb x5_7d; have x5_8d := drewCell x5_8; have x6_8 := keepCell hb x6_7d; have x6_8d := drewCell x6_8; clear hn hb)
              (try go_wp2_with fail)
              refine hK.out _ _ ?_ (fun hHeld => ?_)
              · (((try go_split_ands); (try simp only [World.cell?_drew]); (repeat' apply And.intro) <;> (repeat (first | with_reducible assumption | with_reducible refine cell_set (by omega) ?_ | with_reducible refine cell_al ?_))))
              clear hK K
              try simp only [Act.put, List.setIfInBounds_toArray, List.set_cons_zero, List.set_cons_succ, List.getElem_toArray, List.getElem_cons_zero, List.getElem_cons_succ]
              refine wpAnyE_one (i := 12) rfl (by kernel_rfl) (fun K hK => ?_)
              go_simp
              (go_at_call 10; (with_reducible refine (Rt.add gt At mt ct Dt mdt cdt (sbTo y rows k) g4 A4 m4 c4 D4 md4 cd4 (q * p.rhs) _ HP_8.out HM.out L2.out).mono ?_); rintro e v2 ⟨g5, A5, m5, c5, D5, md5, cd5, rfl, hn, hb⟩; have KB0_9 := Lib.hid (keepBlk hb KB0_8.out); have KB1_9 := Lib.hid (keepBlk hb KB1_8.out); have KB2_9 := Lib.hid (keepBlk hb KB2_8.out); have KB3_9 := Lib.hid (keepBlk hb KB3_8.out); have HC_9 := Lib.hid (HC_8.out.below hb); have HR_9 := Lib.hid (HR_8.out.below hb); have HX_9 := Lib.hid (HX_8.out.below hb); have HY_9 := Lib.hid (HY_8.out.below hb); have HV_9 := Lib.hid (HV_8.out.below hb); have HS_9 := Lib.hid (HS_8.out.below hb); have HRb_9 := Lib.hid (HRb_8.out.below hb); have HRH_9 := Lib.hid (HRH_8.out.below hb); have HP_9 := Lib.hid (HP_8.out.below hb); have HW2_9 := Lib.hid (HW2_8.out.below hb); have HM_9 := Lib.hid (HM.out.below hb); have HT := Lib.hid (show RatS v2 g5 (.slice A5 m5 c5) (.slice D5 md5 cd5) (sbTo y rows k + q * p.rhs) from hn); have BB_9 := Lib.hid (BB_8.out.trans ((hb).mono BB_8.out.size)); obtain ⟨c0_0_9, c0_0_9d, c0_1_9, c0_1_9d⟩ := bc2 KB0_9.out; obtain ⟨c1_0_9, c1_0_9d, c1_1_9, c1_1_9d⟩ := bc2 KB1_9.out; obtain ⟨c2_0_9, c2_0_9d, c2_1_9, c2_1_9d, c2_2_9, c2_2_9d⟩ := bc3 KB2_9.out; obtain ⟨c3_0_9, c3_0_9d, fc3_0_9, fc3_0_9d, c3_1_9, c3_1_9d, fc3_1_9, fc3_1_9d, c3_2_9, c3_2_9d, fc3_2_9, fc3_2_9d⟩ := bf3 KB3_9.out; have x0_9 := keepCell hb x0_8; have x0_9d := drewCell x0_9; have x1_9 := keepCell hb x1_8; have x1_9d := drewCell x1_9; have x2_9 := keepCell hb x2_8; have x2_9d := drewCell x2_9; have x3_9 := keepCell hb x3_8; have x3_9d := drewCell x3_9; have x4_9 := keepCell hb x4_8; have x4_9d := drewCell x4_9; have x5_9 := keepCell hb x5_8; have x5_9d := drewCell x5_9; have x6_9 := keepCell hb x6_8; have x6_9d := drewCell x6_9; clear hn hb)
              (try go_wp2_with fail)
              refine hK.out _ _ ?_ (fun hHeld => ?_)
              · (((try go_split_ands); (try simp only [World.cell?_drew]); (repeat' apply And.intro) <;> (repeat (first | with_reducible assumption | with_reducible refine cell_set (by omega) ?_ | with_reducible refine cell_al ?_))))
              clear hK K
              try simp only [Act.put, List.setIfInBounds_toArray, List.set_cons_zero, List.set_cons_succ, List.getElem_toArray, List.getElem_cons_zero, List.getElem_cons_succ]
              refine wpAnyE_fin rfl (by kernel_rfl) (fun K hK => ?_)
              go_simp
              refine hK.out _ _ ?_
              clear hK K
              try simp only [Act.put, List.setIfInBounds_toArray, List.set_cons_zero, List.set_cons_succ, List.getElem_toArray, List.getElem_cons_zero, List.getElem_cons_succ]
              refine wpAnyE_done (by kernel_rfl) ?_ _
              all_goals
                go_wp2
                go_meet
                case rel => exact ⟨g5, A5, m5, c5, D5, md5, cd5, blk_set _ (blk_set _ (blk_set _ KB3_9.out)), by rw [HSS.out]; exact HT.out.set3 KB3_9.out (by decide) _ _ _, (Bel.set3 HW2_9.out (Nat.le_refl _) _ _ _).b⟩
            case rest =>
              obtain ⟨g5, A5, m5, c5, D5, md5, cd5, hbox, hP, hB⟩ := hcut
              rename World => wy
              have KB0_11 := Lib.hid (keepBlk hB KB0_6.out)
              have KB1_11 := Lib.hid (keepBlk hB KB1_6.out)
              have KB2_11 := Lib.hid (keepBlk hB KB2_6.out)
              have HC_11 := Lib.hid (HC_6.out.below hB)
              have HR_11 := Lib.hid (HR_6.out.below hB)
              have HX_11 := Lib.hid (HX_6.out.below hB)
              have HY_11 := Lib.hid (HY_6.out.below hB)
              have HV_11 := Lib.hid (HV_6.out.below hB)
              have HS_11 := Lib.hid (HS_6.out.below hB)
              have HRb := Lib.hid (show RatS wy gb (.slice Ab mb cb) (.slice Db mdb cdb) q from (HRB0.out.below hB))
              have HP := Lib.hid (show RatS wy g5 (.slice A5 m5 c5) (.slice D5 md5 cd5) (sbTo y rows (k + 1)) from hP)
              have HW2 := Lib.hid (show Bel wr wy from Bel.mk hB)
              have BB_11 := Lib.hid (BB_6.out.trans ((hB).mono BB_6.out.size))
              obtain ⟨c0_0_11, c0_0_11d, c0_1_11, c0_1_11d⟩ := bc2 KB0_11.out
              obtain ⟨c1_0_11, c1_0_11d, c1_1_11, c1_1_11d⟩ := bc2 KB1_11.out
              obtain ⟨c2_0_11, c2_0_11d, c2_1_11, c2_1_11d, c2_2_11, c2_2_11d⟩ := bc3 KB2_11.out
              have x0_11 : wy.cell? ⟨bY, k * 3, none⟩ = some (.bool gb) := keepCell hB HCL.out.1
              have x0_11d := drewCell x0_11
              have x1_11 : wy.cell? ⟨bY, k * 3 + 1, none⟩ = some (.slice Ab mb cb) := keepCell hB HCL.out.2.1
              have x1_11d := drewCell x1_11
              have x2_11 : wy.cell? ⟨bY, k * 3 + 2, none⟩ = some (.slice Db mdb cdb) := keepCell hB HCL.out.2.2.1
              have x2_11d := drewCell x2_11
              have x3_11 : wy.cell? ⟨bR, k * 5 + 1, none⟩ = some (.int .i64 kd) := keepCell hB HCL.out.2.2.2
              have x3_11d := drewCell x3_11
              have KBO := Lib.hid hbox
              obtain ⟨c0_0_11, c0_0_11d, c0_1_11, c0_1_11d⟩ := bc2 KB0_11.out
              obtain ⟨c1_0_11, c1_0_11d, c1_1_11, c1_1_11d⟩ := bc2 KB1_11.out
              obtain ⟨c2_0_11, c2_0_11d, c2_1_11, c2_1_11d, c2_2_11, c2_2_11d⟩ := bc3 KB2_11.out
              obtain ⟨c3_0_11, c3_0_11d, c3_1_11, c3_1_11d, c3_2_11, c3_2_11d⟩ := bc3 KBO.out
              have x0_11 := keepCell hB HCL.out.1
              have x0_11d := drewCell x0_11
              have x1_11 := keepCell hB HCL.out.2.1
              have x1_11d := drewCell x1_11
              have x2_11 := keepCell hB HCL.out.2.2.1
              have x2_11d := drewCell x2_11
              have x3_11 := keepCell hB HCL.out.2.2.2
              have x3_11d := drewCell x3_11
              clear hbox hP hB
              cases hw : (cheapTo cost rows y nC && signedTo rows y k)
              · have HW0 := Lib.hid hw
                have HF := Lib.hid (show (cheapTo cost rows y nC && signedTo rows y (k + 1)) = false by rw [HSG.out, ← Bool.and_assoc, HW0.out]; rfl)
                go_wp2
                go_roundw
                case rel => exact ⟨k + 1, g5, A5, m5, c5, D5, md5, cd5, by go_num, by omega, by rw [HF.out], KBO.out, HP.out, HW2.out.b⟩
                case measure => simp [intOf]; omega
              · have HW0 := Lib.hid hw
                by_cases h1 : kd = 1
                · subst h1
                  go_wp2_with fail
                  with_reducible refine (Rt.sign gb Ab mb cb Db mdb cdb q _ HRb.out).mono ?_
                  rintro e v3 ⟨rfl, hb⟩
                  have KB0_12 := Lib.hid (keepBlk hb KB0_11.out)
                  have KB1_12 := Lib.hid (keepBlk hb KB1_11.out)
                  have KB2_12 := Lib.hid (keepBlk hb KB2_11.out)
                  have KB3_12 := Lib.hid (keepBlk hb KBO.out)
                  have HC_12 := Lib.hid (HC_11.out.below hb)
                  have HR_12 := Lib.hid (HR_11.out.below hb)
                  have HX_12 := Lib.hid (HX_11.out.below hb)
                  have HY_12 := Lib.hid (HY_11.out.below hb)
                  have HV_12 := Lib.hid (HV_11.out.below hb)
                  have HS_12 := Lib.hid (HS_11.out.below hb)
                  have HRb_12 := Lib.hid (HRb.out.below hb)
                  have HP_12 := Lib.hid (HP.out.below hb)
                  have HW2_12 := Lib.hid (HW2.out.below hb)
                  have BB_12 := Lib.hid (BB_11.out.trans ((hb).mono BB_11.out.size))
                  obtain ⟨c0_0_12, c0_0_12d, c0_1_12, c0_1_12d⟩ := bc2 KB0_12.out
                  obtain ⟨c1_0_12, c1_0_12d, c1_1_12, c1_1_12d⟩ := bc2 KB1_12.out
                  obtain ⟨c2_0_12, c2_0_12d, c2_1_12, c2_1_12d, c2_2_12, c2_2_12d⟩ := bc3 KB2_12.out
                  obtain ⟨c3_0_12, c3_0_12d, c3_1_12, c3_1_12d, c3_2_12, c3_2_12d⟩ := bc3 KB3_12.out
                  have x0_12 := keepCell hb x0_11
                  have x0_12d := drewCell x0_12
                  have x1_12 := keepCell hb x1_11
                  have x1_12d := drewCell x1_12
                  have x2_12 := keepCell hb x2_11
                  have x2_12d := drewCell x2_12
                  have x3_12 := keepCell hb x3_11
                  have x3_12d := drewCell x3_12
                  clear hb
                  by_cases hs : 0 < q
                  · have hs1 : decide (0 < q.num) = true := decide_eq_true ((num_pos q).2 hs)
                    have hs2 : decide (0 < q.num.sign) = true := decide_eq_true ((sign_pos q).2 hs)
                    have HSQ := Lib.hid hs
                    clear hs
                    have HF := Lib.hid (show (cheapTo cost rows y nC && signedTo rows y (k + 1)) = false by rw [HSG.out, ← Bool.and_assoc, HW0.out, Bool.true_and, signB_one HKD.out, decide_eq_true HSQ.out]; rfl)
                    go_wp2
                    go_roundw
                    case rel => exact ⟨k + 1, g5, A5, m5, c5, D5, md5, cd5, by go_num, by omega, by rw [HF.out], KB3_12.out, HP_12.out, HW2_12.out.b⟩
                    case measure => simp [intOf]; omega
                  · have hs1 : decide (0 < q.num) = false := decide_eq_false fun h => hs ((num_pos q).1 h)
                    have hs2 : decide (0 < q.num.sign) = false := decide_eq_false fun h => hs ((sign_pos q).1 h)
                    have HSQ := Lib.hid hs
                    clear hs
                    have HF := Lib.hid (show (cheapTo cost rows y nC && signedTo rows y (k + 1)) = true by rw [HSG.out, ← Bool.and_assoc, HW0.out, Bool.true_and, signB_one HKD.out, decide_eq_false HSQ.out]; rfl)
                    go_wp2
                    go_roundw
                    case rel => exact ⟨k + 1, g5, A5, m5, c5, D5, md5, cd5, by go_num, by omega, by rw [HF.out], KB3_12.out, HP_12.out, HW2_12.out.b⟩
                    case measure => simp [intOf]; omega
                · by_cases h2 : kd = 2
                  · subst h2
                    go_wp2_with fail
                    with_reducible refine (Rt.sign gb Ab mb cb Db mdb cdb q _ HRb.out).mono ?_
                    rintro e v3 ⟨rfl, hb⟩
                    have KB0_12 := Lib.hid (keepBlk hb KB0_11.out)
                    have KB1_12 := Lib.hid (keepBlk hb KB1_11.out)
                    have KB2_12 := Lib.hid (keepBlk hb KB2_11.out)
                    have KB3_12 := Lib.hid (keepBlk hb KBO.out)
                    have HC_12 := Lib.hid (HC_11.out.below hb)
                    have HR_12 := Lib.hid (HR_11.out.below hb)
                    have HX_12 := Lib.hid (HX_11.out.below hb)
                    have HY_12 := Lib.hid (HY_11.out.below hb)
                    have HV_12 := Lib.hid (HV_11.out.below hb)
                    have HS_12 := Lib.hid (HS_11.out.below hb)
                    have HRb_12 := Lib.hid (HRb.out.below hb)
                    have HP_12 := Lib.hid (HP.out.below hb)
                    have HW2_12 := Lib.hid (HW2.out.below hb)
                    have BB_12 := Lib.hid (BB_11.out.trans ((hb).mono BB_11.out.size))
                    obtain ⟨c0_0_12, c0_0_12d, c0_1_12, c0_1_12d⟩ := bc2 KB0_12.out
                    obtain ⟨c1_0_12, c1_0_12d, c1_1_12, c1_1_12d⟩ := bc2 KB1_12.out
                    obtain ⟨c2_0_12, c2_0_12d, c2_1_12, c2_1_12d, c2_2_12, c2_2_12d⟩ := bc3 KB2_12.out
                    obtain ⟨c3_0_12, c3_0_12d, c3_1_12, c3_1_12d, c3_2_12, c3_2_12d⟩ := bc3 KB3_12.out
                    have x0_12 := keepCell hb x0_11
                    have x0_12d := drewCell x0_12
                    have x1_12 := keepCell hb x1_11
                    have x1_12d := drewCell x1_12
                    have x2_12 := keepCell hb x2_11
                    have x2_12d := drewCell x2_12
                    have x3_12 := keepCell hb x3_11
                    have x3_12d := drewCell x3_12
                    clear hb
                    by_cases hs : q < 0
                    · have hs1 : decide (q.num < 0) = true := decide_eq_true ((num_neg q).2 hs)
                      have hs2 : decide (q.num.sign < 0) = true := decide_eq_true ((sign_neg q).2 hs)
                      have HSQ := Lib.hid hs
                      clear hs
                      have HF := Lib.hid (show (cheapTo cost rows y nC && signedTo rows y (k + 1)) = false by rw [HSG.out, ← Bool.and_assoc, HW0.out, Bool.true_and, signB_two HKD.out, decide_eq_true HSQ.out]; rfl)
                      go_wp2
                      go_roundw
                      case rel => exact ⟨k + 1, g5, A5, m5, c5, D5, md5, cd5, by go_num, by omega, by rw [HF.out], KB3_12.out, HP_12.out, HW2_12.out.b⟩
                      case measure => simp [intOf]; omega
                    · have hs1 : decide (q.num < 0) = false := decide_eq_false fun h => hs ((num_neg q).1 h)
                      have hs2 : decide (q.num.sign < 0) = false := decide_eq_false fun h => hs ((sign_neg q).1 h)
                      have HSQ := Lib.hid hs
                      clear hs
                      have HF := Lib.hid (show (cheapTo cost rows y nC && signedTo rows y (k + 1)) = true by rw [HSG.out, ← Bool.and_assoc, HW0.out, Bool.true_and, signB_two HKD.out, decide_eq_false HSQ.out]; rfl)
                      go_wp2
                      go_roundw
                      case rel => exact ⟨k + 1, g5, A5, m5, c5, D5, md5, cd5, by go_num, by omega, by rw [HF.out], KB3_12.out, HP_12.out, HW2_12.out.b⟩
                      case measure => simp [intOf]; omega
                  · have hk1 : (kd == 1) = false := by simp [h1]
                    have hk2 : (kd == 2) = false := by simp [h2]
                    have HK1 := Lib.hid h1
                    have HK2 := Lib.hid h2
                    clear h1 h2
                    have HF := Lib.hid (show (cheapTo cost rows y nC && signedTo rows y (k + 1)) = true by rw [HSG.out, ← Bool.and_assoc, HW0.out, Bool.true_and, signB_else (by rw [HKD.out]; exact HK1.out) (by rw [HKD.out]; exact HK2.out)])
                    go_wp2
                    go_roundw
                    case rel => exact ⟨k + 1, g5, A5, m5, c5, D5, md5, cd5, by go_num, by omega, by rw [HF.out], KBO.out, HP.out, HW2.out.b⟩
                    case measure => simp [intOf]; omega
          · obtain rfl : nR = k := by omega
            generalize hwt : (cheapTo cost rows y nC && signedTo rows y nR) = wt at *
            have HWT := Lib.hid (show boundsB nC cost rows y = wt by rw [bounds_cheap HG.out.rw_ HLC.out.symm, ← HLR.out]; exact hwt)
            have KB0_7 := Lib.hid (keepBlk hB KB0_6.out)
            have KB1_7 := Lib.hid (keepBlk hB KB1_6.out)
            have KB2_7 := Lib.hid (keepBlk hB KB2_6.out)
            have HC_7 := Lib.hid (HC_6.out.below hB)
            have HR_7 := Lib.hid (HR_6.out.below hB)
            have HX_7 := Lib.hid (HX_6.out.below hB)
            have HY_7 := Lib.hid (HY_6.out.below hB)
            have HV_7 := Lib.hid (HV_6.out.below hB)
            have HS_7 := Lib.hid (HS_6.out.below hB)
            have HP := Lib.hid (show RatS wz gt (.slice At mt ct) (.slice Dt mdt cdt) (sbTo y rows nR) from hP)
            have BB_7 := Lib.hid (BB_6.out.trans ((hB).mono BB_6.out.size))
            obtain ⟨c0_0_7, c0_0_7d, c0_1_7, c0_1_7d⟩ := bc2 KB0_7.out
            obtain ⟨c1_0_7, c1_0_7d, c1_1_7, c1_1_7d⟩ := bc2 KB1_7.out
            obtain ⟨c2_0_7, c2_0_7d, c2_1_7, c2_1_7d, c2_2_7, c2_2_7d⟩ := bc3 KB2_7.out
            have KBO := Lib.hid hbox
            obtain ⟨c0_0_7, c0_0_7d, c0_1_7, c0_1_7d⟩ := bc2 KB0_7.out
            obtain ⟨c1_0_7, c1_0_7d, c1_1_7, c1_1_7d⟩ := bc2 KB1_7.out
            obtain ⟨c2_0_7, c2_0_7d, c2_1_7, c2_1_7d, c2_2_7, c2_2_7d⟩ := bc3 KB2_7.out
            obtain ⟨c3_0_7, c3_0_7d, c3_1_7, c3_1_7d, c3_2_7, c3_2_7d⟩ := bc3 KBO.out
            have HSB := Lib.hid (show sb y rows = sbTo y rows nR by rw [HLR.out]; rfl)
            have HMB := Lib.hid (mw_sb HG.out.rw_ HSY.out (by rw [← HLR.out]; exact HG.out.hr))
            have L1 := Lib.hid (show 4 * (mw (sb y rows) + mw (sbTo y rows nR)) + 8 ≤ LIM by rw [← HSB.out]; have := HMB.out; have := LIM_eq; omega)
            have L2 := Lib.hid (show 4 * (mw (sb y rows) + mw (sb y rows)) + 8 ≤ LIM by have := HMB.out; have := LIM_eq; omega)
            clear hwt hbox hP hB
            cases wt
            · go_wp2_with fail
              with_reducible refine (Ct.bounds_nope C nC cC R nR cR cost rows Y2 nR cy y _ HC_7.out HR_7.out HY_7.out HL.out HG.out HSY.out HLC.out.symm HWT.out).mono ?_
              rintro e v5 ⟨g6, A6, m6, c6, D6, md6, cd6, rfl, hn, hb⟩
              have KB0_8 := Lib.hid (show (v5.alloc (.cells #[.bool g6, .slice A6 m6 c6, .slice D6 md6 cd6] 40)).heap[w.heap.size]? = some (.cells #[.slice A nA cA, .slice L nL cL] 25 (0, 0)) from blk_al (keepBlk hb KB0_7.out))
              have KB1_8 := Lib.hid (show (v5.alloc (.cells #[.bool g6, .slice A6 m6 c6, .slice D6 md6 cd6] 40)).heap[pb]? = some (.cells #[.slice C nC cC, .slice R nR cR] 31 (0, 0)) from blk_al (keepBlk hb KB1_7.out))
              have KB2_8 := Lib.hid (show (v5.alloc (.cells #[.bool g6, .slice A6 m6 c6, .slice D6 md6 cd6] 40)).heap[bb]? = some (.cells #[.bool g2, .slice A2 m2 c2, .slice D2 md2 cd2] 40 (0, 0)) from blk_al (keepBlk hb KB2_7.out))
              have KB3_8 := Lib.hid (show (v5.alloc (.cells #[.bool g6, .slice A6 m6 c6, .slice D6 md6 cd6] 40)).heap[wr.heap.size]? = some (.cells #[.bool gt, .slice At mt ct, .slice Dt mdt cdt] 40 (0, 0)) from blk_al (keepBlk hb KBO.out))
              have HC_8 := Lib.hid (show VecS (v5.alloc (.cells #[.bool g6, .slice A6 m6 c6, .slice D6 md6 cd6] 40)) 0 (.slice C nC cC) cost from (HC_7.out.below hb).alloc _)
              have HR_8 := Lib.hid (show RowsS (v5.alloc (.cells #[.bool g6, .slice A6 m6 c6, .slice D6 md6 cd6] 40)) 0 (.slice R nR cR) rows from (HR_7.out.below hb).alloc _)
              have HX_8 := Lib.hid (show VecS (v5.alloc (.cells #[.bool g6, .slice A6 m6 c6, .slice D6 md6 cd6] 40)) 0 (.slice X2 nx cx) x from (HX_7.out.below hb).alloc _)
              have HY_8 := Lib.hid (show VecS (v5.alloc (.cells #[.bool g6, .slice A6 m6 c6, .slice D6 md6 cd6] 40)) 0 (.slice Y2 nR cy) y from (HY_7.out.below hb).alloc _)
              have HV_8 := Lib.hid (show VecS (v5.alloc (.cells #[.bool g6, .slice A6 m6 c6, .slice D6 md6 cd6] 40)) 0 (.slice S2 nC cs2) (sv nC y rows) from (HV_7.out.below hb).alloc _)
              have HS_8 := Lib.hid (show RatS (v5.alloc (.cells #[.bool g6, .slice A6 m6 c6, .slice D6 md6 cd6] 40)) g2 (.slice A2 m2 c2) (.slice D2 md2 cd2) (sb y rows) from (HS_7.out.below hb).alloc _)
              have HP_8 := Lib.hid (show RatS (v5.alloc (.cells #[.bool g6, .slice A6 m6 c6, .slice D6 md6 cd6] 40)) gt (.slice At mt ct) (.slice Dt mdt cdt) (sbTo y rows nR) from (HP.out.below hb).alloc _)
              have HB6 := Lib.hid (show RatS (v5.alloc (.cells #[.bool g6, .slice A6 m6 c6, .slice D6 md6 cd6] 40)) g6 (.slice A6 m6 c6) (.slice D6 md6 cd6) 0 from (hn).alloc _)
              have BB_8 := Lib.hid (show Below w.heap.size w (v5.alloc (.cells #[.bool g6, .slice A6 m6 c6, .slice D6 md6 cd6] 40)) from ((BB_7.out.trans ((hb).mono BB_7.out.size))).alloc ((BB_7.out.trans ((hb).mono BB_7.out.size))).size _)
              have KB4_8 := Lib.hid (show (v5.alloc (.cells #[.bool g6, .slice A6 m6 c6, .slice D6 md6 cd6] 40)).heap[v5.heap.size]? = some (.cells #[.bool g6, .slice A6 m6 c6, .slice D6 md6 cd6] 40 (0, 0)) from blk_nw (by simp))
              obtain ⟨c0_0_8, c0_0_8d, c0_1_8, c0_1_8d⟩ := bc2 KB0_8.out
              obtain ⟨c1_0_8, c1_0_8d, c1_1_8, c1_1_8d⟩ := bc2 KB1_8.out
              obtain ⟨c2_0_8, c2_0_8d, c2_1_8, c2_1_8d, c2_2_8, c2_2_8d⟩ := bc3 KB2_8.out
              obtain ⟨c3_0_8, c3_0_8d, c3_1_8, c3_1_8d, c3_2_8, c3_2_8d⟩ := bc3 KB3_8.out
              obtain ⟨c4_0_8, c4_0_8d, c4_1_8, c4_1_8d, c4_2_8, c4_2_8d⟩ := bc3 KB4_8.out
              clear hn hb
              go_wp2_with fail
              with_reducible refine (Pb.cost_any C nC cC R nR cR cost rows X2 nx cx x _ HC_8.out HR_8.out HX_8.out (Nat.le_trans HG.out.hc (by decide)) HG.out.sc HSX.out).mono ?_
              rintro e v6 ⟨cq, cb, ⟨g7, A7, m7, c7, D7, md7, cd7, rfl, hn, hb⟩, hcq⟩
              have KB0_9 := Lib.hid (show (v6.alloc (.cells #[.bool g7, .slice A7 m7 c7, .slice D7 md7 cd7] 40)).heap[w.heap.size]? = some (.cells #[.slice A nA cA, .slice L nL cL] 25 (0, 0)) from blk_al (keepBlk hb KB0_8.out))
              have KB1_9 := Lib.hid (show (v6.alloc (.cells #[.bool g7, .slice A7 m7 c7, .slice D7 md7 cd7] 40)).heap[pb]? = some (.cells #[.slice C nC cC, .slice R nR cR] 31 (0, 0)) from blk_al (keepBlk hb KB1_8.out))
              have KB2_9 := Lib.hid (show (v6.alloc (.cells #[.bool g7, .slice A7 m7 c7, .slice D7 md7 cd7] 40)).heap[bb]? = some (.cells #[.bool g2, .slice A2 m2 c2, .slice D2 md2 cd2] 40 (0, 0)) from blk_al (keepBlk hb KB2_8.out))
              have KB3_9 := Lib.hid (show (v6.alloc (.cells #[.bool g7, .slice A7 m7 c7, .slice D7 md7 cd7] 40)).heap[wr.heap.size]? = some (.cells #[.bool gt, .slice At mt ct, .slice Dt mdt cdt] 40 (0, 0)) from blk_al (keepBlk hb KB3_8.out))
              have KB4_9 := Lib.hid (show (v6.alloc (.cells #[.bool g7, .slice A7 m7 c7, .slice D7 md7 cd7] 40)).heap[v5.heap.size]? = some (.cells #[.bool g6, .slice A6 m6 c6, .slice D6 md6 cd6] 40 (0, 0)) from blk_al (keepBlk hb KB4_8.out))
              have HC_9 := Lib.hid (show VecS (v6.alloc (.cells #[.bool g7, .slice A7 m7 c7, .slice D7 md7 cd7] 40)) 0 (.slice C nC cC) cost from (HC_8.out.below hb).alloc _)
              have HR_9 := Lib.hid (show RowsS (v6.alloc (.cells #[.bool g7, .slice A7 m7 c7, .slice D7 md7 cd7] 40)) 0 (.slice R nR cR) rows from (HR_8.out.below hb).alloc _)
              have HX_9 := Lib.hid (show VecS (v6.alloc (.cells #[.bool g7, .slice A7 m7 c7, .slice D7 md7 cd7] 40)) 0 (.slice X2 nx cx) x from (HX_8.out.below hb).alloc _)
              have HY_9 := Lib.hid (show VecS (v6.alloc (.cells #[.bool g7, .slice A7 m7 c7, .slice D7 md7 cd7] 40)) 0 (.slice Y2 nR cy) y from (HY_8.out.below hb).alloc _)
              have HV_9 := Lib.hid (show VecS (v6.alloc (.cells #[.bool g7, .slice A7 m7 c7, .slice D7 md7 cd7] 40)) 0 (.slice S2 nC cs2) (sv nC y rows) from (HV_8.out.below hb).alloc _)
              have HS_9 := Lib.hid (show RatS (v6.alloc (.cells #[.bool g7, .slice A7 m7 c7, .slice D7 md7 cd7] 40)) g2 (.slice A2 m2 c2) (.slice D2 md2 cd2) (sb y rows) from (HS_8.out.below hb).alloc _)
              have HP_9 := Lib.hid (show RatS (v6.alloc (.cells #[.bool g7, .slice A7 m7 c7, .slice D7 md7 cd7] 40)) gt (.slice At mt ct) (.slice Dt mdt cdt) (sbTo y rows nR) from (HP_8.out.below hb).alloc _)
              have HB6_9 := Lib.hid (show RatS (v6.alloc (.cells #[.bool g7, .slice A7 m7 c7, .slice D7 md7 cd7] 40)) g6 (.slice A6 m6 c6) (.slice D6 md6 cd6) 0 from (HB6.out.below hb).alloc _)
              have BB_9 := Lib.hid (show Below w.heap.size w (v6.alloc (.cells #[.bool g7, .slice A7 m7 c7, .slice D7 md7 cd7] 40)) from ((BB_8.out.trans ((hb).mono BB_8.out.size))).alloc ((BB_8.out.trans ((hb).mono BB_8.out.size))).size _)
              have KB5_9 := Lib.hid (show (v6.alloc (.cells #[.bool g7, .slice A7 m7 c7, .slice D7 md7 cd7] 40)).heap[v6.heap.size]? = some (.cells #[.bool g7, .slice A7 m7 c7, .slice D7 md7 cd7] 40 (0, 0)) from blk_nw (by simp))
              obtain ⟨c0_0_9, c0_0_9d, c0_1_9, c0_1_9d⟩ := bc2 KB0_9.out
              obtain ⟨c1_0_9, c1_0_9d, c1_1_9, c1_1_9d⟩ := bc2 KB1_9.out
              obtain ⟨c2_0_9, c2_0_9d, c2_1_9, c2_1_9d, c2_2_9, c2_2_9d⟩ := bc3 KB2_9.out
              obtain ⟨c3_0_9, c3_0_9d, c3_1_9, c3_1_9d, c3_2_9, c3_2_9d⟩ := bc3 KB3_9.out
              obtain ⟨c4_0_9, c4_0_9d, c4_1_9, c4_1_9d, c4_2_9, c4_2_9d⟩ := bc3 KB4_9.out
              obtain ⟨c5_0_9, c5_0_9d, c5_1_9, c5_1_9d, c5_2_9, c5_2_9d⟩ := bc3 KB5_9.out
              clear hn hb hcq
              go_wp2_with fail
              with_reducible refine (Ct.same_yes g2 A2 m2 c2 D2 md2 cd2 (sb y rows) gt At mt ct Dt mdt cdt (sbTo y rows nR) _ HS_9.out HP_9.out L1.out HSB.out).mono ?_
              rintro e v7 ⟨rfl, hb⟩
              have KB0_10 := Lib.hid (keepBlk hb KB0_9.out)
              have KB1_10 := Lib.hid (keepBlk hb KB1_9.out)
              have KB2_10 := Lib.hid (keepBlk hb KB2_9.out)
              have KB3_10 := Lib.hid (keepBlk hb KB3_9.out)
              have KB4_10 := Lib.hid (keepBlk hb KB4_9.out)
              have KB5_10 := Lib.hid (keepBlk hb KB5_9.out)
              have HC_10 := Lib.hid (HC_9.out.below hb)
              have HR_10 := Lib.hid (HR_9.out.below hb)
              have HX_10 := Lib.hid (HX_9.out.below hb)
              have HY_10 := Lib.hid (HY_9.out.below hb)
              have HV_10 := Lib.hid (HV_9.out.below hb)
              have HS_10 := Lib.hid (HS_9.out.below hb)
              have HP_10 := Lib.hid (HP_9.out.below hb)
              have HB6_10 := Lib.hid (HB6_9.out.below hb)
              have BB_10 := Lib.hid (BB_9.out.trans ((hb).mono BB_9.out.size))
              obtain ⟨c0_0_10, c0_0_10d, c0_1_10, c0_1_10d⟩ := bc2 KB0_10.out
              obtain ⟨c1_0_10, c1_0_10d, c1_1_10, c1_1_10d⟩ := bc2 KB1_10.out
              obtain ⟨c2_0_10, c2_0_10d, c2_1_10, c2_1_10d, c2_2_10, c2_2_10d⟩ := bc3 KB2_10.out
              obtain ⟨c3_0_10, c3_0_10d, c3_1_10, c3_1_10d, c3_2_10, c3_2_10d⟩ := bc3 KB3_10.out
              obtain ⟨c4_0_10, c4_0_10d, c4_1_10, c4_1_10d, c4_2_10, c4_2_10d⟩ := bc3 KB4_10.out
              obtain ⟨c5_0_10, c5_0_10d, c5_1_10, c5_1_10d, c5_2_10, c5_2_10d⟩ := bc3 KB5_10.out
              clear hb
              go_wp2_with fail
              with_reducible refine (Rt.zero_is g6 A6 m6 c6 D6 md6 cd6 0 _ HB6_10.out true rfl).mono ?_
              rintro e v8 ⟨rfl, hb⟩
              have KB0_11 := Lib.hid (keepBlk hb KB0_10.out)
              have KB1_11 := Lib.hid (keepBlk hb KB1_10.out)
              have KB2_11 := Lib.hid (keepBlk hb KB2_10.out)
              have KB3_11 := Lib.hid (keepBlk hb KB3_10.out)
              have KB4_11 := Lib.hid (keepBlk hb KB4_10.out)
              have KB5_11 := Lib.hid (keepBlk hb KB5_10.out)
              have HC_11 := Lib.hid (HC_10.out.below hb)
              have HR_11 := Lib.hid (HR_10.out.below hb)
              have HX_11 := Lib.hid (HX_10.out.below hb)
              have HY_11 := Lib.hid (HY_10.out.below hb)
              have HV_11 := Lib.hid (HV_10.out.below hb)
              have HS_11 := Lib.hid (HS_10.out.below hb)
              have HP_11 := Lib.hid (HP_10.out.below hb)
              have HB6_11 := Lib.hid (HB6_10.out.below hb)
              have BB_11 := Lib.hid (BB_10.out.trans ((hb).mono BB_10.out.size))
              obtain ⟨c0_0_11, c0_0_11d, c0_1_11, c0_1_11d⟩ := bc2 KB0_11.out
              obtain ⟨c1_0_11, c1_0_11d, c1_1_11, c1_1_11d⟩ := bc2 KB1_11.out
              obtain ⟨c2_0_11, c2_0_11d, c2_1_11, c2_1_11d, c2_2_11, c2_2_11d⟩ := bc3 KB2_11.out
              obtain ⟨c3_0_11, c3_0_11d, c3_1_11, c3_1_11d, c3_2_11, c3_2_11d⟩ := bc3 KB3_11.out
              obtain ⟨c4_0_11, c4_0_11d, c4_1_11, c4_1_11d, c4_2_11, c4_2_11d⟩ := bc3 KB4_11.out
              obtain ⟨c5_0_11, c5_0_11d, c5_1_11, c5_1_11d, c5_2_11, c5_2_11d⟩ := bc3 KB5_11.out
              clear hb
              go_wp2
              go_ret
              exact ⟨rfl, BB_11.out⟩
            · go_wp2_with fail
              with_reducible refine (Ct.bounds_yes C nC cC R nR cR cost rows Y2 nR cy y _ HC_7.out HR_7.out HY_7.out HL.out HG.out HSY.out HLC.out.symm HWT.out).mono ?_
              rintro e v5 ⟨g6, A6, m6, c6, D6, md6, cd6, rfl, hn, hb⟩
              have KB0_8 := Lib.hid (show (v5.alloc (.cells #[.bool g6, .slice A6 m6 c6, .slice D6 md6 cd6] 40)).heap[w.heap.size]? = some (.cells #[.slice A nA cA, .slice L nL cL] 25 (0, 0)) from blk_al (keepBlk hb KB0_7.out))
              have KB1_8 := Lib.hid (show (v5.alloc (.cells #[.bool g6, .slice A6 m6 c6, .slice D6 md6 cd6] 40)).heap[pb]? = some (.cells #[.slice C nC cC, .slice R nR cR] 31 (0, 0)) from blk_al (keepBlk hb KB1_7.out))
              have KB2_8 := Lib.hid (show (v5.alloc (.cells #[.bool g6, .slice A6 m6 c6, .slice D6 md6 cd6] 40)).heap[bb]? = some (.cells #[.bool g2, .slice A2 m2 c2, .slice D2 md2 cd2] 40 (0, 0)) from blk_al (keepBlk hb KB2_7.out))
              have KB3_8 := Lib.hid (show (v5.alloc (.cells #[.bool g6, .slice A6 m6 c6, .slice D6 md6 cd6] 40)).heap[wr.heap.size]? = some (.cells #[.bool gt, .slice At mt ct, .slice Dt mdt cdt] 40 (0, 0)) from blk_al (keepBlk hb KBO.out))
              have HC_8 := Lib.hid (show VecS (v5.alloc (.cells #[.bool g6, .slice A6 m6 c6, .slice D6 md6 cd6] 40)) 0 (.slice C nC cC) cost from (HC_7.out.below hb).alloc _)
              have HR_8 := Lib.hid (show RowsS (v5.alloc (.cells #[.bool g6, .slice A6 m6 c6, .slice D6 md6 cd6] 40)) 0 (.slice R nR cR) rows from (HR_7.out.below hb).alloc _)
              have HX_8 := Lib.hid (show VecS (v5.alloc (.cells #[.bool g6, .slice A6 m6 c6, .slice D6 md6 cd6] 40)) 0 (.slice X2 nx cx) x from (HX_7.out.below hb).alloc _)
              have HY_8 := Lib.hid (show VecS (v5.alloc (.cells #[.bool g6, .slice A6 m6 c6, .slice D6 md6 cd6] 40)) 0 (.slice Y2 nR cy) y from (HY_7.out.below hb).alloc _)
              have HV_8 := Lib.hid (show VecS (v5.alloc (.cells #[.bool g6, .slice A6 m6 c6, .slice D6 md6 cd6] 40)) 0 (.slice S2 nC cs2) (sv nC y rows) from (HV_7.out.below hb).alloc _)
              have HS_8 := Lib.hid (show RatS (v5.alloc (.cells #[.bool g6, .slice A6 m6 c6, .slice D6 md6 cd6] 40)) g2 (.slice A2 m2 c2) (.slice D2 md2 cd2) (sb y rows) from (HS_7.out.below hb).alloc _)
              have HP_8 := Lib.hid (show RatS (v5.alloc (.cells #[.bool g6, .slice A6 m6 c6, .slice D6 md6 cd6] 40)) gt (.slice At mt ct) (.slice Dt mdt cdt) (sbTo y rows nR) from (HP.out.below hb).alloc _)
              have HB6 := Lib.hid (show RatS (v5.alloc (.cells #[.bool g6, .slice A6 m6 c6, .slice D6 md6 cd6] 40)) g6 (.slice A6 m6 c6) (.slice D6 md6 cd6) (sb y rows) from (hn).alloc _)
              have BB_8 := Lib.hid (show Below w.heap.size w (v5.alloc (.cells #[.bool g6, .slice A6 m6 c6, .slice D6 md6 cd6] 40)) from ((BB_7.out.trans ((hb).mono BB_7.out.size))).alloc ((BB_7.out.trans ((hb).mono BB_7.out.size))).size _)
              have KB4_8 := Lib.hid (show (v5.alloc (.cells #[.bool g6, .slice A6 m6 c6, .slice D6 md6 cd6] 40)).heap[v5.heap.size]? = some (.cells #[.bool g6, .slice A6 m6 c6, .slice D6 md6 cd6] 40 (0, 0)) from blk_nw (by simp))
              obtain ⟨c0_0_8, c0_0_8d, c0_1_8, c0_1_8d⟩ := bc2 KB0_8.out
              obtain ⟨c1_0_8, c1_0_8d, c1_1_8, c1_1_8d⟩ := bc2 KB1_8.out
              obtain ⟨c2_0_8, c2_0_8d, c2_1_8, c2_1_8d, c2_2_8, c2_2_8d⟩ := bc3 KB2_8.out
              obtain ⟨c3_0_8, c3_0_8d, c3_1_8, c3_1_8d, c3_2_8, c3_2_8d⟩ := bc3 KB3_8.out
              obtain ⟨c4_0_8, c4_0_8d, c4_1_8, c4_1_8d, c4_2_8, c4_2_8d⟩ := bc3 KB4_8.out
              clear hn hb
              go_wp2_with fail
              with_reducible refine (Pb.cost_any C nC cC R nR cR cost rows X2 nx cx x _ HC_8.out HR_8.out HX_8.out (Nat.le_trans HG.out.hc (by decide)) HG.out.sc HSX.out).mono ?_
              rintro e v6 ⟨cq, cb, ⟨g7, A7, m7, c7, D7, md7, cd7, rfl, hn, hb⟩, hcq⟩
              have KB0_9 := Lib.hid (show (v6.alloc (.cells #[.bool g7, .slice A7 m7 c7, .slice D7 md7 cd7] 40)).heap[w.heap.size]? = some (.cells #[.slice A nA cA, .slice L nL cL] 25 (0, 0)) from blk_al (keepBlk hb KB0_8.out))
              have KB1_9 := Lib.hid (show (v6.alloc (.cells #[.bool g7, .slice A7 m7 c7, .slice D7 md7 cd7] 40)).heap[pb]? = some (.cells #[.slice C nC cC, .slice R nR cR] 31 (0, 0)) from blk_al (keepBlk hb KB1_8.out))
              have KB2_9 := Lib.hid (show (v6.alloc (.cells #[.bool g7, .slice A7 m7 c7, .slice D7 md7 cd7] 40)).heap[bb]? = some (.cells #[.bool g2, .slice A2 m2 c2, .slice D2 md2 cd2] 40 (0, 0)) from blk_al (keepBlk hb KB2_8.out))
              have KB3_9 := Lib.hid (show (v6.alloc (.cells #[.bool g7, .slice A7 m7 c7, .slice D7 md7 cd7] 40)).heap[wr.heap.size]? = some (.cells #[.bool gt, .slice At mt ct, .slice Dt mdt cdt] 40 (0, 0)) from blk_al (keepBlk hb KB3_8.out))
              have KB4_9 := Lib.hid (show (v6.alloc (.cells #[.bool g7, .slice A7 m7 c7, .slice D7 md7 cd7] 40)).heap[v5.heap.size]? = some (.cells #[.bool g6, .slice A6 m6 c6, .slice D6 md6 cd6] 40 (0, 0)) from blk_al (keepBlk hb KB4_8.out))
              have HC_9 := Lib.hid (show VecS (v6.alloc (.cells #[.bool g7, .slice A7 m7 c7, .slice D7 md7 cd7] 40)) 0 (.slice C nC cC) cost from (HC_8.out.below hb).alloc _)
              have HR_9 := Lib.hid (show RowsS (v6.alloc (.cells #[.bool g7, .slice A7 m7 c7, .slice D7 md7 cd7] 40)) 0 (.slice R nR cR) rows from (HR_8.out.below hb).alloc _)
              have HX_9 := Lib.hid (show VecS (v6.alloc (.cells #[.bool g7, .slice A7 m7 c7, .slice D7 md7 cd7] 40)) 0 (.slice X2 nx cx) x from (HX_8.out.below hb).alloc _)
              have HY_9 := Lib.hid (show VecS (v6.alloc (.cells #[.bool g7, .slice A7 m7 c7, .slice D7 md7 cd7] 40)) 0 (.slice Y2 nR cy) y from (HY_8.out.below hb).alloc _)
              have HV_9 := Lib.hid (show VecS (v6.alloc (.cells #[.bool g7, .slice A7 m7 c7, .slice D7 md7 cd7] 40)) 0 (.slice S2 nC cs2) (sv nC y rows) from (HV_8.out.below hb).alloc _)
              have HS_9 := Lib.hid (show RatS (v6.alloc (.cells #[.bool g7, .slice A7 m7 c7, .slice D7 md7 cd7] 40)) g2 (.slice A2 m2 c2) (.slice D2 md2 cd2) (sb y rows) from (HS_8.out.below hb).alloc _)
              have HP_9 := Lib.hid (show RatS (v6.alloc (.cells #[.bool g7, .slice A7 m7 c7, .slice D7 md7 cd7] 40)) gt (.slice At mt ct) (.slice Dt mdt cdt) (sbTo y rows nR) from (HP_8.out.below hb).alloc _)
              have HB6_9 := Lib.hid (show RatS (v6.alloc (.cells #[.bool g7, .slice A7 m7 c7, .slice D7 md7 cd7] 40)) g6 (.slice A6 m6 c6) (.slice D6 md6 cd6) (sb y rows) from (HB6.out.below hb).alloc _)
              have HC7 := Lib.hid (show RatS (v6.alloc (.cells #[.bool g7, .slice A7 m7 c7, .slice D7 md7 cd7] 40)) g7 (.slice A7 m7 c7) (.slice D7 md7 cd7) cq from (hn).alloc _)
              have BB_9 := Lib.hid (show Below w.heap.size w (v6.alloc (.cells #[.bool g7, .slice A7 m7 c7, .slice D7 md7 cd7] 40)) from ((BB_8.out.trans ((hb).mono BB_8.out.size))).alloc ((BB_8.out.trans ((hb).mono BB_8.out.size))).size _)
              have KB5_9 := Lib.hid (show (v6.alloc (.cells #[.bool g7, .slice A7 m7 c7, .slice D7 md7 cd7] 40)).heap[v6.heap.size]? = some (.cells #[.bool g7, .slice A7 m7 c7, .slice D7 md7 cd7] 40 (0, 0)) from blk_nw (by simp))
              obtain ⟨c0_0_9, c0_0_9d, c0_1_9, c0_1_9d⟩ := bc2 KB0_9.out
              obtain ⟨c1_0_9, c1_0_9d, c1_1_9, c1_1_9d⟩ := bc2 KB1_9.out
              obtain ⟨c2_0_9, c2_0_9d, c2_1_9, c2_1_9d, c2_2_9, c2_2_9d⟩ := bc3 KB2_9.out
              obtain ⟨c3_0_9, c3_0_9d, c3_1_9, c3_1_9d, c3_2_9, c3_2_9d⟩ := bc3 KB3_9.out
              obtain ⟨c4_0_9, c4_0_9d, c4_1_9, c4_1_9d, c4_2_9, c4_2_9d⟩ := bc3 KB4_9.out
              obtain ⟨c5_0_9, c5_0_9d, c5_1_9, c5_1_9d, c5_2_9, c5_2_9d⟩ := bc3 KB5_9.out
              clear hn hb
              have HCQ := Lib.hid hcq
              clear hcq
              go_wp2_with fail
              with_reducible refine (Ct.same_yes g2 A2 m2 c2 D2 md2 cd2 (sb y rows) gt At mt ct Dt mdt cdt (sbTo y rows nR) _ HS_9.out HP_9.out L1.out HSB.out).mono ?_
              rintro e v7 ⟨rfl, hb⟩
              have KB0_10 := Lib.hid (keepBlk hb KB0_9.out)
              have KB1_10 := Lib.hid (keepBlk hb KB1_9.out)
              have KB2_10 := Lib.hid (keepBlk hb KB2_9.out)
              have KB3_10 := Lib.hid (keepBlk hb KB3_9.out)
              have KB4_10 := Lib.hid (keepBlk hb KB4_9.out)
              have KB5_10 := Lib.hid (keepBlk hb KB5_9.out)
              have HC_10 := Lib.hid (HC_9.out.below hb)
              have HR_10 := Lib.hid (HR_9.out.below hb)
              have HX_10 := Lib.hid (HX_9.out.below hb)
              have HY_10 := Lib.hid (HY_9.out.below hb)
              have HV_10 := Lib.hid (HV_9.out.below hb)
              have HS_10 := Lib.hid (HS_9.out.below hb)
              have HP_10 := Lib.hid (HP_9.out.below hb)
              have HB6_10 := Lib.hid (HB6_9.out.below hb)
              have HC7_10 := Lib.hid (HC7.out.below hb)
              have BB_10 := Lib.hid (BB_9.out.trans ((hb).mono BB_9.out.size))
              obtain ⟨c0_0_10, c0_0_10d, c0_1_10, c0_1_10d⟩ := bc2 KB0_10.out
              obtain ⟨c1_0_10, c1_0_10d, c1_1_10, c1_1_10d⟩ := bc2 KB1_10.out
              obtain ⟨c2_0_10, c2_0_10d, c2_1_10, c2_1_10d, c2_2_10, c2_2_10d⟩ := bc3 KB2_10.out
              obtain ⟨c3_0_10, c3_0_10d, c3_1_10, c3_1_10d, c3_2_10, c3_2_10d⟩ := bc3 KB3_10.out
              obtain ⟨c4_0_10, c4_0_10d, c4_1_10, c4_1_10d, c4_2_10, c4_2_10d⟩ := bc3 KB4_10.out
              obtain ⟨c5_0_10, c5_0_10d, c5_1_10, c5_1_10d, c5_2_10, c5_2_10d⟩ := bc3 KB5_10.out
              clear hb
              go_wp2_with fail
              with_reducible refine (Ct.same_yes g6 A6 m6 c6 D6 md6 cd6 (sb y rows) g2 A2 m2 c2 D2 md2 cd2 (sb y rows) _ HB6_10.out HS_10.out L2.out rfl).mono ?_
              rintro e v8 ⟨rfl, hb⟩
              have KB0_11 := Lib.hid (keepBlk hb KB0_10.out)
              have KB1_11 := Lib.hid (keepBlk hb KB1_10.out)
              have KB2_11 := Lib.hid (keepBlk hb KB2_10.out)
              have KB3_11 := Lib.hid (keepBlk hb KB3_10.out)
              have KB4_11 := Lib.hid (keepBlk hb KB4_10.out)
              have KB5_11 := Lib.hid (keepBlk hb KB5_10.out)
              have HC_11 := Lib.hid (HC_10.out.below hb)
              have HR_11 := Lib.hid (HR_10.out.below hb)
              have HX_11 := Lib.hid (HX_10.out.below hb)
              have HY_11 := Lib.hid (HY_10.out.below hb)
              have HV_11 := Lib.hid (HV_10.out.below hb)
              have HS_11 := Lib.hid (HS_10.out.below hb)
              have HP_11 := Lib.hid (HP_10.out.below hb)
              have HB6_11 := Lib.hid (HB6_10.out.below hb)
              have HC7_11 := Lib.hid (HC7_10.out.below hb)
              have BB_11 := Lib.hid (BB_10.out.trans ((hb).mono BB_10.out.size))
              obtain ⟨c0_0_11, c0_0_11d, c0_1_11, c0_1_11d⟩ := bc2 KB0_11.out
              obtain ⟨c1_0_11, c1_0_11d, c1_1_11, c1_1_11d⟩ := bc2 KB1_11.out
              obtain ⟨c2_0_11, c2_0_11d, c2_1_11, c2_1_11d, c2_2_11, c2_2_11d⟩ := bc3 KB2_11.out
              obtain ⟨c3_0_11, c3_0_11d, c3_1_11, c3_1_11d, c3_2_11, c3_2_11d⟩ := bc3 KB3_11.out
              obtain ⟨c4_0_11, c4_0_11d, c4_1_11, c4_1_11d, c4_2_11, c4_2_11d⟩ := bc3 KB4_11.out
              obtain ⟨c5_0_11, c5_0_11d, c5_1_11, c5_1_11d, c5_2_11, c5_2_11d⟩ := bc3 KB5_11.out
              clear hb
              go_wp2_with fail
              cases hfit : fitsB cost rows x
              · have HFT := Lib.hid hfit
                clear hfit
                with_reducible refine (Pb.fits_is C nC cC R nR cR cost rows X2 nx cx x _ HC_11.out HR_11.out HX_11.out (Nat.le_trans HG.out.hc (by decide)) HG.out.rw_ HSX.out (Nat.le_trans HG.out.hr (by decide)) false HFT.out).mono ?_
                rintro e v9 ⟨rfl, hb⟩
                have KB0_12 := Lib.hid (keepBlk hb KB0_11.out)
                have KB1_12 := Lib.hid (keepBlk hb KB1_11.out)
                have KB2_12 := Lib.hid (keepBlk hb KB2_11.out)
                have KB3_12 := Lib.hid (keepBlk hb KB3_11.out)
                have KB4_12 := Lib.hid (keepBlk hb KB4_11.out)
                have KB5_12 := Lib.hid (keepBlk hb KB5_11.out)
                have HC_12 := Lib.hid (HC_11.out.below hb)
                have HR_12 := Lib.hid (HR_11.out.below hb)
                have HX_12 := Lib.hid (HX_11.out.below hb)
                have HY_12 := Lib.hid (HY_11.out.below hb)
                have HV_12 := Lib.hid (HV_11.out.below hb)
                have HS_12 := Lib.hid (HS_11.out.below hb)
                have HP_12 := Lib.hid (HP_11.out.below hb)
                have HB6_12 := Lib.hid (HB6_11.out.below hb)
                have HC7_12 := Lib.hid (HC7_11.out.below hb)
                have BB_12 := Lib.hid (BB_11.out.trans ((hb).mono BB_11.out.size))
                obtain ⟨c0_0_12, c0_0_12d, c0_1_12, c0_1_12d⟩ := bc2 KB0_12.out
                obtain ⟨c1_0_12, c1_0_12d, c1_1_12, c1_1_12d⟩ := bc2 KB1_12.out
                obtain ⟨c2_0_12, c2_0_12d, c2_1_12, c2_1_12d, c2_2_12, c2_2_12d⟩ := bc3 KB2_12.out
                obtain ⟨c3_0_12, c3_0_12d, c3_1_12, c3_1_12d, c3_2_12, c3_2_12d⟩ := bc3 KB3_12.out
                obtain ⟨c4_0_12, c4_0_12d, c4_1_12, c4_1_12d, c4_2_12, c4_2_12d⟩ := bc3 KB4_12.out
                obtain ⟨c5_0_12, c5_0_12d, c5_1_12, c5_1_12d, c5_2_12, c5_2_12d⟩ := bc3 KB5_12.out
                clear hb
                go_wp2
                go_ret
                exact ⟨rfl, BB_12.out⟩
              · have HFT := Lib.hid hfit
                clear hfit
                have HXL := Lib.hid (fits_lens HFT.out)
                have HEQ := Lib.hid (HCQ.out HXL.out.symm)
                have HLE := Lib.hid (weak HG.out.rw_ HG.out.kd HLC.out.symm HWT.out HFT.out)
                have hle : decide (cmpR (sb y rows) cq ≤ 0) = true := decide_eq_true ((cmpR_le _ _).2 (by rw [HEQ.out]; exact HLE.out))
                have L3 := Lib.hid (show 4 * (mw (sb y rows) + mw cq) + 8 ≤ LIM by rw [HEQ.out]; have := HMB.out; have := mw_dot HG.out.sc HSX.out (by rw [← HLC.out]; exact Nat.le_trans HG.out.hc (by decide)); have := LIM_eq; omega)
                with_reducible refine (Pb.fits_is C nC cC R nR cR cost rows X2 nx cx x _ HC_11.out HR_11.out HX_11.out (Nat.le_trans HG.out.hc (by decide)) HG.out.rw_ HSX.out (Nat.le_trans HG.out.hr (by decide)) true HFT.out).mono ?_
                rintro e v9 ⟨rfl, hb⟩
                have KB0_12 := Lib.hid (keepBlk hb KB0_11.out)
                have KB1_12 := Lib.hid (keepBlk hb KB1_11.out)
                have KB2_12 := Lib.hid (keepBlk hb KB2_11.out)
                have KB3_12 := Lib.hid (keepBlk hb KB3_11.out)
                have KB4_12 := Lib.hid (keepBlk hb KB4_11.out)
                have KB5_12 := Lib.hid (keepBlk hb KB5_11.out)
                have HC_12 := Lib.hid (HC_11.out.below hb)
                have HR_12 := Lib.hid (HR_11.out.below hb)
                have HX_12 := Lib.hid (HX_11.out.below hb)
                have HY_12 := Lib.hid (HY_11.out.below hb)
                have HV_12 := Lib.hid (HV_11.out.below hb)
                have HS_12 := Lib.hid (HS_11.out.below hb)
                have HP_12 := Lib.hid (HP_11.out.below hb)
                have HB6_12 := Lib.hid (HB6_11.out.below hb)
                have HC7_12 := Lib.hid (HC7_11.out.below hb)
                have BB_12 := Lib.hid (BB_11.out.trans ((hb).mono BB_11.out.size))
                obtain ⟨c0_0_12, c0_0_12d, c0_1_12, c0_1_12d⟩ := bc2 KB0_12.out
                obtain ⟨c1_0_12, c1_0_12d, c1_1_12, c1_1_12d⟩ := bc2 KB1_12.out
                obtain ⟨c2_0_12, c2_0_12d, c2_1_12, c2_1_12d, c2_2_12, c2_2_12d⟩ := bc3 KB2_12.out
                obtain ⟨c3_0_12, c3_0_12d, c3_1_12, c3_1_12d, c3_2_12, c3_2_12d⟩ := bc3 KB3_12.out
                obtain ⟨c4_0_12, c4_0_12d, c4_1_12, c4_1_12d, c4_2_12, c4_2_12d⟩ := bc3 KB4_12.out
                obtain ⟨c5_0_12, c5_0_12d, c5_1_12, c5_1_12d, c5_2_12, c5_2_12d⟩ := bc3 KB5_12.out
                clear hb
                go_wp2_with fail
                with_reducible refine (Rt.cmpr g6 A6 m6 c6 D6 md6 cd6 (sb y rows) g7 A7 m7 c7 D7 md7 cd7 cq _ HB6_12.out HC7_12.out L3.out).mono ?_
                rintro e v10 ⟨rfl, hb⟩
                have KB0_13 := Lib.hid (keepBlk hb KB0_12.out)
                have KB1_13 := Lib.hid (keepBlk hb KB1_12.out)
                have KB2_13 := Lib.hid (keepBlk hb KB2_12.out)
                have KB3_13 := Lib.hid (keepBlk hb KB3_12.out)
                have KB4_13 := Lib.hid (keepBlk hb KB4_12.out)
                have KB5_13 := Lib.hid (keepBlk hb KB5_12.out)
                have HC_13 := Lib.hid (HC_12.out.below hb)
                have HR_13 := Lib.hid (HR_12.out.below hb)
                have HX_13 := Lib.hid (HX_12.out.below hb)
                have HY_13 := Lib.hid (HY_12.out.below hb)
                have HV_13 := Lib.hid (HV_12.out.below hb)
                have HS_13 := Lib.hid (HS_12.out.below hb)
                have HP_13 := Lib.hid (HP_12.out.below hb)
                have HB6_13 := Lib.hid (HB6_12.out.below hb)
                have HC7_13 := Lib.hid (HC7_12.out.below hb)
                have BB_13 := Lib.hid (BB_12.out.trans ((hb).mono BB_12.out.size))
                obtain ⟨c0_0_13, c0_0_13d, c0_1_13, c0_1_13d⟩ := bc2 KB0_13.out
                obtain ⟨c1_0_13, c1_0_13d, c1_1_13, c1_1_13d⟩ := bc2 KB1_13.out
                obtain ⟨c2_0_13, c2_0_13d, c2_1_13, c2_1_13d, c2_2_13, c2_2_13d⟩ := bc3 KB2_13.out
                obtain ⟨c3_0_13, c3_0_13d, c3_1_13, c3_1_13d, c3_2_13, c3_2_13d⟩ := bc3 KB3_13.out
                obtain ⟨c4_0_13, c4_0_13d, c4_1_13, c4_1_13d, c4_2_13, c4_2_13d⟩ := bc3 KB4_13.out
                obtain ⟨c5_0_13, c5_0_13d, c5_1_13, c5_1_13d, c5_2_13, c5_2_13d⟩ := bc3 KB5_13.out
                clear hb
                go_wp2
                go_ret
                exact ⟨rfl, BB_13.out⟩
  · have HL := Lib.hid (show y.length ≠ rows.length from by rw [← HLY.out, ← HLR.out]; exact hl)
    have hl0 : ¬ ((ny : Int) = (nR : Int)) := by omega
    have hl1 : ((ny : Int) == (nR : Int)) = false := by simpa using hl0
    with_reducible refine (Ct.sum_no C nC cC R nR cR cost rows Y2 ny cy y _ HC_4.out HR_4.out HY.out HL.out).mono ?_
    rintro e w5 ⟨S2, ns2, cs2, g2, A2, m2, c2, D2, md2, cd2, rfl, hv, hn, hb⟩
    have KB0_5 := Lib.hid (show (w5.alloc (.cells #[.bool g2, .slice A2 m2 c2, .slice D2 md2 cd2] 40)).heap[w.heap.size]? = some (.cells #[.slice A nA cA, .slice L nL cL] 25 (0, 0)) from blk_al (keepBlk hb KB0_4.out))
    have KB1_5 := Lib.hid (show (w5.alloc (.cells #[.bool g2, .slice A2 m2 c2, .slice D2 md2 cd2] 40)).heap[pb]? = some (.cells #[.slice C nC cC, .slice R nR cR] 31 (0, 0)) from blk_al (keepBlk hb KB1_4.out))
    have HC_5 := Lib.hid (show VecS (w5.alloc (.cells #[.bool g2, .slice A2 m2 c2, .slice D2 md2 cd2] 40)) 0 (.slice C nC cC) cost from (HC_4.out.below hb).alloc _)
    have HR_5 := Lib.hid (show RowsS (w5.alloc (.cells #[.bool g2, .slice A2 m2 c2, .slice D2 md2 cd2] 40)) 0 (.slice R nR cR) rows from (HR_4.out.below hb).alloc _)
    have HX_5 := Lib.hid (show VecS (w5.alloc (.cells #[.bool g2, .slice A2 m2 c2, .slice D2 md2 cd2] 40)) 0 (.slice X2 nx cx) x from (HX_4.out.below hb).alloc _)
    have HY_5 := Lib.hid (show VecS (w5.alloc (.cells #[.bool g2, .slice A2 m2 c2, .slice D2 md2 cd2] 40)) 0 (.slice Y2 ny cy) y from (HY.out.below hb).alloc _)
    have HS := Lib.hid (show RatS (w5.alloc (.cells #[.bool g2, .slice A2 m2 c2, .slice D2 md2 cd2] 40)) g2 (.slice A2 m2 c2) (.slice D2 md2 cd2) 0 from (hn).alloc _)
    have BB_5 := Lib.hid (show Below w.heap.size w (w5.alloc (.cells #[.bool g2, .slice A2 m2 c2, .slice D2 md2 cd2] 40)) from ((BB_4.out.trans ((hb).mono BB_4.out.size))).alloc ((BB_4.out.trans ((hb).mono BB_4.out.size))).size _)
    have KB2_5 := Lib.hid (show (w5.alloc (.cells #[.bool g2, .slice A2 m2 c2, .slice D2 md2 cd2] 40)).heap[w5.heap.size]? = some (.cells #[.bool g2, .slice A2 m2 c2, .slice D2 md2 cd2] 40 (0, 0)) from blk_nw (by simp))
    obtain ⟨c0_0_5, c0_0_5d, c0_1_5, c0_1_5d⟩ := bc2 KB0_5.out
    obtain ⟨c1_0_5, c1_0_5d, c1_1_5, c1_1_5d⟩ := bc2 KB1_5.out
    obtain ⟨c2_0_5, c2_0_5d, c2_1_5, c2_1_5d, c2_2_5, c2_2_5d⟩ := bc3 KB2_5.out
    obtain rfl : 0 = ns2 := hv.len.symm
    clear hv hn hb
    go_wp2_with fail
    with_reducible refine (Ct.bounds_no C nC cC R nR cR cost rows Y2 ny cy y _ HC_5.out HR_5.out HY_5.out HL.out).mono ?_
    rintro e w6 ⟨g3, A3, m3, c3, D3, md3, cd3, rfl, hn, hb⟩
    have KB0_6 := Lib.hid (show (w6.alloc (.cells #[.bool g3, .slice A3 m3 c3, .slice D3 md3 cd3] 40)).heap[w.heap.size]? = some (.cells #[.slice A nA cA, .slice L nL cL] 25 (0, 0)) from blk_al (keepBlk hb KB0_5.out))
    have KB1_6 := Lib.hid (show (w6.alloc (.cells #[.bool g3, .slice A3 m3 c3, .slice D3 md3 cd3] 40)).heap[pb]? = some (.cells #[.slice C nC cC, .slice R nR cR] 31 (0, 0)) from blk_al (keepBlk hb KB1_5.out))
    have KB2_6 := Lib.hid (show (w6.alloc (.cells #[.bool g3, .slice A3 m3 c3, .slice D3 md3 cd3] 40)).heap[w5.heap.size]? = some (.cells #[.bool g2, .slice A2 m2 c2, .slice D2 md2 cd2] 40 (0, 0)) from blk_al (keepBlk hb KB2_5.out))
    have HC_6 := Lib.hid (show VecS (w6.alloc (.cells #[.bool g3, .slice A3 m3 c3, .slice D3 md3 cd3] 40)) 0 (.slice C nC cC) cost from (HC_5.out.below hb).alloc _)
    have HR_6 := Lib.hid (show RowsS (w6.alloc (.cells #[.bool g3, .slice A3 m3 c3, .slice D3 md3 cd3] 40)) 0 (.slice R nR cR) rows from (HR_5.out.below hb).alloc _)
    have HX_6 := Lib.hid (show VecS (w6.alloc (.cells #[.bool g3, .slice A3 m3 c3, .slice D3 md3 cd3] 40)) 0 (.slice X2 nx cx) x from (HX_5.out.below hb).alloc _)
    have HY_6 := Lib.hid (show VecS (w6.alloc (.cells #[.bool g3, .slice A3 m3 c3, .slice D3 md3 cd3] 40)) 0 (.slice Y2 ny cy) y from (HY_5.out.below hb).alloc _)
    have HS_6 := Lib.hid (show RatS (w6.alloc (.cells #[.bool g3, .slice A3 m3 c3, .slice D3 md3 cd3] 40)) g2 (.slice A2 m2 c2) (.slice D2 md2 cd2) 0 from (HS.out.below hb).alloc _)
    have BB_6 := Lib.hid (show Below w.heap.size w (w6.alloc (.cells #[.bool g3, .slice A3 m3 c3, .slice D3 md3 cd3] 40)) from ((BB_5.out.trans ((hb).mono BB_5.out.size))).alloc ((BB_5.out.trans ((hb).mono BB_5.out.size))).size _)
    have KB3_6 := Lib.hid (show (w6.alloc (.cells #[.bool g3, .slice A3 m3 c3, .slice D3 md3 cd3] 40)).heap[w6.heap.size]? = some (.cells #[.bool g3, .slice A3 m3 c3, .slice D3 md3 cd3] 40 (0, 0)) from blk_nw (by simp))
    obtain ⟨c0_0_6, c0_0_6d, c0_1_6, c0_1_6d⟩ := bc2 KB0_6.out
    obtain ⟨c1_0_6, c1_0_6d, c1_1_6, c1_1_6d⟩ := bc2 KB1_6.out
    obtain ⟨c2_0_6, c2_0_6d, c2_1_6, c2_1_6d, c2_2_6, c2_2_6d⟩ := bc3 KB2_6.out
    obtain ⟨c3_0_6, c3_0_6d, c3_1_6, c3_1_6d, c3_2_6, c3_2_6d⟩ := bc3 KB3_6.out
    clear hn hb
    go_wp2_with fail
    with_reducible refine (Rt.zero_is g2 A2 m2 c2 D2 md2 cd2 0 _ HS_6.out true rfl).mono ?_
    rintro e w7 ⟨rfl, hb⟩
    have KB0_7 := Lib.hid (keepBlk hb KB0_6.out)
    have KB1_7 := Lib.hid (keepBlk hb KB1_6.out)
    have KB2_7 := Lib.hid (keepBlk hb KB2_6.out)
    have KB3_7 := Lib.hid (keepBlk hb KB3_6.out)
    have HC_7 := Lib.hid (HC_6.out.below hb)
    have HR_7 := Lib.hid (HR_6.out.below hb)
    have HX_7 := Lib.hid (HX_6.out.below hb)
    have HY_7 := Lib.hid (HY_6.out.below hb)
    have HS_7 := Lib.hid (HS_6.out.below hb)
    have BB_7 := Lib.hid (BB_6.out.trans ((hb).mono BB_6.out.size))
    obtain ⟨c0_0_7, c0_0_7d, c0_1_7, c0_1_7d⟩ := bc2 KB0_7.out
    obtain ⟨c1_0_7, c1_0_7d, c1_1_7, c1_1_7d⟩ := bc2 KB1_7.out
    obtain ⟨c2_0_7, c2_0_7d, c2_1_7, c2_1_7d, c2_2_7, c2_2_7d⟩ := bc3 KB2_7.out
    obtain ⟨c3_0_7, c3_0_7d, c3_1_7, c3_1_7d, c3_2_7, c3_2_7d⟩ := bc3 KB3_7.out
    clear hb
    go_wp2
    go_ret
    exact ⟨rfl, BB_7.out⟩
end Lw
end Go.Proofs.Ytohkhcbocknliaa
