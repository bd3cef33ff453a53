/- prob.Fits, certify.signed, prob.May by their contracts. Conditions: as each says. -/
import Derived.Test.YtohkhcbocknliaaProb2M
namespace Go.Proofs.Ytohkhcbocknliaa
set_option linter.unusedSimpArgs false
set_option linter.unusedVariables false
open Go.RowKit Am
attribute [local go_sem ↓] Go.wp_at_zero Go.wp_at_succ
set_option maxHeartbeats 4000000
set_option maxRecDepth 100000
/-- do numbers fit? -/
def fitsB (cost : List Rat) (rows : List PRow) (x : List Rat) : Bool := decide (x.length = cost.length) && !(x.any fun q => decide (q < 0)) && rows.all fun p => holdsB p x
/-- rows of n columns, small -/
abbrev Rows (n : Nat) (rows : List PRow) : Prop := ∀ p ∈ rows, p.coef.length = n ∧ Sm p.coef ∧ mw p.rhs ≤ 10000
theorem all_step {rows : List PRow} {k : Nat} {p : PRow} {f : PRow → Bool} (h : (rows.take k).all f = true) (hq : rows[k]? = some p) (hp : f p = true) : (rows.take (k + 1)).all f = true := by
  rw [List.take_add_one, List.all_append, h, hq]; simp [hp]
theorem all_found {rows : List PRow} {k : Nat} {p : PRow} {f : PRow → Bool} (hq : rows[k]? = some p) (hp : f p = false) : rows.all f = false := by
  rw [List.all_eq_false]; exact ⟨p, List.mem_of_getElem? hq, by simp [hp]⟩
theorem fits_len {cost x : List Rat} {rows : List PRow} (h : x.length ≠ cost.length) : fitsB cost rows x = false := by unfold fitsB; rw [decide_eq_false h]; rfl
theorem fits_neg {cost x : List Rat} {rows : List PRow} (h : (x.any fun q => decide (q < 0)) = true) : fitsB cost rows x = false := by unfold fitsB; rw [h]; simp
theorem fits_rows {cost x : List Rat} {rows : List PRow} (hl : x.length = cost.length) (h : (x.any fun q => decide (q < 0)) = false) : fitsB cost rows x = rows.all fun p => holdsB p x := by unfold fitsB; rw [h, decide_eq_true hl]; simp
namespace Pb
theorem fits_no (C : Option Addr) (nc cc : Nat) (R : Option Addr) (nr cr : Nat) (cost : List Rat) (rows : List PRow) (X : Option Addr) (nx cx : Nat) (x : List Rat) (w : World) (hc : VecS w 0 (.slice C nc cc) cost) (hr : RowsS w 0 (.slice R nr cr) rows) (hx : VecS w 0 (.slice X nx cx) x) (hl : x.length ≠ cost.length) :
    Calls Try.prog 16 #[.agg #[.slice C nc cc, .slice R nr cr], .slice X nx cx] w fun e w' => e = .returned (.bool (fitsB cost rows x)) ∧ Below w.heap.size w w' := by
  have h1 : ¬ ((nx : Int) = (nc : Int)) := by rw [hx.len, hc.len]; omega
  have h2 : ¬ (nx = nc) := by rw [hx.len, hc.len]; omega
  have HF := Lib.hid (fits_len (rows := rows) hl)
  obtain ⟨W, hW⟩ : ∃ W, (w.alloc (.cells #[.slice C nc cc, .slice R nr cr] 31)) = W := ⟨_, rfl⟩
  have KB0 := Lib.hid (show W.heap[w.heap.size]? = some (.cells #[.slice C nc cc, .slice R nr cr] 31 (0, 0)) by rw [← hW]; exact blk_nw (by simp))
  have BB := Lib.hid (show Below w.heap.size w W by rw [← hW]; exact below_alloc w _)
  have HZ := Lib.hid (show w.heap.size + 1 ≤ W.heap.size by rw [← hW]; simp)
  have HC := Lib.hid (show VecS W 0 (.slice C nc cc) cost by rw [← hW]; exact (hc).alloc _)
  have HX := Lib.hid (show VecS W 0 (.slice X nx cx) x by rw [← hW]; exact (hx).alloc _)
  have HR := Lib.hid (show RowsS W 0 (.slice R nr cr) rows by rw [← hW]; exact (hr).alloc _)
  obtain ⟨c0_0_0, c0_0_0d, c0_1_0, c0_1_0d⟩ := bc2 KB0.out
  clear hc hr hx hl
  go_enter Try.func16, Try.ntmps16
  go_wp2
  clear hW
  go_ret
  exact ⟨by rw [HF.out]; rfl, BB.out⟩
theorem fits (C : Option Addr) (nc cc : Nat) (R : Option Addr) (nr cr : Nat) (cost : List Rat) (rows : List PRow) (X : Option Addr) (nx cx : Nat) (x : List Rat) (w : World) (hc : VecS w 0 (.slice C nc cc) cost) (hr : RowsS w 0 (.slice R nr cr) rows) (hx : VecS w 0 (.slice X nx cx) x) (hb : nc ≤ 1000) (hrr : Rows nc rows) (zx : Sm x) (hnr : nr ≤ 1000) :
    Calls Try.prog 16 #[.agg #[.slice C nc cc, .slice R nr cr], .slice X nx cx] w fun e w' => e = .returned (.bool (fitsB cost rows x)) ∧ Below w.heap.size w w' := by
  by_cases hl : x.length ≠ cost.length
  · exact fits_no C nc cc R nr cr cost rows X nx cx x w hc hr hx hl
  have hl := Decidable.not_not.1 hl
  have hn1 := hx.len
  have hn2 := hc.len
  have hn3 := hr.len
  have en : nc = nx := by omega
  subst en
  have HL := Lib.hid hl
  have HN := Lib.hid hn3
  have HNX := Lib.hid hn1
  have HB := Lib.hid hb
  have HRR := Lib.hid hrr
  have ZX := Lib.hid zx
  have HNR := Lib.hid hnr
  clear hl hb hrr zx hn1 hn2 hn3
  obtain ⟨W, hW⟩ : ∃ W, (w.alloc (.cells #[.slice C nc cc, .slice R nr cr] 31)) = W := ⟨_, rfl⟩
  have KB0 := Lib.hid (show W.heap[w.heap.size]? = some (.cells #[.slice C nc cc, .slice R nr cr] 31 (0, 0)) by rw [← hW]; exact blk_nw (by simp))
  have BB := Lib.hid (show Below w.heap.size w W by rw [← hW]; exact below_alloc w _)
  have HZ := Lib.hid (show w.heap.size + 1 ≤ W.heap.size by rw [← hW]; simp)
  have HC := Lib.hid (show VecS W 0 (.slice C nc cc) cost by rw [← hW]; exact (hc).alloc _)
  have HX := Lib.hid (show VecS W 0 (.slice X nc cx) x by rw [← hW]; exact (hx).alloc _)
  have HR := Lib.hid (show RowsS W 0 (.slice R nr cr) rows by rw [← hW]; exact (hr).alloc _)
  obtain ⟨c0_0_0, c0_0_0d, c0_1_0, c0_1_0d⟩ := bc2 KB0.out
  clear hc hr hx
  go_enter Try.func16, Try.ntmps16
  go_wp2_with fail
  clear hW
  with_reducible refine (Vc.below X nc cx x 0 _ HX.out).mono ?_
  rintro e w1 ⟨rfl, hb⟩
  have KB0_1 := Lib.hid (keepBlk hb KB0.out)
  have HC_1 := Lib.hid (HC.out.below hb)
  have HX_1 := Lib.hid (HX.out.below hb)
  have HR_1 := Lib.hid (HR.out.below hb)
  have BB_1 := Lib.hid (BB.out.trans ((hb).mono BB.out.size))
  obtain ⟨c0_0_1, c0_0_1d, c0_1_1, c0_1_1d⟩ := bc2 KB0_1.out
  clear hb
  cases hneg : (x.any fun q => decide (q < 0))
  · skip
    go_wp2
    go_loopw [20] (fun i wr => ∃ k : Nat, i = .int .i64 k ∧ k ≤ nr ∧ Below w1.heap.size w1 wr ∧ (rows.take k).all (fun p => holdsB p x) = true)
      (fun i _ => nr - (intOf i).toNat)
    case atStart => exact ⟨0, rfl, Nat.zero_le _, Below.refl _ _, rfl⟩
    case round =>
      obtain ⟨k, rfl, hk, hB, hT⟩ := hrel
      have HT := Lib.hid hT
      by_cases hlt : k < nr
      · obtain ⟨p, hp⟩ : ∃ p, rows[k]? = some p := ⟨rows[k]'(by rw [← HN.out]; exact hlt), List.getElem?_eq_getElem _⟩
        obtain ⟨b, rfl, hb0, hb1⟩ := (HR_1.out).has (by omega)
        obtain ⟨Q, nq, cq, g, A, m, c, D, md, cd, k0, k1, k2, k3, k4, hq, hrh⟩ := (HR_1.out.below hB).at_ hp
        have HP := Lib.hid hp
        have HPR := Lib.hid (HRR.out p (List.mem_of_getElem? hp))
        obtain rfl : nc = nq := by rw [hq.len, HPR.out.1]
        generalize hkd : p.kind = kd at k1
        have HKD := Lib.hid hkd
        have KB0_2 := Lib.hid (keepBlk hB KB0_1.out)
        have HC_2 := Lib.hid (HC_1.out.below hB)
        have HX_2 := Lib.hid (HX_1.out.below hB)
        have HR_2 := Lib.hid (HR_1.out.below hB)
        have HQ := Lib.hid (show VecS wr 0 (.slice Q nc cq) p.coef from hq)
        have HRH := Lib.hid (show RatS wr g (.slice A m c) (.slice D md cd) p.rhs from hrh)
        have HW := Lib.hid (show Bel w1 wr from Bel.mk hB)
        have BB_2 := Lib.hid (BB_1.out.trans ((hB).mono BB_1.out.size))
        obtain ⟨c0_0_2, c0_0_2d, c0_1_2, c0_1_2d⟩ := bc2 KB0_2.out
        clear hB hT hp hq hrh hkd
        have hi1 : (0 : Int) ≤ (k : Int) := Int.natCast_nonneg _
        have hi2 : (k : Int) < (nr : Int) := by omega
        go_wp2_with fail
        have hb3z := below_alloc wr (.cells #[.slice Q nc cq, .int .i64 kd, .bool g, .slice A m c, .slice D md cd] 48)
        have KB0_3 := Lib.hid (keepBlk hb3z KB0_2.out)
        have HC_3 := Lib.hid (HC_2.out.below hb3z)
        have HX_3 := Lib.hid (HX_2.out.below hb3z)
        have HR_3 := Lib.hid (HR_2.out.below hb3z)
        have HQ_3 := Lib.hid (HQ.out.below hb3z)
        have HRH_3 := Lib.hid (HRH.out.below hb3z)
        have HW_3 := Lib.hid (HW.out.below hb3z)
        have BB_3 := Lib.hid (BB_2.out.trans ((hb3z).mono BB_2.out.size))
        obtain ⟨c0_0_3, c0_0_3d, c0_1_3, c0_1_3d⟩ := bc2 KB0_3.out
        with_reducible refine (holds Q nc cq g A m c D md cd kd p HKD.out X nc cx x _ HQ_3.out HRH_3.out HX_3.out (HPR.out.1.trans HNX.out) HB.out HPR.out.2.1 HPR.out.2.2 ZX.out).mono ?_
        rintro e v1 ⟨rfl, hb⟩
        have KB0_4 := Lib.hid (keepBlk hb KB0_3.out)
        have HC_4 := Lib.hid (HC_3.out.below hb)
        have HX_4 := Lib.hid (HX_3.out.below hb)
        have HR_4 := Lib.hid (HR_3.out.below hb)
        have HQ_4 := Lib.hid (HQ_3.out.below hb)
        have HRH_4 := Lib.hid (HRH_3.out.below hb)
        have HW_4 := Lib.hid (HW_3.out.below hb)
        have BB_4 := Lib.hid (BB_3.out.trans ((hb).mono BB_3.out.size))
        obtain ⟨c0_0_4, c0_0_4d, c0_1_4, c0_1_4d⟩ := bc2 KB0_4.out
        clear hb
        cases hh : holdsB p x
        · have HF := Lib.hid ((fits_rows HL.out hneg).trans (all_found (f := fun p => holdsB p x) HP.out hh))
          go_wp2
          go_ret
          exact ⟨by rw [HF.out]; rfl, BB_4.out⟩
        · have HF := Lib.hid (all_step (f := fun p => holdsB p x) HT.out HP.out hh)
          go_wp2
          go_roundw
          case rel => exact ⟨k + 1, by go_num, by omega, HW_4.out.b, HF.out⟩
          case measure => simp [intOf]; omega
      · have hkn : k = nr := by omega
        have HF := Lib.hid (show fitsB cost rows x = true by rw [fits_rows HL.out hneg]; have h := HT.out; rw [hkn, HN.out, List.take_length] at h; exact h)
        have KB0_2 := Lib.hid (keepBlk hB KB0_1.out)
        have HC_2 := Lib.hid (HC_1.out.below hB)
        have HX_2 := Lib.hid (HX_1.out.below hB)
        have HR_2 := Lib.hid (HR_1.out.below hB)
        have BB_2 := Lib.hid (BB_1.out.trans ((hB).mono BB_1.out.size))
        obtain ⟨c0_0_2, c0_0_2d, c0_1_2, c0_1_2d⟩ := bc2 KB0_2.out
        clear hB hT
        go_wp2
        go_ret
        exact ⟨by rw [HF.out]; rfl, BB_2.out⟩
  · have HF := Lib.hid (fits_neg (cost := cost) (rows := rows) hneg)
    go_wp2
    go_ret
    exact ⟨by rw [HF.out]; rfl, BB_1.out⟩
end Pb
end Go.Proofs.Ytohkhcbocknliaa
