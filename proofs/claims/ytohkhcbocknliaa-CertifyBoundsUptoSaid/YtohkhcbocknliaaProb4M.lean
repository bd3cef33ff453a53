/- certify.signed by its contract. Conditions: as it says. prob.May by its contract, where nothing is wrong. Conditions: as it says. Conditions: as they say. -/
import Derived.Test.YtohkhcbocknliaaProb3M
namespace Go.Proofs.Ytohkhcbocknliaa
set_option linter.unusedSimpArgs false
set_option linter.unusedVariables false
open Go.RowKit Am
attribute [local go_sem ↓] Go.wp_at_zero Go.wp_at_succ
set_option maxHeartbeats 4000000
set_option maxRecDepth 100000
/-- has what a row is worth the sign that its kind wants? -/
def signB (p : PRow) (q : Rat) : Bool := !(decide (p.kind = 1) && decide (0 < q) || decide (p.kind = 2) && decide (q < 0))
def signedTo (rows : List PRow) (ys : List Rat) (k : Nat) : Bool := (List.range k).all fun i => signB (rows.getD i default) (el ys i)
def signedB (rows : List PRow) (ys : List Rat) : Bool := signedTo rows ys rows.length
theorem getD_of {rows : List PRow} {k : Nat} {p : PRow} (h : rows[k]? = some p) : rows.getD k default = p := by rw [List.getD_eq_getElem?_getD, h]; rfl
theorem signed_step {rows : List PRow} {ys : List Rat} {k : Nat} {p : PRow} {q : Rat} (h : signedTo rows ys k = true) (hp : rows[k]? = some p) (hq : ys[k]? = some q) (hs : signB p q = true) : signedTo rows ys (k + 1) = true := by
  unfold signedTo at *
  rw [List.range_succ, List.all_append, h, List.all_cons, getD_of hp, el_of hq, hs]; rfl
theorem signed_no {rows : List PRow} {ys : List Rat} {k : Nat} {p : PRow} {q : Rat} (hp : rows[k]? = some p) (hq : ys[k]? = some q) (hs : signB p q = false) : signedB rows ys = false := by
  unfold signedB signedTo
  rw [List.all_eq_false]
  exact ⟨k, List.mem_range.2 (List.getElem?_eq_some_iff.1 hp).1, by rw [getD_of hp, el_of hq, hs]; decide⟩
theorem num_pos (q : Rat) : 0 < q.num ↔ 0 < q := by
  have h := num_nonpos q
  constructor
  · intro h1; exact Rat.not_le.1 fun h2 => by have := h.2 h2; omega
  · intro h1; exact Int.not_le.1 fun h2 => Rat.not_lt.2 (h.1 h2) h1
theorem sign_pos (q : Rat) : 0 < q.num.sign ↔ 0 < q := by
  rw [← num_pos]
  rcases Int.lt_trichotomy q.num 0 with h | h | h
  · rw [Int.sign_eq_neg_one_of_neg h]; constructor <;> intro h1 <;> omega
  · rw [h]; decide
  · rw [Int.sign_eq_one_of_pos h]; constructor <;> intro h1 <;> omega
theorem sign_neg (q : Rat) : q.num.sign < 0 ↔ q < 0 := by
  rw [← num_neg]
  rcases Int.lt_trichotomy q.num 0 with h | h | h
  · rw [Int.sign_eq_neg_one_of_neg h]; constructor <;> intro h1 <;> omega
  · rw [h]; decide
  · rw [Int.sign_eq_one_of_pos h]; constructor <;> intro h1 <;> omega
theorem signB_one {p : PRow} {q : Rat} (h : p.kind = 1) : signB p q = !(decide (0 < q)) := by unfold signB; rw [decide_eq_true h, decide_eq_false (show ¬ p.kind = 2 by omega)]; simp
theorem signB_two {p : PRow} {q : Rat} (h : p.kind = 2) : signB p q = !(decide (q < 0)) := by unfold signB; rw [decide_eq_true h, decide_eq_false (show ¬ p.kind = 1 by omega)]; simp
theorem signB_else {p : PRow} {q : Rat} (h : p.kind ≠ 1) (h2 : p.kind ≠ 2) : signB p q = true := by unfold signB; rw [decide_eq_false h, decide_eq_false h2]; simp
namespace Ct
theorem signed (C : Option Addr) (nc cc : Nat) (R : Option Addr) (nr cr : Nat) (cost : List Rat) (rows : List PRow) (Y : Option Addr) (ny cy : Nat) (y : List Rat) (w : World) (hc : VecS w 0 (.slice C nc cc) cost) (hr : RowsS w 0 (.slice R nr cr) rows) (hy : VecS w 0 (.slice Y ny cy) y) (hl : y.length = rows.length) (hnr : nr ≤ 1000) :
    Calls Try.prog 28 #[.agg #[.slice C nc cc, .slice R nr cr], .slice Y ny cy] w fun e w' => e = .returned (.bool (signedB rows y)) ∧ Below w.heap.size w w' := by
  have hn1 := hy.len
  have hn3 := hr.len
  have en : nr = ny := by omega
  subst en
  have HL := Lib.hid hl
  have HN := Lib.hid hn3
  have HNR := Lib.hid hnr
  clear hl hn1 hn3
  obtain ⟨W, hW⟩ : ∃ W, (w.alloc (.cells #[.slice C nc cc, .slice R nr cr] 31)) = W := ⟨_, rfl⟩
  have KB0 := Lib.hid (show W.heap[w.heap.size]? = some (.cells #[.slice C nc cc, .slice R nr cr] 31 (0, 0)) by rw [← hW]; exact blk_nw (by simp))
  have BB := Lib.hid (show Below w.heap.size w W by rw [← hW]; exact below_alloc w _)
  have HZ := Lib.hid (show w.heap.size + 1 ≤ W.heap.size by rw [← hW]; simp)
  have HC := Lib.hid (show VecS W 0 (.slice C nc cc) cost by rw [← hW]; exact (hc).alloc _)
  have HY := Lib.hid (show VecS W 0 (.slice Y nr cy) y by rw [← hW]; exact (hy).alloc _)
  have HR := Lib.hid (show RowsS W 0 (.slice R nr cr) rows by rw [← hW]; exact (hr).alloc _)
  obtain ⟨c0_0_0, c0_0_0d, c0_1_0, c0_1_0d⟩ := bc2 KB0.out
  clear hc hr hy
  go_enter Try.func28, Try.ntmps28
  go_wp2
  clear hW
  go_loopw [16] (fun i wr => ∃ k : Nat, i = .int .i64 k ∧ k ≤ nr ∧ Below W.heap.size W wr ∧ signedTo rows y k = true)
    (fun i _ => nr - (intOf i).toNat)
  case atStart => exact ⟨0, rfl, Nat.zero_le _, Below.refl _ _, rfl⟩
  case round =>
    obtain ⟨k, rfl, hk, hB, hT⟩ := hrel
    have HT := Lib.hid hT
    by_cases hlt : k < nr
    · obtain ⟨p, hp⟩ : ∃ p, rows[k]? = some p := ⟨rows[k]'(by rw [← HN.out]; exact hlt), List.getElem?_eq_getElem _⟩
      obtain ⟨q, hq⟩ : ∃ q, y[k]? = some q := ⟨y[k]'(by rw [HL.out, ← HN.out]; exact hlt), List.getElem?_eq_getElem _⟩
      obtain ⟨b, rfl, hb0, hb1⟩ := HR.out.has (by omega)
      obtain ⟨by_, rfl, hby0, hby1⟩ := HY.out.has (by omega)
      obtain ⟨Q, nq, cq, g, A, m, c, D, md, cd, k0, k1, k2, k3, k4, hvq, hrh⟩ := (HR.out.below hB).at_ hp
      obtain ⟨gb, Ab, mb, cb, Db, mdb, cdb, l0, l1, l2, hRb⟩ := (HY.out.below hB).at_ hq
      have HP := Lib.hid hp
      have HQ := Lib.hid hq
      generalize hkd : p.kind = kd at k1
      have HKD := Lib.hid hkd
      have KB0_1 := Lib.hid (keepBlk hB KB0.out)
      have HC_1 := Lib.hid (HC.out.below hB)
      have HY_1 := Lib.hid (HY.out.below hB)
      have HR_1 := Lib.hid (HR.out.below hB)
      have HRb := Lib.hid (show RatS wr gb (.slice Ab mb cb) (.slice Db mdb cdb) q from hRb)
      have HW := Lib.hid (show Bel W wr from Bel.mk hB)
      have BB_1 := Lib.hid (BB.out.trans ((hB).mono BB.out.size))
      obtain ⟨c0_0_1, c0_0_1d, c0_1_1, c0_1_1d⟩ := bc2 KB0_1.out
      have x0_1 : wr.cell? ⟨by_, k * 3, none⟩ = some (.bool gb) := l0
      have x0_1d := drewCell x0_1
      have x1_1 : wr.cell? ⟨by_, k * 3 + 1, none⟩ = some (.slice Ab mb cb) := l1
      have x1_1d := drewCell x1_1
      have x2_1 : wr.cell? ⟨by_, k * 3 + 2, none⟩ = some (.slice Db mdb cdb) := l2
      have x2_1d := drewCell x2_1
      clear hB hT hp hq hrh hvq hkd hRb l0 l1 l2
      have hi1 : (0 : Int) ≤ (k : Int) := Int.natCast_nonneg _
      have hi2 : (k : Int) < (nr : Int) := by omega
      by_cases h1 : kd = 1
      · subst h1
        have hb2z := below_alloc wr (.cells #[.slice Q nq cq, .int .i64 1, .bool g, .slice A m c, .slice D md cd] 48)
        have KB0_2 := Lib.hid (keepBlk hb2z KB0_1.out)
        have HC_2 := Lib.hid (HC_1.out.below hb2z)
        have HY_2 := Lib.hid (HY_1.out.below hb2z)
        have HR_2 := Lib.hid (HR_1.out.below hb2z)
        have HRb_2 := Lib.hid (HRb.out.below hb2z)
        have HW_2 := Lib.hid (HW.out.below hb2z)
        have BB_2 := Lib.hid (BB_1.out.trans ((hb2z).mono BB_1.out.size))
        obtain ⟨c0_0_2, c0_0_2d, c0_1_2, c0_1_2d⟩ := bc2 KB0_2.out
        have x0_2 := keepCell hb2z x0_1
        have x0_2d := drewCell x0_2
        have x1_2 := keepCell hb2z x1_1
        have x1_2d := drewCell x1_2
        have x2_2 := keepCell hb2z x2_1
        have x2_2d := drewCell x2_2
        have x3_2 : (wr.alloc (.cells #[.slice Q nq cq, .int .i64 1, .bool g, .slice A m c, .slice D md cd] 48)).cell? ⟨wr.heap.size, 1, none⟩ = some (.int .i64 1) := cell_nw rfl rfl
        have x3_2d := drewCell x3_2
        go_wp2_with fail
        with_reducible refine (Rt.sign gb Ab mb cb Db mdb cdb q _ HRb_2.out).mono ?_
        rintro e v1 ⟨rfl, hb⟩
        have KB0_3 := Lib.hid (keepBlk hb KB0_2.out)
        have HC_3 := Lib.hid (HC_2.out.below hb)
        have HY_3 := Lib.hid (HY_2.out.below hb)
        have HR_3 := Lib.hid (HR_2.out.below hb)
        have HRb_3 := Lib.hid (HRb_2.out.below hb)
        have HW_3 := Lib.hid (HW_2.out.below hb)
        have BB_3 := Lib.hid (BB_2.out.trans ((hb).mono BB_2.out.size))
        obtain ⟨c0_0_3, c0_0_3d, c0_1_3, c0_1_3d⟩ := bc2 KB0_3.out
        have x0_3 := keepCell hb x0_2
        have x0_3d := drewCell x0_3
        have x1_3 := keepCell hb x1_2
        have x1_3d := drewCell x1_3
        have x2_3 := keepCell hb x2_2
        have x2_3d := drewCell x2_3
        have x3_3 := keepCell hb x3_2
        have x3_3d := drewCell x3_3
        clear hb
        by_cases hs : 0 < q
        · have hs1 := (num_pos q).2 hs
          have hs2 := (sign_pos q).2 hs
          have HF := Lib.hid (signed_no HP.out HQ.out (by rw [signB_one (HKD.out), decide_eq_true hs]; rfl))
          go_wp2
          go_ret
          exact ⟨by rw [HF.out]; rfl, BB_3.out⟩
        · have hs1 : ¬ 0 < q.num := fun h => hs ((num_pos q).1 h)
          have hs2 : ¬ 0 < q.num.sign := fun h => hs ((sign_pos q).1 h)
          have HF := Lib.hid (signed_step HT.out HP.out HQ.out (by rw [signB_one (HKD.out), decide_eq_false hs]; rfl))
          go_wp2
          go_roundw
          case rel => exact ⟨k + 1, by go_num, by omega, HW_3.out.b, HF.out⟩
          case measure => simp [intOf]; omega
      · skip
        by_cases h2 : kd = 2
        · subst h2
          have hb2z := below_alloc wr (.cells #[.slice Q nq cq, .int .i64 2, .bool g, .slice A m c, .slice D md cd] 48)
          have KB0_2 := Lib.hid (keepBlk hb2z KB0_1.out)
          have HC_2 := Lib.hid (HC_1.out.below hb2z)
          have HY_2 := Lib.hid (HY_1.out.below hb2z)
          have HR_2 := Lib.hid (HR_1.out.below hb2z)
          have HRb_2 := Lib.hid (HRb.out.below hb2z)
          have HW_2 := Lib.hid (HW.out.below hb2z)
          have BB_2 := Lib.hid (BB_1.out.trans ((hb2z).mono BB_1.out.size))
          obtain ⟨c0_0_2, c0_0_2d, c0_1_2, c0_1_2d⟩ := bc2 KB0_2.out
          have x0_2 := keepCell hb2z x0_1
          have x0_2d := drewCell x0_2
          have x1_2 := keepCell hb2z x1_1
          have x1_2d := drewCell x1_2
          have x2_2 := keepCell hb2z x2_1
          have x2_2d := drewCell x2_2
          have x3_2 : (wr.alloc (.cells #[.slice Q nq cq, .int .i64 2, .bool g, .slice A m c, .slice D md cd] 48)).cell? ⟨wr.heap.size, 1, none⟩ = some (.int .i64 2) := cell_nw rfl rfl
          have x3_2d := drewCell x3_2
          go_wp2_with fail
          with_reducible refine (Rt.sign gb Ab mb cb Db mdb cdb q _ HRb_2.out).mono ?_
          rintro e v1 ⟨rfl, hb⟩
          have KB0_3 := Lib.hid (keepBlk hb KB0_2.out)
          have HC_3 := Lib.hid (HC_2.out.below hb)
          have HY_3 := Lib.hid (HY_2.out.below hb)
          have HR_3 := Lib.hid (HR_2.out.below hb)
          have HRb_3 := Lib.hid (HRb_2.out.below hb)
          have HW_3 := Lib.hid (HW_2.out.below hb)
          have BB_3 := Lib.hid (BB_2.out.trans ((hb).mono BB_2.out.size))
          obtain ⟨c0_0_3, c0_0_3d, c0_1_3, c0_1_3d⟩ := bc2 KB0_3.out
          have x0_3 := keepCell hb x0_2
          have x0_3d := drewCell x0_3
          have x1_3 := keepCell hb x1_2
          have x1_3d := drewCell x1_3
          have x2_3 := keepCell hb x2_2
          have x2_3d := drewCell x2_3
          have x3_3 := keepCell hb x3_2
          have x3_3d := drewCell x3_3
          clear hb
          by_cases hs : q < 0
          · have hs1 := (num_neg q).2 hs
            have hs2 := (sign_neg q).2 hs
            have HF := Lib.hid (signed_no HP.out HQ.out (by rw [signB_two (HKD.out), decide_eq_true hs]; rfl))
            go_wp2
            go_ret
            exact ⟨by rw [HF.out]; rfl, BB_3.out⟩
          · have hs1 : ¬ q.num < 0 := fun h => hs ((num_neg q).1 h)
            have hs2 : ¬ q.num.sign < 0 := fun h => hs ((sign_neg q).1 h)
            have HF := Lib.hid (signed_step HT.out HP.out HQ.out (by rw [signB_two (HKD.out), decide_eq_false hs]; rfl))
            go_wp2
            go_roundw
            case rel => exact ⟨k + 1, by go_num, by omega, HW_3.out.b, HF.out⟩
            case measure => simp [intOf]; omega
        · have hk2 : (kd == 2) = false := by simp [h2]
          have hk1 : (kd == 1) = false := by simp [h1]
          have hb2z := below_alloc wr (.cells #[.slice Q nq cq, .int .i64 kd, .bool g, .slice A m c, .slice D md cd] 48)
          have KB0_2 := Lib.hid (keepBlk hb2z KB0_1.out)
          have HC_2 := Lib.hid (HC_1.out.below hb2z)
          have HY_2 := Lib.hid (HY_1.out.below hb2z)
          have HR_2 := Lib.hid (HR_1.out.below hb2z)
          have HRb_2 := Lib.hid (HRb.out.below hb2z)
          have HW_2 := Lib.hid (HW.out.below hb2z)
          have BB_2 := Lib.hid (BB_1.out.trans ((hb2z).mono BB_1.out.size))
          obtain ⟨c0_0_2, c0_0_2d, c0_1_2, c0_1_2d⟩ := bc2 KB0_2.out
          have x0_2 := keepCell hb2z x0_1
          have x0_2d := drewCell x0_2
          have x1_2 := keepCell hb2z x1_1
          have x1_2d := drewCell x1_2
          have x2_2 := keepCell hb2z x2_1
          have x2_2d := drewCell x2_2
          have x3_2 : (wr.alloc (.cells #[.slice Q nq cq, .int .i64 kd, .bool g, .slice A m c, .slice D md cd] 48)).cell? ⟨wr.heap.size, 1, none⟩ = some (.int .i64 kd) := cell_nw rfl rfl
          have x3_2d := drewCell x3_2
          have HF := Lib.hid (signed_step HT.out HP.out HQ.out (signB_else (by rw [HKD.out]; exact h1) (by rw [HKD.out]; exact h2)))
          go_wp2
          go_roundw
          case rel => exact ⟨k + 1, by go_num, by omega, HW_2.out.b, HF.out⟩
          case measure => simp [intOf]; omega
    · have hkn : k = nr := by omega
      have HF := Lib.hid (show signedB rows y = true by have h := HT.out; rw [hkn, HN.out] at h; exact h)
      have KB0_1 := Lib.hid (keepBlk hB KB0.out)
      have HC_1 := Lib.hid (HC.out.below hB)
      have HY_1 := Lib.hid (HY.out.below hB)
      have HR_1 := Lib.hid (HR.out.below hB)
      have BB_1 := Lib.hid (BB.out.trans ((hB).mono BB.out.size))
      obtain ⟨c0_0_1, c0_0_1d, c0_1_1, c0_1_1d⟩ := bc2 KB0_1.out
      clear hB hT
      go_wp2
      go_ret
      exact ⟨by rw [HF.out]; rfl, BB_1.out⟩
end Ct
end Go.Proofs.Ytohkhcbocknliaa
namespace Go.Proofs.Ytohkhcbocknliaa
set_option linter.unusedSimpArgs false
set_option linter.unusedVariables false
open Go.RowKit Am
attribute [local go_sem ↓] Go.wp_at_zero Go.wp_at_succ
set_option maxHeartbeats 4000000
set_option maxRecDepth 100000
abbrev Kinds (rows : List PRow) : Prop := ∀ p ∈ rows, 1 ≤ p.kind ∧ p.kind ≤ 3
namespace Pb
theorem may (C : Option Addr) (nc cc : Nat) (R : Option Addr) (nr cr : Nat) (cost : List Rat) (rows : List PRow) (w : World) (hc : VecS w 0 (.slice C nc cc) cost) (hr : RowsS w 0 (.slice R nr cr) rows) (hb : nc ≤ 24) (hnr : nr ≤ 20) (hrr : Rows nc rows) (hkk : Kinds rows) :
    Calls Try.prog 27 #[.agg #[.slice C nc cc, .slice R nr cr]] w fun e w' => e = .returned .nilIface ∧ Below w.heap.size w w' := by
  have hn3 := hr.len
  have HN := Lib.hid hn3
  have HB := Lib.hid hb
  have HNR := Lib.hid hnr
  have HRR := Lib.hid hrr
  have HKK := Lib.hid hkk
  have hb1 : (nc : Int) ≤ 24 := by omega
  have hnr1 : (nr : Int) ≤ 20 := by omega
  have hb2 : ¬ (24 : Int) < (nc : Int) := by omega
  have hnr2 : ¬ (20 : Int) < (nr : Int) := by omega
  have hb3 : ¬ 24 < nc := by omega
  have hnr3 : ¬ 20 < nr := by omega
  clear hrr hkk hn3
  obtain ⟨W, hW⟩ : ∃ W, (w.alloc (.cells #[.slice C nc cc, .slice R nr cr] 31)) = W := ⟨_, rfl⟩
  have KB0 := Lib.hid (show W.heap[w.heap.size]? = some (.cells #[.slice C nc cc, .slice R nr cr] 31 (0, 0)) by rw [← hW]; exact blk_nw (by simp))
  have BB := Lib.hid (show Below w.heap.size w W by rw [← hW]; exact below_alloc w _)
  have HZ := Lib.hid (show w.heap.size + 1 ≤ W.heap.size by rw [← hW]; simp)
  have HC := Lib.hid (show VecS W 0 (.slice C nc cc) cost by rw [← hW]; exact (hc).alloc _)
  have HR := Lib.hid (show RowsS W 0 (.slice R nr cr) rows by rw [← hW]; exact (hr).alloc _)
  obtain ⟨c0_0_0, c0_0_0d, c0_1_0, c0_1_0d⟩ := bc2 KB0.out
  clear hc hr
  go_enter Try.func27, Try.ntmps27
  go_wp2
  clear hW
  go_loopw [19] (fun i wr => ∃ k : Nat, i = .int .i64 k ∧ k ≤ nr ∧ Below W.heap.size W wr)
    (fun i _ => nr - (intOf i).toNat)
  case atStart => exact ⟨0, rfl, Nat.zero_le _, Below.refl _ _⟩
  case round =>
    obtain ⟨k, rfl, hk, hB⟩ := hrel
    by_cases hlt : k < nr
    · obtain ⟨p, hp⟩ : ∃ p, rows[k]? = some p := ⟨rows[k]'(by rw [← HN.out]; exact hlt), List.getElem?_eq_getElem _⟩
      obtain ⟨b, rfl, hb0, hb1⟩ := HR.out.has (by omega)
      obtain ⟨Q, nq, cq, g, A, m, c, D, md, cd, k0, k1, k2, k3, k4, hvq, hrh⟩ := (HR.out.below hB).at_ hp
      obtain rfl : nc = nq := by rw [hvq.len, (HRR.out p (List.mem_of_getElem? hp)).1]
      have hkd1 := (HKK.out p (List.mem_of_getElem? hp)).1
      have hkd2 := (HKK.out p (List.mem_of_getElem? hp)).2
      have hkd3 : ¬ p.kind < 1 := by omega
      have hkd4 : ¬ 3 < p.kind := by omega
      have KB0_1 := Lib.hid (keepBlk hB KB0.out)
      have HC_1 := Lib.hid (HC.out.below hB)
      have HR_1 := Lib.hid (HR.out.below hB)
      have HW := Lib.hid (show Bel W wr from Bel.mk hB)
      have BB_1 := Lib.hid (BB.out.trans ((hB).mono BB.out.size))
      obtain ⟨c0_0_1, c0_0_1d, c0_1_1, c0_1_1d⟩ := bc2 KB0_1.out
      clear hB hp hrh hvq
      have hi1 : (0 : Int) ≤ (k : Int) := Int.natCast_nonneg _
      have hi2 : (k : Int) < (nr : Int) := by omega
      have hb2z := below_alloc wr (.cells #[.slice Q nc cq, .int .i64 p.kind, .bool g, .slice A m c, .slice D md cd] 48)
      have KB0_2 := Lib.hid (keepBlk hb2z KB0_1.out)
      have HC_2 := Lib.hid (HC_1.out.below hb2z)
      have HR_2 := Lib.hid (HR_1.out.below hb2z)
      have HW_2 := Lib.hid (HW.out.below hb2z)
      have BB_2 := Lib.hid (BB_1.out.trans ((hb2z).mono BB_1.out.size))
      obtain ⟨c0_0_2, c0_0_2d, c0_1_2, c0_1_2d⟩ := bc2 KB0_2.out
      have x0_2 : (wr.alloc (.cells #[.slice Q nc cq, .int .i64 p.kind, .bool g, .slice A m c, .slice D md cd] 48)).cell? ⟨wr.heap.size, 0, none⟩ = some (.slice Q nc cq) := cell_nw rfl rfl
      have x0_2d := drewCell x0_2
      have x1_2 : (wr.alloc (.cells #[.slice Q nc cq, .int .i64 p.kind, .bool g, .slice A m c, .slice D md cd] 48)).cell? ⟨wr.heap.size, 1, none⟩ = some (.int .i64 p.kind) := cell_nw rfl rfl
      have x1_2d := drewCell x1_2
      go_wp2
      go_roundw
      case rel => exact ⟨k + 1, by go_num, by omega, HW_2.out.b⟩
      case measure => simp [intOf]; omega
    · have hkn : k = nr := by omega
      have KB0_1 := Lib.hid (keepBlk hB KB0.out)
      have HC_1 := Lib.hid (HC.out.below hB)
      have HR_1 := Lib.hid (HR.out.below hB)
      have BB_1 := Lib.hid (BB.out.trans ((hB).mono BB.out.size))
      obtain ⟨c0_0_1, c0_0_1d, c0_1_1, c0_1_1d⟩ := bc2 KB0_1.out
      clear hB
      go_wp2
      go_ret
      exact ⟨rfl, BB_1.out⟩
end Pb
end Go.Proofs.Ytohkhcbocknliaa
