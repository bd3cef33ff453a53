/- vec.Dot by its contract. Conditions: as it says. -/
import Derived.Test.YtohkhcbocknliaaVec6M
import Derived.Test.YtohkhcbocknliaaRegM
namespace Go.Proofs.Ytohkhcbocknliaa
set_option linter.unusedSimpArgs false
set_option linter.unusedVariables false
open Go.RowKit Am
attribute [local go_sem ↓] Go.wp_at_zero Go.wp_at_succ
set_option maxHeartbeats 4000000
set_option maxRecDepth 100000
theorem zr_true {q : Rat} (h : zr q = true) : q = 0 := of_decide_eq_true h
namespace Vc
theorem dot_no (A : Option Addr) (n c : Nat) (xs : List Rat) (B : Option Addr) (n' c' : Nat) (ys : List Rat) (H H' : Nat) (w : World) (hx : VecS w H (.slice A n c) xs) (hy : VecS w H' (.slice B n' c') ys) (hl : xs.length ≠ ys.length) :
    Calls Try.prog 40 #[.slice A n c, .slice B n' c'] w (RetRatB w 0 false) := by
  have hn : ((n : Int) == (n' : Int)) = false := by rw [hx.len, hy.len]; simp; omega
  have hne : ¬ ((n : Int) = (n' : Int)) := by rw [hx.len, hy.len]; omega
  have hne' : ¬ n = n' := by rw [hx.len, hy.len]; omega
  clear hx hy
  go_enter Try.func40, Try.ntmps40
  go_wp2
  refine bodyPost_ret (v := .tuple #[.agg #[.bool false, .slice none 0 0, .slice none 0 0], .bool false]) (by simp [results, Try.results40, go_sem]) rfl ?_
  exact ⟨_, _, _, _, _, _, _, rfl, RatS.zero _, below_alloc w _⟩
theorem dot_ok (A : Option Addr) (n c : Nat) (xs : List Rat) (B : Option Addr) (n' c' : Nat) (ys : List Rat) (H H' : Nat) (w : World) (hx : VecS w H (.slice A n c) xs) (hy : VecS w H' (.slice B n' c') ys) (hl : xs.length = ys.length) (hb : n ≤ 1000) (zx : ∀ q ∈ xs, mw q ≤ 10000) (zy : ∀ q ∈ ys, mw q ≤ 10000) :
    Calls Try.prog 40 #[.slice A n c, .slice B n' c'] w (RetRatB w (dot xs ys) true) := by
  have hn := hx.len
  have hn' := hy.len
  have en : n' = n := by omega
  subst en
  have HN := Lib.hid hn
  have HL := Lib.hid hl
  have HBN := Lib.hid hb
  have ZX := Lib.hid zx
  have ZY := Lib.hid zy
  have hnb : n' ≤ 9223372036854775807 := by omega
  clear hn hn' hl hb zx zy
  obtain ⟨W, hW⟩ : ∃ W, (w.alloc (.cells #[.bool false, .slice none 0 0, .slice none 0 0] 40)) = W := ⟨_, rfl⟩
  have KB0 := Lib.hid (show W.heap[w.heap.size]? = some (.cells #[.bool false, .slice none 0 0, .slice none 0 0] 40 (0, 0)) by rw [← hW]; exact blk_nw (by simp))
  have BB := Lib.hid (show Below w.heap.size w W by rw [← hW]; exact below_alloc w _)
  have HZ := Lib.hid (show w.heap.size + 1 ≤ W.heap.size by rw [← hW]; simp)
  have HA := Lib.hid (show VecS W H (.slice A n' c) xs by rw [← hW]; exact (hx).alloc _)
  have HB := Lib.hid (show VecS W H' (.slice B n' c') ys by rw [← hW]; exact (hy).alloc _)
  obtain ⟨c0_0_0, c0_0_0d, fc0_0_0, fc0_0_0d, c0_1_0, c0_1_0d, fc0_1_0, fc0_1_0d, c0_2_0, c0_2_0d, fc0_2_0, fc0_2_0d⟩ := bf3 KB0.out
  clear hx hy
  go_enter Try.func40, Try.ntmps40
  go_wp2
  clear hW
  go_loopw [16] (fun i wr => ∃ (k : Nat) (g : Bool) (P : Option Addr) (m cp : Nat) (D : Option Addr) (md cd : Nat), i = .int .i64 k ∧ k ≤ n' ∧ wr.heap[W.heap.size]? = some (.cells #[.bool g, .slice P m cp, .slice D md cd] 40 (0, 0)) ∧ RatS wr g (.slice P m cp) (.slice D md cd) (dotTo xs ys k) ∧ Below W.heap.size W wr)
    (fun i _ => n' - (intOf i).toNat)
  case atStart => exact ⟨0, _, _, _, _, _, _, _, rfl, Nat.zero_le _, blk_new _ _ _, RatS.zero _, below_alloc W _⟩
  case round =>
    obtain ⟨k, g, P, m, cp, D, md, cd, rfl, hk, hbox, hP, hB⟩ := hrel
    have hz0 := HZ.out
    by_cases hlt : k < n'
    · obtain ⟨a, ha⟩ : ∃ a, xs[k]? = some a := ⟨xs[k]'(by rw [← HN.out]; exact hlt), List.getElem?_eq_getElem _⟩
      obtain ⟨b, hb⟩ : ∃ b, ys[k]? = some b := ⟨ys[k]'(by rw [← HL.out, ← HN.out]; exact hlt), List.getElem?_eq_getElem _⟩
      obtain ⟨bx, rfl, hbx0, hbx1⟩ := HA.out.has (by omega)
      obtain ⟨by_, rfl, hby0, hby1⟩ := HB.out.has (by omega)
      obtain ⟨ga, Aa, ma, ca, Da, mda, cda, k0, k1, k2, hRa⟩ := (HA.out.below hB).at_ ha
      obtain ⟨gb, Ab, mb, cb, Db, mdb, cdb, l0, l1, l2, hRb⟩ := (HB.out.below hB).at_ hb
      have KB0_1 := Lib.hid (keepBlk hB KB0.out)
      have HA_1 := Lib.hid (HA.out.below hB)
      have HB_1 := Lib.hid (HB.out.below hB)
      have HRa := Lib.hid (show RatS wr ga (.slice Aa ma ca) (.slice Da mda cda) a from hRa)
      have HRb := Lib.hid (show RatS wr gb (.slice Ab mb cb) (.slice Db mdb cdb) b from hRb)
      have HP := Lib.hid (show RatS wr g (.slice P m cp) (.slice D md cd) (dotTo xs ys k) from hP)
      have HW := Lib.hid (show Bel W wr from Bel.mk hB)
      have BB_1 := Lib.hid (BB.out.trans ((hB).mono BB.out.size))
      obtain ⟨c0_0_1, c0_0_1d, fc0_0_1, fc0_0_1d, c0_1_1, c0_1_1d, fc0_1_1, fc0_1_1d, c0_2_1, c0_2_1d, fc0_2_1, fc0_2_1d⟩ := bf3 KB0_1.out
      have x0_1 : wr.cell? ⟨bx, k * 3, none⟩ = some (.bool ga) := k0
      have x0_1d := drewCell x0_1
      have x1_1 : wr.cell? ⟨bx, k * 3 + 1, none⟩ = some (.slice Aa ma ca) := k1
      have x1_1d := drewCell x1_1
      have x2_1 : wr.cell? ⟨bx, k * 3 + 2, none⟩ = some (.slice Da mda cda) := k2
      have x2_1d := drewCell x2_1
      have x3_1 : wr.cell? ⟨by_, k * 3, none⟩ = some (.bool gb) := l0
      have x3_1d := drewCell x3_1
      have x4_1 : wr.cell? ⟨by_, k * 3 + 1, none⟩ = some (.slice Ab mb cb) := l1
      have x4_1d := drewCell x4_1
      have x5_1 : wr.cell? ⟨by_, k * 3 + 2, none⟩ = some (.slice Db mdb cdb) := l2
      have x5_1d := drewCell x5_1
      have KBO := Lib.hid hbox
      obtain ⟨c0_0_1, c0_0_1d, fc0_0_1, fc0_0_1d, c0_1_1, c0_1_1d, fc0_1_1, fc0_1_1d, c0_2_1, c0_2_1d, fc0_2_1, fc0_2_1d⟩ := bf3 KB0_1.out
      obtain ⟨c1_0_1, c1_0_1d, fc1_0_1, fc1_0_1d, c1_1_1, c1_1_1d, fc1_1_1, fc1_1_1d, c1_2_1, c1_2_1d, fc1_2_1, fc1_2_1d⟩ := bf3 KBO.out
      have x0_1 := k0
      have x0_1d := drewCell x0_1
      have x1_1 := k1
      have x1_1d := drewCell x1_1
      have x2_1 := k2
      have x2_1d := drewCell x2_1
      have x3_1 := l0
      have x3_1d := drewCell x3_1
      have x4_1 := l1
      have x4_1d := drewCell x4_1
      have x5_1 := l2
      have x5_1d := drewCell x5_1
      have HGA := Lib.hid ha
      have HGB := Lib.hid hb
      have L1 := Lib.hid (show 4 * (mw a + mw b) + 8 ≤ LIM by have := ZX.out a (List.mem_of_getElem? ha); have := ZY.out b (List.mem_of_getElem? hb); have := LIM_eq; omega)
      have L2 := Lib.hid (show 4 * (mw (dotTo xs ys k) + mw (a * b)) + 8 ≤ LIM by have := ZX.out a (List.mem_of_getElem? ha); have := ZY.out b (List.mem_of_getElem? hb); have h1 := mw_dotTo ZX.out ZY.out k; have := mw_mul a b; have := LIM_eq; have h2 : k * 20001 ≤ 1000 * 20001 := Nat.mul_le_mul_right _ (by have := HBN.out; omega); omega)
      have hi1 : (0 : Int) ≤ (k : Int) := Int.natCast_nonneg _
      have hi2 : (k : Int) < (n' : Int) := by omega
      clear hbox hP hB ha hb k0 k1 k2 l0 l1 l2 hRa hRb
      go_wp2_with fail
      with_reducible refine (Rt.zero ga Aa ma ca Da mda cda a _ HRa.out).mono ?_
      rintro e v1 ⟨rfl, hb⟩
      have KB0_2 := Lib.hid (keepBlk hb KB0_1.out)
      have KB1_2 := Lib.hid (keepBlk hb KBO.out)
      have HA_2 := Lib.hid (HA_1.out.below hb)
      have HB_2 := Lib.hid (HB_1.out.below hb)
      have HRa_2 := Lib.hid (HRa.out.below hb)
      have HRb_2 := Lib.hid (HRb.out.below hb)
      have HP_2 := Lib.hid (HP.out.below hb)
      have HW_2 := Lib.hid (HW.out.below hb)
      have BB_2 := Lib.hid (BB_1.out.trans ((hb).mono BB_1.out.size))
      obtain ⟨c0_0_2, c0_0_2d, fc0_0_2, fc0_0_2d, c0_1_2, c0_1_2d, fc0_1_2, fc0_1_2d, c0_2_2, c0_2_2d, fc0_2_2, fc0_2_2d⟩ := bf3 KB0_2.out
      obtain ⟨c1_0_2, c1_0_2d, fc1_0_2, fc1_0_2d, c1_1_2, c1_1_2d, fc1_1_2, fc1_1_2d, c1_2_2, c1_2_2d, fc1_2_2, fc1_2_2d⟩ := bf3 KB1_2.out
      have x0_2 := keepCell hb x0_1
      have x0_2d := drewCell x0_2
      have x1_2 := keepCell hb x1_1
      have x1_2d := drewCell x1_2
      have x2_2 := keepCell hb x2_1
      have x2_2d := drewCell x2_2
      have x3_2 := keepCell hb x3_1
      have x3_2d := drewCell x3_2
      have x4_2 := keepCell hb x4_1
      have x4_2d := drewCell x4_2
      have x5_2 := keepCell hb x5_1
      have x5_2d := drewCell x5_2
      clear hb
      cases hza : zr a
      · go_wp2_with fail
        with_reducible refine (Rt.zero gb Ab mb cb Db mdb cdb b _ HRb_2.out).mono ?_
        rintro e v2 ⟨rfl, hb⟩
        have KB0_3 := Lib.hid (keepBlk hb KB0_2.out)
        have KB1_3 := Lib.hid (keepBlk hb KB1_2.out)
        have HA_3 := Lib.hid (HA_2.out.below hb)
        have HB_3 := Lib.hid (HB_2.out.below hb)
        have HRa_3 := Lib.hid (HRa_2.out.below hb)
        have HRb_3 := Lib.hid (HRb_2.out.below hb)
        have HP_3 := Lib.hid (HP_2.out.below hb)
        have HW_3 := Lib.hid (HW_2.out.below hb)
        have BB_3 := Lib.hid (BB_2.out.trans ((hb).mono BB_2.out.size))
        obtain ⟨c0_0_3, c0_0_3d, fc0_0_3, fc0_0_3d, c0_1_3, c0_1_3d, fc0_1_3, fc0_1_3d, c0_2_3, c0_2_3d, fc0_2_3, fc0_2_3d⟩ := bf3 KB0_3.out
        obtain ⟨c1_0_3, c1_0_3d, fc1_0_3, fc1_0_3d, c1_1_3, c1_1_3d, fc1_1_3, fc1_1_3d, c1_2_3, c1_2_3d, fc1_2_3, fc1_2_3d⟩ := bf3 KB1_3.out
        have x0_3 := keepCell hb x0_2
        have x0_3d := drewCell x0_3
        have x1_3 := keepCell hb x1_2
        have x1_3d := drewCell x1_3
        have x2_3 := keepCell hb x2_2
        have x2_3d := drewCell x2_3
        have x3_3 := keepCell hb x3_2
        have x3_3d := drewCell x3_3
        have x4_3 := keepCell hb x4_2
        have x4_3d := drewCell x4_3
        have x5_3 := keepCell hb x5_2
        have x5_3d := drewCell x5_3
        clear hb
        cases hzb : zr b
        · go_wp2_with fail
          refine wp_region_E (S := fun w' => w'.cell? ⟨W.heap.size, 0, none⟩ = some (.bool g) ∧ w'.cell? ⟨W.heap.size, 1, none⟩ = some (.slice P m cp) ∧ w'.cell? ⟨W.heap.size, 2, none⟩ = some (.slice D md cd) ∧ w'.cell? ⟨bx, k * 3, none⟩ = some (.bool ga) ∧ w'.cell? ⟨bx, k * 3 + 1, none⟩ = some (.slice Aa ma ca) ∧ w'.cell? ⟨bx, k * 3 + 2, none⟩ = some (.slice Da mda cda) ∧ w'.cell? ⟨by_, k * 3, none⟩ = some (.bool gb) ∧ w'.cell? ⟨by_, k * 3 + 1, none⟩ = some (.slice Ab mb cb) ∧ w'.cell? ⟨by_, k * 3 + 2, none⟩ = some (.slice Db mdb cdb)) 11 (by kernel_rfl) ?_ (fun hHeld => ?_)
          · (((try go_split_ands); (try simp only [World.cell?_drew]); (repeat' apply And.intro) <;> (repeat (first | with_reducible assumption | with_reducible refine cell_set (by omega) ?_ | with_reducible refine cell_al ?_))))
          refine wpAnyE_take (i := 0) (v := ?_) rfl (by kernel_rfl) (fun _ _ _ h => h) (Or.inl ⟨by rfl, ?_⟩) hHeld ?_
          rotate_left
          · ((intro w hSw; (try dsimp only at hSw); go_simp); (try with_reducible rfl))
          try simp only [Act.put, List.setIfInBounds_toArray, List.set_cons_zero, List.set_cons_succ, List.getElem_toArray, List.getElem_cons_zero, List.getElem_cons_succ]
          refine wpAnyE_take (i := 1) (v := ?_) rfl (by kernel_rfl) (fun _ _ _ h => h) (Or.inl ⟨by rfl, ?_⟩) hHeld ?_
          rotate_left
          · ((intro w hSw; (try dsimp only at hSw); go_simp); (try with_reducible rfl))
          try simp only [Act.put, List.setIfInBounds_toArray, List.set_cons_zero, List.set_cons_succ, List.getElem_toArray, List.getElem_cons_zero, List.getElem_cons_succ]
          refine wpAnyE_take (i := 2) (v := ?_) rfl (by kernel_rfl) (fun _ _ _ h => h) (Or.inl ⟨by rfl, ?_⟩) hHeld ?_
          rotate_left
          · ((intro w hSw; (try dsimp only at hSw); go_simp); (try with_reducible rfl))
          try simp only [Act.put, List.setIfInBounds_toArray, List.set_cons_zero, List.set_cons_succ, List.getElem_toArray, List.getElem_cons_zero, List.getElem_cons_succ]
          refine wpAnyE_take (i := 3) (v := ?_) rfl (by kernel_rfl) (fun _ _ _ h => h) (Or.inl ⟨by rfl, ?_⟩) hHeld ?_
          rotate_left
          · ((intro w hSw; (try dsimp only at hSw); go_simp); (try with_reducible rfl))
          try simp only [Act.put, List.setIfInBounds_toArray, List.set_cons_zero, List.set_cons_succ, List.getElem_toArray, List.getElem_cons_zero, List.getElem_cons_succ]
          refine wpAnyE_take (i := 4) (v := ?_) rfl (by kernel_rfl) (fun _ _ _ h => h) (Or.inl ⟨by rfl, ?_⟩) hHeld ?_
          rotate_left
          · ((intro w hSw; (try dsimp only at hSw); go_simp); (try with_reducible rfl))
          try simp only [Act.put, List.setIfInBounds_toArray, List.set_cons_zero, List.set_cons_succ, List.getElem_toArray, List.getElem_cons_zero, List.getElem_cons_succ]
          refine wpAnyE_take (i := 5) (v := ?_) rfl (by kernel_rfl) (fun _ _ _ h => h) (Or.inl ⟨by rfl, ?_⟩) hHeld ?_
          rotate_left
          · ((intro w hSw; (try dsimp only at hSw); go_simp); (try with_reducible rfl))
          try simp only [Act.put, List.setIfInBounds_toArray, List.set_cons_zero, List.set_cons_succ, List.getElem_toArray, List.getElem_cons_zero, List.getElem_cons_succ]
          refine wpAnyE_take (i := 6) (v := ?_) rfl (by kernel_rfl) (fun _ _ _ h => h) (Or.inl ⟨by rfl, ?_⟩) hHeld ?_
          rotate_left
          · ((intro w hSw; (try dsimp only at hSw); go_simp); (try with_reducible rfl))
          try simp only [Act.put, List.setIfInBounds_toArray, List.set_cons_zero, List.set_cons_succ, List.getElem_toArray, List.getElem_cons_zero, List.getElem_cons_succ]
          refine wpAnyE_take (i := 7) (v := ?_) rfl (by kernel_rfl) (fun _ _ _ h => h) (Or.inl ⟨by rfl, ?_⟩) hHeld ?_
          rotate_left
          · ((intro w hSw; (try dsimp only at hSw); go_simp); (try with_reducible rfl))
          try simp only [Act.put, List.setIfInBounds_toArray, List.set_cons_zero, List.set_cons_succ, List.getElem_toArray, List.getElem_cons_zero, List.getElem_cons_succ]
          refine wpAnyE_take (i := 8) (v := ?_) rfl (by kernel_rfl) (fun _ _ _ h => h) (Or.inl ⟨by rfl, ?_⟩) hHeld ?_
          rotate_left
          · ((intro w hSw; (try dsimp only at hSw); go_simp); (try with_reducible rfl))
          try simp only [Act.put, List.setIfInBounds_toArray, List.set_cons_zero, List.set_cons_succ, List.getElem_toArray, List.getElem_cons_zero, List.getElem_cons_succ]
          refine wpAnyE_one (i := 9) rfl (by kernel_rfl) (fun K hK => ?_)
          go_simp
          (go_at_call 11; (with_reducible refine (Rt.mul ga Aa ma ca Da mda cda a gb Ab mb cb Db mdb cdb b _ HRa_3.out.drew HRb_3.out.drew L1.out).mono ?_); rintro e u1 ⟨g1, A1, m1, c1, D1, md1, cd1, rfl, hn, hb⟩; have KB0_4 := Lib.hid (keepBlk hb KB0_3.out); have KB1_4 := Lib.hid (keepBlk hb KB1_3.out); have HA_4 := Lib.hid (HA_3.out.drew.below hb); have HB_4 := Lib.hid (HB_3.out.drew.below hb); have HRa_4 := Lib.hid (HRa_3.out.drew.below hb); have HRb_4 := Lib.hid (HRb_3.out.drew.below hb); have HP_4 := Lib.hid (HP_3.out.drew.below hb); have HW_4 := Lib.hid (HW_3.out.drew.below hb); have HM := Lib.hid (show RatS u1 g1 (.slice A1 m1 c1) (.slice D1 md1 cd1) (a * b) from hn); have BB_4 := Lib.hid (BB_3.out.trans ((It.bdrew0' hb).mono BB_3.out.size)); obtain ⟨c0_0_4, c0_0_4d, fc0_0_4, fc0_0_4d, c0_1_4, c0_1_4d, fc0_1_4, fc0_1_4d, c0_2_4, c0_2_4d, fc0_2_4, fc0_2_4d⟩ := bf3 KB0_4.out; obtain ⟨c1_0_4, c1_0_4d, fc1_0_4, fc1_0_4d, c1_1_4, c1_1_4d, fc1_1_4, fc1_1_4d, c1_2_4, c1_2_4d, fc1_2_4, fc1_2_4d⟩ := bf3 KB1_4.out; have x0_4 := keepCell hb x0_3d; have x0_4d := drewCell x0_4; have x1_4 := keepCell hb x1_3d; have x1_4d := drewCell x1_4; have x2_4 := keepCell hb x2_3d; have x2_4d := drewCell x2_4; have x3_4 := keepCell hb x3_3d; have x3_4d := drewCell x3_4; have x4_4 := keepCell hb x4_3d; have x4_4d := drewCell x4_4; have x5_4 := keepCell hb x5_3d; have x5_4d := drewCell x5_4; clear hn hb)
          (try go_wp2_with fail)
          refine hK.out _ _ ?_ (fun hHeld => ?_)
          · (((try go_split_ands); (try simp only [World.cell?_drew]); (repeat' apply And.intro) <;> (repeat (first | with_reducible assumption | with_reducible refine cell_set (by omega) ?_ | with_reducible refine cell_al ?_))))
          clear hK K
          try simp only [Act.put, List.setIfInBounds_toArray, List.set_cons_zero, List.set_cons_succ, List.getElem_toArray, List.getElem_cons_zero, List.getElem_cons_succ]
          refine wpAnyE_one (i := 10) rfl (by kernel_rfl) (fun K hK => ?_)
          go_simp
          (go_at_call 10; (with_reducible refine (Rt.add g P m cp D md cd (dotTo xs ys k) g1 A1 m1 c1 D1 md1 cd1 (a * b) _ HP_4.out HM.out L2.out).mono ?_); rintro e u2 ⟨g2, A2, m2, c2, D2, md2, cd2, rfl, hn, hb⟩; have KB0_5 := Lib.hid (keepBlk hb KB0_4.out); have KB1_5 := Lib.hid (keepBlk hb KB1_4.out); have HA_5 := Lib.hid (HA_4.out.below hb); have HB_5 := Lib.hid (HB_4.out.below hb); have HRa_5 := Lib.hid (HRa_4.out.below hb); have HRb_5 := Lib.hid (HRb_4.out.below hb); have HP_5 := Lib.hid (HP_4.out.below hb); have HW_5 := Lib.hid (HW_4.out.below hb); have HM_5 := Lib.hid (HM.out.below hb); have HS := Lib.hid (show RatS u2 g2 (.slice A2 m2 c2) (.slice D2 md2 cd2) (dotTo xs ys k + a * b) from hn); have BB_5 := Lib.hid (BB_4.out.trans ((hb).mono BB_4.out.size)); obtain ⟨c0_0_5, c0_0_5d, fc0_0_5, fc0_0_5d, c0_1_5, c0_1_5d, fc0_1_5, fc0_1_5d, c0_2_5, c0_2_5d, fc0_2_5, fc0_2_5d⟩ := bf3 KB0_5.out; obtain ⟨c1_0_5, c1_0_5d, fc1_0_5, fc1_0_5d, c1_1_5, c1_1_5d, fc1_1_5, fc1_1_5d, c1_2_5, c1_2_5d, fc1_2_5, fc1_2_5d⟩ := bf3 KB1_5.out; have x0_5 := keepCell hb x0_4; have x0_5d := drewCell x0_5; have x1_5 := keepCell hb x1_4; have x1_5d := drewCell x1_5; have x2_5 := keepCell hb x2_4; have x2_5d := drewCell x2_5; have x3_5 := keepCell hb x3_4; have x3_5d := drewCell x3_5; have x4_5 := keepCell hb x4_4; have x4_5d := drewCell x4_5; have x5_5 := keepCell hb x5_4; have x5_5d := drewCell x5_5; clear hn hb)
          (try go_wp2_with fail)
          refine hK.out _ _ ?_ (fun hHeld => ?_)
          · (((try go_split_ands); (try simp only [World.cell?_drew]); (repeat' apply And.intro) <;> (repeat (first | with_reducible assumption | with_reducible refine cell_set (by omega) ?_ | with_reducible refine cell_al ?_))))
          clear hK K
          try simp only [Act.put, List.setIfInBounds_toArray, List.set_cons_zero, List.set_cons_succ, List.getElem_toArray, List.getElem_cons_zero, List.getElem_cons_succ]
          refine wpAnyE_fin rfl (by kernel_rfl) (fun K hK => ?_)
          go_simp
          refine hK.out _ _ ?_
          clear hK K
          try simp only [Act.put, List.setIfInBounds_toArray, List.set_cons_zero, List.set_cons_succ, List.getElem_toArray, List.getElem_cons_zero, List.getElem_cons_succ]
          refine wpAnyE_done (by kernel_rfl) ?_ _
          all_goals
            go_wp2
            go_roundw
            case rel => exact ⟨k + 1, g2, A2, m2, c2, D2, md2, cd2, by go_num, by omega, blk_set _ (blk_set _ (blk_set _ KB1_5.out)), by rw [dotTo_succ xs ys k HGA.out HGB.out]; exact HS.out.set3 KB1_5.out (by decide) _ _ _, (Bel.set3 HW_5.out (Nat.le_refl _) _ _ _).b⟩
            case measure => simp [intOf]; omega
        · skip
          go_wp2
          go_roundw
          case rel => exact ⟨k + 1, g, P, m, cp, D, md, cd, by go_num, by omega, KB1_3.out, by rw [dotTo_skip xs ys k HGA.out HGB.out (Or.inr (zr_true hzb))]; exact HP_3.out, HW_3.out.b⟩
          case measure => simp [intOf]; omega
      · skip
        go_wp2
        go_roundw
        case rel => exact ⟨k + 1, g, P, m, cp, D, md, cd, by go_num, by omega, KB1_2.out, by rw [dotTo_skip xs ys k HGA.out HGB.out (Or.inl (zr_true hza))]; exact HP_2.out, HW_2.out.b⟩
        case measure => simp [intOf]; omega
    · have hkn : k = n' := by omega
      have KB0_1 := Lib.hid (keepBlk hB KB0.out)
      have HA_1 := Lib.hid (HA.out.below hB)
      have HB_1 := Lib.hid (HB.out.below hB)
      have HP := Lib.hid (show RatS wr g (.slice P m cp) (.slice D md cd) (dotTo xs ys k) from hP)
      have BB_1 := Lib.hid (BB.out.trans ((hB).mono BB.out.size))
      obtain ⟨c0_0_1, c0_0_1d, fc0_0_1, fc0_0_1d, c0_1_1, c0_1_1d, fc0_1_1, fc0_1_1d, c0_2_1, c0_2_1d, fc0_2_1, fc0_2_1d⟩ := bf3 KB0_1.out
      have KBO := Lib.hid hbox
      obtain ⟨c0_0_1, c0_0_1d, fc0_0_1, fc0_0_1d, c0_1_1, c0_1_1d, fc0_1_1, fc0_1_1d, c0_2_1, c0_2_1d, fc0_2_1, fc0_2_1d⟩ := bf3 KB0_1.out
      obtain ⟨c1_0_1, c1_0_1d, c1_1_1, c1_1_1d, c1_2_1, c1_2_1d⟩ := bc3 KBO.out
      clear hbox hP hB
      go_wp2
      refine bodyPost_ret (v := .tuple #[.agg #[.bool g, .slice P m cp, .slice D md cd], .bool true]) (by simp [results, Try.results40, go_sem, c0_0_1, c0_0_1d, c0_1_1, c0_1_1d, c0_2_1, c0_2_1d]) rfl ?_
      have h := HP.out
      rw [hkn, HN.out] at h
      exact ⟨_, _, _, _, _, _, _, rfl, h.set3 KB0_1.out (by decide) _ _ _, Below.setCell (Below.setCell (Below.setCell (BB_1.out) (p := ⟨w.heap.size, 0, none⟩) (by show w.heap.size ≤ w.heap.size; omega) _) (p := ⟨w.heap.size, 1, none⟩) (by show w.heap.size ≤ w.heap.size; omega) _) (p := ⟨w.heap.size, 2, none⟩) (by show w.heap.size ≤ w.heap.size; omega) _⟩
end Vc
end Go.Proofs.Ytohkhcbocknliaa
