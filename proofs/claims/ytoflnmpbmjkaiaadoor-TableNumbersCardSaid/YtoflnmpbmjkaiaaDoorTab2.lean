/- Opening a session in a table. Conditions: as each says. -/
import Derived.Test.YtoflnmpbmjkaiaaDoorTab1
import Derived.Deep.DeepCutAuto
import Derived.Deep.DeepMust
namespace Go.Proofs.YtoflnmpbmjkaiaaDoor
open Go.RowKit
set_option maxRecDepth 100000
set_option maxHeartbeats 4000000
namespace Tb
theorem after_append {w w3 w4 : World} {tb n : Nat} {cs : Array Value} {v v4 : Value} {xs ys : List Value} (HB3 : w3.heap[tb]? = some (.cells cs 53 (0, 0))) (HR3 : w3.ownsRow (tb + 1) 59 2 v n xs) {o : Obj}
    (hR4 : w4.ownsRow (tb + 1) 59 2 v4 (n + 1) ys) (hg4 : (w3.alloc o).grownBy w4 v.ownBlock) (hb : Below tb w w3) (hk : Keeps tb w w3) : ∃ g p, v4 = .slice (some ⟨g, 0, none⟩) (n + 1) p ∧ w4.heap[tb]? = some (.cells cs 53 (0, 0)) ∧ Below tb w w4 ∧ Keeps tb w w4 := by
  obtain ⟨g, p, rfl⟩ := own_form hR4 (Nat.succ_pos _)
  have hlt := blk_lt HB3
  exact ⟨g, p, rfl, grown_keep (HR3.alloc o) hg4 ((Below.heap_alloc w3 o tb hlt).trans HB3), grown_below (HR3.alloc o) hg4 (hb.alloc (Nat.le_of_lt hlt) o) (by simp; omega), Keeps.grown (hk.alloc o) (HR3.alloc o) hg4⟩
theorem topen_full (a b c d e f : Int) (tb : Nat) (st : List (Int × Nat)) (last : Int) (w : World) (hT : Tab w tb a b c d e f st last) (he : e ≤ (st.length : Int)) (hh : st.length ≤ 1000) :
    Calls Tryd.prog 8 #[.pointer (some ⟨tb, 0, none⟩)] w fun ev w' => ∃ xb, ev = .returned (.tuple #[.int .i64 0, .iface 62 (.pointer (some ⟨xb, 0, none⟩))]) ∧ w.heap.size ≤ xb ∧
      w'.heap[xb]? = some (.cells #[.int .i64 5, .int .i64 ((st.length : Int) + 1), .int .i64 e] 68 (0, 0)) ∧ Below w.heap.size w w' := by
  obtain ⟨v, hB, hR⟩ := hT
  have hv : ∃ A cp, v = .slice A st.length cp := by
    rcases hR.2 with ⟨rfl, h0⟩ | ⟨g, cap, cur, rfl, _⟩
    · exact ⟨_, _, by rw [h0]⟩
    · exact ⟨_, _, rfl⟩
  obtain ⟨A, cp, rfl⟩ := hv
  have k0 := blk_cell hB 0
  have k1 := blk_cell hB 1
  have k2 := blk_cell hB 2
  have k3 := blk_cell hB 3
  have k4 := blk_cell hB 4
  have k5 := blk_cell hB 5
  have k6 := blk_cell hB 6
  simp only [List.getElem?_toArray, List.getElem?_cons_zero, List.getElem?_cons_succ] at k0 k1 k2 k3 k4 k5 k6
  clear hR
  go_enter Tryd.func8, Tryd.ntmps8
  go_wp2_with fail
  go_region_with (go_at_call 17; (refine (one_no a b c d e f st.length _ he hh).mono ?_; rintro e1 w' ⟨rfl, hx, hb⟩))
  all_goals go_wp2
  all_goals go_ret2
  all_goals exact ⟨_, rfl, Nat.le_succ _, hx, bdrew0 hb⟩
theorem topen_ok (a b c d e f : Int) (tb : Nat) (st : List (Int × Nat)) (last : Int) (w : World) (hT : Tab w tb a b c d e f st last) (he : (st.length : Int) < e) (hh : st.length < 16) (hl : 0 ≤ last) (hl2 : last < 1000000) :
    Calls Tryd.prog 8 #[.pointer (some ⟨tb, 0, none⟩)] w fun ev w' => ∃ sb, ev = .returned (.tuple #[.int .i64 (last + 1), .nilIface]) ∧ Tab w' tb a b c d e f (st ++ [(last + 1, sb)]) (last + 1) ∧ Below tb w w' ∧ Keeps tb w w' := by
  obtain ⟨v, hB, hR⟩ := hT
  have hv : ∃ A cp, v = .slice A st.length cp := by
    rcases hR.2 with ⟨rfl, h0⟩ | ⟨g, cap, cur, rfl, _⟩
    · exact ⟨_, _, by rw [h0]⟩
    · exact ⟨_, _, rfl⟩
  obtain ⟨A, cp, rfl⟩ := hv
  have HB := Lib.hid hB
  have HR := Lib.hid hR
  have k0 := blk_cell hB 0
  have k1 := blk_cell hB 1
  have k2 := blk_cell hB 2
  have k3 := blk_cell hB 3
  have k4 := blk_cell hB 4
  have k5 := blk_cell hB 5
  have k6 := blk_cell hB 6
  have k7 := blk_cell hB 7
  have f7 := blk_fro hB 7
  simp only [List.getElem?_toArray, List.getElem?_cons_zero, List.getElem?_cons_succ] at k0 k1 k2 k3 k4 k5 k6 k7
  clear hB hR
  go_enter Tryd.func8, Tryd.ntmps8
  go_wp2_with fail
  go_cut [4] (fun s4 wr => s4 = .nilIface ∧ Below w.heap.size w wr)
  case first =>
    go_region_with (go_at_call 17; (refine (one_ok a b c d e f st.length _ he).mono ?_; rintro e1 w1 ⟨rfl, hb⟩; have hb1 := Lib.hid (bdrew0 hb); clear hb))
    all_goals
      go_wp2
      go_meet
      case rel => exact ⟨rfl, hb1.out⟩
  case rest =>
    obtain ⟨rfl, hb1⟩ := hcut
    rename World => w1
    have hb1 := Lib.hid hb1
    have HB1 := Lib.hid (blk_keep hb1.out (blk_lt HB.out) HB.out)
    have HR1 := Lib.hid (row_below HR.out hb1.out)
    have l6 := blk_cell HB1.out 6
    have l7 := blk_cell HB1.out 7
    have lf := blk_fro HB1.out 7
    simp only [List.getElem?_toArray, List.getElem?_cons_zero, List.getElem?_cons_succ] at l6 l7
    have HB2 : Hid ((w1.setCell ⟨tb, 7, none⟩ (.int .i64 (last + 1))).heap[tb]? = some (.cells #[.int .i64 a, .int .i64 b, .int .i64 c, .int .i64 d, .int .i64 e, .int .i64 f, .slice A st.length cp, .int .i64 (last + 1)] 53 (0, 0))) := Lib.hid (heap_setCell_same w1 tb 7 _ 53 (.int .i64 (last + 1)) HB1.out)
    have HR2 := Lib.hid (ownsRow_setCell_below HR1.out (a := ⟨tb, 7, none⟩) (Nat.lt_succ_self _) (.int .i64 (last + 1)))
    have hk2 := Lib.hid ((Keeps.of (tb := tb) hb1.out).set 7 (.int .i64 (last + 1)))
    have hb2 := Lib.hid (((hb1.out.mono (Nat.le_of_lt (blk_lt HB.out))).setCell (p := ⟨tb, 7, none⟩) (Nat.le_refl _) (.int .i64 (last + 1))))
    go_wp2
    generalize w1.setCell ⟨tb, 7, none⟩ (.int .i64 (last + 1)) = w2 at *
    clear HB1 HR1 l6 l7 lf k0 k1 k2 k3 k4 k5 k6 k7 f7 hb1
    have c0 := blk_cell HB2.out 0
    have c1 := blk_cell HB2.out 1
    have c2 := blk_cell HB2.out 2
    have c3 := blk_cell HB2.out 3
    have c4 := blk_cell HB2.out 4
    have c5 := blk_cell HB2.out 5
    have c6 := blk_cell HB2.out 6
    have c7 := blk_cell HB2.out 7
    simp only [List.getElem?_toArray, List.getElem?_cons_zero, List.getElem?_cons_succ] at c0 c1 c2 c3 c4 c5 c6 c7
    go_region_law (first
      | (refine step_fn (by rfl) 18 Tryd.func18 (by kernel_rfl) (by rfl) _ _ (by rfl) _ (by rfl) (snew a b c d e f _) ?_; rintro e3 w3 ⟨sb, rfl, hb3⟩; refine ⟨_, rfl, ?_⟩;
         have hb23 := Lib.hid (bdrew0 hb3); clear hb3;
         have HB3 := Lib.hid (blk_keep hb23.out (blk_lt HB2.out) HB2.out); have HR3 := Lib.hid (row_below HR2.out hb23.out);
         have d0 := blk_cell HB3.out 0; have d1 := blk_cell HB3.out 1; have d2 := blk_cell HB3.out 2; have d3 := blk_cell HB3.out 3; have d4 := blk_cell HB3.out 4; have d5 := blk_cell HB3.out 5; have d6 := blk_cell HB3.out 6; have d7 := blk_cell HB3.out 7;
         simp only [List.getElem?_toArray, List.getElem?_cons_zero, List.getElem?_cons_succ] at d0 d1 d2 d3 d4 d5 d6 d7;
         have y6 := (World.cell?_alloc_lt w3 (.cells #[.int .i64 (last + 1), .pointer (some ⟨sb, 0, none⟩)] 59) ⟨tb, 6, none⟩ (blk_lt HB3.out)).trans d6)
      | (refine step_appendS (by rfl) _ _ (by rfl) (HR3.out.alloc _) (by rfl) (by rfl) [.int .i64 (last + 1), .pointer (some ⟨sb, 0, none⟩)] (by rfl) (new2 _ _ _ _) (by intro u hu; simp at hu; rcases hu with rfl | rfl <;> rfl) (by omega) (by have := blk_lt HB3.out; simp; omega) ?_;
         go_loud (rintro v4 w4 hR4 hg4; have hq := after_append HB3.out HR3.out hR4 hg4 (hb2.out.trans (hb23.out.mono (Nat.le_of_lt (blk_lt HB2.out)))) (hk2.out.trans (Keeps.of hb23.out)); obtain ⟨g4, p4, rfl, hB4, hb4, hk4⟩ := hq; have HK4 := Lib.hid hk4; have HB4 := Lib.hid hB4; have Hb4 := Lib.hid hb4; have HR4 := Lib.hid hR4; clear hR4 hg4 hB4 hb4 hk4; have x6 := blk_cell HB4.out 6; have x7 := blk_cell HB4.out 7; have xf := blk_fro HB4.out 6; simp only [List.getElem?_toArray, List.getElem?_cons_zero, List.getElem?_cons_succ] at x6 x7)))
    all_goals
      go_wp2
      go_ret2
      have HB5 : (w4.setCell ⟨tb, 6, none⟩ (.slice (some ⟨g4, 0, none⟩) (st.length + 1) p4)).heap[tb]? = some (.cells #[.int .i64 a, .int .i64 b, .int .i64 c, .int .i64 d, .int .i64 e, .int .i64 f, .slice (some ⟨g4, 0, none⟩) (st.length + 1) p4, .int .i64 (last + 1)] 53 (0, 0)) := heap_setCell_same w4 tb 6 _ 53 _ HB4.out
      refine ⟨sb, rfl, ⟨_, HB5, ?_⟩, Below.setCell Hb4.out (p := ⟨tb, 6, none⟩) (Nat.le_refl _) _, HK4.out.set 6 _⟩
      have hR5 := ownsRow_setCell_below HR4.out (a := ⟨tb, 6, none⟩) (Nat.lt_succ_self _) (.slice (some ⟨g4, 0, none⟩) (st.length + 1) p4)
      rw [seats_append, List.length_append]
      exact hR5
end Tb
end Go.Proofs.YtoflnmpbmjkaiaaDoor
