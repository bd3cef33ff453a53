/- The document's examples on a table: awake answers true. Condition: errors.errorType holds its handle. -/
import Derived.Test.YtoflnmpbmjkaiaaDoorTab6
import Derived.Test.YtoflnmpbmjkaiaaDoorErr3
namespace Go.Proofs.YtoflnmpbmjkaiaaDoor
open Go.RowKit
set_option maxRecDepth 100000
set_option maxHeartbeats 4000000
namespace Tb
theorem open1 (tb : Nat) (w : World) (hT : Tab w tb 0 0 0 0 1 0 [] 0) : Calls Tryd.prog 8 #[.pointer (some ⟨tb, 0, none⟩)] w fun ev w' => ∃ sb, ev = .returned (.tuple #[.int .i64 1, .nilIface]) ∧ Tab w' tb 0 0 0 0 1 0 [(1, sb)] 1 ∧ Below tb w w' ∧ Keeps tb w w' :=
  topen_ok 0 0 0 0 1 0 tb [] 0 w hT (by decide) (by decide) (by decide) (by decide)
theorem open2 (tb sb : Nat) (w : World) (hT : Tab w tb 0 0 0 0 1 0 [(1, sb)] 1) : Calls Tryd.prog 8 #[.pointer (some ⟨tb, 0, none⟩)] w fun ev w' => ∃ xb, ev = .returned (.tuple #[.int .i64 0, .iface 62 (.pointer (some ⟨xb, 0, none⟩))]) ∧ w.heap.size ≤ xb ∧
      w'.heap[xb]? = some (.cells #[.int .i64 5, .int .i64 2, .int .i64 1] 68 (0, 0)) ∧ Below w.heap.size w w' :=
  topen_full 0 0 0 0 1 0 tb [(1, sb)] 1 w hT (by simp) (by simp)
theorem open3 (tb : Nat) (w : World) (hT : Tab w tb 0 0 0 0 1 0 [] 1) : Calls Tryd.prog 8 #[.pointer (some ⟨tb, 0, none⟩)] w fun ev w' => ∃ sb, ev = .returned (.tuple #[.int .i64 2, .nilIface]) ∧ Tab w' tb 0 0 0 0 1 0 [(2, sb)] 2 ∧ Below tb w w' ∧ Keeps tb w w' :=
  topen_ok 0 0 0 0 1 0 tb [] 1 w hT (by decide) (by decide) (by decide) (by decide)
theorem close1 (tb sb : Nat) (w : World) (hT : Tab w tb 0 0 0 0 1 0 [(1, sb)] 1) : Calls Tryd.prog 7 #[.pointer (some ⟨tb, 0, none⟩), .int .i64 1] w fun ev w' => ev = .returned .nilIface ∧ Tab w' tb 0 0 0 0 1 0 [] 1 ∧ Below tb w w' ∧ Keeps tb w w' :=
  (tclose_yes 0 0 0 0 1 0 tb [(1, sb)] 1 1 w hT (by simp) ⟨0, by simp, rfl⟩).mono fun e w' h => by
    obtain ⟨k, h1, h2, _, h4, h5, h6⟩ := h
    have hk : k = 0 := by simp at h2; exact h2
    subst hk
    exact ⟨h1, h4, h5, h6⟩
theorem get1 (tb : Nat) (w : World) (hT : Tab w tb 0 0 0 0 1 0 [] 1) : Calls Tryd.prog 10 #[.pointer (some ⟨tb, 0, none⟩), .int .i64 1] w fun ev w' => ∃ fb, ev = .returned (.tuple #[.pointer none, .iface 73 (.pointer (some ⟨fb, 0, none⟩))]) ∧
      w'.heap[fb]? = some (.cells #[.string sess, .int .i64 1, .iface 50 (.int .i64 290)] 75 (0, 0)) ∧ Below w.heap.size w w' :=
  tget_no 0 0 0 0 1 0 tb [] 1 1 w hT (by decide) (fun j hj => absurd hj (Nat.not_lt_zero _))
theorem tnew1 (w : World) : Calls Tryd.prog 5 #[.agg #[.int .i64 0, .int .i64 0, .int .i64 0, .int .i64 0, .int .i64 1, .int .i64 0]] w fun ev w' => ev = .returned (.pointer (some ⟨w.heap.size + 1, 0, none⟩)) ∧ Tab w' (w.heap.size + 1) 0 0 0 0 1 0 [] 0 ∧ Below w.heap.size w w' := tnew 0 0 0 0 1 0 w
theorem Tab.lt {w : World} {tb : Nat} {a b c d e f : Int} {st : List (Int × Nat)} {last : Int} (h : Tab w tb a b c d e f st last) : tb < w.heap.size := by
  obtain ⟨v, h1, _⟩ := h
  exact blk_lt h1
theorem fault_ne {w : World} {tb fb : Nat} {a b c d e f : Int} {st : List (Int × Nat)} {last : Int} {cs : Array Value} (h : Tab w tb a b c d e f st last) (hf : w.heap[fb]? = some (.cells cs 75 (0, 0))) : fb ≠ tb := by
  rintro rfl
  obtain ⟨v, h1, _⟩ := h
  rw [h1] at hf
  simp only [Option.some.injEq, Obj.cells.injEq] at hf
  exact absurd hf.2.1 (by decide)
theorem sess_ne : sess.toList.isEmpty = false := by first | kernel_rfl | decide | simp [ByteArray.toList, ByteArray.toList.loop]
theorem awake (w : World) (hg : w.cell? ⟨0, 0, none⟩ = some Err.HandleV) : Calls Tryd.prog 4 #[] w fun ev w' => ev = .returned (.bool true) ∧ Below w.heap.size w w' := by
  have hpos := Err.pos_of_cell hg
  have HG := Lib.hid hg
  clear hg
  go_enter Tryd.func4, Tryd.ntmps4
  go_wp2_with (first
    | (go_at_call 5; go_loud (refine (tnew1 _).mono ?_; rintro e w1 ⟨rfl, hT, hb⟩; have HT1 := Lib.hid hT; have HB1 := Lib.hid hb; clear hT hb; generalize htb : w.heap.size + 1 = tb at *; have HTB := Lib.hid htb; clear htb))
    | (go_at_call 8; (refine (open1 _ _ HT1.out).mono ?_; rintro e w2 ⟨sb, rfl, hT, hb, hk⟩; have HT2 := Lib.hid hT; have HB2 := Lib.hid hb; clear hT hb hk HT1))
    | (go_at_call 8; (refine (open2 _ sb _ HT2.out).mono ?_; rintro e w3 ⟨xb, rfl, hx, hc, hb⟩; have HX := Lib.hid (show xb ≠ tb by have := HT2.out.lt; omega); have HC3 := Lib.hid hc; have HT3 := Lib.hid (HT2.out.keep hb); have HB3 := Lib.hid hb; have HL2 := Lib.hid HT2.out.lt; clear hc hb hx HT2))
    | (go_at_call 7; (refine (close1 _ sb _ HT3.out).mono ?_; rintro e w4 ⟨rfl, hT, hb, hk⟩; have HT4 := Lib.hid hT; have HB4 := Lib.hid hb; have HK4 := Lib.hid hk; clear hT hb hk HT3))
    | (go_at_call 10; (refine (get1 _ _ HT4.out).mono ?_; rintro e w5 ⟨fb, rfl, hc, hb⟩; have HC5 := Lib.hid hc; have HT5 := Lib.hid (HT4.out.keep hb); have HB5 := Lib.hid hb; have HL4 := Lib.hid HT4.out.lt; have HF := Lib.hid (fault_ne HT5.out hc); clear hc hb HT4))
    | (go_at_call 8; (refine (open3 _ _ HT5.out).mono ?_; rintro e w6 ⟨sb2, rfl, hT, hb, hk⟩; have HT6 := Lib.hid hT; have HB6 := Lib.hid hb; have HK6 := Lib.hid hk; clear hT hb hk HT5; have HBt := Lib.hid ((((HB2.out.trans (HB3.out.mono (Nat.le_of_lt HL2.out))).trans HB4.out).trans (HB5.out.mono (Nat.le_of_lt HL4.out))).trans HB6.out); have HG6 := Lib.hid ((HBt.out.cell (p := ⟨0, 0, none⟩) (by have := HTB.out; show 0 < tb; omega)).trans ((HB1.out.cell (p := ⟨0, 0, none⟩) hpos).trans HG.out)); have HC6 := Lib.hid (HK6.out xb _ 68 HX.out (by decide) (blk_keep HB5.out (blk_lt (HK4.out xb _ 68 HX.out (by decide) HC3.out)) (HK4.out xb _ 68 HX.out (by decide) HC3.out))); have HD6 := Lib.hid (HK6.out fb _ 75 HF.out (by decide) HC5.out)))
    | (go_at_call 11; (refine (Err.told24 xb 2 1 _ (blk_cell HC6.out 0) (blk_cell HC6.out 1) (blk_cell HC6.out 2) HG6.out).mono ?_; rintro e w7 ⟨rfl, hb⟩; have HB7 := Lib.hid hb; clear hb))
    | (go_at_call 12; go_loud (refine (Err.told09 fb sess 1 _ (blk_cell (blk_keep HB7.out (blk_lt HD6.out) HD6.out) 0) (blk_cell (blk_keep HB7.out (blk_lt HD6.out) HD6.out) 1) (blk_cell (blk_keep HB7.out (blk_lt HD6.out) HD6.out) 2) (Err.keepC HB7.out HG6.out) sess_ne).mono ?_; rintro e w8 ⟨rfl, hb⟩; have HB8 := Lib.hid hb; clear hb)))
  go_ret
  have h1 : w.heap.size ≤ tb := by have := HTB.out; omega
  exact ⟨rfl, ((HB1.out.trans (HBt.out.mono h1)).trans (HB7.out.mono (Nat.le_trans (HB1.out.trans (HBt.out.mono h1)).size (Nat.le_refl _)))).trans (HB8.out.mono (((HB1.out.trans (HBt.out.mono h1)).trans (HB7.out.mono (Nat.le_trans (HB1.out.trans (HBt.out.mono h1)).size (Nat.le_refl _)))).size))⟩
end Tb
end Go.Proofs.YtoflnmpbmjkaiaaDoor
