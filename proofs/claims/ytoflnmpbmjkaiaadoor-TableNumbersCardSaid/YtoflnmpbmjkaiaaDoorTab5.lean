/- Closing, getting, listing. Conditions: as each says. -/
import Derived.Test.YtoflnmpbmjkaiaaDoorTab3
import Derived.Test.YtoflnmpbmjkaiaaDoorTab4
namespace Go.Proofs.YtoflnmpbmjkaiaaDoor
open Go.RowKit
set_option maxRecDepth 100000
set_option maxHeartbeats 4000000
namespace Tb
def Found (st : List (Int × Nat)) (id r : Int) : Prop := (r = -1 ∧ ∀ j, j < st.length → st[j]!.1 ≠ id) ∨ ∃ k : Nat, r = (k : Int) ∧ k < st.length ∧ st[k]!.1 = id
theorem tat (a b c d e f : Int) (tb : Nat) (st : List (Int × Nat)) (last id : Int) (w : World) (hT : Tab w tb a b c d e f st last) (hs : st.length ≤ 1000) :
    Calls Tryd.prog 14 #[.pointer (some ⟨tb, 0, none⟩), .int .i64 id] w fun ev w' => ∃ r : Int, ev = .returned (.int .i64 r) ∧ Below w.heap.size w w' ∧ Found st id r := by
  obtain ⟨v, hB, hR⟩ := hT
  have hv : ∃ A cp, v = .slice A st.length cp := by
    rcases hR.2 with ⟨rfl, h0⟩ | ⟨g, cap, cur, rfl, _⟩
    · exact ⟨_, _, by rw [h0]⟩
    · exact ⟨_, _, rfl⟩
  obtain ⟨A, cp, rfl⟩ := hv
  have k6 := (World.cell?_alloc_lt w (.cells #[.int .i64 id] 3) ⟨tb, 6, none⟩ (blk_lt hB)).trans (blk_cell hB 6)
  simp only [List.getElem?_toArray, List.getElem?_cons_zero, List.getElem?_cons_succ] at k6
  have HC := Lib.hid (index st A cp (tb + 1) w.heap.size id (w.alloc (.cells #[.int .i64 id] 3)) (hR.alloc _) ((blk_cell (blk_new w _ _) 0).trans rfl) hs)
  have hne : tb ≠ w.heap.size := Nat.ne_of_lt (blk_lt hB)
  clear hB hR
  go_enter Tryd.func14, Tryd.ntmps14
  go_wp2_with (go_at_call 23; go_loud (refine HC.out.mono ?_; rintro e w' ⟨r, rfl, hb, hr⟩; have HB' := Lib.hid hb; have HF := Lib.hid hr; clear hb hr))
  go_ret
  exact ⟨r, rfl, ((Below.refl _ _).alloc (Nat.le_refl _) _).trans (HB'.out.mono (by simp)), HF.out⟩
/-- the word that a fault of a session tells. -/
abbrev sess : ByteArray := { data := #[115, 101, 115, 115, 105, 111, 110] }
theorem wrapS (S : ByteArray) (id : Int) (w : World) : Calls Tryd.prog 15 #[.iface 50 (.int .i64 290), .string S, .int .i64 id] w fun ev w' => ev = .returned (.iface 73 (.pointer (some ⟨w.heap.size, 0, none⟩))) ∧ w' = w.alloc (.cells #[.string S, .int .i64 id, .iface 50 (.int .i64 290)] 75) := by
  go_enter Tryd.func15, Tryd.ntmps15
  go_wp2
  go_ret
  exact ⟨rfl, rfl⟩
theorem tget_no (a b c d e f : Int) (tb : Nat) (st : List (Int × Nat)) (last id : Int) (w : World) (hT : Tab w tb a b c d e f st last) (hs : st.length ≤ 1000) (hno : ∀ j, j < st.length → st[j]!.1 ≠ id) :
    Calls Tryd.prog 10 #[.pointer (some ⟨tb, 0, none⟩), .int .i64 id] w fun ev w' => ∃ fb, ev = .returned (.tuple #[.pointer none, .iface 73 (.pointer (some ⟨fb, 0, none⟩))]) ∧ w'.heap[fb]? = some (.cells #[.string sess, .int .i64 id, .iface 50 (.int .i64 290)] 75 (0, 0)) ∧ Below w.heap.size w w' := by
  have HA := Lib.hid (tat a b c d e f tb st last id w hT hs)
  clear hT
  go_enter Tryd.func10, Tryd.ntmps10
  go_wp2_with (first
    | (go_at_call 14; go_loud (refine HA.out.mono ?_; rintro e w' ⟨r, rfl, hb, hr⟩; have hr1 : r = -1 := (by rcases hr with ⟨h, _⟩ | ⟨k, _, hk, h⟩; exact h; exact absurd h (hno k hk)); subst hr1; have HB := Lib.hid hb; clear hb hr))
    | (go_at_call 15; go_loud (refine (wrapS _ id _).mono ?_; rintro e w' ⟨rfl, rfl⟩)))
  go_ret2
  exact ⟨_, rfl, blk_new _ _ _, HB.out.alloc HB.out.size _⟩
theorem tclose_no (a b c d e f : Int) (tb : Nat) (st : List (Int × Nat)) (last id : Int) (w : World) (hT : Tab w tb a b c d e f st last) (hs : st.length ≤ 1000) (hno : ∀ j, j < st.length → st[j]!.1 ≠ id) :
    Calls Tryd.prog 7 #[.pointer (some ⟨tb, 0, none⟩), .int .i64 id] w fun ev w' => ∃ x, ev = .returned x ∧ Below w.heap.size w w' := by
  have HA := Lib.hid (tat a b c d e f tb st last id w hT hs)
  clear hT
  go_enter Tryd.func7, Tryd.ntmps7
  go_wp2_with (first
    | (go_at_call 14; go_loud (refine HA.out.mono ?_; rintro e w' ⟨r, rfl, hb, hr⟩; have hr1 : r = -1 := (by rcases hr with ⟨h, _⟩ | ⟨k, _, hk, h⟩; exact h; exact absurd h (hno k hk)); subst hr1; have HB := Lib.hid hb; clear hb hr))
    | (go_at_call 15; go_loud (refine (wrapS _ id _).mono ?_; rintro e w' ⟨rfl, rfl⟩)))
  go_ret
  exact ⟨_, rfl, HB.out.alloc HB.out.size _⟩
theorem tclose_yes (a b c d e f : Int) (tb : Nat) (st : List (Int × Nat)) (last id : Int) (w : World) (hT : Tab w tb a b c d e f st last) (hs : st.length ≤ 1000) (hyes : ∃ j, j < st.length ∧ st[j]!.1 = id) :
    Calls Tryd.prog 7 #[.pointer (some ⟨tb, 0, none⟩), .int .i64 id] w fun ev w' => ∃ k, ev = .returned .nilIface ∧ k < st.length ∧ st[k]!.1 = id ∧ Tab w' tb a b c d e f (st.eraseIdx k) last ∧ Below tb w w' ∧ Keeps tb w w' := by
  have HA := Lib.hid (tat a b c d e f tb st last id w hT hs)
  obtain ⟨v, hB, hR⟩ := hT
  obtain ⟨m, hm⟩ : ∃ m, st.length = m + 1 := ⟨st.length - 1, by obtain ⟨j, hj, _⟩ := hyes; omega⟩
  rw [hm] at hR
  obtain ⟨g, cp, rfl⟩ : ∃ g cp, v = .slice (some ⟨g, 0, none⟩) (m + 1) cp := by
    rcases hR.2 with ⟨rfl, h0⟩ | ⟨g, cap, cur, rfl, _⟩
    · omega
    · exact ⟨_, _, rfl⟩
  have HB := Lib.hid hB
  have HR := Lib.hid hR
  have hgb : tb < g := (hR.lt g rfl).1
  clear hB hR
  go_enter Tryd.func7, Tryd.ntmps7
  go_wp2_with (first
    | (go_at_call 14; go_loud (refine HA.out.mono ?_; rintro e w1 ⟨r, rfl, hb, hr⟩; have hr1 : ∃ k : Nat, r = (k : Int) ∧ k < m + 1 ∧ st[k]!.1 = id := (by rcases hr with ⟨_, h⟩ | ⟨k, hk0, hk, h⟩; obtain ⟨j, hj, hjd⟩ := hyes; exact absurd hjd (h j hj); exact ⟨k, hk0, by omega, h⟩); obtain ⟨k, rfl, hk, hkd⟩ := hr1; have HB1 := Lib.hid (blk_keep hb (blk_lt HB.out) HB.out); have HR1 := Lib.hid (row_below HR.out hb); have Hb1 := Lib.hid hb; clear hb hr; have k6 := blk_cell HB1.out 6; have k7 := blk_cell HB1.out 7; have f6 := blk_fro HB1.out 6; simp only [List.getElem?_toArray, List.getElem?_cons_zero, List.getElem?_cons_succ] at k6 k7))
    | (go_at_call 16; go_loud (refine (delete st g cp (tb + 1) k m _ hm (by omega) (by omega) HR1.out).mono ?_; rintro e w2 ⟨rfl, hR2, hg2⟩; have HB2 := Lib.hid ((hg2.block tb (blk_lt HB1.out) (fun e => by have := Option.some.inj e; omega)).trans HB1.out); have HR2 := Lib.hid hR2; have HG2 := Lib.hid hg2; clear hR2 hg2; have m6 := blk_cell HB2.out 6; have mf := blk_fro HB2.out 6; simp only [List.getElem?_toArray, List.getElem?_cons_zero, List.getElem?_cons_succ] at m6)))
  go_ret
  have hB3 : (w2.setCell ⟨tb, 6, none⟩ (.slice (some ⟨g, 0, none⟩) m cp)).heap[tb]? = some (.cells #[.int .i64 a, .int .i64 b, .int .i64 c, .int .i64 d, .int .i64 e, .int .i64 f, .slice (some ⟨g, 0, none⟩) m cp, .int .i64 last] 53 (0, 0)) := heap_setCell_same w2 tb 6 _ 53 _ HB2.out
  have hR3 := ownsRow_setCell_below HR2.out (a := ⟨tb, 6, none⟩) (Nat.lt_succ_self _) (.slice (some ⟨g, 0, none⟩) m cp)
  refine ⟨k, rfl, by omega, hkd, ⟨_, hB3, ?_⟩, Below.setCell (grown_below HR1.out HG2.out (Hb1.out.mono (Nat.le_of_lt (blk_lt HB.out))) (blk_lt HB1.out)) (p := ⟨tb, 6, none⟩) (Nat.le_refl _) _, Keeps.set (Keeps.grown (Keeps.of Hb1.out) HR1.out HG2.out) 6 _⟩
  rw [List.length_eraseIdx_of_lt (by omega), hm]
  exact hR3
end Tb
end Go.Proofs.YtoflnmpbmjkaiaaDoor
