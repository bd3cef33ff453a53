/- Where a number stands among the seats. Conditions: as each says. -/
import Derived.Test.YtoflnmpbmjkaiaaDoorTab1
namespace Go.Proofs.YtoflnmpbmjkaiaaDoor
open Go.RowKit
set_option maxRecDepth 100000
set_option maxHeartbeats 4000000
namespace Tb
theorem at1 (x : Int) (s : Nat) (B : Nat) (id : Int) (w : World) (hc : w.cell? ⟨B, 0, none⟩ = some (.int .i64 id)) : Calls Tryd.prog 24 #[.agg #[.int .i64 x, .pointer (some ⟨s, 0, none⟩)], .pointer (some ⟨B, 0, none⟩)] w fun e w' => e = .returned (.bool (decide (x = id))) ∧ Below w.heap.size w w' := by
  have hB : B < w.heap.size := by
    rcases Nat.lt_or_ge B w.heap.size with h | h
    · exact h
    · simp [World.cell?, Array.getElem?_eq_none h] at hc
  have hne : B ≠ w.heap.size := by omega
  go_enter Tryd.func24, Tryd.ntmps24
  go_wp2
  all_goals (go_ret; exact ⟨rfl, (Below.refl _ _).alloc (Nat.le_refl _) _⟩)
theorem seat_get (st : List (Int × Nat)) : ∀ k, k < st.length → (seatCells st)[k * 2]? = some (.int .i64 st[k]!.1) ∧ (seatCells st)[k * 2 + 1]? = some (.pointer (some ⟨st[k]!.2, 0, none⟩)) := by
  induction st with
  | nil => intro k hk; exact absurd hk (Nat.not_lt_zero _)
  | cons p r ih =>
    intro k hk
    rw [show seatCells (p :: r) = .int .i64 p.1 :: .pointer (some ⟨p.2, 0, none⟩) :: seatCells r by simp [seatCells]]
    cases k with
    | zero => simp
    | succ k =>
      have := ih k (by simpa using hk)
      rw [show (k + 1) * 2 = k * 2 + 1 + 1 by omega]
      simpa using this
theorem index (st : List (Int × Nat)) (A : Option Addr) (cp H B : Nat) (id : Int) (w : World) (hR : w.ownsRow H 59 2 (.slice A st.length cp) st.length (seatCells st)) (hc : w.cell? ⟨B, 0, none⟩ = some (.int .i64 id)) (hs : st.length ≤ 1000) :
    Calls Tryd.prog 23 #[.slice A st.length cp, .func (.func 24) #[] #[.pointer (some ⟨B, 0, none⟩)]] w fun e w' => ∃ r : Int, e = .returned (.int .i64 r) ∧ Below w.heap.size w w' ∧
      ((r = -1 ∧ ∀ j, j < st.length → st[j]!.1 ≠ id) ∨ ∃ k : Nat, r = (k : Int) ∧ k < st.length ∧ st[k]!.1 = id) := by
  have hcl : B < w.heap.size := by
    rcases Nat.lt_or_ge B w.heap.size with h | h
    · exact h
    · simp [World.cell?, Array.getElem?_eq_none h] at hc
  have hcell : Hid (∀ W, Below w.heap.size w W → W.cell? ⟨B, 0, none⟩ = some (.int .i64 id) ∧ ∀ k, k < st.length → ∃ g, A = some ⟨g, 0, none⟩ ∧ W.cell? ⟨g, k * 2, none⟩ = some (.int .i64 st[k]!.1) ∧ W.cell? ⟨g, k * 2 + 1, none⟩ = some (.pointer (some ⟨st[k]!.2, 0, none⟩))) := Lib.hid (by
    intro W hb
    refine ⟨(hb.cell (p := ⟨B, 0, none⟩) hcl).trans hc, ?_⟩
    intro k hk
    have hR2 := row_below hR hb
    rcases hR2.2 with ⟨h, h0⟩ | ⟨g, cap, cur, h, _⟩
    · omega
    · simp only [Value.slice.injEq, true_and] at h
      obtain ⟨rfl, rfl⟩ := h
      have hg := seat_get st k hk
      exact ⟨g, rfl, (hR2.cellAt (k * 2) (by omega)).trans hg.1, (hR2.cellAt (k * 2 + 1) (by omega)).trans hg.2⟩)
  clear hc hR
  go_enter Tryd.func23, Tryd.ntmps23
  go_wp2
  go_loopw [4, 8] (fun _ kv wr => ∃ kk : Nat, kv = .int .i64 kk ∧ kk ≤ st.length ∧ Below w.heap.size w wr ∧ ∀ j, j < kk → st[j]!.1 ≠ id)
    (fun _ kv _ => st.length - (intOf kv).toNat)
  case atStart => exact ⟨0, rfl, Nat.zero_le _, Below.refl _ w, fun j hj => absurd hj (Nat.not_lt_zero _)⟩
  case round =>
    obtain ⟨kk, rfl, hkk, hb, hno⟩ := hrel
    have HN := Lib.hid hno
    have HB := Lib.hid hb
    have hcc := (hcell.out _ hb).1
    clear hno
    by_cases hlt : kk < st.length
    · obtain ⟨g, rfl, h1, h2⟩ := (hcell.out _ hb).2 kk hlt
      have hl2 : (kk : Int) < (st.length : Int) := by omega
      have hcall0 := at1 st[kk]!.1 st[kk]!.2 B id wr hcc
      generalize hy : st[kk]! = y at h1 h2 hcall0
      have HY := Lib.hid hy
      clear hy
      obtain ⟨x, sb⟩ := y
      simp only at h1 h2 hcall0
      by_cases hq : x = id
      · rw [decide_eq_true hq] at hcall0
        have hcall := Lib.hid hcall0
        have HQ := Lib.hid hq
        clear hb hq hcall0
        go_wp2_with (go_at_call 24; go_loud (refine hcall.out.mono ?_; rintro e w' ⟨rfl, hb'⟩))
        go_ret
        exact ⟨(kk : Int), rfl, HB.out.trans (hb'.mono HB.out.size), .inr ⟨kk, rfl, hlt, by rw [HY.out]; exact HQ.out⟩⟩
      · rw [decide_eq_false hq] at hcall0
        have hcall := Lib.hid hcall0
        have HQ := Lib.hid hq
        clear hb hq hcall0
        go_wp2_with (go_at_call 24; go_loud (refine hcall.out.mono ?_; rintro e w' ⟨rfl, hb'⟩))
        exact ⟨⟨kk + 1, rfl, hlt, HB.out.trans (hb'.mono HB.out.size), fun j hj => by
          rcases Nat.lt_succ_iff_lt_or_eq.1 hj with h | rfl
          · exact HN.out j h
          · rw [HY.out]; exact HQ.out⟩, by simp [intOf]; omega⟩
    · obtain rfl : kk = st.length := by omega
      clear hb hcc
      go_wp2
      go_ret
      exact ⟨-1, rfl, HB.out, .inl ⟨rfl, HN.out⟩⟩
end Tb
end Go.Proofs.YtoflnmpbmjkaiaaDoor
