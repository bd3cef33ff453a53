/- vec.Below by its contract. Conditions: as it says. vec.Of by its contract. Conditions: as it says. Conditions: as they say. -/
import Derived.Test.YtohkhcbocknliaaVec1M
import Derived.Test.YtohkhcbocknliaaRat2M
namespace Go.Proofs.Ytohkhcbocknliaa
set_option linter.unusedSimpArgs false
set_option linter.unusedVariables false
open Go.RowKit Am
attribute [local go_sem ↓] Go.wp_at_zero Go.wp_at_succ
set_option maxHeartbeats 2000000
set_option maxRecDepth 100000
theorem num_neg (q : Rat) : q.num < 0 ↔ q < 0 := by
  have h := Rat.num_nonneg (q := q)
  constructor
  · intro h1; exact Rat.not_le.1 fun h2 => by have := h.2 h2; omega
  · intro h1; exact Int.not_le.1 fun h2 => Rat.not_lt.2 (h.1 h2) h1
theorem any_step {qs : List Rat} {k : Nat} {q : Rat} {p : Rat → Bool} (h : (qs.take k).any p = false) (hq : qs[k]? = some q) (hp : p q = false) : (qs.take (k + 1)).any p = false := by
  rw [List.take_add_one, List.any_append, h, hq]; simp [hp]
theorem any_found {qs : List Rat} {k : Nat} {q : Rat} {p : Rat → Bool} (hq : qs[k]? = some q) (hp : p q = true) : qs.any p = true := List.any_eq_true.2 ⟨q, List.mem_of_getElem? hq, hp⟩
namespace Vc
theorem below (A : Option Addr) (n c : Nat) (qs : List Rat) (H : Nat) (w : World) (h : VecS w H (.slice A n c) qs) :
    Calls Try.prog 30 #[.slice A n c] w fun e w' => e = .returned (.bool (qs.any fun q => decide (q < 0))) ∧ Below w.heap.size w w' := by
  have hn := h.len
  have hf := h.form
  have HN := Lib.hid hn
  have HV := Lib.hid h
  have hnb : n ≤ 9223372036854775807 := by have h1 := hf.2.1; have h2 := hf.2.2.1; unfold maxLen at h2; omega
  have HNB := Lib.hid hnb
  clear h hf hn
  go_enter Try.func30, Try.ntmps30
  go_wp2
  go_loopw [7] (fun i wr => ∃ k : Nat, i = .int .i64 k ∧ k ≤ n ∧ Below w.heap.size w wr ∧ (qs.take k).any (fun q => decide (q < 0)) = false)
    (fun i _ => n - (intOf i).toNat)
  case atStart => exact ⟨0, rfl, Nat.zero_le _, Below.refl _ _, rfl⟩
  case round =>
    obtain ⟨k, rfl, hk, hB, hT⟩ := hrel
    have HB := Lib.hid hB
    have HT := Lib.hid hT
    by_cases hlt : k < n
    · have HV2 := Lib.hid (HV.out.below hB)
      obtain ⟨b, rfl, hb0, hb1⟩ := HV2.out.has (by omega)
      obtain ⟨q, hq⟩ : ∃ q, qs[k]? = some q := ⟨qs[k]'(by rw [← HN.out]; exact hlt), List.getElem?_eq_getElem _⟩
      obtain ⟨g, A1, m1, c1, D1, md1, cd1, k0, k1, k2, hR⟩ := HV2.out.at_ hq
      have HR := Lib.hid hR
      have HQ := Lib.hid hq
      have hi1 : (0 : Int) ≤ (k : Int) := Int.natCast_nonneg _
      have hi2 : (k : Int) < (n : Int) := by omega
      clear hB hT hR hq
      go_wp2_with fail
      refine (Rt.sign g A1 m1 c1 D1 md1 cd1 q _ (HR.out.alloc _)).mono ?_
      rintro e w2 ⟨rfl, hb⟩
      have HB2 := Lib.hid (HB.out.trans (((below_alloc wr _).trans (hb.mono (by simp))).mono HB.out.size))
      clear hb
      by_cases hq0 : q < 0
      · have hs := (num_neg q).2 hq0
        have HF := Lib.hid (any_found (p := fun q => decide (q < 0)) HQ.out (decide_eq_true hq0))
        go_wp2
        go_ret
        exact ⟨by rw [HF.out]; rfl, HB2.out⟩
      · have hs : ¬ q.num < 0 := fun h => hq0 ((num_neg q).1 h)
        have HF := Lib.hid (any_step HT.out HQ.out (decide_eq_false hq0))
        go_wp2
        go_roundw
        case rel => exact ⟨k + 1, by go_num, by omega, HB2.out, HF.out⟩
        case measure => simp [intOf]; omega
    · obtain rfl : k = n := by omega
      have HF := Lib.hid hT
      clear hB hT
      go_wp2
      go_ret
      refine ⟨?_, HB.out⟩
      have h := HF.out
      rw [HN.out, List.take_length] at h
      rw [h]; rfl
end Vc
end Go.Proofs.Ytohkhcbocknliaa
namespace Go.Proofs.Ytohkhcbocknliaa
set_option linter.unusedSimpArgs false
set_option linter.unusedVariables false
open Go.RowKit Am
attribute [local go_sem ↓] Go.wp_at_zero Go.wp_at_succ
set_option maxHeartbeats 2000000
set_option maxRecDepth 100000
/-- whole numbers as fractions -/
def rats (xs : List Int) : List Rat := xs.map fun (x : Int) => (x : Rat)
theorem rats_take {xs : List Int} {k : Nat} {x : Int} (h : xs[k]? = some x) : rats (xs.take (k + 1)) = rats (xs.take k) ++ [(x : Rat)] := by
  unfold rats; rw [List.take_add_one, h]; simp
namespace Vc
theorem of (b n c : Nat) (xs : List Int) (w : World) (hn : n = xs.length) (hx : ∀ j x, xs[j]? = some x → w.cell? ⟨b, j, none⟩ = some (.int .i64 x)) (hr : ∀ x ∈ xs, -9223372036854775808 ≤ x ∧ x ≤ 9223372036854775807) (hl : n ≤ 1000000) (hc : n ≤ c) :
    Calls Try.prog 17 #[.slice (some ⟨b, 0, none⟩) n c] w (RetVec w (rats xs)) := by
  have HN := Lib.hid hn
  have HX := Lib.hid hx
  have HR := Lib.hid hr
  have hnb : n ≤ 9223372036854775807 := by omega
  have HL := Lib.hid hl
  clear hn hx hr hl
  go_enter Try.func17, Try.ntmps17
  go_wp2
  go_loopw [3, 8] (fun ov i wr => ∃ (k : Nat) (A' : Option Addr) (n' c' : Nat), i = .int .i64 k ∧ ov = .slice A' n' c' ∧ k ≤ n ∧ VecS wr w.heap.size (.slice A' n' c') (rats (xs.take k)) ∧ Below w.heap.size w wr)
    (fun _ i _ => n - (intOf i).toNat)
  case atStart => exact ⟨0, none, 0, 0, rfl, rfl, Nat.zero_le _, VecS.nil _ _, Below.refl _ _⟩
  case round =>
    obtain ⟨k, A', n', c', rfl, rfl, hk, hv, hB⟩ := hrel
    have HV := Lib.hid hv
    have HB := Lib.hid hB
    by_cases hlt : k < n
    · obtain ⟨x, hx⟩ : ∃ x, xs[k]? = some x := ⟨xs[k]'(by rw [← HN.out]; exact hlt), List.getElem?_eq_getElem _⟩
      have hlb : b < w.heap.size := World.block_lt_of_cell? w ⟨b, k, none⟩ (HX.out k x hx)
      have h0 : wr.cell? ⟨b, k, none⟩ = some (.int .i64 x) := keepCell HB.out (HX.out k x hx)
      have HQ := Lib.hid hx
      have HRX := Lib.hid (HR.out x (List.mem_of_getElem? hx))
      have hi1 : (0 : Int) ≤ (k : Int) := Int.natCast_nonneg _
      have hi2 : (k : Int) < (n : Int) := by omega
      clear hB hv hx hlb
      go_wp2_with fail
      refine (Rt.int x HRX.out.1 HRX.out.2 _).mono ?_
      rintro e w2 ⟨g, A, m, c2, D, md, cd, rfl, hq, hb⟩
      have HS2 := Lib.hid (show w.heap.size ≤ w2.heap.size from Nat.le_trans HB.out.size hb.size)
      have HB2 := Lib.hid (HB.out.trans (hb.mono HB.out.size))
      have HV2 := Lib.hid (HV.out.below hb)
      have HR2 := Lib.hid hq
      clear hb hq
      go_wp2_with (at_builtin; go_loud (refine wpList_append_vec rfl _ _ rfl rfl (HV2.out.alloc _) rfl (blk_new _ _ _) (HR2.out.alloc _) (by unfold rats; rw [List.length_map, List.length_take]; have := HL.out; omega) (by have := HS2.out; simp; omega) ?_; intro A3 n3 c3 w3 hv3 hb3 hn3; have HV3 := Lib.hid hv3; have HB3 := Lib.hid hb3; clear hv3 hb3))
      subst hn3
      exact ⟨⟨k + 1, A3, _, c3, by simp, rfl, by omega, by rw [rats_take HQ.out]; exact HV3.out, (HB2.out.alloc HS2.out _).trans HB3.out⟩, by simp [intOf]; omega⟩
    · obtain rfl : k = n := by omega
      have HF := Lib.hid hv
      clear hB hv
      go_wp2
      go_ret
      refine ⟨_, _, _, rfl, ?_, HB.out⟩
      have h := HF.out
      rw [HN.out, List.take_length] at h
      exact h
end Vc
/-- a fraction, as it is handed in -/
def fr (p d : Int) : Rat := if d = 0 then (p : Rat) else Rat.divInt p d
theorem fr_zero {p d : Int} (h : d = 0) : fr p d = (p : Rat) := by unfold fr; rw [if_pos h]
theorem fr_div {p d : Int} (h : d ≠ 0) : fr p d = Rat.divInt p d := by unfold fr; rw [if_neg h]
namespace Lw
theorem one_zero (p d : Int) (hd : d = 0) (hp0 : -9223372036854775808 ≤ p) (hp1 : p ≤ 9223372036854775807) (w : World) : Calls Try.prog 25 #[.agg #[.int .i64 p, .int .i64 d]] w (RetRat w (fr p d)) := by
  have HF := Lib.hid (fr_zero (p := p) hd)
  have hz : (d == 0) = true := by rw [hd]; rfl
  have HP := Lib.hid (And.intro hp0 hp1)
  clear hp0 hp1 hd
  obtain ⟨W, hW⟩ : ∃ W, ((w.alloc (.cells #[.int .i64 p, .int .i64 d] 62)).alloc (.cells #[.bool false, .slice none 0 0, .slice none 0 0] 40)) = W := ⟨_, rfl⟩
  have KB0 := Lib.hid (show W.heap[w.heap.size]? = some (.cells #[.int .i64 p, .int .i64 d] 62 (0, 0)) by rw [← hW]; exact blk_al (blk_nw (by simp)))
  have KB1 := Lib.hid (show W.heap[w.heap.size + 1]? = some (.cells #[.bool false, .slice none 0 0, .slice none 0 0] 40 (0, 0)) by rw [← hW]; exact blk_nw (by simp))
  have BB := Lib.hid (show Below w.heap.size w W by rw [← hW]; exact (below_alloc w _).alloc (by simp) _)
  have HZ := Lib.hid (show w.heap.size + 2 ≤ W.heap.size by rw [← hW]; simp)
  obtain ⟨c0_0_0, c0_0_0d, c0_1_0, c0_1_0d⟩ := bc2 KB0.out
  obtain ⟨c1_0_0, c1_0_0d, fc1_0_0, fc1_0_0d, c1_1_0, c1_1_0d, fc1_1_0, fc1_1_0d, c1_2_0, c1_2_0d, fc1_2_0, fc1_2_0d⟩ := bf3 KB1.out
  go_enter Try.func25, Try.ntmps25
  go_wp2_with fail
  clear hW
  with_reducible refine (Rt.int p HP.out.1 HP.out.2 _).mono ?_
  rintro e w1 ⟨g3, A3, m3, c3, D3, md3, cd3, rfl, hn, hb⟩
  have KB0_1 := Lib.hid (keepBlk hb KB0.out)
  have KB1_1 := Lib.hid (keepBlk hb KB1.out)
  have HI := Lib.hid (show RatS w1 g3 (.slice A3 m3 c3) (.slice D3 md3 cd3) (p : Rat) from hn)
  have BB_1 := Lib.hid (BB.out.trans ((hb).mono BB.out.size))
  obtain ⟨c0_0_1, c0_0_1d, c0_1_1, c0_1_1d⟩ := bc2 KB0_1.out
  obtain ⟨c1_0_1, c1_0_1d, fc1_0_1, fc1_0_1d, c1_1_1, c1_1_1d, fc1_1_1, fc1_1_1d, c1_2_1, c1_2_1d, fc1_2_1, fc1_2_1d⟩ := bf3 KB1_1.out
  clear hn hb
  go_wp2
  refine bodyPost_ret (v := .agg #[.bool g3, .slice A3 m3 c3, .slice D3 md3 cd3]) (by simp [results, Try.results25, go_sem, c1_0_1, c1_0_1d, c1_1_1, c1_1_1d, c1_2_1, c1_2_1d]) rfl ?_
  rw [HF.out]
  exact ⟨g3, A3, m3, c3, D3, md3, cd3, rfl, HI.out.set3 KB1_1.out (by decide) _ _ _, Below.setCell (Below.setCell (Below.setCell (BB_1.out) (p := ⟨w.heap.size + 1, 0, none⟩) (by show w.heap.size ≤ w.heap.size + 1; omega) _) (p := ⟨w.heap.size + 1, 1, none⟩) (by show w.heap.size ≤ w.heap.size + 1; omega) _) (p := ⟨w.heap.size + 1, 2, none⟩) (by show w.heap.size ≤ w.heap.size + 1; omega) _⟩
end Lw
end Go.Proofs.Ytohkhcbocknliaa
