/- nat.Words, nat.Add by their contracts. Conditions: as each says. -/
import Derived.Test.YtohkhcbocknliaaOutM
namespace Go.Proofs.Ytohkhcbocknliaa
open Go.RowKit Am
attribute [local go_sem ↓] Go.wp_at_zero Go.wp_at_succ
set_option maxHeartbeats 400000
set_option maxRecDepth 100000
namespace Nt
theorem words (A : Option Addr) (m c : Nat) (xs : List Nat) (w : World) (h : SW w (.slice A m c) xs) (hb : xs.length ≤ LIM) : Calls Try.prog 71 #[.agg #[.slice A m c]] w (RetSW w xs) := by
  have h2 := (h.alloc (.cells #[.slice A m c] 36)).reads
  have H2 := Lib.hid h2
  have HB := Lib.hid hb
  clear h h2 hb
  go_enter Try.func71, Try.ntmps71
  go_wp2_with fail
  refine (clone _ xs _ H2.out HB.out).mono ?_
  rintro e w1 ⟨A1, m1, c1, rfl, hs1, hb1⟩
  go_wp2
  go_ret
  exact ⟨_, _, _, rfl, hs1, bstep (below_alloc w _) hb1 (by simp)⟩

theorem add (A B : Option Addr) (m c m' c' a b : Nat) (w : World) (ha : NatS w (.slice A m c) a) (hb : NatS w (.slice B m' c') b) (hla : wlen a ≤ LIM) (hlb : wlen b ≤ LIM) :
    Calls Try.prog 49 #[.agg #[.slice A m c], .agg #[.slice B m' c']] w (RetNat w (a + b)) := by
  obtain ⟨xs, hx, hcx, rfl, hlx, rfl⟩ := ha.words
  obtain ⟨ys, hy, hcy, rfl, hly, rfl⟩ := hb.words
  rw [← hlx] at hla
  rw [← hly] at hlb
  clear hlx hly ha hb
  obtain ⟨n, hn⟩ : ∃ n, n = max xs.length ys.length + 1 := ⟨_, rfl⟩
  have g1 : n ≤ 16 * LIM := by have := LIM_eq; omega
  have HN := Lib.hid hn
  have HX := Lib.hid hx
  have HY := Lib.hid hy
  clear hx hy hcx hcy
  obtain ⟨M, hM'⟩ : ∃ M, M = max xs.length ys.length := ⟨_, rfl⟩
  have hM : (if xs.length < ys.length then (ys.length : Int) else (xs.length : Int)) = (M : Int) := by split <;> omega
  have hL : wrap64 ((M : Int) + 1) = (n : Int) := by
    have := LIM_eq
    rw [show (M : Int) + 1 = (n : Int) by omega]
    unfold wrap64; omega
  clear hM'
  clear hn
  go_enter Try.func49, Try.ntmps49
  go_wp2_with (at_make; go_must (refine make_words rfl _ _ rfl n _ rfl rfl hL g1 (w.heap.size + 1 + 1 + 1) (by simp) ?_))
  intro w1 ho
  have HO := Lib.hid ho
  clear ho hM hL g1
  go_wp2
  go_loopw [6, 19] (fun cy i wr => ∃ (j C : Nat) (os : List Nat), i = .int .i64 j ∧ cy = .int .u64 C ∧ j ≤ n ∧ AddInv xs ys os j C ∧ OutAt (((w.alloc (.cells #[.slice A xs.length c] 36)).alloc (.cells #[.slice B ys.length c'] 36)).alloc (.cells #[.slice none 0 0] 36)) wr (w.heap.size + 1 + 1 + 1) n os)
    (fun _ i _ => n - (intOf i).toNat)
  case atStart => exact ⟨0, 0, List.replicate n 0, rfl, rfl, Nat.zero_le _, AddInv.start xs ys n, HO.out⟩
  case round =>
    obtain ⟨j, C, os, rfl, rfl, hj, hI, hO⟩ := hrel
    have HI := Lib.hid hI
    have HO2 := Lib.hid hO
    have hC := hI.one
    have hXr := Lib.hid (hO.keep (((HX.out.alloc _).alloc _).alloc _) (by simp))
    have hYr := Lib.hid (hO.keep (((HY.out.alloc _).alloc _).alloc _) (by simp))
    have hc0 := hO.old (b := w.heap.size) (o := 0) (v := .slice A xs.length c) (by omega) (cell_al (cell_al (cell_nw rfl rfl)))
    have hc1 := hO.old (b := w.heap.size + 1) (o := 0) (v := .slice B ys.length c') (by omega) (cell_al (cell_nw (by simp) rfl))
    have hx1 := wd_lt HX.out.2 j
    have hy1 := wd_lt HY.out.2 j
    clear hI
    by_cases hlt : j < n
    · have hcell := hO.cell hlt
      have hfro := hO.fro j
      have hsz := hO.lt
      have hnb : n ≤ 9223372036854775807 := by have := HN.out; have := LIM_eq; omega
      have hi1 : (0 : Int) ≤ (j : Int) := Int.natCast_nonneg _
      have hi2 : (j : Int) < (n : Int) := by omega
      clear hO
      go_wp2_with fail
      have q1 := cell_al (ob := .cells #[.slice B ys.length c'] 36) (cell_al (ob := .cells #[.slice A xs.length c] 36) hcell)
      have q2 := fro_al (ob := .cells #[.slice B ys.length c'] 36) (lt_al (ob := .cells #[.slice A xs.length c] 36) hsz) (fro_al (ob := .cells #[.slice A xs.length c] 36) hsz hfro)
      go_region_held3 (fun w' => w'.cell? ⟨w.heap.size, 0, none⟩ = some (.slice A xs.length c) ∧ w'.cell? ⟨w.heap.size + 1, 0, none⟩ = some (.slice B ys.length c'))
        (first | ((try go_split_ands); (try simp only [World.cell?_drew]); (repeat' apply And.intro) <;> (first | assumption | exact cell_al (by assumption) | exact cell_set (by omega) (by assumption))) | go_keep)
        (first
          | (go_at_call 64; (with_reducible refine (word (.slice A xs.length c) xs _ (by omega) _ ?_).mono ?_); (exact hXr.out.drew); rintro e w' ⟨rfl, rfl⟩)
          | (go_at_call 64; (with_reducible refine (word (.slice B ys.length c') ys _ (by omega) _ ?_).mono ?_); (exact hYr.out.drew.alloc _); rintro e w' ⟨rfl, rfl⟩)
          | (go_at_call 63; (with_reducible refine (Word.add (wd xs j) (wd ys j) C (by assumption) (by assumption) (by assumption) _).mono ?_); rintro e w' ⟨rfl, rfl⟩))
      go_wp2
      go_roundw
      case rel => exact ⟨j + 1, _, _, by go_num, rfl, by omega, HI.out.next (by rw [HO2.out.len]; exact hlt) HX.out.2 HY.out.2, (((HO2.out.alloc _).alloc _).store j _).drew⟩
      case measure => simp [intOf]; omega
    · obtain rfl : j = n := by omega
      have hv := HI.out.done HO2.out.len.symm HX.out.2 HY.out.2 (by have := HN.out; omega) (by have := HN.out; omega)
      have hs := hO.sw HI.out.wds
      have hb0 := hO.bel
      have HV := Lib.hid hv
      have HS := Lib.hid hs
      have HB := Lib.hid hb0
      clear hv hs hb0 hO
      go_wp2_with fail
      refine (trim _ os _ HS.out).mono ?_
      rintro e w2 ⟨A2, m2, c2, rfl, hs2, hb2⟩
      have hk := keepBlk hb2 ((HB.out.block (w.heap.size + 1 + 1) (by omega)).trans (blk_nw (by simp)))
      have hc : w2.cell? ⟨w.heap.size + 1 + 1, 0, none⟩ = some (.slice none 0 0) := blk_cell hk 0
      have hf := blk_fro hk 0
      have HK := Lib.hid hk
      have h0 := HB.out.size
      have h1 := hb2.size
      simp at h0
      clear hk
      go_wp2
      refine bodyPost_ret (v := .agg #[.slice A2 m2 c2]) (by simp [results, Try.results49, go_sem, hc]) rfl ?_
      rw [HV.out] at hs2
      refine ⟨_, _, _, rfl, hs2.setCell (p := ⟨w.heap.size + 1 + 1, 0, none⟩) HK.out (by decide) _, Below.setCell ?_ (by simp; omega) _⟩
      exact bstep ((((below_alloc w _).alloc (by simp) _).alloc (by simp; omega) _).trans (HB.out.mono (by omega))) hb2 (by omega)
end Nt
end Go.Proofs.Ytohkhcbocknliaa
