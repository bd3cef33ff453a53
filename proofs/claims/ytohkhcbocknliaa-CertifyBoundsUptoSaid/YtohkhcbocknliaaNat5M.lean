/- nat.Sub by its contract. Conditions: as each says. -/
import Derived.Test.YtohkhcbocknliaaNat4M
namespace Go.Proofs.Ytohkhcbocknliaa
open Go.RowKit Am
attribute [local go_sem ↓] Go.wp_at_zero Go.wp_at_succ
set_option maxHeartbeats 400000
set_option maxRecDepth 100000
namespace Nt
theorem sub_no (A B : Option Addr) (m c m' c' a b : Nat) (w : World) (ha : NatS w (.slice A m c) a) (hb : NatS w (.slice B m' c') b) (hlt : a < b) :
    Calls Try.prog 50 #[.agg #[.slice A m c], .agg #[.slice B m' c']] w (RetNatB w 0 false) := by
  have e : cmpI a b = -1 := cmpI_lt (by omega)
  have hA := Lib.hid (((ha.alloc (.cells #[.slice A m c] 36)).alloc (.cells #[.slice B m' c'] 36)).alloc (.cells #[.slice none 0 0] 36))
  have hB := Lib.hid (((hb.alloc (.cells #[.slice A m c] 36)).alloc (.cells #[.slice B m' c'] 36)).alloc (.cells #[.slice none 0 0] 36))
  have E := Lib.hid e
  clear ha hb hlt e
  go_enter Try.func50, Try.ntmps50
  go_wp2_with fail
  refine (cmp A B m c m' c' a b _ hA.out hB.out).mono ?_
  rw [E.out]
  rintro e' w1 ⟨rfl, hb1⟩
  have hk := keepBlk hb1 (blk_nw (W := ((w.alloc (.cells #[.slice A m c] 36)).alloc (.cells #[.slice B m' c'] 36))) (b := w.heap.size + 1 + 1) (cs := #[.slice none 0 0]) (t := 36) (by simp))
  have hc : w1.cell? ⟨w.heap.size + 1 + 1, 0, none⟩ = some (.slice none 0 0) := blk_cell hk 0
  have hf := blk_fro hk 0
  clear hk
  go_wp2
  refine bodyPost_ret (v := .tuple #[.agg #[.slice none 0 0], .bool false]) (by simp [results, Try.results50, go_sem, hc]) rfl ?_
  refine ⟨_, _, _, rfl, NatS.zero _, Below.setCell ?_ (by simp; omega) _⟩
  exact bstep (((below_alloc w _).alloc (by simp) _).alloc (by simp; omega) _) hb1 (by simp; omega)

theorem sub_ok (A B : Option Addr) (m c m' c' a b : Nat) (w : World) (ha : NatS w (.slice A m c) a) (hb : NatS w (.slice B m' c') b) (hle : b ≤ a) (hla : wlen a ≤ LIM) :
    Calls Try.prog 50 #[.agg #[.slice A m c], .agg #[.slice B m' c']] w (RetNatB w (a - b) true) := by
  have hcn : cmpI a b = 0 ∨ cmpI a b = 1 := by
    rcases Nat.lt_or_ge b a with h | h
    · exact .inr (cmpI_gt (by omega))
    · exact .inl (cmpI_eq (by omega))
  have hA := Lib.hid (((ha.alloc (.cells #[.slice A m c] 36)).alloc (.cells #[.slice B m' c'] 36)).alloc (.cells #[.slice none 0 0] 36))
  have hB := Lib.hid (((hb.alloc (.cells #[.slice A m c] 36)).alloc (.cells #[.slice B m' c'] 36)).alloc (.cells #[.slice none 0 0] 36))
  obtain ⟨xs, hx, hcx, rfl, hlx, rfl⟩ := ha.words
  obtain ⟨ys, hy, hcy, rfl, hly, rfl⟩ := hb.words
  have hlyx : ys.length ≤ xs.length := by rw [hlx, hly]; exact wlen_mono hle
  rw [← hlx] at hla
  clear hlx hly ha hb
  have HLE := Lib.hid hle
  have HLYX := Lib.hid hlyx
  have HX := Lib.hid hx
  have HY := Lib.hid hy
  have HLA := Lib.hid hla
  have g1 := Lib.hid (show xs.length ≤ 16 * LIM by omega)
  clear hx hy hcx hcy hle hlyx hla
  generalize hcv : cmpI (nval xs) (nval ys) = cv at hcn
  have HCV := Lib.hid hcv
  clear hcv
  go_enter Try.func50, Try.ntmps50
  go_wp2_with fail
  refine (cmp A B _ c _ c' _ _ _ hA.out hB.out).mono ?_
  rw [HCV.out]
  rintro e' w1 ⟨rfl, hb1⟩
  have hz1 := hb1.size
  simp at hz1
  have hk := keepBlk hb1 (blk_nw (W := ((w.alloc (.cells #[.slice A xs.length c] 36)).alloc (.cells #[.slice B ys.length c'] 36))) (b := w.heap.size + 1 + 1) (cs := #[.slice none 0 0]) (t := 36) (by simp))
  have k0 := keepBlk hb1 (blk_al (ob := .cells #[.slice none 0 0] 36) (blk_al (ob := .cells #[.slice B ys.length c'] 36) (blk_nw (W := w) (b := w.heap.size) (cs := #[.slice A xs.length c]) (t := 36) rfl)))
  have k1 := keepBlk hb1 (blk_al (ob := .cells #[.slice none 0 0] 36) (blk_nw (W := w.alloc (.cells #[.slice A xs.length c] 36)) (b := w.heap.size + 1) (cs := #[.slice B ys.length c']) (t := 36) (by simp)))
  have hbel : Below w.heap.size w w1 := bstep (((below_alloc w _).alloc (by simp) _).alloc (by simp; omega) _) hb1 (by simp; omega)
  have c0 : w1.cell? ⟨w.heap.size, 0, none⟩ = some (.slice A xs.length c) := blk_cell k0 0
  have c1 : w1.cell? ⟨w.heap.size + 1, 0, none⟩ = some (.slice B ys.length c') := blk_cell k1 0
  have HK := Lib.hid hk
  have HB1 := Lib.hid hbel
  have HX1 := Lib.hid (HX.out.below hbel)
  have HY1 := Lib.hid (HY.out.below hbel)
  clear hk k0 k1 hbel hb1
  have hcv0 : ¬ cv < 0 := by omega
  clear hcn
  go_wp2_with (at_make; go_must (refine make_words rfl _ _ rfl xs.length _ rfl rfl rfl g1.out w1.heap.size rfl ?_))
  intro w2 ho
  have HO := Lib.hid ho
  clear ho
  go_wp2
  go_loopw [7, 20] (fun cy i wr => ∃ (j C : Nat) (os : List Nat), i = .int .i64 j ∧ cy = .int .u64 C ∧ j ≤ xs.length ∧ SubInv xs ys os j C ∧ OutAt w1 wr w1.heap.size xs.length os)
    (fun _ i _ => xs.length - (intOf i).toNat)
  case atStart => exact ⟨0, 0, List.replicate xs.length 0, rfl, rfl, Nat.zero_le _, SubInv.start xs ys _, HO.out⟩
  case round =>
    obtain ⟨j, C, os, rfl, rfl, hj, hI, hO⟩ := hrel
    have HI := Lib.hid hI
    have HO2 := Lib.hid hO
    have hC := hI.one
    have hXr := Lib.hid (hO.keep HX1.out (Nat.le_refl _))
    have hYr := Lib.hid (hO.keep HY1.out (Nat.le_refl _))
    have hc0 := hO.old (by omega) c0
    have hc1 := hO.old (by omega) c1
    have hx1 := wd_lt HX.out.2 j
    have hy1 := wd_lt HY.out.2 j
    clear hI
    by_cases hlt : j < xs.length
    · rcases hXr.out.form with ⟨h1, h2⟩ | ⟨g, cap, h1, hg, hcap, hm, hcx⟩
      · exfalso; rw [h2] at hlt; simp at hlt
      injection h1 with hA' _ hc1'
      subst hA' hc1'
      have hxc := hcx j hlt
      have hcell := hO.cell hlt
      have hfro := hO.fro j
      have hsz := hO.lt
      have hnb : xs.length ≤ 9223372036854775807 := by have := HLA.out; have := LIM_eq; omega
      have hi1 : (0 : Int) ≤ (j : Int) := Int.natCast_nonneg _
      have hi2 : (j : Int) < (xs.length : Int) := by omega
      have q1 := cell_al (ob := .cells #[.slice B ys.length c'] 36) hcell
      have q2 := fro_al (ob := .cells #[.slice B ys.length c'] 36) hsz hfro
      have hgne : g ≠ w1.heap.size := by
        have := HX1.out.block (k := g) rfl
        omega
      clear hO hcx hcell hfro
      go_wp2_with fail
      go_region_held3 (fun w' => w'.cell? ⟨w.heap.size, 0, none⟩ = some (.slice (some ⟨g, 0, none⟩) xs.length c) ∧ w'.cell? ⟨w.heap.size + 1, 0, none⟩ = some (.slice B ys.length c') ∧
          w'.cell? ⟨g, j, none⟩ = some (.int .u64 ((wd xs j : Nat) : Int)))
        (first | ((try go_split_ands); (try simp only [World.cell?_drew]); (repeat' apply And.intro) <;> (first | assumption | exact cell_al (by assumption) | exact cell_set (by first | omega | assumption) (by assumption) | exact cell_al (cell_set (by first | omega | assumption) (by assumption)))) | go_keep)
        (first
          | (go_at_call 64; (with_reducible refine (word (.slice B ys.length c') ys _ (by omega) _ ?_).mono ?_); (exact hYr.out.drew); rintro e w' ⟨rfl, rfl⟩)
          | (go_at_call 66; (with_reducible refine (Word.sub (wd xs j) (wd ys j) C (by assumption) (by assumption) (by assumption) _).mono ?_); rintro e w' ⟨rfl, rfl⟩))
      go_wp2
      go_roundw
      case rel => exact ⟨j + 1, _, _, by go_num, rfl, by omega, HI.out.next (by rw [HO2.out.len]; exact hlt) HX.out.2 HY.out.2, ((HO2.out.store j _).alloc _).drew⟩
      case measure => simp [intOf]; omega
    · obtain rfl : j = xs.length := by omega
      have hv := HI.out.done (Nat.le_refl _) HLYX.out HLE.out (by rw [HO2.out.len]; exact Nat.le_refl _)
      have hs := hO.sw HI.out.wds
      have hb0 := hO.bel
      have HV := Lib.hid hv
      have HS := Lib.hid hs
      have HB := Lib.hid hb0
      have hsz := hO.lt
      clear hv hs hb0 hO
      go_wp2_with fail
      refine (trim _ os _ HS.out).mono ?_
      rintro e w3 ⟨A2, m2, c2, rfl, hs2, hb2⟩
      have hk := keepBlk hb2 ((HB.out.block (w.heap.size + 1 + 1) (by omega)).trans HK.out)
      have hc : w3.cell? ⟨w.heap.size + 1 + 1, 0, none⟩ = some (.slice none 0 0) := blk_cell hk 0
      have hf := blk_fro hk 0
      have HK3 := Lib.hid hk
      have h1 := hb2.size
      clear hk
      go_wp2
      refine bodyPost_ret (v := .tuple #[.agg #[.slice A2 m2 c2], .bool true]) (by simp [results, Try.results50, go_sem, hc]) rfl ?_
      rw [HV.out] at hs2
      refine ⟨_, _, _, rfl, hs2.setCell (p := ⟨w.heap.size + 1 + 1, 0, none⟩) HK3.out (by decide) _, Below.setCell ?_ (by simp; omega) _⟩
      exact bstep (HB1.out.trans (HB.out.mono (by omega))) hb2 (by omega)
end Nt
end Go.Proofs.Ytohkhcbocknliaa
