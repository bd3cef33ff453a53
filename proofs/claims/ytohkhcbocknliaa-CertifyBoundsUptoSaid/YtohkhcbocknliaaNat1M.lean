/- The small functions of package nat by their contracts. Conditions: as each says. nat.Of, nat.Words and slices.Clone by their contracts. Conditions: as each says. Conditions: as they say. -/
import Derived.Test.YtohkhcbocknliaaMemM
import Derived.Laws.CopyOwn
import Derived.Laws.AppendOwnNone
namespace Go.Proofs.Ytohkhcbocknliaa
open Go.RowKit Am
set_option maxHeartbeats 1000000
namespace Nt
theorem wd_big {xs : List Nat} {k : Nat} (h : xs.length ≤ k) : wd xs k = 0 := getD_big xs k h
theorem word (s : Value) (xs : List Nat) (k : Int) (hk : 0 ≤ k) (w : World) (hs : SW w s xs) :
    Calls Try.prog 64 #[.agg #[s], .int .i64 k] w fun e w' => e = .returned (.int .u64 ((wd xs k.toNat : Nat) : Int)) ∧ w' = w.alloc (.cells #[s] 36) := by
  have hl := hs.len_le
  rcases hs.form with ⟨rfl, rfl⟩ | ⟨g, cap, rfl, hg, hcap, hm, hc⟩
  · have hz := Lib.hid (wd_big (xs := []) (k := k.toNat) (by simp))
    clear hl
    go_enter Try.func64, Try.ntmps64
    go_wp2
    go_ret
    exact ⟨ret1 (by rw [hz.out]; rfl), rfl⟩
  · by_cases hlt : k < xs.length
    · have hcell := hc k.toNat (by omega)
      obtain ⟨j, rfl⟩ := Int.eq_ofNat_of_zero_le hk
      rw [Int.toNat_natCast] at *
      generalize wd xs j = x at *
      clear hc hs
      go_enter Try.func64, Try.ntmps64
      go_wp2
      go_ret
      exact ⟨rfl, rfl⟩
    · have hz := Lib.hid (wd_big (xs := xs) (k := k.toNat) (by omega))
      clear hc hs
      go_enter Try.func64, Try.ntmps64
      go_wp2
      go_ret
      exact ⟨ret1 (by rw [hz.out]; rfl), rfl⟩
theorem len (s : Value) (xs : List Nat) (w : World) (hs : SW w s xs) :
    Calls Try.prog 55 #[.agg #[s]] w fun e w' => e = .returned (.int .i64 (xs.length : Int)) ∧ w' = w.alloc (.cells #[s] 36) := by
  rcases hs.form with ⟨rfl, rfl⟩ | ⟨g, cap, rfl, hg, hcap, hm, hc⟩
  all_goals
    try clear hc
    clear hs
    go_enter Try.func55, Try.ntmps55
    go_wp2
    go_ret
    exact ⟨rfl, rfl⟩
theorem zero (s : Value) (n : Nat) (w : World) (hs : NatS w s n) :
    Calls Try.prog 48 #[.agg #[s]] w fun e w' => e = .returned (.bool (isZ n)) ∧ w' = w.alloc (.cells #[s] 36) := by
  obtain ⟨xs, hs, hc, rfl⟩ := hs
  have hz : ((xs.length : Int) == 0) = isZ (nval xs) := by
    have := nval_eq_zero xs hc
    by_cases h : xs = []
    · subst h; rfl
    · rw [isZ_pos (Nat.pos_of_ne_zero (fun e => h (this.1 e)))]
      simp [h]
  rcases hs.form with ⟨rfl, rfl⟩ | ⟨g, cap, rfl, hg, hcap, hm, hcc⟩
  · clear hs hz
    go_enter Try.func48, Try.ntmps48
    go_wp2
    go_ret
    exact ⟨rfl, rfl⟩
  · clear hcc hs
    go_enter Try.func48, Try.ntmps48
    go_wp2
    go_ret
    exact ⟨rfl, rfl⟩
/-- A number of one word, or none. -/
theorem uint_one (s : Value) (n : Nat) (hn : n < 18446744073709551616) (w : World) (hs : NatS w s n) :
    Calls Try.prog 69 #[.agg #[s]] w fun e w' => e = .returned (.tuple #[.int .u64 (n : Int), .bool true]) ∧ Below w.heap.size w w' := by
  obtain ⟨xs, hs, hc, hn', hl⟩ := hs.len
  have hl1 : xs.length ≤ 1 := by rw [hl]; exact wlen_word hn
  have hwd : wd xs 0 = n := by
    rw [← hn', wd, getD_nval xs hs.2, Nat.pow_zero, Nat.div_one, hn']; exact Nat.mod_eq_of_lt hn
  have HW := Lib.hid hwd
  have hs2 := hs.alloc (.cells #[s] 36)
  have hlen := hs.len_le
  rcases hs.form with ⟨rfl, rfl⟩ | ⟨g, cap, rfl, hg, hcap, hm, hcc⟩
  · clear hl hn' hwd
    go_enter Try.func69, Try.ntmps69
    go_wp2_with (go_at_call 64; refine (word _ _ _ (by omega) _ hs2).mono ?_; rintro e w' ⟨rfl, rfl⟩)
    go_ret2
    exact ⟨by rw [← HW.out]; rfl, (Below.refl _ _).alloc (Nat.le_refl _) _ |>.alloc (by simp) _⟩
  · clear hcc hl hn' hwd
    go_enter Try.func69, Try.ntmps69
    go_wp2_with (go_at_call 64; refine (word _ _ _ (by omega) _ hs2).mono ?_; rintro e w' ⟨rfl, rfl⟩)
    go_ret2
    exact ⟨by rw [← HW.out]; rfl, (Below.refl _ _).alloc (Nat.le_refl _) _ |>.alloc (by simp) _⟩
/-- A number of more words. -/
theorem uint_more (s : Value) (n : Nat) (hn : 18446744073709551616 ≤ n) (w : World) (hs : NatS w s n) :
    Calls Try.prog 69 #[.agg #[s]] w fun e w' => e = .returned (.tuple #[.int .u64 0, .bool false]) ∧ Below w.heap.size w w' := by
  obtain ⟨xs, hs, hc, hn', hl⟩ := hs.len
  have hl1 : 1 < xs.length := by
    rcases Nat.lt_or_ge 1 xs.length with h | h
    · exact h
    · have h' := (wlen_spec n 1).1 (by omega)
      simp only [Nat.pow_one, B64] at h'; omega
  have hlen := hs.len_le
  rcases hs.form with ⟨rfl, rfl⟩ | ⟨g, cap, rfl, hg, hcap, hm, hcc⟩
  · simp at hl1
  · clear hcc hl hn'
    go_enter Try.func69, Try.ntmps69
    go_wp2
    go_ret2
    exact ⟨rfl, (Below.refl _ _).alloc (Nat.le_refl _) _⟩

theorem SW_take {w : World} {g cap m : Nat} {xs : List Nat} (h : SW w (.slice (some ⟨g, 0, none⟩) xs.length cap) xs) (hm : m ≤ xs.length) : SW w (.slice (some ⟨g, 0, none⟩) m cap) (xs.take m) := by
  have hl : (xs.take m).length = m := by simp; omega
  refine ⟨⟨by rw [wcells_len]; omega, ?_⟩, h.2.take m⟩
  rcases h.1.2 with ⟨h1, _⟩ | ⟨g', cap', cur, hv, hg, hh, hn, hmx, hs, ht⟩
  · simp at h1
  · simp only [Value.slice.injEq, Option.some.injEq, Addr.mk.injEq, and_true, true_and] at hv
    obtain ⟨rfl, rfl⟩ := hv
    refine .inr ⟨g, cap, cur, by rw [hl], hg, hh, by omega, hmx, hs, ?_⟩
    rw [wcells_take, ← ht, hl, List.take_take]
    congr 1; omega
theorem trim_take {xs : List Nat} {m : Nat} (hm : 0 < m) (hl : m ≤ xs.length) (h0 : wd xs (m - 1) = 0) : trimZ (xs.take m) = trimZ (xs.take (m - 1)) := by
  obtain ⟨k, rfl⟩ : ∃ k, m = k + 1 := ⟨m - 1, by omega⟩
  simp only [Nat.add_sub_cancel] at *
  have : xs[k]'(by omega) = 0 := by
    have := h0; unfold wd at this; rw [List.getD_eq_getElem?_getD, List.getElem?_eq_getElem (by omega)] at this; exact this
  rw [List.take_succ_eq_append_getElem (by omega), this, trimZ_snoc_zero]
theorem trim_stop {xs : List Nat} {m : Nat} (hl : m ≤ xs.length) (h0 : 0 < m → wd xs (m - 1) ≠ 0) : Canon (xs.take m) := by
  rcases Nat.eq_zero_or_pos m with rfl | hm
  · simpa using canon_nil
  · obtain ⟨k, rfl⟩ : ∃ k, m = k + 1 := ⟨m - 1, by omega⟩
    have h1 := h0 hm
    simp only [Nat.add_sub_cancel] at h1
    rw [List.take_succ_eq_append_getElem (by omega)]
    apply canon_snoc_mk
    unfold wd at h1; rw [List.getD_eq_getElem?_getD, List.getElem?_eq_getElem (by omega)] at h1; exact h1
/-- A slice's length: for a measure. -/
def lenOf : Value → Nat | .slice _ n _ => n | _ => 0
theorem trim (s : Value) (xs : List Nat) (w : World) (hs : SW w s xs) : Calls Try.prog 65 #[s] w (RetNat w (nval xs)) := by
  have hlen := hs.len_le
  rcases hs.form with ⟨rfl, rfl⟩ | ⟨g, cap, rfl, hg, hcap, hm, hcc⟩
  · clear hs
    go_enter Try.func65, Try.ntmps65
    go_wp2
    refine wp_loop_rounds 1 ?_
    rw [rounds_succ]
    go_wp2
    refine bodyPost_ret (v := .agg #[.slice none 0 0]) (by simp [results, Try.results65, go_sem]) rfl ⟨_, _, _, rfl, NatS.zero _, (Below.refl _ _).alloc (Nat.le_refl _) _⟩
  · unfold maxLen at hm
    go_enter Try.func65, Try.ntmps65
    have HCC := Lib.hid hcc
    have HS := Lib.hid hs
    clear hcc hs
    go_wp2
    go_loop [0] (fun v => ∃ m : Nat, m ≤ xs.length ∧ v = .slice (some ⟨g, 0, none⟩) m cap ∧ trimZ (xs.take m) = trimZ xs) (fun v => lenOf v)
    case atStart => exact ⟨xs.length, Nat.le_refl _, rfl, by rw [List.take_of_length_le (Nat.le_refl _)]⟩
    case round =>
      obtain ⟨m, hml, rfl, htr⟩ := hrel
      have HT := Lib.hid htr
      clear htr
      have fin : Canon (xs.take m) → RetNat w (nval xs) (.returned (.agg #[.slice (some ⟨g, 0, none⟩) m cap])) (w.alloc (.cells #[.slice (some ⟨g, 0, none⟩) m cap] 36)) := by
        intro hcan
        refine ⟨_, _, _, rfl, ?_, (Below.refl _ _).alloc (Nat.le_refl _) _⟩
        have h1 := NatS.mk ((SW_take HS.out hml).alloc (.cells #[.slice (some ⟨g, 0, none⟩) m cap] 36)) hcan
        rwa [← nval_trimZ, trimZ_canon hcan, ← trimZ_canon hcan, HT.out, nval_trimZ] at h1
      have FIN := Lib.hid fin
      clear fin
      rcases Nat.eq_zero_or_pos m with rfl | hpos
      · have hst := Lib.hid (FIN.out (trim_stop (by omega) (by omega)))
        go_wp2
        exact bodyPost_ret (v := .agg #[.slice (some ⟨g, 0, none⟩) 0 cap]) (by simp [results, Try.results65, go_sem]) rfl hst.out
      · have hcell := HCC.out (m - 1) (by omega)
        by_cases hx : wd xs (m - 1) = 0
        · have hT := Lib.hid ((trim_take hpos hml hx).symm.trans HT.out)
          rw [hx] at hcell
          clear hx
          go_wp2
          go_round
          case rel => exact ⟨m - 1, by omega, rfl, hT.out⟩
          case measure => simp [lenOf]; omega
        · have hst := Lib.hid (FIN.out (trim_stop hml (fun _ => hx)))
          have hb : (((wd xs (m - 1) : Nat) : Int) == 0) = false := by rw [beq_eq_false_iff_ne]; omega
          clear hx
          generalize wd xs (m - 1) = x at *
          go_wp2
          exact bodyPost_ret (v := .agg #[.slice (some ⟨g, 0, none⟩) m cap]) (by simp [results, Try.results65, go_sem]) rfl hst.out
end Nt
end Go.Proofs.Ytohkhcbocknliaa
namespace Go.Proofs.Ytohkhcbocknliaa
open Go.RowKit Am
set_option maxHeartbeats 1000000
namespace Nt
theorem clone (s : Value) (xs : List Nat) (w : World) (h : SR w s xs) (hb : xs.length ≤ LIM) : Calls Try.prog 72 #[s] w (RetSW w xs) := by
  obtain ⟨A, c, rfl, hlc, hc9, hw, hnil, hcell⟩ := h
  have hWD := Lib.hid hw
  clear hw
  rcases A with _ | ad
  · obtain ⟨rfl, rfl⟩ := hnil rfl
    clear hcell hnil
    have hq := fun (w : World) => Lib.run_eql_slice_nil (P := Try.prog) w 34 95 none 0 0 0 0 Try.underlying34
    go_enter Try.func72, Try.ntmps72
    go_wp2
    go_ret
    exact ⟨_, _, _, rfl, SW.nil _, Below.refl _ _⟩
  · have HC := Lib.hid (hcell ad rfl)
    clear hcell hnil
    have hq := fun (w : World) => Lib.run_eql_slice_nil (P := Try.prog) w 34 95 (some ad) xs.length c 0 0 Try.underlying34
    obtain ⟨i0, hi, hz0, hz1, hz2⟩ := info_parts info_u64
    have hown := World.ownsRow_made (e := 95) (size := 1) (base := w.heap.size) w #[] 0 (Nat.le_refl _) (by unfold maxLen; omega) rfl
    have hnews : ∀ j u, (wcells xs)[j]? = some u → (w.alloc (.cells #[] 95)).cell? (ad.add j) = some u := fun j u hu =>
      (World.cell?_alloc_lt w _ _ (World.block_lt_of_cell? w _ (HC.out j u hu))).trans (HC.out j u hu)
    have HO := Lib.hid hown
    have HN := Lib.hid hnews
    have b1 : 0 + xs.length ≤ maxLen := by unfold maxLen; omega
    have b2 : (0 + xs.length) * 8 ≤ 140737488355328 := by have := LIM_eq; omega
    have B1 := Lib.hid b1
    have B2 := Lib.hid b2
    clear hown hnews b1 b2 hb hlc hc9
    go_enter Try.func72, Try.ntmps72
    go_wp2_with (at_builtin; refine wpList_append_own _ rfl _ _ 34 rfl w.heap.size 95 i0 (.int .u64 0) 1 8 Try.underlying34 hi hz0 hz1 hz2 rfl (by decide) _ _ _ rfl HO.out ad xs.length c (wcells xs) rfl (by rw [wcells_len]; omega) HN.out (wcells_one xs) B1.out B2.out (by simp) ?_; intro v' w1 hown' hgrow hnil')
    go_ret
    rw [Nat.zero_add, List.nil_append] at hown'
    have hs' := SW.of_own hown' hWD.out
    obtain ⟨A', m', c', rfl⟩ := hs'.slice
    exact ⟨A', m', c', rfl, hs', (below_alloc w _).trans ((Below.refl _ _).grown hgrow (by simp) (fun k hk => by cases hk; exact Nat.le_refl _))⟩
theorem of (s : Value) (xs : List Nat) (w : World) (h : SR w s xs) (hb : xs.length ≤ LIM) : Calls Try.prog 59 #[s] w (RetNat w (nval xs)) := by
  have h2 : SR (w.alloc (.cells #[.slice none 0 0] 36)) s xs := by
    obtain ⟨A, c, h1, h2, h3, h4, h5, h6⟩ := h
    exact ⟨A, c, h1, h2, h3, h4, h5, fun ad he j u hu => (World.cell?_alloc_lt w _ _ (World.block_lt_of_cell? w _ (h6 ad he j u hu))).trans (h6 ad he j u hu)⟩
  have H2 := Lib.hid h2
  have HB := Lib.hid hb
  clear h h2 hb
  go_enter Try.func59, Try.ntmps59
  go_wp2_with fail
  refine (clone s xs _ H2.out HB.out).mono ?_
  rintro e w1 ⟨A1, m1, c1, rfl, hs1, hb1⟩
  go_wp2_with fail
  refine (trim _ xs _ hs1).mono ?_
  rintro e w2 ⟨A2, m2, c2, rfl, hs2, hb2⟩
  have hz2 : w.heap.size < w2.heap.size := by have h1 := hb1.size; have h2 := hb2.size; simp at h1; omega
  have hk := keepBlk hb2 (keepBlk hb1 (blk_new w #[.slice none 0 0] 36))
  have hc : w2.cell? ⟨w.heap.size, 0, none⟩ = some (.slice none 0 0) := blk_cell hk 0
  have hf := blk_fro hk 0
  have HK := Lib.hid hk
  clear hk
  go_wp2
  refine bodyPost_ret (v := .agg #[.slice A2 m2 c2]) (by simp [results, Try.results59, go_sem, hc]) rfl ⟨_, _, _, rfl, hs2.setCell (p := ⟨w.heap.size, 0, none⟩) HK.out (by decide) _, ?_⟩
  exact (bstep (bstep (below_alloc w _) hb1 (by simp)) hb2 (by have h1 := hb1.size; simp at h1; omega)).setCell (Nat.le_refl _) _
end Nt
end Go.Proofs.Ytohkhcbocknliaa
