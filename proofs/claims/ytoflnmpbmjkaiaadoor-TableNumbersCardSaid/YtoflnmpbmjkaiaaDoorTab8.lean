/- TableNumbers walked: whatever the script, true. Condition: errors.errorType holds its handle; the script's cells read as integers. -/
import Derived.Test.YtoflnmpbmjkaiaaDoorTab7
import Derived.Deep.DeepMust
namespace Go.Proofs.YtoflnmpbmjkaiaaDoor
open Go.RowKit
set_option maxRecDepth 100000
set_option maxHeartbeats 4000000
namespace Tb
/-- What the seats of a table are like: numbers rise, from 1 to the last; no more than cap. -/
structure Good (st : List (Int × Nat)) (last : Int) (cap : Nat) : Prop where
  rise : st.Pairwise fun p q => p.1 < q.1
  le : ∀ p ∈ st, p.1 ≤ last
  len : st.length ≤ cap
  len2 : st.length ≤ 16
theorem Good.nil (cap : Nat) : Good [] 0 cap := ⟨List.Pairwise.nil, fun p hp => (List.not_mem_nil hp).elim, Nat.zero_le _, Nat.zero_le _⟩
theorem Good.erase {st : List (Int × Nat)} {last : Int} {cap : Nat} (h : Good st last cap) (k : Nat) : Good (st.eraseIdx k) last cap :=
  ⟨h.rise.sublist (List.eraseIdx_sublist _ _), fun p hp => h.le p ((List.eraseIdx_sublist _ _).subset hp), Nat.le_trans (List.eraseIdx_sublist st k).length_le h.len, Nat.le_trans (List.eraseIdx_sublist st k).length_le h.len2⟩
theorem Good.snoc {st : List (Int × Nat)} {last : Int} {cap : Nat} (h : Good st last cap) (hc : st.length < cap) (h16 : st.length < 16) (sb : Nat) : Good (st ++ [(last + 1, sb)]) (last + 1) cap :=
  ⟨by
    rw [List.pairwise_append]
    refine ⟨h.rise, List.pairwise_singleton _ _, ?_⟩
    intro p hp q hq
    have := h.le p hp
    simp at hq
    subst hq
    simp only
    omega, by
    intro p hp
    rcases List.mem_append.1 hp with h1 | h1
    · have := h.le p h1; omega
    · simp at h1; subst h1; simp, by rw [List.length_append]; simp; omega, by rw [List.length_append]; simp; omega⟩
theorem Good.lt {st : List (Int × Nat)} {last : Int} {cap : Nat} (h : Good st last cap) (k : Nat) (hk : k + 1 < st.length) : st[k]!.1 < st[k + 1]!.1 := by
  have := List.pairwise_iff_getElem.1 h.rise k (k + 1) (by omega) hk (Nat.lt_succ_self _)
  rw [getElem!_pos st k (by omega), getElem!_pos st (k + 1) hk]
  exact this
theorem id_get (st : List (Int × Nat)) (j : Nat) (hj : j < st.length) : (idCells st)[j]? = some (.int .i64 st[j]!.1) := by
  simp [idCells, hj]
theorem closeG (a b c d f : Int) (cap tb : Nat) (st : List (Int × Nat)) (last id : Int) (w : World) (hT : Tab w tb a b c d (cap : Int) f st last) (hG : Good st last cap) :
    Calls Tryd.prog 7 #[.pointer (some ⟨tb, 0, none⟩), .int .i64 id] w fun ev w' => ∃ x st', ev = .returned x ∧ Tab w' tb a b c d (cap : Int) f st' last ∧ Good st' last cap ∧ Below tb w w' := by
  by_cases hyes : ∃ j, j < st.length ∧ st[j]!.1 = id
  · exact (tclose_yes a b c d cap f tb st last id w hT (by have := hG.len2; omega) hyes).mono fun e w' h => by
      obtain ⟨k, h1, _, _, h4, h5, _⟩ := h
      exact ⟨_, _, h1, h4, hG.erase k, h5⟩
  · exact (tclose_no a b c d cap f tb st last id w hT (by have := hG.len2; omega) (fun j hj h => hyes ⟨j, hj, h⟩)).mono fun e w' h => by
      obtain ⟨x, h1, h2⟩ := h
      exact ⟨x, st, h1, hT.keep h2, hG, h2.mono (Nat.le_of_lt hT.lt)⟩
theorem openG_ok (a b c d f : Int) (cap tb : Nat) (st : List (Int × Nat)) (last : Int) (w : World) (hT : Tab w tb a b c d (cap : Int) f st last) (hG : Good st last cap) (h1 : st.length < cap) (h2 : st.length < 16) (hl : 0 ≤ last) (hl2 : last < 1000000) :
    Calls Tryd.prog 8 #[.pointer (some ⟨tb, 0, none⟩)] w fun ev w' => ∃ st', ev = .returned (.tuple #[.int .i64 (last + 1), .nilIface]) ∧ Tab w' tb a b c d (cap : Int) f st' (last + 1) ∧ Good st' (last + 1) cap ∧ Below tb w w' :=
  (topen_ok a b c d cap f tb st last w hT (by omega) h2 hl hl2).mono fun e w' h => by
    obtain ⟨sb, h3, h4, h5, _⟩ := h
    exact ⟨_, h3, h4, hG.snoc h1 h2 sb, h5⟩
theorem openG_no (a b c d f : Int) (cap tb : Nat) (st : List (Int × Nat)) (last : Int) (w : World) (hT : Tab w tb a b c d (cap : Int) f st last) (hG : Good st last cap) (h1 : ¬ (st.length < cap ∧ st.length < 16)) :
    Calls Tryd.prog 8 #[.pointer (some ⟨tb, 0, none⟩)] w fun ev w' => ∃ T x, ev = .returned (.tuple #[.int .i64 0, .iface T x]) ∧ Tab w' tb a b c d (cap : Int) f st last ∧ Below tb w w' := by
  by_cases h2 : st.length < cap
  · exact (topen_big a b c d cap f tb st last w hT (by omega) (by omega) (by have := hG.len2; omega)).mono fun e w' h => by
      obtain ⟨x, h3, h4⟩ := h
      exact ⟨_, x, h3, hT.keep h4, h4.mono (Nat.le_of_lt hT.lt)⟩
  · exact (topen_full a b c d cap f tb st last w hT (by omega) (by have := hG.len2; omega)).mono fun e w' h => by
      obtain ⟨xb, h3, _, _, h4⟩ := h
      exact ⟨_, _, h3, hT.keep h4, h4.mono (Nat.le_of_lt hT.lt)⟩
def Script (w : World) (A : Option Addr) (n : Nat) : Prop := ∀ i, i < n → ∃ (b o : Nat) (d x : Int), A = some ⟨b, o, none⟩ ∧ b < w.heap.size ∧ w.cell? ⟨b, o + i * 9, none⟩ = some (.int .i64 d) ∧ w.cell? ⟨b, o + i * 9 + 1, none⟩ = some (.int .i64 x)
theorem law (s : Nat) (hs : s < 256) (A : Option Addr) (n cp : Nat) (w : World) (hn : n ≤ 9223372036854775807) (hS : Script w A n) (hg : w.cell? ⟨0, 0, none⟩ = some Err.HandleV) :
    Calls Tryd.prog 3 #[.int .u8 (s : Int), .slice A n cp] w fun ev w' => ev = .returned (.bool true) ∧ Below w.heap.size w w' := by
  have HA := Lib.hid (awake w hg)
  have HS := Lib.hid hS
  obtain ⟨cap, hcap⟩ : ∃ cap : Nat, cap = s % 20 := ⟨_, rfl⟩
  have hm : (s : Int) % 20 = (cap : Int) := by omega
  have HM := Lib.hid hm
  clear hg hS hcap
  go_enter Tryd.func3, Tryd.ntmps3
  go_wp2_with (first
    | (go_at_call 4; go_loud (refine HA.out.mono ?_; rintro e w1 ⟨rfl, hb⟩; have HB1 := Lib.hid hb; clear hb))
    | (go_at_call 6; go_loud (refine (limits29 s hs _).mono ?_; rintro e w2 ⟨rfl, hb⟩; have HB2 := Lib.hid (HB1.out.trans (hb.mono HB1.out.size)); clear hb))
    | (go_at_call 5; go_loud (refine (tnew _ _ _ _ _ _ _).mono ?_; rintro e w3 ⟨rfl, hT, hb⟩; have HB3 := Lib.hid (HB2.out.trans (hb.mono HB2.out.size)); have HT3 := Lib.hid hT; have HZ := Lib.hid HB2.out.size; clear hb hT; generalize htb : w2.heap.size + 1 = tb at *; have HTB := Lib.hid (show w.heap.size ≤ tb by have := HZ.out; omega); clear htb)))
  go_loopw [6, 7] (fun lv iv wr => ∃ (i last : Nat) (st : List (Int × Nat)), iv = .int .i64 i ∧ lv = .int .i64 last ∧ i ≤ n ∧ i ≤ 60 ∧ last ≤ i ∧ Tab wr tb 3 3 1000 4000 (cap : Int) 4 st last ∧ Good st last cap ∧ Below w.heap.size w wr)
    (fun _ iv _ => 60 - (intOf iv).toNat)
  case atStart => exact ⟨0, 0, [], rfl, rfl, Nat.zero_le _, Nat.zero_le _, Nat.le_refl _, HT3.out, Good.nil cap, HB3.out⟩
  case round =>
    obtain ⟨i, last, st, rfl, rfl, hi, hi60, hl, hT, hG, hB⟩ := hrel
    have HT := Lib.hid hT
    have HG := Lib.hid hG
    have HB := Lib.hid hB
    clear hT hG hB HT3 HB3 HZ
    by_cases h1 : i < n ∧ i < 60
    · obtain ⟨hin, hi6⟩ := h1
      obtain ⟨b, o, d, x, rfl, hb, hc0, hc1⟩ := HS.out i hin
      have c0 := (HB.out.cell (p := ⟨b, o + i * 9, none⟩) hb).trans hc0
      have c1 := (HB.out.cell (p := ⟨b, o + i * 9 + 1, none⟩) hb).trans hc1
      have hbb := Lib.hid hb
      have hin2 : (i : Int) < (n : Int) := by omega
      have hi62 : (i : Int) < 60 := by omega
      clear hb hc0 hc1
      clear HS
      by_cases hd : d = 2
      · subst hd
        go_wp2_with (go_at_call 7; go_loud (refine (closeG 3 3 1000 4000 4 cap tb st last x _ HT.out HG.out).mono ?_; rintro e w4 ⟨y, st4, rfl, hT, hG, hb⟩; have HT4 := Lib.hid hT; have HG4 := Lib.hid hG; have HB4 := Lib.hid (HB.out.trans (hb.mono HTB.out)); clear hT hG hb))
        clear HT HG HB c0 c1
        by_cases hq : st4.length < cap ∧ st4.length < 16
        · refine (openG_ok 3 3 1000 4000 4 cap tb st4 last _ HT4.out HG4.out hq.1 hq.2 (by omega) (by omega)).mono ?_
          rintro e w5 ⟨st5, rfl, hT, hG, hb⟩
          have HG5 := Lib.hid hG
          clear hG
          have HT5 := Lib.hid hT
          have HB5 := Lib.hid (HB4.out.trans (hb.mono HTB.out))
          clear hT hb hq HT4 HG4 HB4
          have h5 := HG5.out.len
          have h6 := HG5.out.len2
          have h51 : ¬ (cap : Int) < (st5.length : Int) := by omega
          have h61 : ¬ (16 : Int) < (st5.length : Int) := by omega
          have D1 := Lib.hid (decide_eq_false (show ¬ cap < st5.length by omega))
          have D2 := Lib.hid (decide_eq_false h61)
          have h7 : ¬ ((last : Int) + 1 ≤ (last : Int)) := by omega
          have D3 := Lib.hid (decide_eq_false h7)
          have h8 : ((last : Int) ≤ (last : Int) + 1) := by omega
          go_wp2_with (go_at_call 9; go_loud (refine (tids 3 3 1000 4000 cap 4 tb st5 _ _ HT5.out (by omega)).mono ?_; rintro e w6 ⟨A6, m6, c6, rfl, rfl, hR, hb⟩; have HR6 := Lib.hid hR; have HB6 := Lib.hid hb; clear hR hb))
          simp only [D1.out, D2.out, D3.out, Bool.or_self]
          go_loopw [11] (fun kv wr' => ∃ j : Nat, kv = .int .i64 ((j : Int) + 1) ∧ j ≤ 16 ∧ Below w6.heap.size w6 wr')
            (fun kv _ => 20 - (intOf kv).toNat)
          case atStart => exact ⟨0, rfl, Nat.zero_le _, Below.refl _ _⟩
          case round =>
            obtain ⟨j, rfl, hj16, hbr⟩ := hrel
            have HBR := Lib.hid hbr
            by_cases hj : j + 1 < st5.length
            · have hR7 := row_below HR6.out hbr
              obtain ⟨g, rfl, e1, e0⟩ : ∃ g, A6 = some ⟨g, 0, none⟩ ∧ wr.cell? ⟨g, j + 1, none⟩ = some (.int .i64 st5[j + 1]!.1) ∧ wr.cell? ⟨g, j, none⟩ = some (.int .i64 st5[j]!.1) := by
                rcases hR7.2 with ⟨h, h0⟩ | ⟨g, cap, cur, h, _⟩
                · omega
                · simp only [Value.slice.injEq, true_and] at h
                  obtain ⟨rfl, rfl⟩ := h
                  exact ⟨g, rfl, (hR7.cellAt (j + 1) (by omega)).trans (id_get st5 (j + 1) hj), (hR7.cellAt j (by omega)).trans (id_get st5 j (by omega))⟩
              have hlt := HG5.out.lt j hj
              generalize st5[j + 1]!.1 = y1 at e1 hlt
              generalize st5[j]!.1 = y0 at e0 hlt
              have hj2 : (j : Int) + 1 < (st5.length : Int) := by omega
              have hj3 : (j : Int) < (st5.length : Int) := by omega
              have hlt2 : ¬ y1 ≤ y0 := by omega
              clear hR7 hbr
              go_wp2_with fail
              go_region
              all_goals
                go_wp2
                exact ⟨⟨j + 1, rfl, by omega, HBR.out.drew⟩, by simp [intOf]; omega⟩
            · clear hbr
              have hj2 : ¬ (j : Int) + 1 < (st5.length : Int) := by omega
              go_wp2
              exact ⟨⟨i + 1, last + 1, st5, rfl, rfl, hin, hi6, by omega, (HT5.out.keep HB6.out).keep HBR.out, HG5.out, (HB5.out.trans (HB6.out.mono HB5.out.size)).trans (HBR.out.mono (HB5.out.trans (HB6.out.mono HB5.out.size)).size)⟩, by simp [intOf]; omega⟩
        · refine (openG_no 3 3 1000 4000 4 cap tb st4 last _ HT4.out HG4.out hq).mono ?_
          rintro e w5 ⟨tx, vx, rfl, hT, hb⟩
          have HG5 := HG4
          generalize st4 = st5 at *
          have HT5 := Lib.hid hT
          have HB5 := Lib.hid (HB4.out.trans (hb.mono HTB.out))
          clear hT hb hq HT4 HB4
          have h5 := HG5.out.len
          have h6 := HG5.out.len2
          have h51 : ¬ (cap : Int) < (st5.length : Int) := by omega
          have h61 : ¬ (16 : Int) < (st5.length : Int) := by omega
          have D1 := Lib.hid (decide_eq_false (show ¬ cap < st5.length by omega))
          have D2 := Lib.hid (decide_eq_false h61)
          have h8 : (0 : Int) ≤ (last : Int) := by omega
          go_wp2_with (go_at_call 9; go_loud (refine (tids 3 3 1000 4000 cap 4 tb st5 _ _ HT5.out (by omega)).mono ?_; rintro e w6 ⟨A6, m6, c6, rfl, rfl, hR, hb⟩; have HR6 := Lib.hid hR; have HB6 := Lib.hid hb; clear hR hb))
          simp only [D1.out, D2.out, Bool.or_self]
          go_loopw [11] (fun kv wr' => ∃ j : Nat, kv = .int .i64 ((j : Int) + 1) ∧ j ≤ 16 ∧ Below w6.heap.size w6 wr')
            (fun kv _ => 20 - (intOf kv).toNat)
          case atStart => exact ⟨0, rfl, Nat.zero_le _, Below.refl _ _⟩
          case round =>
            obtain ⟨j, rfl, hj16, hbr⟩ := hrel
            have HBR := Lib.hid hbr
            by_cases hj : j + 1 < st5.length
            · have hR7 := row_below HR6.out hbr
              obtain ⟨g, rfl, e1, e0⟩ : ∃ g, A6 = some ⟨g, 0, none⟩ ∧ wr.cell? ⟨g, j + 1, none⟩ = some (.int .i64 st5[j + 1]!.1) ∧ wr.cell? ⟨g, j, none⟩ = some (.int .i64 st5[j]!.1) := by
                rcases hR7.2 with ⟨h, h0⟩ | ⟨g, cap, cur, h, _⟩
                · omega
                · simp only [Value.slice.injEq, true_and] at h
                  obtain ⟨rfl, rfl⟩ := h
                  exact ⟨g, rfl, (hR7.cellAt (j + 1) (by omega)).trans (id_get st5 (j + 1) hj), (hR7.cellAt j (by omega)).trans (id_get st5 j (by omega))⟩
              have hlt := HG5.out.lt j hj
              generalize st5[j + 1]!.1 = y1 at e1 hlt
              generalize st5[j]!.1 = y0 at e0 hlt
              have hj2 : (j : Int) + 1 < (st5.length : Int) := by omega
              have hj3 : (j : Int) < (st5.length : Int) := by omega
              have hlt2 : ¬ y1 ≤ y0 := by omega
              clear hR7 hbr
              go_wp2_with fail
              go_region
              all_goals
                go_wp2
                exact ⟨⟨j + 1, rfl, by omega, HBR.out.drew⟩, by simp [intOf]; omega⟩
            · clear hbr
              have hj2 : ¬ (j : Int) + 1 < (st5.length : Int) := by omega
              go_wp2
              exact ⟨⟨i + 1, last, st5, rfl, rfl, hin, hi6, by omega, (HT5.out.keep HB6.out).keep HBR.out, HG5.out, (HB5.out.trans (HB6.out.mono HB5.out.size)).trans (HBR.out.mono (HB5.out.trans (HB6.out.mono HB5.out.size)).size)⟩, by simp [intOf]; omega⟩
      · have hd2 : (d == 2) = false := beq_eq_false_iff_ne.2 hd
        go_wp2_with fail
        clear c0 c1 hd hd2
        by_cases hq : st.length < cap ∧ st.length < 16
        · refine (openG_ok 3 3 1000 4000 4 cap tb st last _ HT.out HG.out hq.1 hq.2 (by omega) (by omega)).mono ?_
          rintro e w5 ⟨st5, rfl, hT, hG, hb⟩
          have HG5 := Lib.hid hG
          clear hG
          have HT5 := Lib.hid hT
          have HB5 := Lib.hid (HB.out.trans (hb.mono HTB.out))
          clear hT hb hq HT HG HB
          have h5 := HG5.out.len
          have h6 := HG5.out.len2
          have h51 : ¬ (cap : Int) < (st5.length : Int) := by omega
          have h61 : ¬ (16 : Int) < (st5.length : Int) := by omega
          have D1 := Lib.hid (decide_eq_false (show ¬ cap < st5.length by omega))
          have D2 := Lib.hid (decide_eq_false h61)
          have h7 : ¬ ((last : Int) + 1 ≤ (last : Int)) := by omega
          have D3 := Lib.hid (decide_eq_false h7)
          have h8 : ((last : Int) ≤ (last : Int) + 1) := by omega
          go_wp2_with (go_at_call 9; go_loud (refine (tids 3 3 1000 4000 cap 4 tb st5 _ _ HT5.out (by omega)).mono ?_; rintro e w6 ⟨A6, m6, c6, rfl, rfl, hR, hb⟩; have HR6 := Lib.hid hR; have HB6 := Lib.hid hb; clear hR hb))
          simp only [D1.out, D2.out, D3.out, Bool.or_self]
          go_loopw [11] (fun kv wr' => ∃ j : Nat, kv = .int .i64 ((j : Int) + 1) ∧ j ≤ 16 ∧ Below w6.heap.size w6 wr')
            (fun kv _ => 20 - (intOf kv).toNat)
          case atStart => exact ⟨0, rfl, Nat.zero_le _, Below.refl _ _⟩
          case round =>
            obtain ⟨j, rfl, hj16, hbr⟩ := hrel
            have HBR := Lib.hid hbr
            by_cases hj : j + 1 < st5.length
            · have hR7 := row_below HR6.out hbr
              obtain ⟨g, rfl, e1, e0⟩ : ∃ g, A6 = some ⟨g, 0, none⟩ ∧ wr.cell? ⟨g, j + 1, none⟩ = some (.int .i64 st5[j + 1]!.1) ∧ wr.cell? ⟨g, j, none⟩ = some (.int .i64 st5[j]!.1) := by
                rcases hR7.2 with ⟨h, h0⟩ | ⟨g, cap, cur, h, _⟩
                · omega
                · simp only [Value.slice.injEq, true_and] at h
                  obtain ⟨rfl, rfl⟩ := h
                  exact ⟨g, rfl, (hR7.cellAt (j + 1) (by omega)).trans (id_get st5 (j + 1) hj), (hR7.cellAt j (by omega)).trans (id_get st5 j (by omega))⟩
              have hlt := HG5.out.lt j hj
              generalize st5[j + 1]!.1 = y1 at e1 hlt
              generalize st5[j]!.1 = y0 at e0 hlt
              have hj2 : (j : Int) + 1 < (st5.length : Int) := by omega
              have hj3 : (j : Int) < (st5.length : Int) := by omega
              have hlt2 : ¬ y1 ≤ y0 := by omega
              clear hR7 hbr
              go_wp2_with fail
              go_region
              all_goals
                go_wp2
                exact ⟨⟨j + 1, rfl, by omega, HBR.out.drew⟩, by simp [intOf]; omega⟩
            · clear hbr
              have hj2 : ¬ (j : Int) + 1 < (st5.length : Int) := by omega
              go_wp2
              exact ⟨⟨i + 1, last + 1, st5, rfl, rfl, hin, hi6, by omega, (HT5.out.keep HB6.out).keep HBR.out, HG5.out, (HB5.out.trans (HB6.out.mono HB5.out.size)).trans (HBR.out.mono (HB5.out.trans (HB6.out.mono HB5.out.size)).size)⟩, by simp [intOf]; omega⟩
        · refine (openG_no 3 3 1000 4000 4 cap tb st last _ HT.out HG.out hq).mono ?_
          rintro e w5 ⟨tx, vx, rfl, hT, hb⟩
          have HG5 := HG
          generalize st = st5 at *
          have HT5 := Lib.hid hT
          have HB5 := Lib.hid (HB.out.trans (hb.mono HTB.out))
          clear hT hb hq HT HB
          have h5 := HG5.out.len
          have h6 := HG5.out.len2
          have h51 : ¬ (cap : Int) < (st5.length : Int) := by omega
          have h61 : ¬ (16 : Int) < (st5.length : Int) := by omega
          have D1 := Lib.hid (decide_eq_false (show ¬ cap < st5.length by omega))
          have D2 := Lib.hid (decide_eq_false h61)
          have h8 : (0 : Int) ≤ (last : Int) := by omega
          go_wp2_with (go_at_call 9; go_loud (refine (tids 3 3 1000 4000 cap 4 tb st5 _ _ HT5.out (by omega)).mono ?_; rintro e w6 ⟨A6, m6, c6, rfl, rfl, hR, hb⟩; have HR6 := Lib.hid hR; have HB6 := Lib.hid hb; clear hR hb))
          simp only [D1.out, D2.out, Bool.or_self]
          go_loopw [11] (fun kv wr' => ∃ j : Nat, kv = .int .i64 ((j : Int) + 1) ∧ j ≤ 16 ∧ Below w6.heap.size w6 wr')
            (fun kv _ => 20 - (intOf kv).toNat)
          case atStart => exact ⟨0, rfl, Nat.zero_le _, Below.refl _ _⟩
          case round =>
            obtain ⟨j, rfl, hj16, hbr⟩ := hrel
            have HBR := Lib.hid hbr
            by_cases hj : j + 1 < st5.length
            · have hR7 := row_below HR6.out hbr
              obtain ⟨g, rfl, e1, e0⟩ : ∃ g, A6 = some ⟨g, 0, none⟩ ∧ wr.cell? ⟨g, j + 1, none⟩ = some (.int .i64 st5[j + 1]!.1) ∧ wr.cell? ⟨g, j, none⟩ = some (.int .i64 st5[j]!.1) := by
                rcases hR7.2 with ⟨h, h0⟩ | ⟨g, cap, cur, h, _⟩
                · omega
                · simp only [Value.slice.injEq, true_and] at h
                  obtain ⟨rfl, rfl⟩ := h
                  exact ⟨g, rfl, (hR7.cellAt (j + 1) (by omega)).trans (id_get st5 (j + 1) hj), (hR7.cellAt j (by omega)).trans (id_get st5 j (by omega))⟩
              have hlt := HG5.out.lt j hj
              generalize st5[j + 1]!.1 = y1 at e1 hlt
              generalize st5[j]!.1 = y0 at e0 hlt
              have hj2 : (j : Int) + 1 < (st5.length : Int) := by omega
              have hj3 : (j : Int) < (st5.length : Int) := by omega
              have hlt2 : ¬ y1 ≤ y0 := by omega
              clear hR7 hbr
              go_wp2_with fail
              go_region
              all_goals
                go_wp2
                exact ⟨⟨j + 1, rfl, by omega, HBR.out.drew⟩, by simp [intOf]; omega⟩
            · clear hbr
              have hj2 : ¬ (j : Int) + 1 < (st5.length : Int) := by omega
              go_wp2
              exact ⟨⟨i + 1, last, st5, rfl, rfl, hin, hi6, by omega, (HT5.out.keep HB6.out).keep HBR.out, HG5.out, (HB5.out.trans (HB6.out.mono HB5.out.size)).trans (HBR.out.mono (HB5.out.trans (HB6.out.mono HB5.out.size)).size)⟩, by simp [intOf]; omega⟩
    · go_wp2
      all_goals
        go_ret
        exact ⟨rfl, HB.out⟩
end Tb
end Go.Proofs.YtoflnmpbmjkaiaaDoor
