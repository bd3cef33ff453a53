/- actuarylaw16.Right by its contract. Conditions: as it says. -/
import Derived.Test.YtohkhcbocknliaaLaw2M
import Derived.Test.YtohkhcbocknliaaCert2M
namespace Go.Proofs.Ytohkhcbocknliaa
set_option linter.unusedSimpArgs false
set_option linter.unusedVariables false
open Go.RowKit Am
attribute [local go_sem ↓] Go.wp_at_zero Go.wp_at_succ
set_option maxHeartbeats 4000000
set_option maxRecDepth 100000
theorem FracsAt.take {w : World} {A : Option Addr} {ps : List (Int × Int)} (h : FracsAt w A ps) (n : Nat) : FracsAt w A (ps.take n) := by
  intro k x hx
  rw [List.getElem?_take] at hx
  split at hx
  · exact h k x hx
  · cases hx
theorem LinesAt.take {w : World} {A : Option Addr} {ls : List LineV} (h : LinesAt w A ls) (n : Nat) : LinesAt w A (ls.take n) := by
  intro k x hx
  rw [List.getElem?_take] at hx
  split at hx
  · exact h k x hx
  · cases hx
theorem FracsAt.below' {w w' : World} {A : Option Addr} {ps : List (Int × Int)} (h : FracsAt w A ps) (hb : Below w.heap.size w w') : FracsAt w' A ps := h.below hb
theorem LinesAt.below' {w w' : World} {A : Option Addr} {ls : List LineV} (h : LinesAt w A ls) (hb : Below w.heap.size w w') : LinesAt w' A ls := h.below hb
theorem blk_other {w : World} {b o b' : Nat} {x : Obj} (u : Value) (hne : b' ≠ b) (h : w.heap[b']? = some x) : (w.setCell ⟨b, o, none⟩ u).heap[b']? = some x := (Below.heap_setCell w ⟨b, o, none⟩ u b' hne).trans h
theorem mw_fr {p d : Int} (hp : I64 p) (hd : I64 d) : mw (fr p d) ≤ 1 := by
  unfold fr
  split
  · exact mw_int p hp
  · have h := mw_divInt p d ‹_›
    have h1 := wlen_word (n := p.natAbs) (by unfold B64; omega)
    have h2 := wlen_word (n := d.natAbs) (by unfold B64; omega)
    omega
theorem frs_sm {w : World} {A : Option Addr} {ps : List (Int × Int)} (h : FracsAt w A ps) : Sm (frs ps) := by
  intro q hq
  obtain ⟨x, hx, rfl⟩ := List.mem_map.1 hq
  obtain ⟨k, hk⟩ := List.mem_iff_getElem?.1 hx
  obtain ⟨h1, h2, _⟩ := h k x hk
  exact Nat.le_trans (mw_fr h1 h2) (by decide)
/-- what is known of the rows while they are filled up -/
def PR (nC k : Nat) (ps : List PRow) : Prop := ∀ (i : Nat) (p : PRow), ps[i]? = some p → Sm p.coef ∧ mw p.rhs ≤ 10000 ∧ (i < k → p.coef.length = nC ∧ 1 ≤ p.kind ∧ p.kind ≤ 3)
theorem pr_start {w : World} {A : Option Addr} {ls : List LineV} (h : LinesAt w A ls) (nC : Nat) : PR nC 0 (rowsOf ls) := by
  intro i p hp
  unfold rowsOf at hp
  rw [List.getElem?_map] at hp
  cases e : ls[i]? with
  | none => rw [e] at hp; simp at hp
  | some x =>
    rw [e] at hp; simp at hp; subst hp
    obtain ⟨_, h1, h2, b, o, C, cc, _, h3, _⟩ := h i x e
    exact ⟨frs_sm h3, Nat.le_trans (mw_fr h1 h2) (by decide), fun h => by omega⟩
theorem pr_step {nC k : Nat} {ps : List PRow} (h : PR nC k ps) {qs : List Rat} (hs : Sm qs) (hl : nC ≤ qs.length) {z : Int} (hz : 1 ≤ z ∧ z ≤ 3) : PR nC (k + 1) ((ps.modify k fun p => { p with coef := qs.take nC }).modify k fun p => { p with kind := z }) := by
  intro i p hp
  rw [List.getElem?_modify, List.getElem?_modify] at hp
  cases e : ps[i]? with
  | none => rw [e] at hp; simp at hp
  | some p0 =>
    rw [e] at hp
    have h0 := h i p0 e
    by_cases hk : k = i
    · subst hk
      simp at hp
      subst hp
      exact ⟨fun q hq => hs q (List.mem_of_mem_take hq), h0.2.1, fun _ => ⟨by rw [List.length_take]; omega, hz.1, hz.2⟩⟩
    · simp [hk] at hp
      subst hp
      exact ⟨h0.1, h0.2.1, fun hi => h0.2.2 (by omega)⟩
theorem kind_ok (x : Int) : 1 ≤ wrap64 (IntKind.u64.wrap (1 + (IntKind.u64.wrap x).tmod 3)) ∧ wrap64 (IntKind.u64.wrap (1 + (IntKind.u64.wrap x).tmod 3)) ≤ 3 := by
  have h0 : 0 ≤ IntKind.u64.wrap x := by unfold IntKind.wrap IntKind.signed IntKind.bits; simp; omega
  generalize IntKind.u64.wrap x = y at *
  have h1 : 0 ≤ y.tmod 3 ∧ y.tmod 3 < 3 := by rw [Int.tmod_eq_emod_of_nonneg h0]; omega
  generalize y.tmod 3 = m at *
  have h2 : IntKind.u64.wrap (1 + m) = 1 + m := by unfold IntKind.wrap IntKind.signed IntKind.bits; simp; omega
  rw [h2]
  unfold wrap64
  omega
theorem RowsS.setT {w : World} {H : Nat} {v : Value} {ps : List PRow} (h : RowsS w H v ps) {a : Addr} {t : TypeId} {cs : Array Value} (hg : w.heap[a.block]? = some (.cells cs t (0, 0))) (h1 : 95 ≠ t) (h2 : 40 ≠ t) (h3 : 48 ≠ t) (u : Value) : RowsS (w.setCell a u) H v ps := by
  obtain ⟨l, e1, e2, e3⟩ := h.row
  exact (RowsL.setT (l := l) ⟨e1, e2, e3⟩ hg h1 h2 h3 u).toS
def sLen : Value → Nat
  | .slice _ n _ => n
  | _ => 0
/-- What actuarylaw16.Right hands back: a problem that may be. -/
def RetGood (w : World) (e : Ending) (w' : World) : Prop := ∃ (C : Option Addr) (nC cC : Nat) (R : Option Addr) (nR cR : Nat) (cost : List Rat) (rows : List PRow), e = .returned (.agg #[.slice C nC cC, .slice R nR cR]) ∧
  VecS w' w.heap.size (.slice C nC cC) cost ∧ RowsS w' w.heap.size (.slice R nR cR) rows ∧ Good nC nR cost rows ∧ nC ≤ 5 ∧ Below w.heap.size w w'
namespace Lw
theorem right16 (A : Option Addr) (nA cA : Nat) (L : Option Addr) (nL cL : Nat) (cs : List (Int × Int)) (ls : List LineV) (w : World) (hf : FracsAt w A cs) (hlines : LinesAt w L ls) (hn : nA = cs.length) (hm : nL = ls.length) (hb : nA ≤ cA) (hb2 : nL ≤ cL) (hc : cA ≤ 9223372036854775807) (hc2 : cL ≤ 9223372036854775807) :
    Calls Try.prog 5 #[.agg #[.slice A nA cA, .slice L nL cL]] w (RetGood w) := by
  have HN := Lib.hid hn
  have HM := Lib.hid hm
  have HF := Lib.hid hf
  have HL := Lib.hid hlines
  clear hn hm hf hlines
  obtain ⟨W, hW⟩ : ∃ W, ((w.alloc (.cells #[.slice A nA cA, .slice L nL cL] 25)).alloc (.cells #[.slice none 0 0, .slice none 0 0] 31)) = W := ⟨_, rfl⟩
  have KB0 := Lib.hid (show W.heap[w.heap.size]? = some (.cells #[.slice A nA cA, .slice L nL cL] 25 (0, 0)) by rw [← hW]; exact blk_al (blk_nw (by simp)))
  have KB1 := Lib.hid (show W.heap[w.heap.size + 1]? = some (.cells #[.slice none 0 0, .slice none 0 0] 31 (0, 0)) by rw [← hW]; exact blk_nw (by simp))
  have BB := Lib.hid (show Below w.heap.size w W by rw [← hW]; exact (below_alloc w _).alloc (by simp) _)
  have HZ := Lib.hid (show w.heap.size + 2 ≤ W.heap.size by rw [← hW]; simp)
  obtain ⟨c0_0_0, c0_0_0d, fc0_0_0, fc0_0_0d, c0_1_0, c0_1_0d, fc0_1_0, fc0_1_0d⟩ := bf2 KB0.out
  obtain ⟨c1_0_0, c1_0_0d, fc1_0_0, fc1_0_0d, c1_1_0, c1_1_0d, fc1_1_0, fc1_1_0d⟩ := bf2 KB1.out
  obtain ⟨n5, hn5⟩ : ∃ n5, n5 = min nA 5 := ⟨_, rfl⟩
  have HN5 := Lib.hid hn5
  clear hn5
  obtain ⟨n4, hn4⟩ : ∃ n4, n4 = min nL 4 := ⟨_, rfl⟩
  have HN4 := Lib.hid hn4
  clear hn4
  go_enter Try.func5, Try.ntmps5
  go_upto_if 9 with fail
  clear hW
  go_cut [] (fun wr => wr.heap[w.heap.size]? = some (.cells #[.slice A n5 cA, .slice L nL cL] 25 (0, 0)) ∧ wr.heap[w.heap.size + 1]? = some (.cells #[.slice none 0 0, .slice none 0 0] 31 (0, 0)) ∧ Below w.heap.size w wr)
  case first =>
    by_cases h9 : 5 < nA
    · have h9' : (5 : Int) < (nA : Int) := by omega
      obtain rfl : n5 = 5 := by have := HN5.out; have := HN4.out; omega
      go_wp2
      go_meet
      case rel => exact ⟨blk_set _ KB0.out, blk_other _ (by omega) KB1.out, Below.setCell BB.out (by show w.heap.size ≤ w.heap.size; omega) _⟩
    · have h9' : ¬ ((5 : Int) < (nA : Int)) := by omega
      have hnn : n5 = nA := by have := HN5.out; have := HN4.out; omega
      clear hb hb2
      go_wp2
      go_meet
      case rel => exact ⟨by rw [hnn]; exact KB0.out, KB1.out, BB.out⟩
  case rest =>
    obtain ⟨k0, k1, hB⟩ := hcut
    rename World => wa
    have KA0 := Lib.hid k0
    have KA1 := Lib.hid k1
    have KAB := Lib.hid hB
    clear k0 k1 hB
    obtain ⟨c0_0_1, c0_0_1d, fc0_0_1, fc0_0_1d, c0_1_1, c0_1_1d, fc0_1_1, fc0_1_1d⟩ := bf2 KA0.out
    obtain ⟨c1_0_1, c1_0_1d, fc1_0_1, fc1_0_1d, c1_1_1, c1_1_1d, fc1_1_1, fc1_1_1d⟩ := bf2 KA1.out
    go_upto_if 17 with fail
    go_cut [] (fun wr => wr.heap[w.heap.size]? = some (.cells #[.slice A n5 cA, .slice L n4 cL] 25 (0, 0)) ∧ wr.heap[w.heap.size + 1]? = some (.cells #[.slice none 0 0, .slice none 0 0] 31 (0, 0)) ∧ Below w.heap.size w wr)
    case first =>
      by_cases h9 : 4 < nL
      · have h9' : (4 : Int) < (nL : Int) := by omega
        obtain rfl : n4 = 4 := by have := HN5.out; have := HN4.out; omega
        go_wp2
        go_meet
        case rel => exact ⟨blk_set _ KA0.out, blk_other _ (by omega) KA1.out, Below.setCell KAB.out (by show w.heap.size ≤ w.heap.size; omega) _⟩
      · have h9' : ¬ ((4 : Int) < (nL : Int)) := by omega
        have hnn : n4 = nL := by have := HN5.out; have := HN4.out; omega
        clear hb hb2
        go_wp2
        go_meet
        case rel => exact ⟨by rw [hnn]; exact KA0.out, KA1.out, KAB.out⟩
    case rest =>
      obtain ⟨k0, k1, hB⟩ := hcut
      rename World => wb
      have KC0 := Lib.hid k0
      have KC1 := Lib.hid k1
      have KCB := Lib.hid hB
      clear k0 k1 hB
      obtain ⟨c0_0_2, c0_0_2d, fc0_0_2, fc0_0_2d, c0_1_2, c0_1_2d, fc0_1_2, fc0_1_2d⟩ := bf2 KC0.out
      obtain ⟨c1_0_2, c1_0_2d, fc1_0_2, fc1_0_2d, c1_1_2, c1_1_2d, fc1_1_2, fc1_1_2d⟩ := bf2 KC1.out
      go_wp2_with fail
      with_reducible refine (make16 A n5 cA L n4 cL (cs.take 5) (ls.take 4) _ ((HF.out.below' KCB.out).take 5) ((HL.out.below' KCB.out).take 4) (by rw [List.length_take, ← HN.out, HN5.out]; omega) (by rw [List.length_take, ← HM.out, HN4.out]; omega) (by rw [HN5.out]; omega) (by rw [HN4.out]; omega)).mono ?_
      rintro e w1 ⟨C, nC, cC, R, nR, cR, l, rfl, hv, hl, ha, hfm, hb⟩
      have KB0_3 := Lib.hid (keepBlk hb KC0.out)
      have KB1_3 := Lib.hid (keepBlk hb KC1.out)
      have BB_3 := Lib.hid (KCB.out.trans ((hb).mono KCB.out.size))
      obtain ⟨c0_0_3, c0_0_3d, fc0_0_3, fc0_0_3d, c0_1_3, c0_1_3d, fc0_1_3, fc0_1_3d⟩ := bf2 KB0_3.out
      obtain ⟨c1_0_3, c1_0_3d, fc1_0_3, fc1_0_3d, c1_1_3, c1_1_3d, fc1_1_3, fc1_1_3d⟩ := bf2 KB1_3.out
      have HSZ := Lib.hid (show w.heap.size ≤ wb.heap.size from KCB.out.size)
      have HSZ1 := Lib.hid (show wb.heap.size ≤ w1.heap.size from hb.size)
      obtain ⟨cost, hcost⟩ : ∃ cost, frs (cs.take 5) = cost := ⟨_, rfl⟩
      obtain ⟨ps0, hps0⟩ : ∃ ps0, rowsOf (ls.take 4) = ps0 := ⟨_, rfl⟩
      have HPR0 := Lib.hid (show PR nC 0 ps0 by rw [← hps0]; exact pr_start (HL.out.take 4) nC)
      have HCS := Lib.hid (show Sm cost by rw [← hcost]; exact frs_sm (HF.out.take 5))
      have HC5 := Lib.hid (show nC ≤ 5 by rw [hv.len]; simp [frs]; omega)
      have HR4 := Lib.hid (show nR ≤ 4 ∧ ps0.length = nR by rw [hl.toS.len, ← hps0]; simp [rowsOf]; omega)
      rw [hcost] at hv
      rw [hps0] at hl
      have HO := Lib.hid (show ROut w (w1.alloc (.cells #[.slice C nC cC, .slice R nR cR] 31)) w1.heap.size (.slice C nC cC) cost (.slice R nR cR) l ps0 from ⟨blk_al KB1_3.out, blk_new _ _ _, (hv.base HSZ.out).alloc _, (hl.base' HSZ.out).alloc _, ha, fun i ri b hi hb => Nat.le_trans HSZ.out (hfm i ri b hi hb), (KCB.out.trans (hb.mono HSZ.out)).alloc (Nat.le_trans HSZ.out HSZ1.out) _⟩)
      have HRB := Lib.hid (show ∀ b, (Value.slice R nR cR).ownBlock = some b → b < w1.heap.size from fun b hb => (hl.own.lt b hb).2)
      clear hv hl ha hfm hb hcost hps0
      have HCV := Lib.hid (show nC ≤ cC from HO.out.cost.form.2.1)
      go_wp2
      go_loopw [4] (fun i wr => ∃ (k : Nat) (l : List RR) (ps : List PRow), i = .int .i64 k ∧ k ≤ nR ∧ ps.length = nR ∧ ROut w wr w1.heap.size (.slice C nC cC) cost (.slice R nR cR) l ps ∧ PR nC k ps)
        (fun i _ => nR - (intOf i).toNat)
      case atStart => exact ⟨0, l, ps0, rfl, Nat.zero_le _, HR4.out.2, HO.out, HPR0.out⟩
      case round =>
        obtain ⟨k, l, ps, rfl, hk, hpl, hO, hP⟩ := hrel
        have HO := Lib.hid hO
        have HP := Lib.hid hP
        have HPL := Lib.hid hpl
        clear hP hpl
        have p0 := blk_cell hO.pbx 0
        have p1 := blk_cell hO.pbx 1
        simp only [List.getElem?_toArray, List.getElem?_cons_zero, List.getElem?_cons_succ] at p0 p1
        have hnR : nR ≤ 9223372036854775807 := by have := HR4.out.1; omega
        have hnC : nC ≤ 9223372036854775807 := by have := HC5.out; omega
        by_cases hlt : k < nR
        · obtain ⟨p, hp⟩ : ∃ p, ps[k]? = some p := ⟨ps[k]'(by rw [HPL.out]; exact hlt), List.getElem?_eq_getElem _⟩
          obtain ⟨bR, rfl, hbR0, hbR1⟩ := HO.out.rows.toS.has (by omega)
          obtain ⟨r, hr⟩ : ∃ r, l[k]? = some r := ⟨l[k]'(by rw [HO.out.rows.len, HPL.out]; exact hlt), List.getElem?_eq_getElem _⟩
          obtain ⟨Q, nq, cq, hrc⟩ := (HO.out.rows.each k r p hr hp).coef.slice
          have q0 : wr.cell? ⟨bR, k * 5, none⟩ = some (.slice Q nq cq) := by have ho := HO.out.rows.own; have e := HPL.out; rw [← hrc]; rw [e] at ho; rw [ho.cellAt (k * 5) (by omega)]; exact (wcellsR_get l k r hr).1
          have HS := Lib.hid (show RSt w wr w1.heap.size (.slice C nC cC) cost (.slice (some ⟨bR, 0, none⟩) nR cR) l ps k (.slice Q nq cq) p.coef by rw [← hrc]; exact RSt.start HO.out hr hp)
          have HSM := Lib.hid (HP.out k p hp).1
          have HLK := Lib.hid (show k < l.length from (List.getElem?_eq_some_iff.1 hr).1)
          have HRK := Lib.hid hr
          have hi1 : (0 : Int) ≤ (k : Int) := Int.natCast_nonneg _
          have hi2 : (k : Int) < (nR : Int) := by omega
          have hbr : bR < w1.heap.size := HRB.out bR rfl
          clear hO hp hr hrc
          go_wp2
          go_loopw [5] (fun cv wz => ∃ (A' : Option Addr) (n' c' : Nat) (qs : List Rat), cv = .slice A' n' c' ∧ RSt w wz w1.heap.size (.slice C nC cC) cost (.slice (some ⟨bR, 0, none⟩) nR cR) l ps k (.slice A' n' c') qs ∧ Sm qs)
            (fun cv _ => nC - sLen cv)
          case atStart => exact ⟨Q, nq, cq, _, rfl, HS.out, HSM.out⟩
          case round =>
            rename World => wz
            obtain ⟨A', n', c', qs, rfl, hSt, hSm⟩ := hrel
            have HST := Lib.hid hSt
            have HSQ := Lib.hid hSm
            have z0 := blk_cell hSt.pbx 0
            have z1 := blk_cell hSt.pbx 1
            simp only [List.getElem?_toArray, List.getElem?_cons_zero, List.getElem?_cons_succ] at z0 z1
            have HN := Lib.hid hSt.cur.len
            have HCP := Lib.hid hSt.cur.form.2
            clear hSt hSm
            by_cases hin : n' < nC
            · have hin1 : (n' : Int) < (nC : Int) := by omega
              go_wp2_with fail
              refine (Rt.int (n' : Int) (by omega) (by omega) _).mono ?_
              rintro e w2 ⟨g, A2, m2, c2, D2, md2, cd2, rfl, hq, hb⟩
              have HS2 := Lib.hid (HST.out.below hb)
              have HQ2 := Lib.hid hq
              clear hq hb
              go_wp2_with (at_builtin; go_loud (refine wpList_append_vec2 rfl _ _ rfl rfl (HS2.out.cur.alloc _) rfl (blk_new _ _ _) (HQ2.out.alloc _) (by have := HN.out; have := HC5.out; omega) (Nat.le_trans HS2.out.bel.size (by simp)) ?_; intro A3 n3 c3 w3 hv3 hk3 hg3 ho3 hn3; have HS3 := Lib.hid ((HS2.out.alloc _).append HLK.out hv3 hk3 hg3 ho3); clear hv3 hk3 hg3 ho3))
              subst hn3
              exact ⟨⟨A3, _, c3, _, rfl, HS3.out, fun q hq => by rcases List.mem_append.1 hq with h | h; exact HSQ.out q h; rw [List.mem_singleton.1 h]; exact Nat.le_trans (mw_int _ (by constructor <;> omega)) (by decide)⟩, by have := HN.out; simp [sLen]; omega⟩
            · have hin1 : ¬ ((n' : Int) < (nC : Int)) := by omega
              have HLQ := Lib.hid (show nC ≤ qs.length by have := HN.out; omega)
              have hcp1 : nC ≤ c' := Nat.le_trans (by omega) HCP.out.1
              have hcp2 : c' ≤ 9223372036854775807 := by have := HCP.out.2.1; unfold maxLen at this; omega
              have hcp3 : (nC : Int) ≤ (c' : Int) := by omega
              have hcp4 : (0 : Int) ≤ (nC : Int) := Int.natCast_nonneg _
              have own := HST.out.own
              rw [HPL.out] at own
              have y0 : wz.cell? ⟨bR, k * 5, none⟩ = some r.c := by rw [own.cellAt (k * 5) (by omega)]; exact (wcellsR_get l k r HRK.out).1
              have y0f := own.frozenAt (k * 5)
              clear own
              go_wp2_with fail
              have z0d : wz.drew.cell? ⟨w1.heap.size, 0, none⟩ = some (.slice C nC cC) := z0
              have z1d : wz.drew.cell? ⟨w1.heap.size, 1, none⟩ = some (.slice (some ⟨bR, 0, none⟩) nR cR) := z1
              have y0d : wz.drew.cell? ⟨bR, k * 5, none⟩ = some r.c := y0
              have y0fd : wz.drew.frozen? ⟨bR, k * 5, none⟩ = false := y0f
              go_cut [] (fun wy => ROut w wy w1.heap.size (.slice C nC cC) cost (.slice (some ⟨bR, 0, none⟩) nR cR) (withC l k (.slice A' nC c')) (ps.modify k fun p => { p with coef := qs.take nC }))
              case first =>
                go_region
                all_goals
                  go_wp2
                  go_meet
                  case rel => exact (HST.out.put HPL.out.symm nC (by omega)).drew
              case rest =>
                have HY := Lib.hid hcut
                have hl2 : (withC l k (.slice A' nC c'))[k]? = some { r with c := .slice A' nC c' } := by unfold withC; rw [List.getElem?_modify, HRK.out]; simp
                have own := hcut.rows.own
                rw [List.length_modify, HPL.out] at own
                have v1 := blk_cell hcut.pbx 1
                simp only [List.getElem?_toArray, List.getElem?_cons_zero, List.getElem?_cons_succ] at v1
                have y1 : wc.cell? ⟨bR, k * 5 + 1, none⟩ = some (.int .i64 r.k) := by rw [own.cellAt (k * 5 + 1) (by omega)]; exact (wcellsR_get _ k _ hl2).2.1
                have y1f := own.frozenAt (k * 5 + 1)
                clear own hcut hl2 z0 z1 y0 y0f z0d z1d y0d y0fd
                have v1d : wc.drew.cell? ⟨w1.heap.size, 1, none⟩ = some (.slice (some ⟨bR, 0, none⟩) nR cR) := v1
                have y1d : wc.drew.cell? ⟨bR, k * 5 + 1, none⟩ = some (.int .i64 r.k) := y1
                have y1fd : wc.drew.frozen? ⟨bR, k * 5 + 1, none⟩ = false := y1f
                go_wp2_with fail
                go_region
                all_goals
                  go_wp2
                  exact ⟨⟨k + 1, _, _, by simp, by omega, by rw [List.length_modify, List.length_modify, HPL.out], (HY.out.putK (by rw [List.length_modify, HPL.out]) k _).drew, pr_step HP.out HSQ.out HLQ.out (kind_ok r.k)⟩, by simp [intOf]; omega⟩
        · obtain rfl : nR = k := by omega
          have KR := Lib.hid hO.res
          have s0 := blk_cell hO.res 0
          have s1 := blk_cell hO.res 1
          have sf0 := blk_fro hO.res 0
          have sf1 := blk_fro hO.res 1
          simp only [List.getElem?_toArray, List.getElem?_cons_zero, List.getElem?_cons_succ] at s0 s1
          clear hO
          go_wp2
          refine bodyPost_ret (v := .agg #[.slice C nC cC, .slice R nR cR]) (by simp [results, Try.results5, go_sem, s0, s1]) rfl ?_
          have hg : Good nC nR cost ps := ⟨Nat.le_trans HC5.out (by decide), HR4.out.1, HCS.out, fun p hp => by obtain ⟨i, hi⟩ := List.mem_iff_getElem?.1 hp; have hx := HP.out i p hi; exact ⟨(hx.2.2 (by have := (List.getElem?_eq_some_iff.1 hi).1; have := HPL.out; omega)).1, hx.1, hx.2.1⟩, fun p hp => by obtain ⟨i, hi⟩ := List.mem_iff_getElem?.1 hp; have hx := HP.out i p hi; exact (hx.2.2 (by have := (List.getElem?_eq_some_iff.1 hi).1; have := HPL.out; omega)).2⟩
          exact ⟨_, _, _, _, _, _, cost, ps, rfl, (HO.out.cost.setT (p := ⟨w.heap.size + 1, 0, none⟩) KR.out (by decide) (by decide) _).setT (p := ⟨w.heap.size + 1, 1, none⟩) (blk_set _ KR.out) (by decide) (by decide) _, (HO.out.rows.toS.setT (a := ⟨w.heap.size + 1, 0, none⟩) KR.out (by decide) (by decide) (by decide) _).setT (a := ⟨w.heap.size + 1, 1, none⟩) (blk_set _ KR.out) (by decide) (by decide) (by decide) _, hg, HC5.out, Below.setCell (Below.setCell HO.out.bel (p := ⟨w.heap.size + 1, 0, none⟩) (by show w.heap.size ≤ w.heap.size + 1; omega) _) (p := ⟨w.heap.size + 1, 1, none⟩) (by show w.heap.size ≤ w.heap.size + 1; omega) _⟩
end Lw
end Go.Proofs.Ytohkhcbocknliaa
