/- actuarylaw16.Make by its contract. Conditions: as it says. What lies in memory while actuarylaw16.Right fills a row up. Conditions: as each says. Conditions: as they say. -/
import Derived.Test.YtohkhcbocknliaaRegM
import Derived.Test.YtohkhcbocknliaaLaw1M
import Derived.Test.YtohkhcbocknliaaVec5M
namespace Go.Proofs.Ytohkhcbocknliaa
set_option linter.unusedSimpArgs false
set_option linter.unusedVariables false
open Go.RowKit Am
attribute [local go_sem ↓] Go.wp_at_zero Go.wp_at_succ
set_option maxHeartbeats 4000000
set_option maxRecDepth 100000
theorem VecS.setT {w : World} {H : Nat} {v : Value} {qs : List Rat} (h : VecS w H v qs) {p : Addr} {t : TypeId} {cs : Array Value} (hg : w.heap[p.block]? = some (.cells cs t (0, 0))) (h1 : 95 ≠ t) (h2 : 40 ≠ t) (u : Value) : VecS (w.setCell p u) H v qs := by
  obtain ⟨l, _, _, h3⟩ := h.row
  exact h.setCell (ne_of_type h3 hg h2) hg h1 u
theorem RatS.setT {w : World} {g : Bool} {s d : Value} {q : Rat} (h : RatS w g s d q) {p : Addr} {t : TypeId} {cs : Array Value} (hg : w.heap[p.block]? = some (.cells cs t (0, 0))) (h1 : 95 ≠ t) (u : Value) : RatS (w.setCell p u) g s d q :=
  ⟨⟨h.num.abs.setCell hg h1 u, h.num.neg⟩, h.den.setCell hg h1 u⟩
theorem RowS.setT {w : World} {r : RR} {p : PRow} (h : RowS w r p) {a : Addr} {t : TypeId} {cs : Array Value} (hg : w.heap[a.block]? = some (.cells cs t (0, 0))) (h1 : 95 ≠ t) (h2 : 40 ≠ t) (u : Value) : RowS (w.setCell a u) r p :=
  ⟨h.coef.setT hg h1 h2 u, h.kind, h.rhs.setT hg h1 u⟩
theorem RowsL.setT {w : World} {H : Nat} {v : Value} {l : List RR} {ps : List PRow} (h : RowsL w H v l ps) {a : Addr} {t : TypeId} {cs : Array Value} (hg : w.heap[a.block]? = some (.cells cs t (0, 0))) (h1 : 95 ≠ t) (h2 : 40 ≠ t) (h3 : 48 ≠ t) (u : Value) : RowsL (w.setCell a u) H v l ps :=
  ⟨h.len, fun k r p e1 e2 => (h.each k r p e1 e2).setT hg h1 h2 u, ownKeep h.own fun k hk => Below.heap_setCell w a u k (fun e => ne_of_type h.own hg h3 (by rw [hk, e]))⟩
theorem RowKeep.blk {w w' : World} (h : RowKeep w w') {b : Nat} {cs : Array Value} {t : TypeId} (hb : w.heap[b]? = some (.cells cs t (0, 0))) (ht : 48 ≠ t) : w'.heap[b]? = some (.cells cs t (0, 0)) :=
  (h b (Array.getElem?_eq_some_iff.1 hb).1 fun cs' e => by rw [hb] at e; injection e with e; injection e with _ e2; exact ht e2.symm).trans hb
theorem RowsL.base' {w : World} {H H' : Nat} {v : Value} {l : List RR} {ps : List PRow} (h : RowsL w H v l ps) (hb : H' ≤ H) : RowsL w H' v l ps := ⟨h.len, h.each, ownsRow_base h.own hb⟩
def rowsOf (ls : List LineV) : List PRow := ls.map mkRow
theorem rowsOf_take {ls : List LineV} {k : Nat} {x : LineV} (h : ls[k]? = some x) : rowsOf (ls.take (k + 1)) = rowsOf (ls.take k) ++ [mkRow x] := by
  unfold rowsOf; rw [List.take_add_one, h]; simp
theorem rowsOf_len (ls : List LineV) : (rowsOf ls).length = ls.length := by simp [rowsOf]
/-- The coefficients' rows were made since N. -/
def From (N : Nat) (l : List RR) : Prop := ∀ (i : Nat) (ri : RR) (b : Nat), l[i]? = some ri → ri.c.ownBlock = some b → N ≤ b
theorem from_nil (N : Nat) : From N [] := fun i ri b h => by simp at h
theorem from_append {N : Nat} {l : List RR} {r : RR} (h : From N l) (hr : ∀ b, r.c.ownBlock = some b → N ≤ b) : From N (l ++ [r]) := by
  intro i ri b hi hb
  rcases Nat.lt_trichotomy i l.length with h1 | h1 | h1
  · rw [List.getElem?_append_left h1] at hi; exact h i ri b hi hb
  · subst h1; rw [List.getElem?_append_right (Nat.le_refl _)] at hi; simp at hi; subst hi; exact hr b hb
  · rw [List.getElem?_eq_none (by simp; omega)] at hi; cases hi
/-- What a call that hands back a problem says. -/
def RetProb (w : World) (cost : List Rat) (rows : List PRow) (e : Ending) (w' : World) : Prop := ∃ (C : Option Addr) (nC cC : Nat) (R : Option Addr) (nR cR : Nat) (l : List RR), e = .returned (.agg #[.slice C nC cC, .slice R nR cR]) ∧
  VecS w' w.heap.size (.slice C nC cC) cost ∧ RowsL w' w.heap.size (.slice R nR cR) l rows ∧ Apart (.slice C nC cC) l ∧ From w.heap.size l ∧ Below w.heap.size w w'
namespace Lw
theorem make16 (A : Option Addr) (nA cA : Nat) (L : Option Addr) (nL cL : Nat) (cs : List (Int × Int)) (ls : List LineV) (w : World) (hf : FracsAt w A cs) (hlines : LinesAt w L ls) (hn : nA = cs.length) (hm : nL = ls.length) (hb : nA ≤ 1048576) (hb2 : nL ≤ 1000) :
    Calls Try.prog 24 #[.agg #[.slice A nA cA, .slice L nL cL]] w (RetProb w (frs cs) (rowsOf ls)) := by
  have HN := Lib.hid hn
  have HM := Lib.hid hm
  have HB := Lib.hid hb
  have HB2 := Lib.hid hb2
  have hnb : nL ≤ 9223372036854775807 := by omega
  clear hn hm hb hb2
  obtain ⟨W, hW⟩ : ∃ W, ((w.alloc (.cells #[.slice A nA cA, .slice L nL cL] 25)).alloc (.cells #[.slice none 0 0, .slice none 0 0] 31)) = W := ⟨_, rfl⟩
  have KB0 := Lib.hid (show W.heap[w.heap.size]? = some (.cells #[.slice A nA cA, .slice L nL cL] 25 (0, 0)) by rw [← hW]; exact blk_al (blk_nw (by simp)))
  have KB1 := Lib.hid (show W.heap[w.heap.size + 1]? = some (.cells #[.slice none 0 0, .slice none 0 0] 31 (0, 0)) by rw [← hW]; exact blk_nw (by simp))
  have BB := Lib.hid (show Below w.heap.size w W by rw [← hW]; exact (below_alloc w _).alloc (by simp) _)
  have HZ := Lib.hid (show w.heap.size + 2 ≤ W.heap.size by rw [← hW]; simp)
  have HF := Lib.hid (show FracsAt W A cs by rw [← hW]; exact ((hf).alloc _).alloc _)
  have HL := Lib.hid (show LinesAt W L ls by rw [← hW]; exact ((hlines).alloc _).alloc _)
  obtain ⟨c0_0_0, c0_0_0d, c0_1_0, c0_1_0d⟩ := bc2 KB0.out
  obtain ⟨c1_0_0, c1_0_0d, fc1_0_0, fc1_0_0d, c1_1_0, c1_1_0d, fc1_1_0, fc1_1_0d⟩ := bf2 KB1.out
  clear hf hlines
  go_enter Try.func24, Try.ntmps24
  go_wp2_with fail
  clear hW
  with_reducible refine (make A nA cA cs _ HN.out HF.out HB.out).mono ?_
  rintro e w1 ⟨C, nC, cC, rfl, hv, hb⟩
  have KB0_1 := Lib.hid (show (w1.alloc (.cells #[.slice C nC cC, .slice none 0 0] 31)).heap[w.heap.size]? = some (.cells #[.slice A nA cA, .slice L nL cL] 25 (0, 0)) from blk_al (keepBlk hb KB0.out))
  have KB1_1 := Lib.hid (show (w1.alloc (.cells #[.slice C nC cC, .slice none 0 0] 31)).heap[w.heap.size + 1]? = some (.cells #[.slice none 0 0, .slice none 0 0] 31 (0, 0)) from blk_al (keepBlk hb KB1.out))
  have HF_1 := Lib.hid (show FracsAt (w1.alloc (.cells #[.slice C nC cC, .slice none 0 0] 31)) A cs from (HF.out.below hb).alloc _)
  have HL_1 := Lib.hid (show LinesAt (w1.alloc (.cells #[.slice C nC cC, .slice none 0 0] 31)) L ls from (HL.out.below hb).alloc _)
  have HC := Lib.hid (show VecS (w1.alloc (.cells #[.slice C nC cC, .slice none 0 0] 31)) W.heap.size (.slice C nC cC) (frs cs) from (hv).alloc _)
  have BB_1 := Lib.hid (show Below w.heap.size w (w1.alloc (.cells #[.slice C nC cC, .slice none 0 0] 31)) from ((BB.out.trans ((hb).mono BB.out.size))).alloc ((BB.out.trans ((hb).mono BB.out.size))).size _)
  have KB2_1 := Lib.hid (show (w1.alloc (.cells #[.slice C nC cC, .slice none 0 0] 31)).heap[w1.heap.size]? = some (.cells #[.slice C nC cC, .slice none 0 0] 31 (0, 0)) from blk_nw (by simp))
  obtain ⟨c0_0_1, c0_0_1d, c0_1_1, c0_1_1d⟩ := bc2 KB0_1.out
  obtain ⟨c1_0_1, c1_0_1d, fc1_0_1, fc1_0_1d, c1_1_1, c1_1_1d, fc1_1_1, fc1_1_1d⟩ := bf2 KB1_1.out
  obtain ⟨c2_0_1, c2_0_1d, c2_1_1, c2_1_1d⟩ := bc2 KB2_1.out
  have HZ1 := Lib.hid (show W.heap.size ≤ w1.heap.size from hb.size)
  have HBW := Lib.hid hb
  clear hv hb
  go_wp2
  go_loopw [4] (fun i wr => ∃ (k : Nat) (R : Option Addr) (cR : Nat) (l : List RR), i = .int .i64 k ∧ k ≤ nL ∧ wr.heap[w1.heap.size]? = some (.cells #[.slice C nC cC, .slice R k cR] 31 (0, 0)) ∧ RowsL wr W.heap.size (.slice R k cR) l (rowsOf (ls.take k)) ∧ VecS wr W.heap.size (.slice C nC cC) (frs cs) ∧ Apart (.slice C nC cC) l ∧ From W.heap.size l ∧ Below W.heap.size W wr)
    (fun i _ => nL - (intOf i).toNat)
  case atStart => exact ⟨0, none, 0, [], rfl, Nat.zero_le _, blk_new _ _ _, RowsL.nil _ _, HC.out, apart_nil _, from_nil _, HBW.out.alloc HZ1.out _⟩
  case round =>
    obtain ⟨k, R, cR, l, rfl, hk, hbox, hL, hV, hA, hFr, hB⟩ := hrel
    have HA := Lib.hid hA
    have HFR0 := Lib.hid hFr
    clear hA hFr
    by_cases hlt : k < nL
    · obtain ⟨x, hx⟩ : ∃ x, ls[k]? = some x := ⟨ls[k]'(by rw [← HM.out]; exact hlt), List.getElem?_eq_getElem _⟩
      obtain ⟨xc, xk, xp, xd⟩ := x
      obtain ⟨hxl, hx1, hx2, b, o, Q0, q0, rfl, hfr, k0, k1, k2, k3⟩ := HL.out.below hB k _ hx
      simp only at hxl hx1 hx2 hfr k0 k1 k2 k3
      have KB0_2 := Lib.hid (keepBlk hB KB0.out)
      have KB1_2 := Lib.hid (keepBlk hB KB1.out)
      have HF_2 := Lib.hid (HF.out.below hB)
      have HL_2 := Lib.hid (HL.out.below hB)
      have HFR := Lib.hid (show FracsAt wr Q0 xc from hfr)
      have HRL := Lib.hid (show RowsL wr W.heap.size (.slice R k cR) l (rowsOf (ls.take k)) from hL)
      have HC := Lib.hid (show VecS wr W.heap.size (.slice C nC cC) (frs cs) from hV)
      have HW := Lib.hid (show Bel W wr from Bel.mk hB)
      have BB_2 := Lib.hid (BB.out.trans ((hB).mono BB.out.size))
      obtain ⟨c0_0_2, c0_0_2d, c0_1_2, c0_1_2d⟩ := bc2 KB0_2.out
      obtain ⟨c1_0_2, c1_0_2d, fc1_0_2, fc1_0_2d, c1_1_2, c1_1_2d, fc1_1_2, fc1_1_2d⟩ := bf2 KB1_2.out
      have x0_2 : wr.cell? ⟨b, o + k * 4, none⟩ = some (.slice Q0 xc.length q0) := k0
      have x0_2d := drewCell x0_2
      have x1_2 : wr.cell? ⟨b, o + k * 4 + 1, none⟩ = some (.int .i64 xk) := k1
      have x1_2d := drewCell x1_2
      have x2_2 : wr.cell? ⟨b, o + k * 4 + 2, none⟩ = some (.int .i64 xp) := k2
      have x2_2d := drewCell x2_2
      have x3_2 : wr.cell? ⟨b, o + k * 4 + 3, none⟩ = some (.int .i64 xd) := k3
      have x3_2d := drewCell x3_2
      have KBO := Lib.hid hbox
      obtain ⟨c0_0_2, c0_0_2d, c0_1_2, c0_1_2d⟩ := bc2 KB0_2.out
      obtain ⟨c1_0_2, c1_0_2d, fc1_0_2, fc1_0_2d, c1_1_2, c1_1_2d, fc1_1_2, fc1_1_2d⟩ := bf2 KB1_2.out
      obtain ⟨c2_0_2, c2_0_2d, fc2_0_2, fc2_0_2d, c2_1_2, c2_1_2d, fc2_1_2, fc2_1_2d⟩ := bf2 KBO.out
      have x0_2 := k0
      have x0_2d := drewCell x0_2
      have x1_2 := k1
      have x1_2d := drewCell x1_2
      have x2_2 := k2
      have x2_2d := drewCell x2_2
      have x3_2 := k3
      have x3_2d := drewCell x3_2
      have HXL := Lib.hid hxl
      have HX1 := Lib.hid hx1
      have HX2 := Lib.hid hx2
      have HGET := Lib.hid hx
      have HBL := Lib.hid (show b < W.heap.size from by obtain ⟨_, _, _, b', o', C', cc', e, _, e2, _⟩ := HL.out k _ hx; injection e with e; injection e with e3; rw [← e3] at e2; exact blkOf e2)
      clear hB hbox hL hV hx hfr k0 k1 k2 k3 hxl hx1 hx2
      have hi1 : (0 : Int) ≤ (k : Int) := Int.natCast_nonneg _
      have hi2 : (k : Int) < (nL : Int) := by omega
      have hz0 := HZ.out
      have hz1 := HZ1.out
      have hbl := HBL.out
      go_wp2_with fail
      have HLEN := Lib.hid (show (rowsOf (ls.take k)).length = k by rw [rowsOf_len, List.length_take, ← HM.out]; omega)
      refine wp_region_E (S := fun w' => w'.cell? ⟨w.heap.size, 0, none⟩ = some (.slice A nA cA) ∧ w'.cell? ⟨w.heap.size, 1, none⟩ = some (.slice (some ⟨b, o, none⟩) nL cL) ∧ w'.cell? ⟨w1.heap.size, 0, none⟩ = some (.slice C nC cC) ∧ w'.cell? ⟨w1.heap.size, 1, none⟩ = some (.slice R k cR) ∧ w'.cell? ⟨b, o + k * 4, none⟩ = some (.slice Q0 xc.length q0) ∧ w'.cell? ⟨b, o + k * 4 + 1, none⟩ = some (.int .i64 xk) ∧ w'.cell? ⟨b, o + k * 4 + 2, none⟩ = some (.int .i64 xp) ∧ w'.cell? ⟨b, o + k * 4 + 3, none⟩ = some (.int .i64 xd)) 26 (by kernel_rfl) ?_ (fun hHeld => ?_)
      · (((try go_split_ands); (try simp only [World.cell?_drew]); (repeat' apply And.intro) <;> (repeat (first | with_reducible assumption | with_reducible refine cell_set (by omega) ?_ | with_reducible refine cell_al ?_))))
      refine wpAnyE_take (i := 0) (v := ?_) rfl (by kernel_rfl) (fun _ _ _ h => h) (Or.inl ⟨by rfl, ?_⟩) hHeld ?_
      rotate_left
      · ((intro w hSw; (try dsimp only at hSw); go_simp); (try with_reducible rfl))
      try simp only [Act.put, List.setIfInBounds_toArray, List.set_cons_zero, List.set_cons_succ, List.getElem_toArray, List.getElem_cons_zero, List.getElem_cons_succ]
      refine wpAnyE_take (i := 1) (v := ?_) rfl (by kernel_rfl) (fun _ _ _ h => h) (Or.inl ⟨by rfl, ?_⟩) hHeld ?_
      rotate_left
      · ((intro w hSw; (try dsimp only at hSw); go_simp); (try with_reducible rfl))
      try simp only [Act.put, List.setIfInBounds_toArray, List.set_cons_zero, List.set_cons_succ, List.getElem_toArray, List.getElem_cons_zero, List.getElem_cons_succ]
      refine wpAnyE_take (i := 2) (v := ?_) rfl (by kernel_rfl) (fun _ _ _ h => h) (Or.inl ⟨by rfl, ?_⟩) hHeld ?_
      rotate_left
      · ((intro w hSw; (try dsimp only at hSw); go_simp); (try with_reducible rfl))
      try simp only [Act.put, List.setIfInBounds_toArray, List.set_cons_zero, List.set_cons_succ, List.getElem_toArray, List.getElem_cons_zero, List.getElem_cons_succ]
      refine wpAnyE_take (i := 3) (v := ?_) rfl (by kernel_rfl) (fun _ _ _ h => h) (Or.inl ⟨by rfl, ?_⟩) hHeld ?_
      rotate_left
      · ((intro w hSw; (try dsimp only at hSw); go_simp); (try with_reducible rfl))
      try simp only [Act.put, List.setIfInBounds_toArray, List.set_cons_zero, List.set_cons_succ, List.getElem_toArray, List.getElem_cons_zero, List.getElem_cons_succ]
      refine wpAnyE_take (i := 4) (v := ?_) rfl (by kernel_rfl) (fun _ _ _ h => h) (Or.inl ⟨by rfl, ?_⟩) hHeld ?_
      rotate_left
      · ((intro w hSw; (try dsimp only at hSw); go_simp); (try with_reducible rfl))
      try simp only [Act.put, List.setIfInBounds_toArray, List.set_cons_zero, List.set_cons_succ, List.getElem_toArray, List.getElem_cons_zero, List.getElem_cons_succ]
      refine wpAnyE_take (i := 5) (v := ?_) rfl (by kernel_rfl) (fun _ _ _ h => h) (Or.inl ⟨by rfl, ?_⟩) hHeld ?_
      rotate_left
      · ((intro w hSw; (try dsimp only at hSw); go_simp); (try with_reducible rfl))
      try simp only [Act.put, List.setIfInBounds_toArray, List.set_cons_zero, List.set_cons_succ, List.getElem_toArray, List.getElem_cons_zero, List.getElem_cons_succ]
      refine wpAnyE_take (i := 6) (v := ?_) rfl (by kernel_rfl) (fun _ _ _ h => h) (Or.inl ⟨by rfl, ?_⟩) hHeld ?_
      rotate_left
      · ((intro w hSw; (try dsimp only at hSw); go_simp); (try with_reducible rfl))
      try simp only [Act.put, List.setIfInBounds_toArray, List.set_cons_zero, List.set_cons_succ, List.getElem_toArray, List.getElem_cons_zero, List.getElem_cons_succ]
      refine wpAnyE_take (i := 7) (v := ?_) rfl (by kernel_rfl) (fun _ _ _ h => h) (Or.inl ⟨by rfl, ?_⟩) hHeld ?_
      rotate_left
      · ((intro w hSw; (try dsimp only at hSw); go_simp); (try with_reducible rfl))
      try simp only [Act.put, List.setIfInBounds_toArray, List.set_cons_zero, List.set_cons_succ, List.getElem_toArray, List.getElem_cons_zero, List.getElem_cons_succ]
      refine wpAnyE_take (i := 9) (v := ?_) rfl (by kernel_rfl) (fun _ _ _ h => h) (Or.inl ⟨by rfl, ?_⟩) hHeld ?_
      rotate_left
      · ((intro w hSw; (try dsimp only at hSw); go_simp); (try with_reducible rfl))
      try simp only [Act.put, List.setIfInBounds_toArray, List.set_cons_zero, List.set_cons_succ, List.getElem_toArray, List.getElem_cons_zero, List.getElem_cons_succ]
      refine wpAnyE_take (i := 10) (v := ?_) rfl (by kernel_rfl) (fun _ _ _ h => h) (Or.inl ⟨by rfl, ?_⟩) hHeld ?_
      rotate_left
      · ((intro w hSw; (try dsimp only at hSw); go_simp); (try with_reducible rfl))
      try simp only [Act.put, List.setIfInBounds_toArray, List.set_cons_zero, List.set_cons_succ, List.getElem_toArray, List.getElem_cons_zero, List.getElem_cons_succ]
      refine wpAnyE_take (i := 11) (v := ?_) rfl (by kernel_rfl) (fun _ _ _ h => h) (Or.inl ⟨by rfl, ?_⟩) hHeld ?_
      rotate_left
      · ((intro w hSw; (try dsimp only at hSw); go_simp); (try with_reducible rfl))
      try simp only [Act.put, List.setIfInBounds_toArray, List.set_cons_zero, List.set_cons_succ, List.getElem_toArray, List.getElem_cons_zero, List.getElem_cons_succ]
      refine wpAnyE_take (i := 12) (v := ?_) rfl (by kernel_rfl) (fun _ _ _ h => h) (Or.inl ⟨by rfl, ?_⟩) hHeld ?_
      rotate_left
      · ((intro w hSw; (try dsimp only at hSw); go_simp); (try with_reducible rfl))
      try simp only [Act.put, List.setIfInBounds_toArray, List.set_cons_zero, List.set_cons_succ, List.getElem_toArray, List.getElem_cons_zero, List.getElem_cons_succ]
      refine wpAnyE_take (i := 13) (v := ?_) rfl (by kernel_rfl) (fun _ _ _ h => h) (Or.inl ⟨by rfl, ?_⟩) hHeld ?_
      rotate_left
      · ((intro w hSw; (try dsimp only at hSw); go_simp); (try with_reducible rfl))
      try simp only [Act.put, List.setIfInBounds_toArray, List.set_cons_zero, List.set_cons_succ, List.getElem_toArray, List.getElem_cons_zero, List.getElem_cons_succ]
      refine wpAnyE_take (i := 14) (v := ?_) rfl (by kernel_rfl) (fun _ _ _ h => h) (Or.inl ⟨by rfl, ?_⟩) hHeld ?_
      rotate_left
      · ((intro w hSw; (try dsimp only at hSw); go_simp); (try with_reducible rfl))
      try simp only [Act.put, List.setIfInBounds_toArray, List.set_cons_zero, List.set_cons_succ, List.getElem_toArray, List.getElem_cons_zero, List.getElem_cons_succ]
      refine wpAnyE_take (i := 15) (v := ?_) rfl (by kernel_rfl) (fun _ _ _ h => h) (Or.inl ⟨by rfl, ?_⟩) hHeld ?_
      rotate_left
      · ((intro w hSw; (try dsimp only at hSw); go_simp); (try with_reducible rfl))
      try simp only [Act.put, List.setIfInBounds_toArray, List.set_cons_zero, List.set_cons_succ, List.getElem_toArray, List.getElem_cons_zero, List.getElem_cons_succ]
      refine wpAnyE_take (i := 16) (v := ?_) rfl (by kernel_rfl) (fun _ _ _ h => h) (Or.inl ⟨by rfl, ?_⟩) hHeld ?_
      rotate_left
      · ((intro w hSw; (try dsimp only at hSw); go_simp); (try with_reducible rfl))
      try simp only [Act.put, List.setIfInBounds_toArray, List.set_cons_zero, List.set_cons_succ, List.getElem_toArray, List.getElem_cons_zero, List.getElem_cons_succ]
      refine wpAnyE_take (i := 17) (v := ?_) rfl (by kernel_rfl) (fun _ _ _ h => h) (Or.inl ⟨by rfl, ?_⟩) hHeld ?_
      rotate_left
      · ((intro w hSw; (try dsimp only at hSw); go_simp); (try with_reducible rfl))
      try simp only [Act.put, List.setIfInBounds_toArray, List.set_cons_zero, List.set_cons_succ, List.getElem_toArray, List.getElem_cons_zero, List.getElem_cons_succ]
      refine wpAnyE_take (i := 18) (v := ?_) rfl (by kernel_rfl) (fun _ _ _ h => h) (Or.inl ⟨by rfl, ?_⟩) hHeld ?_
      rotate_left
      · ((intro w hSw; (try dsimp only at hSw); go_simp); (try with_reducible rfl))
      try simp only [Act.put, List.setIfInBounds_toArray, List.set_cons_zero, List.set_cons_succ, List.getElem_toArray, List.getElem_cons_zero, List.getElem_cons_succ]
      refine wpAnyE_take (i := 19) (v := ?_) rfl (by kernel_rfl) (fun _ _ _ h => h) (Or.inl ⟨by rfl, ?_⟩) hHeld ?_
      rotate_left
      · ((intro w hSw; (try dsimp only at hSw); go_simp); (try with_reducible rfl))
      try simp only [Act.put, List.setIfInBounds_toArray, List.set_cons_zero, List.set_cons_succ, List.getElem_toArray, List.getElem_cons_zero, List.getElem_cons_succ]
      refine wpAnyE_take (i := 20) (v := ?_) rfl (by kernel_rfl) (fun _ _ _ h => h) (Or.inl ⟨by rfl, ?_⟩) hHeld ?_
      rotate_left
      · ((intro w hSw; (try dsimp only at hSw); go_simp); (try with_reducible rfl))
      try simp only [Act.put, List.setIfInBounds_toArray, List.set_cons_zero, List.set_cons_succ, List.getElem_toArray, List.getElem_cons_zero, List.getElem_cons_succ]
      refine wpAnyE_one (i := 8) rfl (by kernel_rfl) (fun K hK => ?_)
      go_simp
      (go_at_call 6; (with_reducible refine (make Q0 xc.length q0 xc _ rfl HFR.out.drew HXL.out).mono ?_); rintro e u1 ⟨Q, nq, cq, rfl, hv, hb⟩; have KB0_3 := Lib.hid (keepBlk hb KB0_2.out); have KB1_3 := Lib.hid (keepBlk hb KB1_2.out); have KB2_3 := Lib.hid (keepBlk hb KBO.out); have HF_3 := Lib.hid (HF_2.out.drew.below hb); have HL_3 := Lib.hid (HL_2.out.drew.below hb); have HFR_3 := Lib.hid (HFR.out.drew.below hb); have HRL_3 := Lib.hid (HRL.out.drew.below hb); have HC_3 := Lib.hid (HC.out.drew.below hb); have HW_3 := Lib.hid (HW.out.drew.below hb); have HQ := Lib.hid (show VecS u1 wr.heap.size (.slice Q nq cq) (frs xc) from hv); have BB_3 := Lib.hid (BB_2.out.trans ((It.bdrew0' hb).mono BB_2.out.size)); obtain ⟨c0_0_3, c0_0_3d, c0_1_3, c0_1_3d⟩ := bc2 KB0_3.out; obtain ⟨c1_0_3, c1_0_3d, fc1_0_3, fc1_0_3d, c1_1_3, c1_1_3d, fc1_1_3, fc1_1_3d⟩ := bf2 KB1_3.out; obtain ⟨c2_0_3, c2_0_3d, fc2_0_3, fc2_0_3d, c2_1_3, c2_1_3d, fc2_1_3, fc2_1_3d⟩ := bf2 KB2_3.out; have x0_3 := keepCell hb x0_2d; have x0_3d := drewCell x0_3; have x1_3 := keepCell hb x1_2d; have x1_3d := drewCell x1_3; have x2_3 := keepCell hb x2_2d; have x2_3d := drewCell x2_3; have x3_3 := keepCell hb x3_2d; have x3_3d := drewCell x3_3; clear hv hb)
      (try go_wp2_with fail)
      refine hK.out _ _ ?_ (fun hHeld => ?_)
      · (((try go_split_ands); (try simp only [World.cell?_drew]); (repeat' apply And.intro) <;> (repeat (first | with_reducible assumption | with_reducible refine cell_set (by omega) ?_ | with_reducible refine cell_al ?_))))
      clear hK K
      try simp only [Act.put, List.setIfInBounds_toArray, List.set_cons_zero, List.set_cons_succ, List.getElem_toArray, List.getElem_cons_zero, List.getElem_cons_succ]
      refine wpAnyE_one (i := 21) rfl (by kernel_rfl) (fun K hK => ?_)
      go_simp
      (go_at_call 25; (with_reducible refine (one xp xd HX1.out HX2.out _).mono ?_); rintro e u2 ⟨g5, A5, m5, c5, D5, md5, cd5, rfl, hv, hb⟩; have KB0_4 := Lib.hid (keepBlk hb KB0_3.out); have KB1_4 := Lib.hid (keepBlk hb KB1_3.out); have KB2_4 := Lib.hid (keepBlk hb KB2_3.out); have HF_4 := Lib.hid (HF_3.out.below hb); have HL_4 := Lib.hid (HL_3.out.below hb); have HFR_4 := Lib.hid (HFR_3.out.below hb); have HRL_4 := Lib.hid (HRL_3.out.below hb); have HC_4 := Lib.hid (HC_3.out.below hb); have HW_4 := Lib.hid (HW_3.out.below hb); have HQ_4 := Lib.hid (HQ.out.below hb); have HRQ := Lib.hid (show RatS u2 g5 (.slice A5 m5 c5) (.slice D5 md5 cd5) (fr xp xd) from hv); have BB_4 := Lib.hid (BB_3.out.trans ((hb).mono BB_3.out.size)); obtain ⟨c0_0_4, c0_0_4d, c0_1_4, c0_1_4d⟩ := bc2 KB0_4.out; obtain ⟨c1_0_4, c1_0_4d, fc1_0_4, fc1_0_4d, c1_1_4, c1_1_4d, fc1_1_4, fc1_1_4d⟩ := bf2 KB1_4.out; obtain ⟨c2_0_4, c2_0_4d, fc2_0_4, fc2_0_4d, c2_1_4, c2_1_4d, fc2_1_4, fc2_1_4d⟩ := bf2 KB2_4.out; have x0_4 := keepCell hb x0_3; have x0_4d := drewCell x0_4; have x1_4 := keepCell hb x1_3; have x1_4d := drewCell x1_4; have x2_4 := keepCell hb x2_3; have x2_4d := drewCell x2_4; have x3_4 := keepCell hb x3_3; have x3_4d := drewCell x3_4; have cP0 : ∀ ob, (u2.alloc ob).cell? ⟨w1.heap.size, 1, none⟩ = some (.slice R k cR) := fun ob => cell_al c2_1_4; have hzu : W.heap.size ≤ u2.heap.size := HW_4.out.b.size; clear hv hb)
      (try go_wp2_with fail)
      refine hK.out _ _ ?_ (fun hHeld => ?_)
      · (((try go_split_ands); (try simp only [World.cell?_drew]); (repeat' apply And.intro) <;> (repeat (first | with_reducible assumption | with_reducible refine cell_set (by omega) ?_ | with_reducible refine cell_al ?_))))
      clear hK K
      try simp only [Act.put, List.setIfInBounds_toArray, List.set_cons_zero, List.set_cons_succ, List.getElem_toArray, List.getElem_cons_zero, List.getElem_cons_succ]
      refine wpAnyE_take (i := 22) (v := ?_) rfl (by kernel_rfl) (fun _ _ _ h => h) (Or.inl ⟨by rfl, ?_⟩) hHeld ?_
      rotate_left
      · ((intro w hSw; (try dsimp only at hSw); go_simp); (try with_reducible rfl))
      try simp only [Act.put, List.setIfInBounds_toArray, List.set_cons_zero, List.set_cons_succ, List.getElem_toArray, List.getElem_cons_zero, List.getElem_cons_succ]
      refine wpAnyE_one (i := 23) rfl (by kernel_rfl) (fun K hK => ?_)
      go_simp
      refine hK.out _ _ ?_ (fun hHeld => ?_)
      · (((try go_split_ands); (try simp only [World.cell?_drew]); (repeat' apply And.intro) <;> (repeat (first | with_reducible assumption | with_reducible refine cell_set (by omega) ?_ | with_reducible refine cell_al ?_))))
      clear hK K
      try simp only [Act.put, List.setIfInBounds_toArray, List.set_cons_zero, List.set_cons_succ, List.getElem_toArray, List.getElem_cons_zero, List.getElem_cons_succ]
      refine wpAnyE_one (i := 24) rfl (by kernel_rfl) (fun K hK => ?_)
      ((refine step_append_rows (by rfl) _ _ (by rfl) (by rfl) (HRL_4.out.alloc _) (by rfl) (blk_new _ _ _) (p := mkRow ⟨xc, xk, (xp, xd)⟩) ⟨(HQ_4.out.alloc _).base (Nat.zero_le _), rfl, HRQ.out.alloc _⟩ HLEN.out (by have := HB2.out; omega) (by simp; omega) ?_); intro R3 c3 w3 hL3 hk3 hb3; have HL3 := Lib.hid hL3; have KB3 := Lib.hid (hk3.blk (blk_al KB2_4.out) (by decide)); have p0 : w3.cell? ⟨w1.heap.size, 0, none⟩ = some (.slice C nC cC) := blk_cell KB3.out 0; have p1 : w3.cell? ⟨w1.heap.size, 1, none⟩ = some (.slice R k cR) := blk_cell KB3.out 1; have pf0 := blk_fro KB3.out 0; have pf1 := blk_fro KB3.out 1; have HC3 := Lib.hid ((HC_4.out.alloc _).keepR hk3); have HW3 := Lib.hid ((HW_4.out.alloc _).b.trans hb3); have s0 := keepCell' hb3 (show w.heap.size < W.heap.size by omega) (cell_al (ob := .cells #[.slice Q nq cq, .int .i64 xk, .bool g5, .slice A5 m5 c5, .slice D5 md5 cd5] 48) c0_0_4); have s1 := keepCell' hb3 (show w.heap.size < W.heap.size by omega) (cell_al (ob := .cells #[.slice Q nq cq, .int .i64 xk, .bool g5, .slice A5 m5 c5, .slice D5 md5 cd5] 48) c0_1_4); have s2 := keepCell' hb3 (show b < W.heap.size by omega) (cell_al (ob := .cells #[.slice Q nq cq, .int .i64 xk, .bool g5, .slice A5 m5 c5, .slice D5 md5 cd5] 48) x0_4); have s3 := keepCell' hb3 (show b < W.heap.size by omega) (cell_al (ob := .cells #[.slice Q nq cq, .int .i64 xk, .bool g5, .slice A5 m5 c5, .slice D5 md5 cd5] 48) x1_4); have s4 := keepCell' hb3 (show b < W.heap.size by omega) (cell_al (ob := .cells #[.slice Q nq cq, .int .i64 xk, .bool g5, .slice A5 m5 c5, .slice D5 md5 cd5] 48) x2_4); have s5 := keepCell' hb3 (show b < W.heap.size by omega) (cell_al (ob := .cells #[.slice Q nq cq, .int .i64 xk, .bool g5, .slice A5 m5 c5, .slice D5 md5 cd5] 48) x3_4); clear hL3 hk3 hb3)
      refine hK.out _ _ ?_ (fun hHeld => ?_)
      · (((try go_split_ands); (try simp only [World.cell?_drew]); (repeat' apply And.intro) <;> (repeat (first | with_reducible assumption | with_reducible refine cell_set (by omega) ?_ | with_reducible refine cell_al ?_))))
      clear hK K
      try simp only [Act.put, List.setIfInBounds_toArray, List.set_cons_zero, List.set_cons_succ, List.getElem_toArray, List.getElem_cons_zero, List.getElem_cons_succ]
      refine wpAnyE_take (i := 25) (v := ?_) rfl (by kernel_rfl) (fun _ _ _ h => h) (Or.inl ⟨by rfl, ?_⟩) hHeld ?_
      rotate_left
      · ((intro w hSw; (try dsimp only at hSw); go_simp); (try with_reducible rfl))
      try simp only [Act.put, List.setIfInBounds_toArray, List.set_cons_zero, List.set_cons_succ, List.getElem_toArray, List.getElem_cons_zero, List.getElem_cons_succ]
      refine wpAnyE_fin rfl (by kernel_rfl) (fun K hK => ?_)
      go_simp
      refine hK.out _ _ ?_
      clear hK K
      try simp only [Act.put, List.setIfInBounds_toArray, List.set_cons_zero, List.set_cons_succ, List.getElem_toArray, List.getElem_cons_zero, List.getElem_cons_succ]
      refine wpAnyE_done (by kernel_rfl) ?_ _
      all_goals
        go_wp2
        go_roundw
        case rel => exact ⟨k + 1, R3, c3, _, by go_num, by omega, blk_set _ KB3.out, by rw [rowsOf_take HGET.out]; exact HL3.out.setT KB3.out (by decide) (by decide) (by decide) _, HC3.out.setT KB3.out (by decide) (by decide) _, apart_append HA.out HRL.out.coefLt (fun b hb => (HC.out.lt hb).2) (fun b hb => (HQ.out.lt hb).1), from_append HFR0.out (fun b hb => Nat.le_trans (HW.out.b.size) (HQ.out.lt hb).1), Below.setCell HW3.out (by show W.heap.size ≤ w1.heap.size; exact HZ1.out) _⟩
        case measure => simp [intOf]; omega
    · obtain rfl : nL = k := by omega
      have KB0_2 := Lib.hid (keepBlk hB KB0.out)
      have KB1_2 := Lib.hid (keepBlk hB KB1.out)
      have HF_2 := Lib.hid (HF.out.below hB)
      have HL_2 := Lib.hid (HL.out.below hB)
      have HRL := Lib.hid (show RowsL wr W.heap.size (.slice R nL cR) l (rowsOf (ls.take nL)) from hL)
      have HC := Lib.hid (show VecS wr W.heap.size (.slice C nC cC) (frs cs) from hV)
      have BB_2 := Lib.hid (BB.out.trans ((hB).mono BB.out.size))
      obtain ⟨c0_0_2, c0_0_2d, c0_1_2, c0_1_2d⟩ := bc2 KB0_2.out
      obtain ⟨c1_0_2, c1_0_2d, fc1_0_2, fc1_0_2d, c1_1_2, c1_1_2d, fc1_1_2, fc1_1_2d⟩ := bf2 KB1_2.out
      have KBO := Lib.hid hbox
      obtain ⟨c0_0_2, c0_0_2d, c0_1_2, c0_1_2d⟩ := bc2 KB0_2.out
      obtain ⟨c1_0_2, c1_0_2d, fc1_0_2, fc1_0_2d, c1_1_2, c1_1_2d, fc1_1_2, fc1_1_2d⟩ := bf2 KB1_2.out
      obtain ⟨c2_0_2, c2_0_2d, c2_1_2, c2_1_2d⟩ := bc2 KBO.out
      clear hbox hL hV hB
      have HF := Lib.hid (show rowsOf (ls.take nL) = rowsOf ls by rw [HM.out, List.take_length])
      go_wp2
      refine bodyPost_ret (v := .agg #[.slice C nC cC, .slice R nL cR]) (by simp [results, Try.results24, go_sem, c1_0_2, c1_0_2d, c1_1_2, c1_1_2d]) rfl ?_
      have h1 := HRL.out
      rw [HF.out] at h1
      have h2 := (h1.base' (show w.heap.size ≤ W.heap.size by have := HZ.out; omega)).setT (a := ⟨w.heap.size + 1, 0, none⟩) KB1_2.out (by decide) (by decide) (by decide) (.slice C nC cC)
      have h3 := h2.setT (a := ⟨w.heap.size + 1, 1, none⟩) (blk_set _ KB1_2.out) (by decide) (by decide) (by decide) (.slice R nL cR)
      have v2 := (HC.out.base (show w.heap.size ≤ W.heap.size by have := HZ.out; omega)).setT (p := ⟨w.heap.size + 1, 0, none⟩) KB1_2.out (by decide) (by decide) (.slice C nC cC)
      have v3 := v2.setT (p := ⟨w.heap.size + 1, 1, none⟩) (blk_set _ KB1_2.out) (by decide) (by decide) (.slice R nL cR)
      exact ⟨_, _, _, _, _, _, l, rfl, v3, h3, HA.out, fun i ri b hi hb => Nat.le_trans (show w.heap.size ≤ W.heap.size by have := HZ.out; omega) (HFR0.out i ri b hi hb), Below.setCell (Below.setCell (BB_2.out) (p := ⟨w.heap.size + 1, 0, none⟩) (by show w.heap.size ≤ w.heap.size + 1; omega) _) (p := ⟨w.heap.size + 1, 1, none⟩) (by show w.heap.size ≤ w.heap.size + 1; omega) _⟩
end Lw
end Go.Proofs.Ytohkhcbocknliaa
namespace Go.Proofs.Ytohkhcbocknliaa
set_option linter.unusedSimpArgs false
set_option linter.unusedVariables false
open Go.RowKit Am
set_option maxHeartbeats 1000000
set_option maxRecDepth 100000
theorem ownsRow_raise {w : World} {H N : Nat} {e : TypeId} {size : Nat} {v : Value} {n : Nat} {xs : List Value} (h : w.ownsRow H e size v n xs) (hN : ∀ b, v.ownBlock = some b → N ≤ b) : w.ownsRow N e size v n xs := by
  refine ⟨h.1, ?_⟩
  rcases h.2 with h2 | ⟨g, cap, cur, hv, hg, r⟩
  · exact .inl h2
  · exact .inr ⟨g, cap, cur, hv, hN g (by rw [hv]; rfl), r⟩
theorem VecS.raise {w : World} {H N : Nat} {v : Value} {qs : List Rat} (h : VecS w H v qs) (hN : ∀ b, v.ownBlock = some b → N ≤ b) : VecS w N v qs := by
  obtain ⟨l, h1, h2, h3⟩ := h.row; exact ⟨l, h1, h2, ownsRow_raise h3 hN⟩
theorem RatKeep.blk {w w' : World} (h : RatKeep w w') {b : Nat} {cs : Array Value} {t : TypeId} (hb : w.heap[b]? = some (.cells cs t (0, 0))) (ht : 40 ≠ t) : w'.heap[b]? = some (.cells cs t (0, 0)) :=
  (h b (Array.getElem?_eq_some_iff.1 hb).1 fun cs' e => by rw [hb] at e; injection e with e; injection e with _ e2; exact ht e2.symm).trans hb
/-- l, with c in the place of the coefficients of row k -/
def withC (l : List RR) (k : Nat) (c : Value) : List RR := l.modify k fun r => { r with c := c }
theorem withC_at {l : List RR} {k : Nat} {c : Value} {i : Nat} {r : RR} (h : (withC l k c)[i]? = some r) : ∃ r0, l[i]? = some r0 ∧ ((i = k ∧ r.c = c) ∨ (i ≠ k ∧ r.c = r0.c)) := by
  unfold withC at h
  rw [List.getElem?_modify] at h
  cases e : l[i]? with
  | none => rw [e] at h; simp at h
  | some r0 =>
    rw [e] at h
    simp at h
    refine ⟨r0, rfl, ?_⟩
    by_cases hk : k = i
    · left; rw [if_pos hk] at h; subst h; exact ⟨hk.symm, rfl⟩
    · right; rw [if_neg hk] at h; subst h; exact ⟨fun e => hk e.symm, rfl⟩
theorem withC_same {l : List RR} {k : Nat} {r : RR} (h : l[k]? = some r) : withC l k r.c = l := by
  unfold withC
  apply List.ext_getElem?
  intro i
  rw [List.getElem?_modify]
  by_cases hk : k = i
  · subst hk; rw [h]; simp
  · simp [hk]
structure RSt (w0 wz : World) (pb : Nat) (C : Value) (cost : List Rat) (R : Value) (l : List RR) (ps : List PRow) (k : Nat) (cv : Value) (qs : List Rat) : Prop where
  res : wz.heap[w0.heap.size + 1]? = some (.cells #[.slice none 0 0, .slice none 0 0] 31 (0, 0))
  pbx : wz.heap[pb]? = some (.cells #[C, R] 31 (0, 0))
  cost : VecS wz w0.heap.size C cost
  len : l.length = ps.length
  each : ∀ (i : Nat) (r : RR) (p : PRow), l[i]? = some r → ps[i]? = some p → (i ≠ k → VecS wz 0 r.c p.coef) ∧ r.k = p.kind ∧ RatS wz r.g r.s r.d p.rhs
  own : wz.ownsRow w0.heap.size 48 5 R ps.length (wcellsR l)
  cur : VecS wz w0.heap.size cv qs
  ap : Apart C (withC l k cv)
  fr : From w0.heap.size l
  bel : Below w0.heap.size w0 wz
namespace RSt
variable {w0 wz w' : World} {pb : Nat} {C : Value} {cost : List Rat} {R : Value} {l : List RR} {ps : List PRow} {k : Nat} {cv : Value} {qs : List Rat}
theorem below (h : RSt w0 wz pb C cost R l ps k cv qs) (hb : Below wz.heap.size wz w') : RSt w0 w' pb C cost R l ps k cv qs :=
  ⟨keepBlk hb h.res, keepBlk hb h.pbx, h.cost.below hb, h.len, fun i r p a b => ⟨fun e => ((h.each i r p a b).1 e).below hb, (h.each i r p a b).2.1, (h.each i r p a b).2.2.below hb⟩,
   ownKeep h.own fun k hk => hb.block k (h.own.lt k hk).2, h.cur.below hb, h.ap, h.fr, h.bel.trans (hb.mono h.bel.size)⟩
theorem alloc (h : RSt w0 wz pb C cost R l ps k cv qs) (o : Obj) : RSt w0 (wz.alloc o) pb C cost R l ps k cv qs := h.below (below_alloc wz o)
theorem drew (h : RSt w0 wz pb C cost R l ps k cv qs) : RSt w0 wz.drew pb C cost R l ps k cv qs := h.below (below_drewN' wz 1)
/-- a fraction more -/
theorem append (h : RSt w0 wz pb C cost R l ps k cv qs) (hk : k < l.length) {cv' : Value} {q : Rat} (hv : VecS w' w0.heap.size cv' (qs ++ [q])) (hr : RatKeep wz w') (hg : wz.grownBy w' cv.ownBlock) (hc : cv'.ownBlock = cv.ownBlock ∨ ∃ b, cv'.ownBlock = some b ∧ wz.heap.size ≤ b) :
    RSt w0 w' pb C cost R l ps k cv' (qs ++ [q]) := by
  obtain ⟨rk, hrk⟩ : ∃ r, l[k]? = some r := ⟨l[k], List.getElem?_eq_getElem hk⟩
  have hwk : (withC l k cv)[k]? = some { rk with c := cv } := by unfold withC; rw [List.getElem?_modify, hrk]; simp
  have keepC : ∀ b, C.ownBlock = some b → w'.heap[b]? = wz.heap[b]? := fun b hb => hg.block b (h.cost.lt hb).2 fun e => h.ap.2 k _ b hwk e.symm hb
  have keepI : ∀ i r p, l[i]? = some r → ps[i]? = some p → i ≠ k → VecS w' 0 r.c p.coef := by
    intro i r p h1 h2 hik
    have hv := (h.each i r p h1 h2).1 hik
    refine hv.keepAll (fun b hb => hg.block b (hv.lt hb).2 fun e => ?_) fun _ _ _ _ x => x.keepT hr
    have hwi : (withC l k cv)[i]? = some r := by unfold withC; rw [List.getElem?_modify, h1]; simp; intro e; exact absurd e.symm hik
    exact hik (h.ap.1 i k r _ b hwi hwk hb e.symm)
  refine ⟨hr.blk h.res (by decide), hr.blk h.pbx (by decide), h.cost.keepAll keepC fun _ _ _ _ x => x.keepT hr, h.len, fun i r p h1 h2 => ⟨keepI i r p h1 h2, (h.each i r p h1 h2).2.1, (h.each i r p h1 h2).2.2.keepT hr⟩, ?_, hv, ?_, h.fr, ?_⟩
  · refine ownKeep h.own fun b hb => ?_
    rcases h.own.2 with ⟨e, _⟩ | ⟨g, cap, cur, e, _, hh, _⟩
    · rw [e] at hb; cases hb
    · rw [e] at hb; injection hb with hb; subst hb
      exact (hr.blk hh (by decide)).trans hh.symm
  · have hlt : ∀ (i : Nat) (r : RR) (b : Nat), (withC l k cv)[i]? = some r → r.c.ownBlock = some b → b < wz.heap.size := by
      intro i r b h1 h2
      obtain ⟨r0, h3, ⟨rfl, h4⟩ | ⟨h4, h5⟩⟩ := withC_at h1
      · rw [h4] at h2; exact (h.cur.lt h2).2
      · obtain ⟨p, hp⟩ : ∃ p, ps[i]? = some p := ⟨ps[i]'(by rw [← h.len]; exact (List.getElem?_eq_some_iff.1 h3).1), List.getElem?_eq_getElem _⟩
        rw [h5] at h2; exact (((h.each i r0 p h3 hp).1 h4).lt h2).2
    have look : ∀ (i : Nat) (r : RR) (b : Nat), (withC l k cv')[i]? = some r → r.c.ownBlock = some b → (∃ r', (withC l k cv)[i]? = some r' ∧ r'.c.ownBlock = some b) ∨ (i = k ∧ wz.heap.size ≤ b) := by
      intro i r b h1 h2
      obtain ⟨r0, h3, ⟨rfl, h4⟩ | ⟨h4, h5⟩⟩ := withC_at h1
      · rw [h4] at h2
        rcases hc with hc | ⟨b', hc, hb'⟩
        · exact .inl ⟨_, hwk, by rw [← hc]; exact h2⟩
        · rw [hc] at h2; injection h2 with h2; exact .inr ⟨rfl, by omega⟩
      · exact .inl ⟨r0, by unfold withC; rw [List.getElem?_modify, h3]; simp; intro e; exact absurd e.symm h4, by rw [← h5]; exact h2⟩
    refine ⟨fun i j ri rj b hi hj bi bj => ?_, fun i ri b hi bi hcb => ?_⟩
    · rcases look i ri b hi bi with ⟨r1, a1, a2⟩ | ⟨a1, a2⟩ <;> rcases look j rj b hj bj with ⟨r2, b1, b2⟩ | ⟨b1, b2⟩
      · exact h.ap.1 i j r1 r2 b a1 b1 a2 b2
      · have := hlt i r1 b a1 a2; omega
      · have := hlt j r2 b b1 b2; omega
      · omega
    · rcases look i ri b hi bi with ⟨r1, a1, a2⟩ | ⟨a1, a2⟩
      · exact h.ap.2 i r1 b a1 a2 hcb
      · have := (h.cost.lt hcb).2; omega
  · exact h.bel.grown hg h.bel.size fun b hb => (h.cur.lt hb).1
end RSt
structure ROut (w0 w : World) (pb : Nat) (C : Value) (cost : List Rat) (R : Value) (l : List RR) (ps : List PRow) : Prop where
  res : w.heap[w0.heap.size + 1]? = some (.cells #[.slice none 0 0, .slice none 0 0] 31 (0, 0))
  pbx : w.heap[pb]? = some (.cells #[C, R] 31 (0, 0))
  cost : VecS w w0.heap.size C cost
  rows : RowsL w w0.heap.size R l ps
  ap : Apart C l
  fr : From w0.heap.size l
  bel : Below w0.heap.size w0 w
theorem ROut.below {w0 w w' : World} {pb : Nat} {C : Value} {cost : List Rat} {R : Value} {l : List RR} {ps : List PRow} (h : ROut w0 w pb C cost R l ps) (hb : Below w.heap.size w w') : ROut w0 w' pb C cost R l ps :=
  ⟨keepBlk hb h.res, keepBlk hb h.pbx, h.cost.below hb, h.rows.below hb, h.ap, h.fr, h.bel.trans (hb.mono h.bel.size)⟩
theorem ROut.drew {w0 w : World} {pb : Nat} {C : Value} {cost : List Rat} {R : Value} {l : List RR} {ps : List PRow} (h : ROut w0 w pb C cost R l ps) : ROut w0 w.drew pb C cost R l ps := h.below (below_drewN' w 1)
theorem RSt.start {w0 wz : World} {pb : Nat} {C : Value} {cost : List Rat} {R : Value} {l : List RR} {ps : List PRow} (h : ROut w0 wz pb C cost R l ps) {k : Nat} {r : RR} {p : PRow} (hr : l[k]? = some r) (hp : ps[k]? = some p) : RSt w0 wz pb C cost R l ps k r.c p.coef :=
  ⟨h.res, h.pbx, h.cost, h.rows.len, fun i r p h1 h2 => ⟨fun _ => (h.rows.each i r p h1 h2).coef, (h.rows.each i r p h1 h2).kind, (h.rows.each i r p h1 h2).rhs⟩, h.rows.own, (h.rows.each k r p hr hp).coef.raise fun b hb => h.fr k r b hr hb, by rw [withC_same hr]; exact h.ap, h.fr, h.bel⟩
theorem own_cutA {w : World} {H n cap : Nat} {A : Option Addr} {e : TypeId} {size : Nat} {xs : List Value} (h : w.ownsRow H e size (.slice A n cap) n xs) (i : Nat) (hi : i ≤ n) :
    w.ownsRow H e size (.slice A i cap) i (xs.take (i * size)) := by
  have hl : i * size ≤ n * size := Nat.mul_le_mul_right _ hi
  refine ⟨by rw [List.length_take, h.1]; omega, ?_⟩
  rcases h.2 with ⟨h', hn⟩ | ⟨g', cap', cur, h', hb, hg, hnc, hcm, hcs, htake⟩
  · injection h' with e1 e2 e3
    subst e1 e2 e3
    obtain rfl : i = 0 := by omega
    exact .inl ⟨rfl, rfl⟩
  · injection h' with e1 e2 e3
    subst e1 e3
    exact .inr ⟨g', cap, cur, rfl, hb, hg, by omega, hcm, hcs, by rw [← htake, List.take_take, Nat.min_eq_left hl]⟩
theorem rcells_take (l : List RV) : ∀ k, (rcells l).take (k * 3) = rcells (l.take k) := by
  induction l with
  | nil => intro k; simp [rcells]
  | cons a l ih =>
    intro k
    cases k with
    | zero => simp [rcells]
    | succ k => rw [show (k + 1) * 3 = k * 3 + 1 + 1 + 1 by omega, rcells_cons]; simp [rcells_cons, ih]
theorem VecS.cut {w : World} {H n cap : Nat} {A : Option Addr} {qs : List Rat} (h : VecS w H (.slice A n cap) qs) (i : Nat) (hi : i ≤ n) : VecS w H (.slice A i cap) (qs.take i) := by
  have hn := h.len
  subst hn
  obtain ⟨l, h1, h2, h3⟩ := h.row
  refine ⟨l.take i, by simp [h1], fun k r q a b => ?_, ?_⟩
  · rw [List.getElem?_take] at a b
    split at a
    · rw [if_pos ‹_›] at b; exact h2 k r q a b
    · cases a
  · have h4 := own_cutA h3 i hi
    rw [rcells_take] at h4
    rw [List.length_take, Nat.min_eq_left hi]; exact h4
theorem own_blk {w : World} {H b n cap : Nat} {e : TypeId} {size : Nat} {xs : List Value} (h : w.ownsRow H e size (.slice (some ⟨b, 0, none⟩) n cap) n xs) : ∃ cur, w.heap[b]? = some (.cells cur e (0, 0)) ∧ H ≤ b := by
  rcases h.2 with ⟨h', hn⟩ | ⟨g', cap', cur, h', hb, hg, hnc, hcm, hcs, htake⟩
  · cases h'
  · injection h' with e1; injection e1 with e1; injection e1 with e1; subst e1; exact ⟨cur, hg, hb⟩
theorem blk_diff {w : World} {b b' o : Nat} {cs cs' : Array Value} {t t' : TypeId} (u : Value) (h : w.heap[b]? = some (.cells cs t (0, 0))) (h' : w.heap[b']? = some (.cells cs' t' (0, 0))) (ht : t ≠ t') : (w.setCell ⟨b, o, none⟩ u).heap[b']? = some (.cells cs' t' (0, 0)) := by
  refine (Below.heap_setCell w ⟨b, o, none⟩ u b' fun e => ?_).trans h'
  have e : b' = b := e
  subst e
  rw [h] at h'; injection h' with h'; injection h' with _ e2; exact ht e2
/-- the row's coefficients, stored -/
theorem RSt.put {w0 wz : World} {pb : Nat} {C : Value} {cost : List Rat} {bR nR cR : Nat} {l : List RR} {ps : List PRow} {k : Nat} {A : Option Addr} {n c : Nat} {qs : List Rat} (h : RSt w0 wz pb C cost (.slice (some ⟨bR, 0, none⟩) nR cR) l ps k (.slice A n c) qs) (hn : nR = ps.length) (nc : Nat) (hnc : nc ≤ n) :
    ROut w0 (wz.setCell ⟨bR, k * 5, none⟩ (.slice A nc c)) pb C cost (.slice (some ⟨bR, 0, none⟩) nR cR) (withC l k (.slice A nc c)) (ps.modify k fun p => { p with coef := qs.take nc }) := by
  subst hn
  obtain ⟨cur, hg, hH⟩ := own_blk h.own
  have hcut := h.cur.cut nc hnc
  have hlk : ∀ (i : Nat) (r : RR) (b : Nat), (withC l k (.slice A nc c))[i]? = some r → r.c.ownBlock = some b → ∃ r', (withC l k (.slice A n c))[i]? = some r' ∧ r'.c.ownBlock = some b := by
    intro i r b h1 h2
    obtain ⟨r0, h3, ⟨rfl, h4⟩ | ⟨h4, h5⟩⟩ := withC_at h1
    · exact ⟨{ r0 with c := .slice A n c }, by unfold withC; rw [List.getElem?_modify, h3]; simp, by rw [h4] at h2; cases A with
        | none => cases h2
        | some a => exact h2⟩
    · exact ⟨r0, by unfold withC; rw [List.getElem?_modify, h3]; simp; intro e; exact absurd e.symm h4, by rw [← h5]; exact h2⟩
  refine ⟨blk_diff _ hg h.res (by decide), blk_diff _ hg h.pbx (by decide), h.cost.setT (p := ⟨bR, k * 5, none⟩) hg (by decide) (by decide) _, ⟨by simp [withC, h.len], ?_, ?_⟩, ⟨fun i j ri rj b hi hj bi bj => ?_, fun i ri b hi bi => ?_⟩, fun i ri b hi bi => ?_, h.bel.setCell hH _⟩
  · intro i r p h1 h2
    obtain ⟨r0, h3, hor⟩ := withC_at h1
    have hrr : r.k = r0.k ∧ r.g = r0.g ∧ r.s = r0.s ∧ r.d = r0.d := by
      unfold withC at h1; rw [List.getElem?_modify, h3] at h1; simp at h1
      split at h1 <;> (subst h1; exact ⟨rfl, rfl, rfl, rfl⟩)
    rw [List.getElem?_modify] at h2
    cases e : ps[i]? with
    | none => rw [e] at h2; simp at h2
    | some p0 =>
      rw [e] at h2
      simp at h2
      have he := h.each i r0 p0 h3 e
      rcases hor with ⟨rfl, h4⟩ | ⟨h4, h5⟩
      · rw [if_pos rfl] at h2
        subst h2
        refine ⟨by rw [h4]; exact ((hcut.base (Nat.zero_le _)).setT (p := ⟨bR, i * 5, none⟩) hg (by decide) (by decide) _), by rw [hrr.1]; exact he.2.1, by rw [hrr.2.1, hrr.2.2.1, hrr.2.2.2]; exact he.2.2.setT (p := ⟨bR, i * 5, none⟩) hg (by decide) _⟩
      · rw [if_neg (fun e => h4 e.symm)] at h2
        subst h2
        refine ⟨by rw [h5]; exact ((he.1 h4).setT (p := ⟨bR, k * 5, none⟩) hg (by decide) (by decide) _), by rw [hrr.1]; exact he.2.1, by rw [hrr.2.1, hrr.2.2.1, hrr.2.2.2]; exact he.2.2.setT (p := ⟨bR, k * 5, none⟩) hg (by decide) _⟩
  · rw [List.length_modify, withC, ← wcellsR_setC]; exact (h.own.stored _ _).1
  · obtain ⟨r1, a1, a2⟩ := hlk i ri b hi bi
    obtain ⟨r2, b1, b2⟩ := hlk j rj b hj bj
    exact h.ap.1 i j r1 r2 b a1 b1 a2 b2
  · obtain ⟨r1, a1, a2⟩ := hlk i ri b hi bi
    exact h.ap.2 i r1 b a1 a2
  · obtain ⟨r0, h3, ⟨rfl, h4⟩ | ⟨h4, h5⟩⟩ := withC_at hi
    · rw [h4] at bi; exact (hcut.lt bi).1
    · rw [h5] at bi; exact h.fr i r0 b h3 bi
/-- the row's kind, stored -/
theorem ROut.putK {w0 w : World} {pb : Nat} {C : Value} {cost : List Rat} {bR nR cR : Nat} {l : List RR} {ps : List PRow} (h : ROut w0 w pb C cost (.slice (some ⟨bR, 0, none⟩) nR cR) l ps) (hn : nR = ps.length) (k : Nat) (z : Int) :
    ROut w0 (w.setCell ⟨bR, k * 5 + 1, none⟩ (.int .i64 z)) pb C cost (.slice (some ⟨bR, 0, none⟩) nR cR) (l.modify k fun r => { r with k := z }) (ps.modify k fun p => { p with kind := z }) := by
  subst hn
  obtain ⟨cur, hg, hH⟩ := own_blk h.rows.own
  have hlk : ∀ (i : Nat) (r : RR), (l.modify k fun r => { r with k := z })[i]? = some r → ∃ r0, l[i]? = some r0 ∧ r.c = r0.c ∧ r.g = r0.g ∧ r.s = r0.s ∧ r.d = r0.d ∧ (if k = i then r.k = z else r.k = r0.k) := by
    intro i r h1
    rw [List.getElem?_modify] at h1
    cases e : l[i]? with
    | none => rw [e] at h1; simp at h1
    | some r0 =>
      rw [e] at h1
      simp at h1
      refine ⟨r0, rfl, ?_⟩
      split at h1 <;> (subst h1; simp [*])
  refine ⟨blk_diff _ hg h.res (by decide), blk_diff _ hg h.pbx (by decide), h.cost.setT (p := ⟨bR, k * 5 + 1, none⟩) hg (by decide) (by decide) _, ⟨by simp [h.rows.len], ?_, ?_⟩, ⟨fun i j ri rj b hi hj bi bj => ?_, fun i ri b hi bi => ?_⟩, fun i ri b hi bi => ?_, h.bel.setCell hH _⟩
  · intro i r p h1 h2
    obtain ⟨r0, h3, e1, e2, e3, e4, e5⟩ := hlk i r h1
    rw [List.getElem?_modify] at h2
    cases e : ps[i]? with
    | none => rw [e] at h2; simp at h2
    | some p0 =>
      rw [e] at h2
      simp at h2
      have he := (h.rows.each i r0 p0 h3 e).setT (a := ⟨bR, k * 5 + 1, none⟩) hg (by decide) (by decide) (.int .i64 z)
      by_cases hk : k = i
      · rw [if_pos hk] at h2 e5
        subst h2
        exact ⟨by rw [e1]; exact he.coef, e5, by rw [e2, e3, e4]; exact he.rhs⟩
      · rw [if_neg hk] at h2 e5
        subst h2
        exact ⟨by rw [e1]; exact he.coef, by rw [e5]; exact he.kind, by rw [e2, e3, e4]; exact he.rhs⟩
  · rw [List.length_modify, ← wcellsR_setK]; exact (h.rows.own.stored _ _).1
  · obtain ⟨r1, a1, a2, _⟩ := hlk i ri hi
    obtain ⟨r2, b1, b2, _⟩ := hlk j rj hj
    exact h.ap.1 i j r1 r2 b a1 b1 (by rw [← a2]; exact bi) (by rw [← b2]; exact bj)
  · obtain ⟨r1, a1, a2, _⟩ := hlk i ri hi
    exact h.ap.2 i r1 b a1 (by rw [← a2]; exact bi)
  · obtain ⟨r1, a1, a2, _⟩ := hlk i ri hi
    exact h.fr i r1 b a1 (by rw [← a2]; exact bi)
end Go.Proofs.Ytohkhcbocknliaa
