/- Rows that grow: append of a fraction (in place, or anew) and of a row of a problem; the lines that are handed in. Conditions: as each says. -/
import Derived.Test.YtohkhcbocknliaaProb1M
import Derived.Test.YtohkhcbocknliaaVec4M
import Derived.Laws.OwnMore
namespace Go.Proofs.Ytohkhcbocknliaa
set_option linter.unusedSimpArgs false
set_option linter.unusedVariables false
open Go.RowKit Am
set_option maxHeartbeats 1000000
set_option maxRecDepth 100000
theorem cells3 {w : World} {b : Nat} {c0 c1 c2 : Value} {t : TypeId} (hb : w.heap[b]? = some (.cells #[c0, c1, c2] t (0, 0))) : ∀ j u, [c0, c1, c2][j]? = some u → w.cell? ((⟨b, 0, none⟩ : Addr).add j) = some u := by
  intro j u hu
  match j, hu with
  | 0, hu => exact (blk_cell hb 0).trans hu
  | 1, hu => exact (blk_cell hb 1).trans hu
  | 2, hu => exact (blk_cell hb 2).trans hu
  | j + 3, hu => simp at hu
theorem cells5 {w : World} {b : Nat} {c0 c1 c2 c3 c4 : Value} {t : TypeId} (hb : w.heap[b]? = some (.cells #[c0, c1, c2, c3, c4] t (0, 0))) : ∀ j u, [c0, c1, c2, c3, c4][j]? = some u → w.cell? ((⟨b, 0, none⟩ : Addr).add j) = some u := by
  intro j u hu
  match j, hu with
  | 0, hu => exact (blk_cell hb 0).trans hu
  | 1, hu => exact (blk_cell hb 1).trans hu
  | 2, hu => exact (blk_cell hb 2).trans hu
  | 3, hu => exact (blk_cell hb 3).trans hu
  | 4, hu => exact (blk_cell hb 4).trans hu
  | j + 5, hu => simp at hu
/-- append: in the same block, or in a new one -/
theorem append_vec {w : World} {H : Nat} {v : Value} {qs : List Rat} (hv : VecS w H v qs) {b : Nat} {g : Bool} {A : Option Addr} {m c : Nat} {D : Option Addr} {md cd : Nat} {q : Rat}
    (hb : w.heap[b]? = some (.cells #[.bool g, .slice A m c, .slice D md cd] 40 (0, 0))) (hq : RatS w g (.slice A m c) (.slice D md cd) q) (hlen : qs.length + 1 ≤ 2000000) (hH : H ≤ w.heap.size) (ty : TypeId) :
    ∃ v' w', (Builtin.append_ #[28, 28] ty #[v, .slice (some ⟨b, 0, none⟩) 1 1]).run Try.prog w = .ok v' w' ∧ VecS w' H v' (qs ++ [q]) ∧ w.grownBy w' v.ownBlock ∧ (v'.ownBlock = v.ownBlock ∨ ∃ k, v'.ownBlock = some k ∧ w.heap.size ≤ k) := by
  obtain ⟨i0, hi, hz0, hz1, hz2⟩ := info_parts info_Rat
  obtain ⟨l, h1, h2, h3⟩ := hv.row
  have hnew : ∀ u ∈ [Value.bool g, .slice A m c, .slice D md cd], u.oneCell' = true := by intro u hu; simp at hu; rcases hu with rfl | rfl | rfl <;> rfl
  obtain ⟨v', w', hr, hown, hgrow, _⟩ := run_append_own (P := Try.prog) w H 28 ty 40 i0 _ 3 56 Try.underlying28 hi hz0 hz1 hz2 rfl (by decide) v qs.length (rcells l) h3 ⟨b, 0, none⟩ 1 1 [.bool g, .slice A m c, .slice D md cd] rfl (cells3 hb) hnew (by unfold maxLen; omega) (by omega) hH
  refine ⟨v', w', hr, VecS.append h1 h2 h3 hq hown hgrow, hgrow, ?_⟩
  rcases h3.2 with ⟨hv0, hn⟩ | ⟨g0, cap, cur, hv0, hg, hh, hn, hm, hcs, htake⟩
  · subst hv0
    have hr2 := run_append_nil (P := Try.prog) w 28 ty 40 i0 _ Try.underlying28 hi hz0 ⟨b, 0, none⟩ 1 1 [.bool g, .slice A m c, .slice D md cd] (by rw [hz1]; rfl) (cells3 hb) (by decide) (by decide) (by rw [hz2]; decide)
    rw [hr2] at hr
    injection hr with hr _
    exact .inr ⟨_, by rw [← hr]; rfl, Nat.le_refl _⟩
  · subst hv0
    by_cases hroom : qs.length + 1 ≤ cap
    · obtain ⟨w2, hr2, _⟩ := run_append_fits (P := Try.prog) w H 28 ty 40 i0 3 Try.underlying28 hi hz1 g0 qs.length cap (rcells l) h3 ⟨b, 0, none⟩ 1 1 [.bool g, .slice A m c, .slice D md cd] rfl (cells3 hb) hnew hroom
      rw [hr2] at hr
      injection hr with hr _
      exact .inl (by rw [← hr]; rfl)
    · have hr2 := run_append_grow (P := Try.prog) w 28 ty 40 i0 _ Try.underlying28 hi hz0 ⟨g0, 0, none⟩ qs.length cap (rcells l) (by rw [h3.1, hz1]) (h3.cells (g := g0) rfl) ⟨b, 0, none⟩ 1 1 [.bool g, .slice A m c, .slice D md cd] (by rw [hz1]; rfl) (cells3 hb) (by omega) (by omega) (growslice_fits (by omega) (by rw [hz2]; omega))
      rw [hr2] at hr
      injection hr with hr _
      exact .inr ⟨_, by rw [← hr]; rfl, Nat.le_refl _⟩
/-- the same, as a step of a walk -/
theorem wpList_append_vec2 {w : World} {ops : Array Oper} {rest : List Oper} {o : Oper} {a : Act} {Q : Exit → Act → World → Prop} (hgd : o.guard = none) (s x : Operand)
    (ho : o.op = .call { callee := .builtin .append, args := #[s, x], argTypes := #[28, 28] }) {H : Nat} {v : Value} {qs : List Rat} (hs : a.eval s = v) (hv : VecS w H v qs) {b : Nat} (hx : a.eval x = .slice (some ⟨b, 0, none⟩) 1 1)
    {g : Bool} {A : Option Addr} {m c : Nat} {D : Option Addr} {md cd : Nat} {q : Rat} (hb : w.heap[b]? = some (.cells #[.bool g, .slice A m c, .slice D md cd] 40 (0, 0))) (hq : RatS w g (.slice A m c) (.slice D md cd) q) (hlen : qs.length + 1 ≤ 2000000) (hH : H ≤ w.heap.size)
    (hK : ∀ A' n' c' w', VecS w' H (.slice A' n' c') (qs ++ [q]) → RatKeep w w' → w.grownBy w' v.ownBlock → ((Value.slice A' n' c').ownBlock = v.ownBlock ∨ ∃ k, (Value.slice A' n' c').ownBlock = some k ∧ w.heap.size ≤ k) → n' = qs.length + 1 → wpList Try.prog ops Q rest (a.put o.dst (.slice A' n' c')) w') : wpList Try.prog ops Q (o :: rest) a w := by
  refine wpList_plain hgd fun K hK' => ?_
  obtain ⟨v', w', hr, h1, h2, h3⟩ := append_vec hv hb hq hlen hH o.type
  obtain ⟨l, e1, e2, e3⟩ := hv.row
  obtain ⟨A', n', c', rfl⟩ := h1.slice
  unfold Oper.wp execOp
  simp only [ho, resolve, invoke, builtin, Sem.run_bind, Sem.run_pure, Result.andThen_ok, List.map_toArray, List.map_cons, List.map_nil, hs, hx, hr]
  exact hK' _ _ (hK A' n' c' w' h1 (ratKeep_grown e3 h2) h2 h3 (by rw [h1.len]; simp))
/-- The slice v is the rows ps; their cells are l. -/
structure RowsL (w : World) (H : Nat) (v : Value) (l : List RR) (ps : List PRow) : Prop where
  len : l.length = ps.length
  each : ∀ (k : Nat) (r : RR) (p : PRow), l[k]? = some r → ps[k]? = some p → RowS w r p
  own : w.ownsRow H 48 5 v ps.length (wcellsR l)
theorem RowsL.toS {w : World} {H : Nat} {v : Value} {l : List RR} {ps : List PRow} (h : RowsL w H v l ps) : RowsS w H v ps := ⟨l, h.len, h.each, h.own⟩
theorem RowsL.below {w w' : World} {H : Nat} {v : Value} {l : List RR} {ps : List PRow} (h : RowsL w H v l ps) (hb : Below w.heap.size w w') : RowsL w' H v l ps :=
  ⟨h.len, fun k r p h1 h2 => (h.each k r p h1 h2).below hb, ownKeep h.own fun k hk => hb.block k (h.own.lt k hk).2⟩
theorem RowsL.alloc {w : World} {H : Nat} {v : Value} {l : List RR} {ps : List PRow} (h : RowsL w H v l ps) (o : Obj) : RowsL (w.alloc o) H v l ps := h.below (below_alloc w o)
theorem RowsL.drew {w : World} {H : Nat} {v : Value} {l : List RR} {ps : List PRow} (h : RowsL w H v l ps) : RowsL w.drew H v l ps := h.below (below_drewN' w 1)
/-- All blocks but those of rows are as they were. -/
def RowKeep (w w' : World) : Prop := ∀ k, k < w.heap.size → (∀ cs, w.heap[k]? ≠ some (.cells cs 48 (0, 0))) → w'.heap[k]? = w.heap[k]?
theorem NatS.keepR {w w' : World} {s : Value} {n : Nat} (h : NatS w s n) (hk : RowKeep w w') : NatS w' s n := by
  obtain ⟨xs, h2, h3⟩ := h
  refine ⟨xs, h2.keep fun k hb => hk k (h2.block hb) fun cs e => ?_, h3⟩
  exact ne_of_type h2.1 e (by decide) hb
theorem RatS.keepR {w w' : World} {g : Bool} {s d : Value} {q : Rat} (h : RatS w g s d q) (hk : RowKeep w w') : RatS w' g s d q := ⟨⟨h.num.abs.keepR hk, h.num.neg⟩, h.den.keepR hk⟩
theorem VecS.keepR {w w' : World} {H : Nat} {v : Value} {qs : List Rat} (h : VecS w H v qs) (hk : RowKeep w w') : VecS w' H v qs := by
  obtain ⟨l, h1, h2, h3⟩ := h.row
  exact h.keepAll (fun k hb => hk k (h.lt hb).2 fun cs e => ne_of_type h3 e (by decide) hb) fun _ _ _ _ r => r.keepR hk
theorem RowS.keepR {w w' : World} {r : RR} {p : PRow} (h : RowS w r p) (hk : RowKeep w w') : RowS w' r p := ⟨h.coef.keepR hk, h.kind, h.rhs.keepR hk⟩
theorem rowKeep_grown {w w' : World} {H : Nat} {v : Value} {n : Nat} {xs : List Value} (h : w.ownsRow H 48 5 v n xs) (hg : w.grownBy w' v.ownBlock) : RowKeep w w' := by
  intro k hk hne
  refine hg.block k hk fun e => ?_
  rcases h.2 with ⟨hv, _⟩ | ⟨g, cap, cur, hv, _, hh, _⟩
  · rw [hv] at e; cases e
  · rw [hv] at e; injection e with e; subst e; exact hne _ hh
theorem RowsL.coefLt {w : World} {H : Nat} {v : Value} {l : List RR} {ps : List PRow} (h : RowsL w H v l ps) (i : Nat) (ri : RR) (b : Nat) (hi : l[i]? = some ri) (hb : ri.c.ownBlock = some b) : b < w.heap.size := by
  have hl := (List.getElem?_eq_some_iff.1 hi).1
  obtain ⟨p, hp⟩ : ∃ p, ps[i]? = some p := ⟨ps[i]'(by rw [← h.len]; exact hl), List.getElem?_eq_getElem _⟩
  exact ((h.each i ri p hi hp).coef.lt hb).2
theorem RowsL.nil (w : World) (H : Nat) : RowsL w H (.slice none 0 0) [] [] := ⟨rfl, fun k r p h => by simp at h, World.ownsRow_nil _ _ _ _⟩
theorem RowsL.slice {w : World} {H : Nat} {v : Value} {l : List RR} {ps : List PRow} (h : RowsL w H v l ps) : ∃ A c, v = .slice A ps.length c := by
  rcases h.own.2 with ⟨hv, hn⟩ | ⟨g, cap, cur, hv, _⟩
  · exact ⟨_, _, by rw [hv, hn]⟩
  · exact ⟨_, _, hv⟩
/-- 'append(v, row)', as a step of a drawn region. -/
theorem step_append_rows {ops : Array Oper} {o : Oper} {a : Act} {w : World} {K : Act → World → Prop} {Q : Exit → Act → World → Prop} {E : Prop} (hg : o.guard = none) (s x : Operand)
    (hop : o.op = .call { callee := .builtin .append, args := #[s, x], argTypes := #[29, 29] }) {H : Nat} {v : Value} {l : List RR} {ps : List PRow} (hs : a.eval s = v) (hv : RowsL w H v l ps) {b : Nat} (hx : a.eval x = .slice (some ⟨b, 0, none⟩) 1 1)
    {C : Option Addr} {nc cc : Nat} {kd : Int} {g : Bool} {A : Option Addr} {m c : Nat} {D : Option Addr} {md cd : Nat} {p : PRow} (hb : w.heap[b]? = some (.cells #[.slice C nc cc, .int .i64 kd, .bool g, .slice A m c, .slice D md cd] 48 (0, 0)))
    (hr : RowS w ⟨.slice C nc cc, kd, g, .slice A m c, .slice D md cd⟩ p) {n : Nat} (hn : ps.length = n) (hlen : n + 1 ≤ 1000000) (hH : H ≤ w.heap.size)
    (hK : ∀ A' c' w', RowsL w' H (.slice A' (n + 1) c') (l ++ [⟨.slice C nc cc, kd, g, .slice A m c, .slice D md cd⟩]) (ps ++ [p]) → RowKeep w w' → Below H w w' → K (a.put o.dst (.slice A' (n + 1) c')) w') :
    if Region.wanted o (yielded ops a.tmps) = true then Oper.wp Try.prog o a w K Q else E := by
  have hw : Region.wanted o (yielded ops a.tmps) = true := by simp [Region.wanted, hg]
  rw [if_pos hw]
  subst hn
  obtain ⟨i0, hi, hz0, hz1, hz2⟩ := info_parts info_Row
  refine wp_append_own w s x 29 hop H 48 i0 _ 5 88 Try.underlying29 hi hz0 hz1 hz2 rfl (by decide) v ps.length (wcellsR l) hs hv.own ⟨b, 0, none⟩ 1 1 [.slice C nc cc, .int .i64 kd, .bool g, .slice A m c, .slice D md cd] hx rfl (cells5 hb)
    (by intro u hu; simp at hu; rcases hu with rfl | rfl | rfl | rfl | rfl <;> rfl) (by unfold maxLen; omega) (by omega) hH ?_
  intro v' w' hown hgrow _
  have hk := rowKeep_grown hv.own hgrow
  have hL : RowsL w' H v' (l ++ [⟨.slice C nc cc, kd, g, .slice A m c, .slice D md cd⟩]) (ps ++ [p]) := by
    refine ⟨by simp [hv.len], ?_, by rw [List.length_append, wcellsR_append]; exact hown⟩
    intro k r p' h1 h2
    rcases Nat.lt_trichotomy k l.length with h | h | h
    · rw [List.getElem?_append_left h] at h1
      rw [List.getElem?_append_left (by rw [← hv.len]; exact h)] at h2
      exact (hv.each k r p' h1 h2).keepR hk
    · subst h
      rw [List.getElem?_append_right (Nat.le_refl _)] at h1
      rw [List.getElem?_append_right (by rw [hv.len]; exact Nat.le_refl _)] at h2
      simp at h1
      rw [hv.len] at h2
      simp at h2
      subst h1 h2
      exact hr.keepR hk
    · rw [List.getElem?_eq_none (by simp; omega)] at h1; cases h1
  obtain ⟨A', c', e⟩ := hL.slice
  rw [List.length_append] at e
  subst e
  exact hK A' c' w' hL hk ((Below.refl _ _).grown hgrow hH (fun k hk => (hv.own.lt k hk).1))
/-- a line, as it is handed in -/
structure LineV where
  coef : List (Int × Int)
  kind : Int
  rhs : Int × Int
/-- At A lie the lines ls. -/
def LinesAt (w : World) (A : Option Addr) (ls : List LineV) : Prop := ∀ (k : Nat) (x : LineV), ls[k]? = some x → x.coef.length ≤ 1048576 ∧ I64 x.rhs.1 ∧ I64 x.rhs.2 ∧ ∃ b o C cc, A = some ⟨b, o, none⟩ ∧ FracsAt w C x.coef ∧
  w.cell? ⟨b, o + k * 4, none⟩ = some (.slice C x.coef.length cc) ∧ w.cell? ⟨b, o + k * 4 + 1, none⟩ = some (.int .i64 x.kind) ∧ w.cell? ⟨b, o + k * 4 + 2, none⟩ = some (.int .i64 x.rhs.1) ∧ w.cell? ⟨b, o + k * 4 + 3, none⟩ = some (.int .i64 x.rhs.2)
theorem LinesAt.below {w w' : World} {A : Option Addr} {ls : List LineV} (h : LinesAt w A ls) (hb : Below w.heap.size w w') : LinesAt w' A ls := by
  intro k x hx
  obtain ⟨h1, h2, h3, b, o, C, cc, h4, h5, h6, h7, h8, h9⟩ := h k x hx
  exact ⟨h1, h2, h3, b, o, C, cc, h4, h5.below hb, keepCell hb h6, keepCell hb h7, keepCell hb h8, keepCell hb h9⟩
theorem LinesAt.alloc {w : World} {A : Option Addr} {ls : List LineV} (h : LinesAt w A ls) (o : Obj) : LinesAt (w.alloc o) A ls := h.below (below_alloc w o)
theorem LinesAt.drew {w : World} {A : Option Addr} {ls : List LineV} (h : LinesAt w A ls) : LinesAt w.drew A ls := h.below (below_drewN' w 1)
theorem FracsAt.alloc {w : World} {A : Option Addr} {ps : List (Int × Int)} (h : FracsAt w A ps) (o : Obj) : FracsAt (w.alloc o) A ps := h.below (below_alloc w o)
theorem FracsAt.drew {w : World} {A : Option Addr} {ps : List (Int × Int)} (h : FracsAt w A ps) : FracsAt w.drew A ps := h.below (below_drewN' w 1)
def mkRow (x : LineV) : PRow := ⟨frs x.coef, x.kind, fr x.rhs.1 x.rhs.2⟩
/-- The coefficients' rows lie apart, and apart from the costs. -/
def Apart (C : Value) (l : List RR) : Prop := (∀ (i j : Nat) (ri rj : RR) (b : Nat), l[i]? = some ri → l[j]? = some rj → ri.c.ownBlock = some b → rj.c.ownBlock = some b → i = j) ∧ ∀ (i : Nat) (ri : RR) (b : Nat), l[i]? = some ri → ri.c.ownBlock = some b → C.ownBlock ≠ some b
theorem apart_nil (C : Value) : Apart C [] := ⟨fun i j ri rj b h => by simp at h, fun i ri b h => by simp at h⟩
theorem apart_append {C : Value} {l : List RR} {r : RR} {N : Nat} (h : Apart C l) (hl : ∀ (i : Nat) (ri : RR) (b : Nat), l[i]? = some ri → ri.c.ownBlock = some b → b < N) (hC : ∀ b, C.ownBlock = some b → b < N) (hr : ∀ b, r.c.ownBlock = some b → N ≤ b) : Apart C (l ++ [r]) := by
  have key : ∀ (i : Nat) (ri : RR), (l ++ [r])[i]? = some ri → (i < l.length ∧ l[i]? = some ri) ∨ (i = l.length ∧ ri = r) := by
    intro i ri hi
    rcases Nat.lt_trichotomy i l.length with h | h | h
    · rw [List.getElem?_append_left h] at hi; exact .inl ⟨h, hi⟩
    · subst h; rw [List.getElem?_append_right (Nat.le_refl _)] at hi; simp at hi; exact .inr ⟨rfl, hi.symm⟩
    · rw [List.getElem?_eq_none (by simp; omega)] at hi; cases hi
  refine ⟨fun i j ri rj b hi hj bi bj => ?_, fun i ri b hi bi hc => ?_⟩
  · rcases key i ri hi with ⟨h1, h2⟩ | ⟨h1, rfl⟩ <;> rcases key j rj hj with ⟨h3, h4⟩ | ⟨h3, rfl⟩
    · exact h.1 i j ri rj b h2 h4 bi bj
    · have := hl i ri b h2 bi; have := hr b bj; omega
    · have := hl j rj b h4 bj; have := hr b bi; omega
    · omega
  · rcases key i ri hi with ⟨h1, h2⟩ | ⟨h1, rfl⟩
    · exact h.2 i ri b h2 bi hc
    · have := hr b bi; have := hC b hc; omega
end Go.Proofs.Ytohkhcbocknliaa
