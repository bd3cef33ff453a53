/- Problems: what lies in memory, and the laws of it. Conditions: as each says. -/
import Derived.Test.YtohkhcbocknliaaVec1M
namespace Go.Proofs.Ytohkhcbocknliaa
set_option linter.unusedSimpArgs false
set_option linter.unusedVariables false
open Go.RowKit Am
set_option maxHeartbeats 1000000
set_option maxRecDepth 100000
theorem info_Row : (Try.prog.info? 48).map (fun i => (i.zero, i.size, i.bytes)) = some (some (.agg #[.slice none 0 0, .int .i64 0, .bool false, .slice none 0 0, .slice none 0 0]), 5, 88) := by kernel_rfl
/-- a row of a problem -/
structure PRow where
  coef : List Rat
  kind : Int
  rhs : Rat
instance : Inhabited PRow := ⟨⟨[], 0, 0⟩⟩
/-- a row's cells -/
structure RR where
  c : Value
  k : Int
  g : Bool
  s : Value
  d : Value
def wcellsR (l : List RR) : List Value := l.flatMap fun r => [r.c, .int .i64 r.k, .bool r.g, r.s, r.d]
theorem wcellsR_cons (r : RR) (l : List RR) : wcellsR (r :: l) = r.c :: .int .i64 r.k :: .bool r.g :: r.s :: r.d :: wcellsR l := by simp [wcellsR]
theorem wcellsR_append (a b : List RR) : wcellsR (a ++ b) = wcellsR a ++ wcellsR b := by simp [wcellsR]
theorem wcellsR_get (l : List RR) : ∀ (k : Nat) (r : RR), l[k]? = some r → (wcellsR l)[k * 5]? = some r.c ∧ (wcellsR l)[k * 5 + 1]? = some (.int .i64 r.k) ∧ (wcellsR l)[k * 5 + 2]? = some (.bool r.g) ∧ (wcellsR l)[k * 5 + 3]? = some r.s ∧ (wcellsR l)[k * 5 + 4]? = some r.d := by
  induction l with
  | nil => intro k r h; simp at h
  | cons a l ih =>
    intro k r h
    rw [wcellsR_cons]
    cases k with
    | zero => simp at h; subst h; simp
    | succ k =>
      have := ih k r (by simpa using h)
      rw [show (k + 1) * 5 = k * 5 + 1 + 1 + 1 + 1 + 1 by omega]
      simpa using this
/-- a store into the first cell, into the second one, of the row number k -/
theorem wcellsR_setC (l : List RR) : ∀ (k : Nat) (c : Value), (wcellsR l).set (k * 5) c = wcellsR (l.modify k fun r => { r with c := c }) := by
  induction l with
  | nil => intro k c; simp [wcellsR]
  | cons a l ih =>
    intro k c
    cases k with
    | zero => simp [wcellsR_cons]
    | succ k => rw [show (k + 1) * 5 = k * 5 + 1 + 1 + 1 + 1 + 1 by omega, wcellsR_cons]; simp [wcellsR_cons, ih]
theorem wcellsR_setK (l : List RR) : ∀ (k : Nat) (z : Int), (wcellsR l).set (k * 5 + 1) (.int .i64 z) = wcellsR (l.modify k fun r => { r with k := z }) := by
  induction l with
  | nil => intro k c; simp [wcellsR]
  | cons a l ih =>
    intro k z
    cases k with
    | zero => simp [wcellsR_cons]
    | succ k => rw [show (k + 1) * 5 + 1 = (k * 5 + 1) + 1 + 1 + 1 + 1 + 1 by omega, wcellsR_cons]; simp [wcellsR_cons, ih]
structure RowS (w : World) (r : RR) (p : PRow) : Prop where
  coef : VecS w 0 r.c p.coef
  kind : r.k = p.kind
  rhs : RatS w r.g r.s r.d p.rhs
/-- The slice v is the rows ps, at the head of a block, made since H. -/
structure RowsS (w : World) (H : Nat) (v : Value) (ps : List PRow) : Prop where
  row : ∃ l : List RR, l.length = ps.length ∧ (∀ (k : Nat) (r : RR) (p : PRow), l[k]? = some r → ps[k]? = some p → RowS w r p) ∧ w.ownsRow H 48 5 v ps.length (wcellsR l)
theorem RowS.below {w w' : World} {r : RR} {p : PRow} (h : RowS w r p) (hb : Below w.heap.size w w') : RowS w' r p := ⟨h.coef.below hb, h.kind, h.rhs.below hb⟩
namespace RowsS
variable {w w' : World} {H : Nat} {v : Value} {ps : List PRow}
theorem lt (h : RowsS w H v ps) {k : Nat} (hk : v.ownBlock = some k) : H ≤ k ∧ k < w.heap.size := by
  obtain ⟨l, _, _, h⟩ := h.row; exact h.lt k hk
theorem keepAll (h : RowsS w H v ps) (hk : ∀ k, v.ownBlock = some k → w'.heap[k]? = w.heap[k]?) (hr : ∀ r p, RowS w r p → RowS w' r p) : RowsS w' H v ps := by
  obtain ⟨l, h1, h2, h3⟩ := h.row
  exact ⟨l, h1, fun k r q a b => hr _ _ (h2 k r q a b), ownKeep h3 hk⟩
theorem below (h : RowsS w H v ps) (hb : Below w.heap.size w w') : RowsS w' H v ps := h.keepAll (fun k hk => hb.block k (h.lt hk).2) fun _ _ r => r.below hb
theorem alloc (h : RowsS w H v ps) (o : Obj) : RowsS (w.alloc o) H v ps := h.below (below_alloc w o)
theorem drew (h : RowsS w H v ps) : RowsS w.drew H v ps := h.below (below_drewN' w 1)
theorem base {H' : Nat} (h : RowsS w H v ps) (hb : H' ≤ H) : RowsS w H' v ps := by
  obtain ⟨l, h1, h2, h3⟩ := h.row; exact ⟨l, h1, h2, ownsRow_base h3 hb⟩
theorem nil (w : World) (H : Nat) : RowsS w H (.slice none 0 0) [] := ⟨[], rfl, fun k r q h => by simp at h, World.ownsRow_nil _ _ _ _⟩
theorem form {A : Option Addr} {n c : Nat} (h : RowsS w H (.slice A n c) ps) : n = ps.length ∧ n ≤ c ∧ c ≤ maxLen ∧ ((A = none ∧ c = 0 ∧ ps = []) ∨ ∃ g, A = some ⟨g, 0, none⟩ ∧ H ≤ g ∧ g < w.heap.size) := by
  obtain ⟨l, h1, _, h3⟩ := h.row
  rcases h3.2 with ⟨hv, hn⟩ | ⟨g, cap, cur, hv, hg, hh, hn, hm, _⟩
  · injection hv with e1 e2 e3
    subst e1 e2 e3
    exact ⟨hn.symm, Nat.le_refl _, Nat.zero_le _, .inl ⟨rfl, rfl, List.length_eq_zero_iff.1 hn⟩⟩
  · injection hv with e1 e2 e3
    subst e1 e2 e3
    exact ⟨rfl, hn, hm, .inr ⟨g, rfl, hg, (Array.getElem?_eq_some_iff.1 hh).1⟩⟩
theorem len {A : Option Addr} {n c : Nat} (h : RowsS w H (.slice A n c) ps) : n = ps.length := h.form.1
theorem has {A : Option Addr} {n c : Nat} (h : RowsS w H (.slice A n c) ps) (hn : 0 < n) : ∃ g, A = some ⟨g, 0, none⟩ ∧ H ≤ g ∧ g < w.heap.size := by
  obtain ⟨h1, h2, h3, h4 | h4⟩ := h.form
  · omega
  · exact h4
theorem slice (h : RowsS w H v ps) : ∃ A n c, v = .slice A n c := by
  obtain ⟨l, h1, _, h3⟩ := h.row
  rcases h3.2 with ⟨hv, hn⟩ | ⟨g, cap, cur, hv, _⟩
  · exact ⟨_, _, _, hv⟩
  · exact ⟨_, _, _, hv⟩
theorem fro {b n c : Nat} (h : RowsS w H (.slice (some ⟨b, 0, none⟩) n c) ps) (j : Nat) : w.frozen? ⟨b, j, none⟩ = false := by
  have hn := h.len
  subst hn
  obtain ⟨l, h1, h2, h3⟩ := h.row
  exact h3.frozenAt j
theorem at_ {b n c : Nat} (h : RowsS w H (.slice (some ⟨b, 0, none⟩) n c) ps) {k : Nat} {p : PRow} (hk : ps[k]? = some p) :
    ∃ (C : Option Addr) (nc cc : Nat) (g : Bool) (A : Option Addr) (m c : Nat) (D : Option Addr) (md cd : Nat), w.cell? ⟨b, k * 5, none⟩ = some (.slice C nc cc) ∧ w.cell? ⟨b, k * 5 + 1, none⟩ = some (.int .i64 p.kind) ∧ w.cell? ⟨b, k * 5 + 2, none⟩ = some (.bool g) ∧
      w.cell? ⟨b, k * 5 + 3, none⟩ = some (.slice A m c) ∧ w.cell? ⟨b, k * 5 + 4, none⟩ = some (.slice D md cd) ∧ VecS w 0 (.slice C nc cc) p.coef ∧ RatS w g (.slice A m c) (.slice D md cd) p.rhs := by
  have hn := h.len
  subst hn
  obtain ⟨l, h1, h2, h3⟩ := h.row
  have hk' : k < ps.length := (List.getElem?_eq_some_iff.1 hk).1
  obtain ⟨r, hr⟩ : ∃ r, l[k]? = some r := ⟨l[k]'(by omega), List.getElem?_eq_getElem _⟩
  have hq := h2 k r p hr hk
  obtain ⟨C, nc, cc, e0⟩ := hq.coef.slice
  obtain ⟨A, m, c, D, md, cd, e1, e2⟩ := hq.rhs.shape
  obtain ⟨g0, g1, g2, g3, g4⟩ := wcellsR_get l k r hr
  refine ⟨C, nc, cc, r.g, A, m, c, D, md, cd, ?_, ?_, ?_, ?_, ?_, ?_, ?_⟩
  · rw [h3.cellAt _ (by omega), g0, e0]
  · rw [h3.cellAt _ (by omega), g1, hq.kind]
  · rw [h3.cellAt _ (by omega)]; exact g2
  · rw [h3.cellAt _ (by omega), g3, e1]
  · rw [h3.cellAt _ (by omega), g4, e2]
  · rw [← e0]; exact hq.coef
  · rw [← e1, ← e2]; exact hq.rhs
end RowsS
end Go.Proofs.Ytohkhcbocknliaa
