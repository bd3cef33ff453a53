/- Rows of fractions: what lies in memory, and the laws of it. Conditions: as each says. -/
import Derived.Test.YtohkhcbocknliaaRat1M
import Derived.Laws.AppendOwnNone
namespace Go.Proofs.Ytohkhcbocknliaa
set_option linter.unusedSimpArgs false
set_option linter.unusedVariables false
open Go.RowKit Am
set_option maxHeartbeats 1000000
set_option maxRecDepth 100000
theorem info_Rat : (Try.prog.info? 40).map (fun i => (i.zero, i.size, i.bytes)) = some (some (.agg #[.bool false, .slice none 0 0, .slice none 0 0]), 3, 56) := by kernel_rfl
/-- a fraction's cells -/
abbrev RV := Bool × Value × Value
def rcells (l : List RV) : List Value := l.flatMap fun r => [.bool r.1, r.2.1, r.2.2]
theorem rcells_cons (r : RV) (l : List RV) : rcells (r :: l) = .bool r.1 :: r.2.1 :: r.2.2 :: rcells l := by simp [rcells]
theorem rcells_len (l : List RV) : (rcells l).length = l.length * 3 := by
  induction l with
  | nil => rfl
  | cons r l ih => rw [rcells_cons]; simp [ih]; omega
theorem rcells_append (a b : List RV) : rcells (a ++ b) = rcells a ++ rcells b := by simp [rcells]
theorem rcells_get (l : List RV) : ∀ (k : Nat) (r : RV), l[k]? = some r → (rcells l)[k * 3]? = some (.bool r.1) ∧ (rcells l)[k * 3 + 1]? = some r.2.1 ∧ (rcells l)[k * 3 + 2]? = some r.2.2 := by
  induction l with
  | nil => intro k r h; simp at h
  | cons a l ih =>
    intro k r h
    rw [rcells_cons]
    cases k with
    | zero => simp at h; subst h; simp
    | succ k =>
      have := ih k r (by simpa using h)
      rw [show (k + 1) * 3 = k * 3 + 1 + 1 + 1 by omega]
      simpa using this
theorem rcells_set (l : List RV) : ∀ (k : Nat) (r : RV), (((rcells l).set (k * 3) (.bool r.1)).set (k * 3 + 1) r.2.1).set (k * 3 + 2) r.2.2 = rcells (l.set k r) := by
  induction l with
  | nil => intro k r; simp [rcells]
  | cons a l ih =>
    intro k r
    cases k with
    | zero => simp [rcells_cons]
    | succ k =>
      rw [show (k + 1) * 3 = k * 3 + 1 + 1 + 1 by omega, List.set_cons_succ, rcells_cons, rcells_cons, ← ih k r]
      simp
theorem RatS.shape {w : World} {g : Bool} {s d : Value} {q : Rat} (h : RatS w g s d q) : ∃ (A : Option Addr) (m c : Nat) (D : Option Addr) (md cd : Nat), s = .slice A m c ∧ d = .slice D md cd := by
  obtain ⟨A, m, c, rfl⟩ := h.num.abs.slice
  obtain ⟨D, md, cd, rfl⟩ := h.den.slice
  exact ⟨_, _, _, _, _, _, rfl, rfl⟩
theorem RatS.zero (w : World) : RatS w false (.slice none 0 0) (.slice none 0 0) 0 := ⟨⟨NatS.zero w, rfl⟩, NatS.zero w⟩
/-- All blocks but those of fractions are as they were. -/
def RatKeep (w w' : World) : Prop := ∀ k, k < w.heap.size → (∀ cs, w.heap[k]? ≠ some (.cells cs 40 (0, 0))) → w'.heap[k]? = w.heap[k]?
theorem NatS.keepT {w w' : World} {s : Value} {n : Nat} (h : NatS w s n) (hk : RatKeep w w') : NatS w' s n := by
  obtain ⟨xs, h2, h3⟩ := h
  refine ⟨xs, h2.keep fun k hb => hk k (h2.block hb) fun cs e => ?_, h3⟩
  exact ne_of_type h2.1 e (by decide) hb
theorem RatS.keepT {w w' : World} {g : Bool} {s d : Value} {q : Rat} (h : RatS w g s d q) (hk : RatKeep w w') : RatS w' g s d q := ⟨⟨h.num.abs.keepT hk, h.num.neg⟩, h.den.keepT hk⟩
/-- The slice v is a row of the fractions qs, at the head of a block, made since H. -/
structure VecS (w : World) (H : Nat) (v : Value) (qs : List Rat) : Prop where
  row : ∃ l : List RV, l.length = qs.length ∧ (∀ (k : Nat) (r : RV) (q : Rat), l[k]? = some r → qs[k]? = some q → RatS w r.1 r.2.1 r.2.2 q) ∧ w.ownsRow H 40 3 v qs.length (rcells l)
theorem ownKeep {w w' : World} {H : Nat} {e : TypeId} {size : Nat} {s : Value} {n : Nat} {ys : List Value} (h : w.ownsRow H e size s n ys) (hk : ∀ k, s.ownBlock = some k → w'.heap[k]? = w.heap[k]?) : w'.ownsRow H e size s n ys := by
  refine ⟨h.1, ?_⟩
  rcases h.2 with h2 | ⟨g, cap, cur, hv, hg, hh, r⟩
  · exact .inl h2
  · exact .inr ⟨g, cap, cur, hv, hg, by rw [hk g (by rw [hv]; rfl)]; exact hh, r⟩
namespace VecS
variable {w w' : World} {H : Nat} {v : Value} {qs : List Rat}
theorem lt (h : VecS w H v qs) {k : Nat} (hk : v.ownBlock = some k) : H ≤ k ∧ k < w.heap.size := by
  obtain ⟨l, _, _, h⟩ := h.row; exact h.lt k hk
theorem keepAll (h : VecS w H v qs) (hk : ∀ k, v.ownBlock = some k → w'.heap[k]? = w.heap[k]?) (hr : ∀ g s d q, RatS w g s d q → RatS w' g s d q) : VecS w' H v qs := by
  obtain ⟨l, h1, h2, h3⟩ := h.row
  exact ⟨l, h1, fun k r q a b => hr _ _ _ _ (h2 k r q a b), ownKeep h3 hk⟩
theorem below (h : VecS w H v qs) (hb : Below w.heap.size w w') : VecS w' H v qs := h.keepAll (fun k hk => hb.block k (h.lt hk).2) fun _ _ _ _ r => r.below hb
theorem alloc (h : VecS w H v qs) (o : Obj) : VecS (w.alloc o) H v qs := h.below (below_alloc w o)
theorem drew (h : VecS w H v qs) : VecS w.drew H v qs := h.below (below_drewN' w 1)
theorem base {H' : Nat} (h : VecS w H v qs) (hb : H' ≤ H) : VecS w H' v qs := by
  obtain ⟨l, h1, h2, h3⟩ := h.row; exact ⟨l, h1, h2, ownsRow_base h3 hb⟩
theorem setCell (h : VecS w H v qs) {p : Addr} {t : TypeId} {cs : Array Value} (hne : v.ownBlock ≠ some p.block) (hg : w.heap[p.block]? = some (.cells cs t (0, 0))) (ht : 95 ≠ t) (u : Value) : VecS (w.setCell p u) H v qs :=
  h.keepAll (fun k hk => Below.heap_setCell w p u k (fun e => hne (by rw [hk, e]))) fun _ _ _ _ r => ⟨⟨r.num.abs.setCell hg ht u, r.num.neg⟩, r.den.setCell hg ht u⟩
theorem nil (w : World) (H : Nat) : VecS w H (.slice none 0 0) [] := ⟨[], rfl, fun k r q h => by simp at h, World.ownsRow_nil _ _ _ _⟩
theorem form {A : Option Addr} {n c : Nat} (h : VecS w H (.slice A n c) qs) : n = qs.length ∧ n ≤ c ∧ c ≤ maxLen ∧ ((A = none ∧ c = 0 ∧ qs = []) ∨ ∃ g, A = some ⟨g, 0, none⟩ ∧ H ≤ g ∧ g < w.heap.size) := by
  obtain ⟨l, h1, _, h3⟩ := h.row
  rcases h3.2 with ⟨hv, hn⟩ | ⟨g, cap, cur, hv, hg, hh, hn, hm, _⟩
  · injection hv with e1 e2 e3
    subst e1 e2 e3
    exact ⟨hn.symm, Nat.le_refl _, Nat.zero_le _, .inl ⟨rfl, rfl, List.length_eq_zero_iff.1 hn⟩⟩
  · injection hv with e1 e2 e3
    subst e1 e2 e3
    exact ⟨rfl, hn, hm, .inr ⟨g, rfl, hg, (Array.getElem?_eq_some_iff.1 hh).1⟩⟩
theorem len {A : Option Addr} {n c : Nat} (h : VecS w H (.slice A n c) qs) : n = qs.length := h.form.1
theorem has {A : Option Addr} {n c : Nat} (h : VecS w H (.slice A n c) qs) (hn : 0 < n) : ∃ g, A = some ⟨g, 0, none⟩ ∧ H ≤ g ∧ g < w.heap.size := by
  obtain ⟨h1, h2, h3, h4 | h4⟩ := h.form
  · omega
  · exact h4
theorem slice (h : VecS w H v qs) : ∃ A n c, v = .slice A n c := by
  obtain ⟨l, h1, _, h3⟩ := h.row
  rcases h3.2 with ⟨hv, hn⟩ | ⟨g, cap, cur, hv, _⟩
  · exact ⟨_, _, _, hv⟩
  · exact ⟨_, _, _, hv⟩
theorem at_ {b n c : Nat} (h : VecS w H (.slice (some ⟨b, 0, none⟩) n c) qs) {k : Nat} {q : Rat} (hk : qs[k]? = some q) :
    ∃ (g : Bool) (A : Option Addr) (m c : Nat) (D : Option Addr) (md cd : Nat), w.cell? ⟨b, k * 3, none⟩ = some (.bool g) ∧ w.cell? ⟨b, k * 3 + 1, none⟩ = some (.slice A m c) ∧ w.cell? ⟨b, k * 3 + 2, none⟩ = some (.slice D md cd) ∧ RatS w g (.slice A m c) (.slice D md cd) q := by
  have hn := h.len
  subst hn
  obtain ⟨l, h1, h2, h3⟩ := h.row
  have hk' : k < qs.length := (List.getElem?_eq_some_iff.1 hk).1
  obtain ⟨r, hr⟩ : ∃ r, l[k]? = some r := ⟨l[k]'(by omega), List.getElem?_eq_getElem _⟩
  have hq := h2 k r q hr hk
  obtain ⟨A, m, c, D, md, cd, e1, e2⟩ := hq.shape
  obtain ⟨g0, g1, g2⟩ := rcells_get l k r hr
  refine ⟨r.1, A, m, c, D, md, cd, ?_, ?_, ?_, ?_⟩
  · rw [h3.cellAt _ (by omega)]; exact g0
  · rw [h3.cellAt _ (by omega), g1, e1]
  · rw [h3.cellAt _ (by omega), g2, e2]
  · rw [e1, e2] at hq; exact hq
theorem fro {b n c : Nat} (h : VecS w H (.slice (some ⟨b, 0, none⟩) n c) qs) (j : Nat) : w.frozen? ⟨b, j, none⟩ = false := by
  have hn := h.len
  subst hn
  obtain ⟨l, h1, h2, h3⟩ := h.row
  exact h3.frozenAt j
theorem store {b n c : Nat} (h : VecS w H (.slice (some ⟨b, 0, none⟩) n c) qs) (k : Nat) {g : Bool} {s d : Value} {q : Rat} (hq : RatS w g s d q) :
    VecS (((w.setCell ⟨b, k * 3, none⟩ (.bool g)).setCell ⟨b, k * 3 + 1, none⟩ s).setCell ⟨b, k * 3 + 2, none⟩ d) H (.slice (some ⟨b, 0, none⟩) n c) (qs.set k q) := by
  have hn := h.len
  subst hn
  obtain ⟨l, h1, h2, h3⟩ := h.row
  have hkeep : RatKeep w (((w.setCell ⟨b, k * 3, none⟩ (.bool g)).setCell ⟨b, k * 3 + 1, none⟩ s).setCell ⟨b, k * 3 + 2, none⟩ d) := by
    intro j hj hne
    have hjb : j ≠ b := by
      rintro rfl
      rcases h3.2 with ⟨hv, hn⟩ | ⟨g, cap, cur, hv, hg, hh, _⟩
      · cases hv
      · injection hv with e1; injection e1 with e1; injection e1 with e1; subst e1; exact hne _ hh
    rw [Below.heap_setCell _ _ _ _ (by exact hjb), Below.heap_setCell _ _ _ _ (by exact hjb), Below.heap_setCell _ _ _ _ (by exact hjb)]
  refine ⟨l.set k (g, s, d), by simp [h1], ?_, ?_⟩
  · intro j r q' hr hq'
    by_cases hj : k = j
    · subst hj
      have hkl := (List.getElem?_eq_some_iff.1 hr).1
      rw [List.length_set] at hkl
      rw [List.getElem?_set_self hkl] at hr
      rw [List.getElem?_set_self (by omega)] at hq'
      injection hr with hr
      injection hq' with hq'
      subst hr hq'
      exact hq.keepT hkeep
    · rw [List.getElem?_set_ne hj] at hr hq'
      exact (h2 j r q' hr hq').keepT hkeep
  · rw [List.length_set, ← rcells_set]
    exact (((h3.stored _ _).1.stored _ _).1.stored _ _).1
end VecS
theorem ratKeep_grown {w w' : World} {H : Nat} {v : Value} {n : Nat} {xs : List Value} (h : w.ownsRow H 40 3 v n xs) (hg : w.grownBy w' v.ownBlock) : RatKeep w w' := by
  intro k hk hne
  refine hg.block k hk fun e => ?_
  rcases h.2 with ⟨hv, _⟩ | ⟨g, cap, cur, hv, _, hh, _⟩
  · rw [hv] at e; cases e
  · rw [hv] at e; injection e with e; subst e; exact hne _ hh
/-- 'append(v, r)', v the call's own. -/
theorem VecS.append {w w' : World} {H : Nat} {v v' : Value} {qs : List Rat} {l : List RV} (hl : l.length = qs.length) (hr : ∀ (k : Nat) (r : RV) (q : Rat), l[k]? = some r → qs[k]? = some q → RatS w r.1 r.2.1 r.2.2 q) (hv : w.ownsRow H 40 3 v qs.length (rcells l))
    {g : Bool} {s d : Value} {q : Rat} (hq : RatS w g s d q) (hown : w'.ownsRow H 40 3 v' (qs.length + 1) (rcells l ++ [.bool g, s, d])) (hg : w.grownBy w' v.ownBlock) : VecS w' H v' (qs ++ [q]) := by
  have hk := ratKeep_grown hv hg
  refine ⟨l ++ [(g, s, d)], by simp [hl], ?_, ?_⟩
  · intro k r q' h1 h2
    rcases Nat.lt_trichotomy k l.length with h | h | h
    · rw [List.getElem?_append_left h] at h1
      rw [List.getElem?_append_left (by omega)] at h2
      exact (hr k r q' h1 h2).keepT hk
    · subst h
      rw [List.getElem?_append_right (Nat.le_refl _)] at h1
      rw [List.getElem?_append_right (by omega)] at h2
      simp at h1
      rw [hl] at h2
      simp at h2
      subst h1 h2
      exact hq.keepT hk
    · rw [List.getElem?_eq_none (by simp; omega)] at h1; cases h1
  · rw [List.length_append, rcells_append]; exact hown
theorem wpList_append_vec {w : World} {ops : Array Oper} {rest : List Oper} {o : Oper} {a : Act} {Q : Exit → Act → World → Prop} (hgd : o.guard = none) (s x : Operand)
    (ho : o.op = .call { callee := .builtin .append, args := #[s, x], argTypes := #[28, 28] }) {H : Nat} {v : Value} {qs : List Rat} (hs : a.eval s = v) (hv : VecS w H v qs) {b : Nat} (hx : a.eval x = .slice (some ⟨b, 0, none⟩) 1 1)
    {g : Bool} {A : Option Addr} {m c : Nat} {D : Option Addr} {md cd : Nat} {q : Rat} (hb : w.heap[b]? = some (.cells #[.bool g, .slice A m c, .slice D md cd] 40 (0, 0))) (hq : RatS w g (.slice A m c) (.slice D md cd) q) (hlen : qs.length + 1 ≤ 2000000) (hH : H ≤ w.heap.size)
    (hK : ∀ A' n' c' w', VecS w' H (.slice A' n' c') (qs ++ [q]) → Below H w w' → n' = qs.length + 1 → wpList Try.prog ops Q rest (a.put o.dst (.slice A' n' c')) w') : wpList Try.prog ops Q (o :: rest) a w := by
  obtain ⟨i0, hi, hz0, hz1, hz2⟩ := info_parts info_Rat
  obtain ⟨l, h1, h2, h3⟩ := hv.row
  have hcell := fun i => blk_cell hb i
  refine wpList_append_own w hgd s x 28 ho H 40 i0 _ 3 56 Try.underlying28 hi hz0 hz1 hz2 rfl (by decide) v qs.length (rcells l) hs h3 ⟨b, 0, none⟩ 1 _ [.bool g, .slice A m c, .slice D md cd] hx rfl
    (by intro j u hu
        match j, hu with
        | 0, hu => exact (hcell 0).trans hu
        | 1, hu => exact (hcell 1).trans hu
        | 2, hu => exact (hcell 2).trans hu
        | j + 3, hu => simp at hu)
    (by intro u hu; simp at hu; rcases hu with rfl | rfl | rfl <;> rfl) (by unfold maxLen; omega) (by omega) hH ?_
  intro v' w' hown hgrow _
  have hvs := VecS.append h1 h2 h3 hq hown hgrow
  obtain ⟨A', n', c', rfl⟩ := hvs.slice
  refine hK A' n' c' w' hvs ((Below.refl _ _).grown hgrow hH (fun k hk => (hv.lt hk).1)) (by rw [hvs.len]; simp)
/-- What a call that hands back a row says. -/
def RetVec (w : World) (qs : List Rat) (e : Ending) (w' : World) : Prop := ∃ (A : Option Addr) (n c : Nat), e = .returned (.slice A n c) ∧ VecS w' w.heap.size (.slice A n c) qs ∧ Below w.heap.size w w'
def RetVecB (w : World) (qs : List Rat) (b : Bool) (e : Ending) (w' : World) : Prop := ∃ (A : Option Addr) (n c : Nat), e = .returned (.tuple #[.slice A n c, .bool b]) ∧ VecS w' w.heap.size (.slice A n c) qs ∧ Below w.heap.size w w'
end Go.Proofs.Ytohkhcbocknliaa
