/- Words in memory: a slice that reads as words, a number; what keeps them. Conditions: none. -/
import Derived.Test.YtohkhcbocknliaaWordM
import Derived.Deep.RegionHeld3
import Derived.Deep.AppendLies
import Derived.Deep.DrawnRows
import Derived.WalkSmall
namespace Go.Proofs.Ytohkhcbocknliaa
open Go.RowKit Am

/-- A bound that no number here reaches, in words: behind a name, so that no walk counts it up. -/
def LIM : Nat := 1099511627776
theorem LIM_eq : LIM = 1099511627776 := rfl
def wcells (xs : List Nat) : List Value := xs.map fun (x : Nat) => Value.int .u64 (x : Int)
theorem wcells_len (xs : List Nat) : (wcells xs).length = xs.length := by simp [wcells]
theorem wcells_get {xs : List Nat} {k : Nat} (hk : k < xs.length) : (wcells xs)[k]? = some (.int .u64 ((wd xs k : Nat) : Int)) := by
  simp [wcells, wd, hk]
theorem wcells_set (xs : List Nat) (k v : Nat) : wcells (xs.set k v) = (wcells xs).set k (.int .u64 (v : Int)) := by simp [wcells]
theorem wcells_zero (n : Nat) : wcells (List.replicate n 0) = List.replicate n (.int .u64 0) := by simp [wcells]
theorem wcells_append (xs ys : List Nat) : wcells (xs ++ ys) = wcells xs ++ wcells ys := by simp [wcells]
theorem wcells_take (xs : List Nat) (k : Nat) : wcells (xs.take k) = (wcells xs).take k := by simp [wcells]
theorem wcells_one (xs : List Nat) : ∀ u ∈ wcells xs, u.oneCell' = true := by
  intro u hu; simp only [wcells, List.mem_map] at hu; obtain ⟨x, _, rfl⟩ := hu; rfl

theorem info_u64 : (Try.prog.info? 95).map (fun i => (i.zero, i.size, i.bytes)) = some (some (.int .u64 0), 1, 8) := by kernel_rfl

/-- The slice s holds the words xs, at the head of a block of words. -/
def SW (w : World) (s : Value) (xs : List Nat) : Prop := w.ownsRow 0 95 1 s xs.length (wcells xs) ∧ Wds xs
/-- A number's slice s is the number n. -/
def NatS (w : World) (s : Value) (n : Nat) : Prop := ∃ xs, SW w s xs ∧ Canon xs ∧ nval xs = n
/-- Is it 0? -/
def isZ (n : Nat) : Bool := decide (n = 0)
theorem isZ_pos {n : Nat} (h : 0 < n) : isZ n = false := by unfold isZ; rw [decide_eq_false_iff_not]; omega
section
variable {w w' : World} {s : Value} {xs : List Nat} {n : Nat}
theorem ownsRow_base {base b' : Nat} {e : TypeId} {size : Nat} {ys : List Value} (h : w.ownsRow base e size s n ys) (hb : b' ≤ base) : w.ownsRow b' e size s n ys := by
  obtain ⟨h1, h2⟩ := h
  refine ⟨h1, ?_⟩
  rcases h2 with h2 | ⟨g, cap, cur, hv, hg, r⟩
  · exact .inl h2
  · exact .inr ⟨g, cap, cur, hv, by omega, r⟩
theorem SW.of_own {base : Nat} (h : w.ownsRow base 95 1 s xs.length (wcells xs)) (hw : Wds xs) : SW w s xs := ⟨ownsRow_base h (Nat.zero_le _), hw⟩
theorem SW.block (h : SW w s xs) {k : Nat} (hk : s.ownBlock = some k) : k < w.heap.size := (h.1.lt k hk).2
theorem SW.keep (h : SW w s xs) (hk : ∀ k, s.ownBlock = some k → w'.heap[k]? = w.heap[k]?) : SW w' s xs := by
  refine ⟨⟨h.1.1, ?_⟩, h.2⟩
  rcases h.1.2 with h2 | ⟨g, cap, cur, hv, hg, hh, r⟩
  · exact .inl h2
  · exact .inr ⟨g, cap, cur, hv, hg, by rw [hk g (by rw [hv]; rfl)]; exact hh, r⟩
theorem SW.below (h : SW w s xs) (hb : Below w.heap.size w w') : SW w' s xs := h.keep fun k hk => hb.block k (h.block hk)
theorem SW.drewN (h : SW w s xs) (k : Nat) : SW (w.drewN k) s xs := h.keep fun _ _ => rfl
theorem SW.alloc (h : SW w s xs) (o : Obj) : SW (w.alloc o) s xs := h.keep fun k hk => Below.heap_alloc w o k (h.block hk)
theorem SW.nil (w : World) : SW w (.slice none 0 0) [] := ⟨World.ownsRow_nil _ _ _ _, Wds.nil⟩
/-- Nil, or a row. -/
theorem SW.form (h : SW w s xs) : (s = .slice none 0 0 ∧ xs = []) ∨ ∃ g cap, s = .slice (some ⟨g, 0, none⟩) xs.length cap ∧ g < w.heap.size ∧ xs.length ≤ cap ∧ cap ≤ maxLen ∧
    (∀ k, k < xs.length → w.cell? ⟨g, k, none⟩ = some (.int .u64 ((wd xs k : Nat) : Int))) := by
  rcases h.1.2 with ⟨h1, h2⟩ | ⟨g, cap, cur, hv, hg, hh, hn, hm, _⟩
  · exact .inl ⟨h1, List.length_eq_zero_iff.1 h2⟩
  · refine .inr ⟨g, cap, hv, (h.1.lt g (by rw [hv]; rfl)).2, hn, hm, fun k hk => ?_⟩
    have hr : w.ownsRow 0 95 1 (.slice (some ⟨g, 0, none⟩) xs.length cap) xs.length (wcells xs) := hv ▸ h.1
    rw [hr.cellAt k (by omega), wcells_get hk]
theorem SW.len_le (h : SW w s xs) : xs.length ≤ 9223372036854775807 := by
  rcases h.form with ⟨_, rfl⟩ | ⟨g, cap, _, _, h1, h2, _⟩
  · simp
  · unfold maxLen at h2; omega
theorem SW.slice (h : SW w s xs) : ∃ A m c, s = .slice A m c := by
  rcases h.form with ⟨rfl, rfl⟩ | ⟨g, cap, rfl, _⟩
  · exact ⟨_, _, _, rfl⟩
  · exact ⟨_, _, _, rfl⟩
theorem SW.len_eq {A : Option Addr} {m c : Nat} (h : SW w (.slice A m c) xs) : m = xs.length := by
  rcases h.form with ⟨h1, rfl⟩ | ⟨g, cap, h1, _⟩
  · injection h1
  · injection h1
theorem SW.setCell (h : SW w s xs) {p : Addr} (hne : s.ownBlock ≠ some p.block) (u : Value) : SW (w.setCell p u) s xs :=
  h.keep fun k hk => Below.heap_setCell w p u k (fun e => hne (by rw [hk, e]))
theorem NatS.slice (h : NatS w s n) : ∃ A m c, s = .slice A m c := by obtain ⟨xs, h, _⟩ := h; exact h.slice
/-- A store into a block of another type turns no number. -/
theorem ne_of_type {base : Nat} {e t : TypeId} {size : Nat} {ys : List Value} {cs : Array Value} {g : Nat} (h : w.ownsRow base e size s n ys) (hg : w.heap[g]? = some (.cells cs t (0, 0))) (hne : e ≠ t) : s.ownBlock ≠ some g := by
  rcases h.2 with ⟨rfl, _⟩ | ⟨g', cap, cur, rfl, _, hh, _⟩
  · simp [Value.ownBlock]
  · intro he
    have : g' = g := by simpa [Value.ownBlock] using he
    subst this
    rw [hh] at hg
    injection hg with hg
    injection hg with _ ht
    exact hne ht
theorem NatS.setCell (h : NatS w s n) {p : Addr} {t : TypeId} {cs : Array Value} (hg : w.heap[p.block]? = some (.cells cs t (0, 0))) (hne : 95 ≠ t) (u : Value) : NatS (w.setCell p u) s n := by
  obtain ⟨xs, h2, h3⟩ := h; exact ⟨xs, h2.setCell (ne_of_type h2.1 hg hne) u, h3⟩
theorem NatS.mk (h : SW w s xs) (hc : Canon xs) : NatS w s (nval xs) := ⟨xs, h, hc, rfl⟩
theorem NatS.below (h : NatS w s n) (hb : Below w.heap.size w w') : NatS w' s n := by
  obtain ⟨xs, h2, h3⟩ := h; exact ⟨xs, h2.below hb, h3⟩
theorem NatS.drewN (h : NatS w s n) (k : Nat) : NatS (w.drewN k) s n := by
  obtain ⟨xs, h2, h3⟩ := h; exact ⟨xs, h2.drewN k, h3⟩
theorem NatS.drew (h : NatS w s n) : NatS w.drew s n := h.drewN 1
theorem NatS.alloc (h : NatS w s n) (o : Obj) : NatS (w.alloc o) s n := by
  obtain ⟨xs, h2, h3⟩ := h; exact ⟨xs, h2.alloc o, h3⟩
theorem NatS.zero (w : World) : NatS w (.slice none 0 0) 0 := ⟨[], SW.nil w, canon_nil, rfl⟩
theorem NatS.words {A : Option Addr} {m c : Nat} (h : NatS w (.slice A m c) n) : ∃ xs, SW w (.slice A xs.length c) xs ∧ Canon xs ∧ nval xs = n ∧ xs.length = wlen n ∧ m = xs.length := by
  obtain ⟨xs, h1, h2, h3⟩ := h
  have := h1.len_eq
  subst this
  exact ⟨xs, h1, h2, h3, by rw [← h3]; exact len_canon xs h1.2 h2, rfl⟩
theorem NatS.len (h : NatS w s n) : ∃ xs, SW w s xs ∧ Canon xs ∧ nval xs = n ∧ xs.length = wlen n := by
  obtain ⟨xs, h1, h2, h3⟩ := h; exact ⟨xs, h1, h2, h3, by rw [← h3]; exact len_canon xs h1.2 h2⟩
theorem below_alloc (w : World) (o : Obj) : Below w.heap.size w (w.alloc o) := (Below.refl _ _).alloc (Nat.le_refl _) o
theorem below_drewN' (w : World) (n : Nat) : Below w.heap.size w (w.drewN n) := ⟨rfl, rfl, rfl, Nat.le_refl _, fun _ _ => rfl⟩
theorem bdrewN {B : Nat} {a : World} (h : Below B a w) (n : Nat) : Below B a (w.drewN n) := ⟨h.os, h.tape, h.output, h.size, h.block⟩
theorem bstep {B : Nat} {a : World} (h : Below B a w) (hb : Below w.heap.size w w') (hB : B ≤ w.heap.size) : Below B a w' := h.trans (hb.mono hB)
end

theorem keepBlk {w w1 : World} (hb : Below w.heap.size w w1) {b : Nat} {o : Obj} (h : w.heap[b]? = some o) : w1.heap[b]? = some o :=
  (hb.block b (Array.getElem?_eq_some_iff.1 h).1).trans h
theorem blk_new (w : World) (cs : Array Value) (t : TypeId) : (w.alloc (.cells cs t)).heap[w.heap.size]? = some (.cells cs t (0, 0)) := heap_alloc_new w _
theorem blk_cell {w : World} {g : Nat} {cs : Array Value} {t : TypeId} (h : w.heap[g]? = some (.cells cs t (0, 0))) (i : Nat) : w.cell? ⟨g, i, none⟩ = cs[i]? := cell_of_row w g i cs t (0, 0) h
theorem blk_fro {w : World} {g : Nat} {cs : Array Value} {t : TypeId} (h : w.heap[g]? = some (.cells cs t (0, 0))) (i : Nat) : w.frozen? ⟨g, i, none⟩ = false := frozen_of_row w g i cs t h
theorem keepCell {w w1 : World} (hb : Below w.heap.size w w1) {b o : Nat} {v : Value} (h : w.cell? ⟨b, o, none⟩ = some v) : w1.cell? ⟨b, o, none⟩ = some v :=
  (hb.cell (p := ⟨b, o, none⟩) (World.block_lt_of_cell? w ⟨b, o, none⟩ h)).trans h
theorem drewCell {w : World} {p : Addr} {v : Value} (h : w.cell? p = some v) : w.drew.cell? p = some v := h
theorem bc1 {w : World} {b : Nat} {a0 : Value} {t : TypeId} (h : w.heap[b]? = some (.cells #[a0] t (0, 0))) : w.cell? ⟨b, 0, none⟩ = some a0 ∧ w.drew.cell? ⟨b, 0, none⟩ = some a0 := ⟨blk_cell h 0, blk_cell h 0⟩
theorem bf1 {w : World} {b : Nat} {a0 : Value} {t : TypeId} (h : w.heap[b]? = some (.cells #[a0] t (0, 0))) : w.cell? ⟨b, 0, none⟩ = some a0 ∧ w.drew.cell? ⟨b, 0, none⟩ = some a0 ∧ w.frozen? ⟨b, 0, none⟩ = false ∧ w.drew.frozen? ⟨b, 0, none⟩ = false := ⟨blk_cell h 0, blk_cell h 0, blk_fro h 0, blk_fro h 0⟩
theorem bc2 {w : World} {b : Nat} {a0 a1 : Value} {t : TypeId} (h : w.heap[b]? = some (.cells #[a0, a1] t (0, 0))) : w.cell? ⟨b, 0, none⟩ = some a0 ∧ w.drew.cell? ⟨b, 0, none⟩ = some a0 ∧ w.cell? ⟨b, 1, none⟩ = some a1 ∧ w.drew.cell? ⟨b, 1, none⟩ = some a1 := ⟨blk_cell h 0, blk_cell h 0, blk_cell h 1, blk_cell h 1⟩
theorem bf2 {w : World} {b : Nat} {a0 a1 : Value} {t : TypeId} (h : w.heap[b]? = some (.cells #[a0, a1] t (0, 0))) : w.cell? ⟨b, 0, none⟩ = some a0 ∧ w.drew.cell? ⟨b, 0, none⟩ = some a0 ∧ w.frozen? ⟨b, 0, none⟩ = false ∧ w.drew.frozen? ⟨b, 0, none⟩ = false ∧ w.cell? ⟨b, 1, none⟩ = some a1 ∧ w.drew.cell? ⟨b, 1, none⟩ = some a1 ∧ w.frozen? ⟨b, 1, none⟩ = false ∧ w.drew.frozen? ⟨b, 1, none⟩ = false := ⟨blk_cell h 0, blk_cell h 0, blk_fro h 0, blk_fro h 0, blk_cell h 1, blk_cell h 1, blk_fro h 1, blk_fro h 1⟩
theorem bc3 {w : World} {b : Nat} {a0 a1 a2 : Value} {t : TypeId} (h : w.heap[b]? = some (.cells #[a0, a1, a2] t (0, 0))) : w.cell? ⟨b, 0, none⟩ = some a0 ∧ w.drew.cell? ⟨b, 0, none⟩ = some a0 ∧ w.cell? ⟨b, 1, none⟩ = some a1 ∧ w.drew.cell? ⟨b, 1, none⟩ = some a1 ∧ w.cell? ⟨b, 2, none⟩ = some a2 ∧ w.drew.cell? ⟨b, 2, none⟩ = some a2 := ⟨blk_cell h 0, blk_cell h 0, blk_cell h 1, blk_cell h 1, blk_cell h 2, blk_cell h 2⟩
theorem bf3 {w : World} {b : Nat} {a0 a1 a2 : Value} {t : TypeId} (h : w.heap[b]? = some (.cells #[a0, a1, a2] t (0, 0))) : w.cell? ⟨b, 0, none⟩ = some a0 ∧ w.drew.cell? ⟨b, 0, none⟩ = some a0 ∧ w.frozen? ⟨b, 0, none⟩ = false ∧ w.drew.frozen? ⟨b, 0, none⟩ = false ∧ w.cell? ⟨b, 1, none⟩ = some a1 ∧ w.drew.cell? ⟨b, 1, none⟩ = some a1 ∧ w.frozen? ⟨b, 1, none⟩ = false ∧ w.drew.frozen? ⟨b, 1, none⟩ = false ∧ w.cell? ⟨b, 2, none⟩ = some a2 ∧ w.drew.cell? ⟨b, 2, none⟩ = some a2 ∧ w.frozen? ⟨b, 2, none⟩ = false ∧ w.drew.frozen? ⟨b, 2, none⟩ = false := ⟨blk_cell h 0, blk_cell h 0, blk_fro h 0, blk_fro h 0, blk_cell h 1, blk_cell h 1, blk_fro h 1, blk_fro h 1, blk_cell h 2, blk_cell h 2, blk_fro h 2, blk_fro h 2⟩
theorem bc5 {w : World} {b : Nat} {a0 a1 a2 a3 a4 : Value} {t : TypeId} (h : w.heap[b]? = some (.cells #[a0, a1, a2, a3, a4] t (0, 0))) : w.cell? ⟨b, 0, none⟩ = some a0 ∧ w.drew.cell? ⟨b, 0, none⟩ = some a0 ∧ w.cell? ⟨b, 1, none⟩ = some a1 ∧ w.drew.cell? ⟨b, 1, none⟩ = some a1 ∧ w.cell? ⟨b, 2, none⟩ = some a2 ∧ w.drew.cell? ⟨b, 2, none⟩ = some a2 ∧ w.cell? ⟨b, 3, none⟩ = some a3 ∧ w.drew.cell? ⟨b, 3, none⟩ = some a3 ∧ w.cell? ⟨b, 4, none⟩ = some a4 ∧ w.drew.cell? ⟨b, 4, none⟩ = some a4 := ⟨blk_cell h 0, blk_cell h 0, blk_cell h 1, blk_cell h 1, blk_cell h 2, blk_cell h 2, blk_cell h 3, blk_cell h 3, blk_cell h 4, blk_cell h 4⟩
theorem keepCell' {B : Nat} {w w1 : World} (hb : Below B w w1) {b o : Nat} {v : Value} (hlt : b < B) (h : w.cell? ⟨b, o, none⟩ = some v) : w1.cell? ⟨b, o, none⟩ = some v :=
  (hb.cell (p := ⟨b, o, none⟩) hlt).trans h
/-- A slice that reads as the words xs, wherever it begins. -/
def SR (w : World) (s : Value) (xs : List Nat) : Prop := ∃ A c, s = .slice A xs.length c ∧ xs.length ≤ c ∧ c ≤ 9223372036854775807 ∧ Wds xs ∧ (A = none → xs = [] ∧ c = 0) ∧
  ∀ ad, A = some ad → ∀ j u, (wcells xs)[j]? = some u → w.cell? (ad.add j) = some u
theorem SW.reads {w : World} {s : Value} {xs : List Nat} (h : SW w s xs) : SR w s xs := by
  rcases h.form with ⟨rfl, rfl⟩ | ⟨g, cap, rfl, hg, hcap, hm, hc⟩
  · exact ⟨none, 0, rfl, Nat.le_refl _, by decide, Wds.nil, fun _ => ⟨rfl, rfl⟩, fun ad h => by cases h⟩
  · refine ⟨_, cap, rfl, hcap, by unfold maxLen at hm; omega, h.2, (fun h => by cases h), fun ad he j u hu => ?_⟩
    obtain rfl := Option.some.inj he
    exact h.1.cells (g := g) rfl j u hu
/-- What a call that hands back words says. -/
def RetSW (w : World) (xs : List Nat) (e : Ending) (w' : World) : Prop := ∃ (A : Option Addr) (m c : Nat), e = .returned (.slice A m c) ∧ SW w' (.slice A m c) xs ∧ Below w.heap.size w w'
/-- What a call that hands back a number says: it is n; nothing that was there has turned. -/
def RetNat (w : World) (n : Nat) (e : Ending) (w' : World) : Prop := ∃ (A : Option Addr) (m c : Nat), e = .returned (.agg #[.slice A m c]) ∧ NatS w' (.slice A m c) n ∧ Below w.heap.size w w'
/-- The same with a bool behind it. -/
def RetNatB (w : World) (n : Nat) (b : Bool) (e : Ending) (w' : World) : Prop := ∃ (A : Option Addr) (m c : Nat), e = .returned (.tuple #[.agg #[.slice A m c], .bool b]) ∧ NatS w' (.slice A m c) n ∧ Below w.heap.size w w'
end Go.Proofs.Ytohkhcbocknliaa
