/- Steps of a drawn region: a call of a Go function by its contract; append of words. Conditions: as each says. Frames for drawn regions: what stands below a world is kept. Conditions: as each says. Conditions: as they say. -/
import Derived.Test.YtohkhcbocknliaaOutM
import Derived.Deep.RegionLaw
import Derived.Laws.AppendOwnNone
import Derived.Deep.RegionHeld3
import Derived.OneCell
namespace Go.Proofs.Ytohkhcbocknliaa
open Go.RowKit Am
set_option maxHeartbeats 1000000
set_option maxRecDepth 100000
theorem step_fn {ops : Array Oper} {o : Oper} {a : Act} {w : World} {K : Act → World → Prop} {Q : Exit → Act → World → Prop} {E : Prop} (hg : o.guard = none)
    (f : FuncId) {fn : Func} {c : Code} (hf : Try.prog.funcs[f]? = some fn) (hname : (fn.name == "runtime.NumGoroutine") = false) (hb : fn.body = some c) (xs : List Operand) (ts : Array TypeId) (hop : o.op = .call { callee := .value (.func f), args := xs.toArray, argTypes := ts })
    (args : List Value) (ha : xs.map a.eval = args) {R : Ending → World → Prop} (hc : Calls Try.prog f args.toArray w R) (hK : ∀ e w', R e w' → ∃ v, e = .returned v ∧ K (a.put o.dst v) w') :
    if Region.wanted o (yielded ops a.tmps) = true then Oper.wp Try.prog o a w K Q else E := by
  have hw : Region.wanted o (yielded ops a.tmps) = true := by simp [Region.wanted, hg]
  rw [if_pos hw]
  have hrun : (execOp a.eval o).run Try.prog w = .ok (.enter f args.toArray) w := by
    unfold execOp
    simp only [hop]
    subst ha
    have hn : ¬ fn.name = "runtime.NumGoroutine" := by simpa using hname
    simp [go_sem, resolve, invoke, callFunc, hf, hn, hb]
  unfold Oper.wp
  rw [hrun, Oper.upon_enter]
  refine hc.mono ?_
  intro e w' hr
  obtain ⟨v, rfl, h⟩ := hK e w' hr
  exact h
/-- append of words to a row of the call's own. -/
theorem step_append {ops : Array Oper} {o : Oper} {a : Act} {w : World} {K : Act → World → Prop} {Q : Exit → Act → World → Prop} {E : Prop} (hg : o.guard = none)
    (s x : Operand) (hop : o.op = .call { callee := .builtin .append, args := #[s, x], argTypes := #[34, 34] })
    {W0 : World} {H n : Nat} {ys xs : List Nat} (hO : OutAt W0 w H n ys) (hy : Wds ys) (hs : a.eval s = .slice (some ⟨H, 0, none⟩) n n) {X : Value} (hx : a.eval x = X) (hX : SR w X xs) (hl : n + xs.length ≤ LIM)
    (hK : ∀ A m c w', SW w' (.slice A m c) (ys ++ xs) → Below H w w' → K (a.put o.dst (.slice A m c)) w') :
    if Region.wanted o (yielded ops a.tmps) = true then Oper.wp Try.prog o a w K Q else E := by
  have hw : Region.wanted o (yielded ops a.tmps) = true := by simp [Region.wanted, hg]
  rw [if_pos hw]
  obtain ⟨i0, hi, hz0, hz1, hz2⟩ := info_parts info_u64
  obtain ⟨A, c, rfl, hlc, hc9, hwx, hnil, hcell⟩ := hX
  rcases A with _ | ad
  · obtain ⟨rfl, rfl⟩ := hnil rfl
    have hrun := run_append_owned_none (P := Try.prog) (w := w) H 34 o.type 95 i0 1 Try.underlying34 hi _ n _ hO.own
    unfold Oper.wp
    simp [execOp, hop, resolve, invoke, builtin, hs, hx, hrun, Result.andThen]
    exact hK _ _ _ _ (by rw [List.append_nil]; exact hO.sw hy) (Below.refl _ _)
  · refine wp_append_own w s x 34 hop H 95 i0 (.int .u64 0) 1 8 Try.underlying34 hi hz0 hz1 hz2 rfl (by decide) _ n _ hs hO.own ad xs.length c (wcells xs) hx (by rw [wcells_len]; omega) (hcell ad rfl) (wcells_one xs)
      (by unfold maxLen; have := LIM_eq; omega) (by have := LIM_eq; omega) (Nat.le_of_lt hO.lt) fun v' w' hown hgrow _ => ?_
    rw [← wcells_append] at hown
    have hl2 : n + xs.length = (ys ++ xs).length := by rw [List.length_append, hO.len]
    rw [hl2] at hown
    have hs' := SW.of_own hown (fun z hz => (List.mem_append.1 hz).elim (hy z) (hwx z))
    obtain ⟨A', m', c', rfl⟩ := hs'.slice
    exact hK _ _ _ _ hs' ((Below.refl _ _).grown hgrow (Nat.le_of_lt hO.lt) (fun k hk => by cases hk; exact Nat.le_refl _))
end Go.Proofs.Ytohkhcbocknliaa
namespace Go.Proofs.Ytohkhcbocknliaa
open Go.RowKit Am
theorem al2 {a w : World} (h : Below a.heap.size a w) (o : Obj) : Below a.heap.size a (w.alloc o) := h.alloc h.size o
theorem bdrew {B : Nat} {a w : World} (h : Below B a w) : Below B a w.drew := bdrewN h 1
theorem bstep2 {a w w' : World} (h : Below a.heap.size a w) (hb : Below w.heap.size w w') : Below a.heap.size a w' := bstep h hb h.size
theorem set2 {a w : World} {b o : Nat} {u : Value} (h : Below a.heap.size a w) (hb : a.heap.size ≤ b) : Below a.heap.size a (w.setCell ⟨b, o, none⟩ u) := h.setCell hb u
theorem box_new1 (W : World) (o : Obj) (cs : Array Value) (t : TypeId) : ((W.alloc o).alloc (.cells cs t)).heap[W.heap.size + 1]? = some (.cells cs t (0, 0)) := blk_nw (by simp)
/-- A box that stood before a call: what the walk asks of it behind the call. -/
theorem keepBox {w w1 : World} {b : Nat} {v : Value} {t : TypeId} (hb : Below w.heap.size w w1) (h : w.heap[b]? = some (.cells #[v] t (0, 0))) :
    w1.heap[b]? = some (.cells #[v] t (0, 0)) ∧ (w1.cell? ⟨b, 0, none⟩ = some v ∧ w1.frozen? ⟨b, 0, none⟩ = false) ∧
    ((∀ o, (w1.alloc o).cell? ⟨b, 0, none⟩ = some v) ∧ (∀ o, (w1.alloc o).frozen? ⟨b, 0, none⟩ = false)) ∧
    ((∀ o o', ((w1.alloc o).alloc o').cell? ⟨b, 0, none⟩ = some v) ∧ (∀ o o', ((w1.alloc o).alloc o').frozen? ⟨b, 0, none⟩ = false)) ∧
    ((b ≠ w1.heap.size ∧ w1.heap.size ≠ b) ∧ (b ≠ w1.heap.size + 1 ∧ w1.heap.size + 1 ≠ b)) := by
  have h1 := keepBlk hb h
  have hl : b < w1.heap.size := (Array.getElem?_eq_some_iff.1 h1).1
  exact ⟨h1, ⟨blk_cell h1 0, blk_fro h1 0⟩, ⟨fun o => blk_cell (blk_al h1) 0, fun o => blk_fro (blk_al h1) 0⟩, ⟨fun o o' => blk_cell (blk_al (blk_al h1)) 0, fun o o' => blk_fro (blk_al (blk_al h1)) 0⟩, by omega⟩
/-- A box of one Nat. -/
def Box (w : World) (b : Nat) : Prop := ∃ v, w.heap[b]? = some (.cells #[v] 36 (0, 0))
theorem Box.of {w : World} {b : Nat} {v : Value} (h : w.heap[b]? = some (.cells #[v] 36 (0, 0))) : Box w b := ⟨v, h⟩
theorem Box.new (w : World) (v : Value) : Box (w.alloc (.cells #[v] 36)) w.heap.size := ⟨v, blk_new _ _ _⟩
theorem Box.new1 (w : World) (o : Obj) (v : Value) : Box ((w.alloc o).alloc (.cells #[v] 36)) (w.heap.size + 1) := ⟨v, box_new1 _ _ _ _⟩
theorem Box.alloc {w : World} {b : Nat} {o : Obj} (h : Box w b) : Box (w.alloc o) b := ⟨_, blk_al h.choose_spec⟩
theorem Box.below {w w' : World} {b : Nat} (h : Box w b) (hb : Below w.heap.size w w') : Box w' b := ⟨_, keepBlk hb h.choose_spec⟩
theorem Box.drew {w : World} {b : Nat} (h : Box w b) : Box w.drew b := ⟨_, h.choose_spec⟩
theorem Box.set {w : World} {b b' : Nat} {u : Value} (h : Box w b) : Box (w.setCell ⟨b', 0, none⟩ u) b := by
  obtain ⟨v, h⟩ := h
  by_cases e : b = b'
  · subst e; exact ⟨u, one_setCell h⟩
  · exact ⟨v, (Below.heap_setCell w ⟨b', 0, none⟩ u b e).trans h⟩
theorem Box.cell {w : World} {b : Nat} {u : Value} (h : Box w b) : (w.setCell ⟨b, 0, none⟩ u).cell? ⟨b, 0, none⟩ = some u := by
  obtain ⟨v, h⟩ := h
  exact blk_cell (one_setCell h) 0
theorem NatS.setBox {w : World} {s : Value} {n b : Nat} {u : Value} (h : NatS w s n) (hb : Box w b) : NatS (w.setCell ⟨b, 0, none⟩ u) s n := by
  obtain ⟨v, hb⟩ := hb
  exact h.setCell (p := ⟨b, 0, none⟩) hb (by decide) u
theorem cell_new0 (w : World) (v : Value) (t : TypeId) : (w.alloc (.cells #[v] t)).cell? ⟨w.heap.size, 0, none⟩ = some v := cell_nw rfl rfl
theorem cell_new1 (w : World) (o : Obj) (v : Value) (t : TypeId) : ((w.alloc o).alloc (.cells #[v] t)).cell? ⟨w.heap.size + 1, 0, none⟩ = some v := cell_nw (by simp) rfl
end Go.Proofs.Ytohkhcbocknliaa
