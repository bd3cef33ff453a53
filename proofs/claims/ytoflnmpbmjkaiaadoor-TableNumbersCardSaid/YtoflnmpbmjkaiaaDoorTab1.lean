/- A table of sessions in memory, and what opens, closes and lists them, by their contracts. Conditions: as each says. -/
import Derived.Test.YtoflnmpbmjkaiaaDoorProg
import Derived.Below
import Derived.Lib.Hide
import Derived.WalkKit
import Derived.WalkSpells
import Derived.Laws.OwnMore
import Derived.Deep.AppendLies
import Derived.Deep.DrawnRows
import Derived.Deep.RegionHeld3
import Derived.Deep.RegionWith
import Derived.Deep.RegionLaw
import Derived.Laws.AppendOwnNone
namespace Go.Proofs.YtoflnmpbmjkaiaaDoor
open Go.RowKit
set_option maxRecDepth 100000
set_option maxHeartbeats 4000000
namespace Tb
def limV (a b c d e f : Int) : Value := .agg #[.int .i64 a, .int .i64 b, .int .i64 c, .int .i64 d, .int .i64 e, .int .i64 f]
def seatCells (st : List (Int × Nat)) : List Value := st.flatMap fun p => [.int .i64 p.1, .pointer (some ⟨p.2, 0, none⟩)]
theorem info_seat : (Tryd.prog.info? 59).map (fun i => (i.zero, i.size, i.bytes)) = some (some (.agg #[.int .i64 0, .pointer none]), 2, 16) := by kernel_rfl
theorem blk_new (w : World) (cs : Array Value) (t : TypeId) : (w.alloc (.cells cs t)).heap[w.heap.size]? = some (.cells cs t (0, 0)) := heap_alloc_new w _
theorem blk_cell {w : World} {g : Nat} {cs : Array Value} {t : TypeId} (h : w.heap[g]? = some (.cells cs t (0, 0))) (i : Nat) : w.cell? ⟨g, i, none⟩ = cs[i]? := cell_of_row w g i cs t (0, 0) h
theorem blk_fro {w : World} {g : Nat} {cs : Array Value} {t : TypeId} (h : w.heap[g]? = some (.cells cs t (0, 0))) (i : Nat) : w.frozen? ⟨g, i, none⟩ = false := frozen_of_row w g i cs t h
theorem blk_lt {w : World} {g : Nat} {o : Obj} (h : w.heap[g]? = some o) : g < w.heap.size := (Array.getElem?_eq_some_iff.1 h).1
theorem blk_keep {w w1 : World} {B g : Nat} {o : Obj} (hb : Below B w w1) (hg : g < B) (h : w.heap[g]? = some o) : w1.heap[g]? = some o := (hb.block g hg).trans h
theorem row_below {B : Nat} {e : TypeId} {k : Nat} {v : Value} {n : Nat} {xs : List Value} {w w' : World} (h : w.ownsRow B e k v n xs) (hb : Below w.heap.size w w') : w'.ownsRow B e k v n xs := by
  refine ⟨h.1, ?_⟩
  rcases h.2 with hn | ⟨g, cap, cur, hv, hB, hg, r⟩
  · exact .inl hn
  · exact .inr ⟨g, cap, cur, hv, hB, by rw [hb.block g (Array.getElem?_eq_some_iff.1 hg).1]; exact hg, r⟩
/-- The block tb is a table: its limits, its seats st, its last number. -/
def Tab (w : World) (tb : Nat) (a b c d e f : Int) (st : List (Int × Nat)) (last : Int) : Prop :=
  ∃ v, w.heap[tb]? = some (.cells #[.int .i64 a, .int .i64 b, .int .i64 c, .int .i64 d, .int .i64 e, .int .i64 f, v, .int .i64 last] 53 (0, 0)) ∧ w.ownsRow (tb + 1) 59 2 v st.length (seatCells st)
/-- What is no table's nor a seats' row lies as it lay. -/
def Keeps (tb : Nat) (w w' : World) : Prop := ∀ j cs t, j ≠ tb → t ≠ 59 → w.heap[j]? = some (.cells cs t (0, 0)) → w'.heap[j]? = some (.cells cs t (0, 0))
theorem Keeps.of {tb : Nat} {w w' : World} (h : Below w.heap.size w w') : Keeps tb w w' := fun j _ _ _ _ hj => blk_keep h (blk_lt hj) hj
theorem Keeps.trans {tb : Nat} {a b c : World} (h : Keeps tb a b) (k : Keeps tb b c) : Keeps tb a c := fun j cs t h1 h2 h3 => k j cs t h1 h2 (h j cs t h1 h2 h3)
theorem Keeps.set {tb : Nat} {a b : World} (h : Keeps tb a b) (o : Nat) (u : Value) : Keeps tb a (b.setCell ⟨tb, o, none⟩ u) := fun j cs t h1 h2 h3 => by
  rw [Below.heap_setCell b ⟨tb, o, none⟩ u j h1]; exact h j cs t h1 h2 h3
theorem own_ne {w : World} {H : Nat} {size n : Nat} {v : Value} {xs : List Value} (hO : w.ownsRow H 59 size v n xs) {j : Nat} {cs : Array Value} {t : TypeId} (ht : t ≠ 59) (hj : w.heap[j]? = some (.cells cs t (0, 0))) : some j ≠ v.ownBlock := by
  rcases hO.2 with ⟨rfl, _⟩ | ⟨g, cap, cur, rfl, _, hg, _⟩
  · simp [Value.ownBlock]
  · intro e
    simp only [Value.ownBlock, Option.some.injEq] at e
    subst e
    rw [hg] at hj
    simp only [Option.some.injEq, Obj.cells.injEq] at hj
    exact ht hj.2.1.symm
theorem Keeps.grown {tb : Nat} {a w w' : World} {H : Nat} {size n : Nat} {v : Value} {xs : List Value} (hk : Keeps tb a w) (hO : w.ownsRow H 59 size v n xs) (hg : w.grownBy w' v.ownBlock) : Keeps tb a w' := fun j cs t h1 h2 h3 => by
  have h4 := hk j cs t h1 h2 h3
  rw [hg.block j (blk_lt h4) (own_ne hO h2 h4)]; exact h4
theorem Keeps.alloc {tb : Nat} {a w : World} (h : Keeps tb a w) (o : Obj) : Keeps tb a (w.alloc o) := h.trans (Keeps.of ((Below.refl _ _).alloc (Nat.le_refl _) _))
theorem Tab.keep {w w' : World} {tb : Nat} {a b c d e f : Int} {st : List (Int × Nat)} {last : Int} (h : Tab w tb a b c d e f st last) (hb : Below w.heap.size w w') : Tab w' tb a b c d e f st last := by
  obtain ⟨v, h1, h2⟩ := h
  exact ⟨v, blk_keep hb (blk_lt h1) h1, row_below h2 hb⟩
theorem step_fn {ops : Array Oper} {o : Oper} {a : Act} {w : World} {K : Act → World → Prop} {Q : Exit → Act → World → Prop} {E : Prop} (hg : o.guard = none)
    (f : FuncId) {fn : Func} {c : Code} (hf : Tryd.prog.funcs[f]? = some fn) (hname : (fn.name == "runtime.NumGoroutine") = false) (hb : fn.body = some c) (xs : List Operand) (ts : Array TypeId) (hop : o.op = .call { callee := .value (.func f), args := xs.toArray, argTypes := ts })
    (args : List Value) (ha : xs.map a.eval = args) {R : Ending → World → Prop} (hc : Calls Tryd.prog f args.toArray w R) (hK : ∀ e w', R e w' → ∃ v, e = .returned v ∧ K (a.put o.dst v) w') :
    if Region.wanted o (yielded ops a.tmps) = true then Oper.wp Tryd.prog o a w K Q else E := by
  have hw : Region.wanted o (yielded ops a.tmps) = true := by simp [Region.wanted, hg]
  rw [if_pos hw]
  have hrun : (execOp a.eval o).run Tryd.prog w = .ok (.enter f args.toArray) w := by
    unfold execOp
    simp only [hop]
    subst ha
    have hn : ¬ fn.name = "runtime.NumGoroutine" := by simpa using hname
    simp [go_sem, resolve, invoke, callFunc, hf, hn, hb]
  unfold Oper.wp
  rw [hrun, Oper.upon_enter]
  refine hc.mono ?_
  intro e w' hr
  obtain ⟨v, rfl, h⟩ := hK e w' hr
  exact h
theorem bdrew0 {w w1 : World} (h : Below w.drew.heap.size w.drew w1) : Below w.heap.size w w1 := ⟨h.os, h.tape, h.output, h.size, h.block⟩
theorem new2 (w : World) (x y : Value) (t : TypeId) (j : Nat) (u : Value) (h : [x, y][j]? = some u) : (w.alloc (.cells #[x, y] t)).cell? ((⟨w.heap.size, 0, none⟩ : Addr).add j) = some u := by
  rw [show (⟨w.heap.size, 0, none⟩ : Addr).add j = ⟨w.heap.size, j, none⟩ by unfold Addr.add; split <;> simp_all]
  exact (blk_cell (blk_new w #[x, y] t) j).trans (by simpa using h)
theorem seats_append (xs ys : List (Int × Nat)) : seatCells (xs ++ ys) = seatCells xs ++ seatCells ys := by simp [seatCells]
theorem step_appendS {ops : Array Oper} {o : Oper} {a : Act} {w : World} {K : Act → World → Prop} {Q : Exit → Act → World → Prop} {E : Prop} (hg : o.guard = none)
    (s x : Operand) (hop : o.op = .call { callee := .builtin .append, args := #[s, x], argTypes := #[51, 51] })
    {H n : Nat} {v : Value} {xs : List Value} (hO : w.ownsRow H 59 2 v n xs) (hs : a.eval s = v) {ad : Addr} {m c : Nat} (hx : a.eval x = .slice (some ad) m c) (news : List Value) (hl : news.length = m * 2)
    (hnews : ∀ j u, news[j]? = some u → w.cell? (ad.add j) = some u) (h1 : ∀ u ∈ news, u.oneCell' = true) (hn : n + m ≤ 1000) (hH : H ≤ w.heap.size)
    (hK : ∀ v' w', w'.ownsRow H 59 2 v' (n + m) (xs ++ news) → w.grownBy w' v.ownBlock → K (a.put o.dst v') w') :
    if Region.wanted o (yielded ops a.tmps) = true then Oper.wp Tryd.prog o a w K Q else E := by
  have hw : Region.wanted o (yielded ops a.tmps) = true := by simp [Region.wanted, hg]
  rw [if_pos hw]
  have info : ∃ i0, Tryd.prog.info? 59 = some i0 ∧ i0.zero = some (.agg #[.int .i64 0, .pointer none]) ∧ i0.size = 2 ∧ i0.bytes = 16 := by
    have := info_seat
    cases h : Tryd.prog.info? 59 with
    | none => rw [h] at this; simp at this
    | some i => rw [h] at this; simp at this; exact ⟨i, rfl, this.1, this.2.1, this.2.2⟩
  obtain ⟨i0, hi, hz0, hz1, hz2⟩ := info
  exact wp_append_own w s x 51 hop H 59 i0 (.agg #[.int .i64 0, .pointer none]) 2 16 Tryd.underlying51 hi hz0 hz1 hz2 rfl (by decide) v n xs hs hO ad m c news hx hl hnews h1
    (by unfold maxLen; omega) (by omega) hH fun v' w' hown hgrow _ => hK v' w' hown hgrow
theorem own_form {w : World} {base : Nat} {e : TypeId} {size : Nat} {v : Value} {n : Nat} {xs : List Value} (h : w.ownsRow base e size v n xs) (hn : 0 < n) : ∃ g cp, v = .slice (some ⟨g, 0, none⟩) n cp := by
  rcases h.2 with ⟨_, h0⟩ | ⟨g, cap, cur, rfl, _⟩
  · omega
  · exact ⟨g, cap, rfl⟩
theorem grown_keep {W w' : World} {tb : Nat} {e : TypeId} {size : Nat} {v : Value} {n : Nat} {xs : List Value} {o : Obj} (hO : W.ownsRow (tb + 1) e size v n xs) (hg : W.grownBy w' v.ownBlock) (h : W.heap[tb]? = some o) : w'.heap[tb]? = some o :=
  (hg.block tb (blk_lt h) (fun e => by have := (hO.lt _ e.symm).1; omega)).trans h
theorem grown_below {W w' : World} {tb : Nat} {e : TypeId} {size : Nat} {v : Value} {n : Nat} {xs : List Value} {w : World} (hO : W.ownsRow (tb + 1) e size v n xs) (hg : W.grownBy w' v.ownBlock) (hb : Below tb w W) (ht : tb < W.heap.size) : Below tb w w' :=
  hb.grown hg (Nat.le_of_lt ht) (fun k e => by have := (hO.lt _ e).1; omega)
theorem tnew (a b c d e f : Int) (w : World) : Calls Tryd.prog 5 #[limV a b c d e f] w fun ev w' => ev = .returned (.pointer (some ⟨w.heap.size + 1, 0, none⟩)) ∧ Tab w' (w.heap.size + 1) a b c d e f [] 0 ∧ Below w.heap.size w w' := by
  unfold limV
  go_enter Tryd.func5, Tryd.ntmps5
  go_wp2
  go_ret
  refine ⟨rfl, ⟨_, ?_, World.ownsRow_nil _ _ _ _⟩, ((Below.refl _ _).alloc (Nat.le_refl _) _).alloc (by simp) _⟩
  rw [show w.heap.size + 1 = (w.alloc (.cells #[.int .i64 a, .int .i64 b, .int .i64 c, .int .i64 d, .int .i64 e, .int .i64 f] 27)).heap.size by simp]
  exact blk_new _ _ _
theorem one_no (a b c d e f : Int) (n : Nat) (w : World) (he : e ≤ (n : Int)) (hh : n ≤ 1000) : Calls Tryd.prog 17 #[limV a b c d e f, .int .i64 5, .int .i64 (n : Int)] w fun ev w' => ev = .returned (.iface 62 (.pointer (some ⟨w.heap.size + 1, 0, none⟩))) ∧
    w'.heap[w.heap.size + 1]? = some (.cells #[.int .i64 5, .int .i64 ((n : Int) + 1), .int .i64 e] 68 (0, 0)) ∧ Below w.heap.size w w' := by
  unfold limV
  go_enter Tryd.func17, Tryd.ntmps17
  go_wp2
  all_goals first | (exfalso; omega) | skip
  all_goals go_ret
  all_goals (refine ⟨rfl, ?_, ((Below.refl _ _).alloc (Nat.le_refl _) _).alloc (by simp) _⟩)
  all_goals (rw [show w.heap.size + 1 = (w.alloc (.cells #[.int .i64 a, .int .i64 b, .int .i64 c, .int .i64 d, .int .i64 e, .int .i64 f] 27)).heap.size by simp])
  all_goals first
    | exact blk_new _ _ _
    | (rw [show ((n : Int) + 1) = 1 by omega]; exact blk_new _ _ _)
theorem one_ok (a b c d e f : Int) (n : Nat) (w : World) (he : (n : Int) < e) : Calls Tryd.prog 17 #[limV a b c d e f, .int .i64 5, .int .i64 (n : Int)] w fun ev w' => ev = .returned .nilIface ∧ Below w.heap.size w w' := by
  unfold limV
  go_enter Tryd.func17, Tryd.ntmps17
  go_wp2
  all_goals first | (exfalso; omega) | skip
  all_goals go_ret
  all_goals (exact ⟨rfl, (Below.refl _ _).alloc (Nat.le_refl _) _⟩)
theorem snew (a b c d e f : Int) (w : World) : Calls Tryd.prog 18 #[limV a b c d e f] w fun ev w' => ∃ sb, ev = .returned (.pointer (some ⟨sb, 0, none⟩)) ∧ Below w.heap.size w w' := by
  unfold limV
  go_enter Tryd.func18, Tryd.ntmps18
  go_wp2
  go_region_calls
  all_goals go_wp2
  all_goals go_ret
  all_goals exact ⟨_, rfl, ((((Below.refl _ _).alloc (Nat.le_refl _) _).alloc (by simp) _).alloc (by simp; omega) _).drew⟩
end Tb
end Go.Proofs.YtoflnmpbmjkaiaaDoor
