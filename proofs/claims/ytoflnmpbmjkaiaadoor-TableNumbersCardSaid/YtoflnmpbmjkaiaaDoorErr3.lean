/- errors.Is, api.Number, api.Place, api.Wrap and the two Told by their contracts. Conditions: as each says; errors.errorType holds its handle. -/
import Derived.Test.YtoflnmpbmjkaiaaDoorErr2
import Derived.Lib.Hide
namespace Go.Proofs.YtoflnmpbmjkaiaaDoor
open Go.RowKit Go.Extern.Stop Go.Stop Go.Extern
set_option maxRecDepth 100000
set_option maxHeartbeats 4000000
namespace Err
theorem comparable_Errno' (w : World) : (ReflectliteType.method (fun t => do Rtype.noPackHeld "Comparable" t; (fun a => Value.bool a.comparable) <$> typeInfo t) #[.agg #[.pointer (some ⟨1, 50, none⟩)]]).run Tryd.prog w = .ok (.bool true) w := by kernel_rfl
theorem eql_Errno (w : World) : (binOp .eql 37 (.iface 50 (.int .i64 240)) (.iface 50 (.int .i64 240))).run Tryd.prog w = .ok (.bool true) w := by kernel_rfl
theorem set_target {w w1 : World} {t : Addr} {old v : Value} (hB : Below w.heap.size w w1) (ht0 : w.cell? t = some old) : (w1.setCell t v).cell? t = some v ∧ Below t.block w (w1.setCell t v) := by
  have hl := lt_of_cell ht0
  exact ⟨World.cell?_setCell_same' w1 t v (by rw [hB.cell hl, ht0]; rfl), (hB.mono (Nat.le_of_lt hl)).setCell (Nat.le_refl _) _⟩
theorem keepC {w w1 : World} {v : Value} {p : Addr} (hb : Below w.heap.size w w1) (h : w.cell? p = some v) : w1.cell? p = some v := (hb.cell (lt_of_cell h)).trans h
theorem is_pExcess (e : Addr) (w : World) : Calls Tryd.prog 20 #[.iface 62 (.pointer (some e)), .iface 50 (.int .i64 240)] w fun ev w' => ev = .returned (.bool true) ∧ w' = w := by
  have h10 := @run_callFunc_extern Tryd.prog 30 _ ReflectliteType.typeOf Tryd.func30 (by kernel_rfl) (by kernel_rfl) (by kernel_rfl) (by kernel_rfl)
  have h64 := @run_callFunc_extern Tryd.prog 64 _ (ReflectliteType.method (fun t => do Rtype.noPackHeld "Comparable" t; pure (.bool (← typeInfo t).comparable))) Tryd.func64 (by kernel_rfl) (by kernel_rfl) (by kernel_rfl) (by kernel_rfl)
  have mC := methodComparable
  have tO := typeOf_Errno
  have cE := comparable_Errno'
  have nE := notEql_pExcess
  have eE := eql_Errno
  have nI := noIs_pExcess
  have hU := hasUnwrap_pExcess
  have mU := excessUnwrap
  go_enter Tryd.func20, Tryd.ntmps20
  go_wp2
  refine wp_loop_rounds 2 ?_
  rw [rounds_succ]
  go_wp2_with (go_at_call 55; refine (exU _ _).mono ?_; rintro e w' ⟨rfl, rfl⟩)
  rw [rounds_succ]
  go_wp2
  go_ret
  exact ⟨rfl, rfl⟩
theorem number_pExcess (b : Nat) (w : World) (hg : w.cell? ⟨0, 0, none⟩ = some HandleV) : Calls Tryd.prog 21 #[.iface 62 (.pointer (some ⟨b, 0, none⟩))] w fun ev w' => ev = .returned (.int .i64 240) ∧ Below w.heap.size w w' := by
  have hlt := pos_of_cell hg
  have hg1 := Lib.hid (show (w.alloc (.cells #[.int .i64 0] 50)).cell? ⟨0, 0, none⟩ = some HandleV by rw [World.cell?_alloc_lt _ _ ⟨0, 0, none⟩ hlt]; exact hg)
  have ht1 := Lib.hid (show (w.alloc (.cells #[.int .i64 0] 50)).cell? ⟨w.heap.size, 0, none⟩ = some (.int .i64 0) by simp)
  have hf1 := Lib.hid (show (w.alloc (.cells #[.int .i64 0] 50)).frozen? ⟨w.heap.size, 0, none⟩ = false by simp)
  have hb0 : Hid (Below w.heap.size w (w.alloc (.cells #[.int .i64 0] 50))) := Lib.hid ((Below.refl _ w).alloc (Nat.le_refl _) _)
  clear hg
  go_enter Tryd.func21, Tryd.ntmps21
  go_wp2_with (go_at_call 19; go_loud (refine (asE_pExcess b ⟨w.heap.size, 0, none⟩ _ _  hg1.out ht1.out hf1.out).mono ?_; rintro e w' ⟨rfl, w1, hB, rfl⟩; have hc := set_target (v := .int .i64 240) hB ht1.out; generalize w1.setCell ⟨w.heap.size, 0, none⟩ (.int .i64 240) = w2 at hc; have hc1 := hc.1; have hc2 := Lib.hid (hb0.out.trans hc.2); clear hc hB))
  go_ret
  exact ⟨rfl, hc2.out⟩
theorem number_pFault (b : Nat) (w : World) (y : Int) (hx : w.cell? ⟨b, 2, none⟩ = some (.iface 50 (.int .i64 y))) (hg : w.cell? ⟨0, 0, none⟩ = some HandleV) : Calls Tryd.prog 21 #[.iface 73 (.pointer (some ⟨b, 0, none⟩))] w fun ev w' => ev = .returned (.int .i64 y) ∧ Below w.heap.size w w' := by
  have hlt := pos_of_cell hg
  have hg1 := Lib.hid (show (w.alloc (.cells #[.int .i64 0] 50)).cell? ⟨0, 0, none⟩ = some HandleV by rw [World.cell?_alloc_lt _ _ ⟨0, 0, none⟩ hlt]; exact hg)
  have ht1 := Lib.hid (show (w.alloc (.cells #[.int .i64 0] 50)).cell? ⟨w.heap.size, 0, none⟩ = some (.int .i64 0) by simp)
  have hf1 := Lib.hid (show (w.alloc (.cells #[.int .i64 0] 50)).frozen? ⟨w.heap.size, 0, none⟩ = false by simp)
  have hb0 : Hid (Below w.heap.size w (w.alloc (.cells #[.int .i64 0] 50))) := Lib.hid ((Below.refl _ w).alloc (Nat.le_refl _) _)
  have hx1 := Lib.hid (show (w.alloc (.cells #[.int .i64 0] 50)).cell? ⟨b, 2, none⟩ = some (.iface 50 (.int .i64 y)) by rw [World.cell?_alloc_lt _ _ ⟨b, 2, none⟩ (lt_of_cell hx)]; exact hx)
  clear hx
  clear hg
  go_enter Tryd.func21, Tryd.ntmps21
  go_wp2_with (go_at_call 19; go_loud (refine (asE_pFault b ⟨w.heap.size, 0, none⟩ _ _ y hx1.out hg1.out ht1.out hf1.out).mono ?_; rintro e w' ⟨rfl, w1, hB, rfl⟩; have hc := set_target (v := .int .i64 y) hB ht1.out; generalize w1.setCell ⟨w.heap.size, 0, none⟩ (.int .i64 y) = w2 at hc; have hc1 := hc.1; have hc2 := Lib.hid (hb0.out.trans hc.2); clear hc hB))
  go_ret
  exact ⟨rfl, hc2.out⟩
theorem place_pFault (b : Nat) (S : ByteArray) (k : Int) (w : World) (hx0 : w.cell? ⟨b, 0, none⟩ = some (.string S)) (hx1 : w.cell? ⟨b, 1, none⟩ = some (.int .i64 k)) (hg : w.cell? ⟨0, 0, none⟩ = some HandleV) : Calls Tryd.prog 22 #[.iface 73 (.pointer (some ⟨b, 0, none⟩))] w fun ev w' => ev = .returned (.tuple #[.string S, .int .i64 k, .bool true]) ∧ Below w.heap.size w w' := by
  have hlt := pos_of_cell hg
  have hg1 := Lib.hid (show (w.alloc (.cells #[.pointer none] 73)).cell? ⟨0, 0, none⟩ = some HandleV by rw [World.cell?_alloc_lt _ _ ⟨0, 0, none⟩ hlt]; exact hg)
  have ht1 := Lib.hid (show (w.alloc (.cells #[.pointer none] 73)).cell? ⟨w.heap.size, 0, none⟩ = some (.pointer none) by simp)
  have hf1 := Lib.hid (show (w.alloc (.cells #[.pointer none] 73)).frozen? ⟨w.heap.size, 0, none⟩ = false by simp)
  have hb0 : Hid (Below w.heap.size w (w.alloc (.cells #[.pointer none] 73))) := Lib.hid ((Below.refl _ w).alloc (Nat.le_refl _) _)
  have hx3 := Lib.hid (lt_of_cell hx0)
  have hX0 := Lib.hid hx0
  have hX1 := Lib.hid hx1
  clear hg hx0 hx1
  go_enter Tryd.func22, Tryd.ntmps22
  go_wp2_with (go_at_call 19; go_loud (refine (as_pFault ⟨b, 0, none⟩ ⟨w.heap.size, 0, none⟩ _ _  hg1.out ht1.out hf1.out).mono ?_; rintro e w' ⟨rfl, w1, hB, rfl⟩; have hc := set_target (v := .pointer (some ⟨b, 0, none⟩)) hB ht1.out; generalize w1.setCell ⟨w.heap.size, 0, none⟩ (.pointer (some ⟨b, 0, none⟩)) = w2 at hc; have hc1 := hc.1; have hc2 := Lib.hid (hb0.out.trans hc.2); clear hc hB; have hx0 := (hc2.out.cell (p := ⟨b, 0, none⟩) hx3.out).trans hX0.out; have hx1 := (hc2.out.cell (p := ⟨b, 1, none⟩) hx3.out).trans hX1.out))
  go_region
  all_goals (go_wp2; go_ret3; exact ⟨rfl, hc2.out.drew⟩)
theorem told24 (b : Nat) (need most : Int) (w : World) (hx0 : w.cell? ⟨b, 0, none⟩ = some (.int .i64 5)) (hx1 : w.cell? ⟨b, 1, none⟩ = some (.int .i64 need)) (hx2 : w.cell? ⟨b, 2, none⟩ = some (.int .i64 most)) (hg : w.cell? ⟨0, 0, none⟩ = some HandleV) :
    Calls Tryd.prog 11 #[.iface 62 (.pointer (some ⟨b, 0, none⟩)), .int .i64 5, .int .i64 need, .int .i64 most] w fun ev w' => ev = .returned (.bool true) ∧ Below w.heap.size w w' := by
  have hlt := pos_of_cell hg
  have hg1 := Lib.hid (show (w.alloc (.cells #[.pointer none] 62)).cell? ⟨0, 0, none⟩ = some HandleV by rw [World.cell?_alloc_lt _ _ ⟨0, 0, none⟩ hlt]; exact hg)
  have ht1 := Lib.hid (show (w.alloc (.cells #[.pointer none] 62)).cell? ⟨w.heap.size, 0, none⟩ = some (.pointer none) by simp)
  have hf1 := Lib.hid (show (w.alloc (.cells #[.pointer none] 62)).frozen? ⟨w.heap.size, 0, none⟩ = false by simp)
  have hb0 : Hid (Below w.heap.size w (w.alloc (.cells #[.pointer none] 62))) := Lib.hid ((Below.refl _ w).alloc (Nat.le_refl _) _)
  have hx3 := Lib.hid (lt_of_cell hx0)
  have hX0 := Lib.hid hx0
  have hX1 := Lib.hid hx1
  have hX2 := Lib.hid hx2
  have hG := Lib.hid hg
  clear hg hx0 hx1 hx2
  go_enter Tryd.func11, Tryd.ntmps11
  go_wp2_with (first
    | (go_at_call 19; go_loud (refine (as_pExcess ⟨b, 0, none⟩ ⟨w.heap.size, 0, none⟩ _ _  hg1.out ht1.out hf1.out).mono ?_; rintro e w' ⟨rfl, w1, hB, rfl⟩; have hc := set_target (v := .pointer (some ⟨b, 0, none⟩)) hB ht1.out; generalize w1.setCell ⟨w.heap.size, 0, none⟩ (.pointer (some ⟨b, 0, none⟩)) = w2 at hc; have hc1 := hc.1; have hc2 := Lib.hid (hb0.out.trans hc.2); clear hc hB; have hx0 := (hc2.out.cell (p := ⟨b, 0, none⟩) hx3.out).trans hX0.out; have hx1 := (hc2.out.cell (p := ⟨b, 1, none⟩) hx3.out).trans hX1.out; have hx2 := (hc2.out.cell (p := ⟨b, 2, none⟩) hx3.out).trans hX2.out; have hg := Lib.hid ((hc2.out.cell (p := ⟨0, 0, none⟩) hlt).trans hG.out)))
    | (go_at_call 20; refine (is_pExcess _ _).mono ?_; rintro e w' ⟨rfl, rfl⟩)
    | (go_at_call 21; go_loud (refine (number_pExcess b _ hg.out).mono ?_; rintro e w3 ⟨rfl, hb⟩; have hB3 := Lib.hid (hc2.out.trans (hb.mono hc2.out.size)); have hc3 := keepC hb hc1; have hy0 := keepC hb hx0; have hy1 := keepC hb hx1; have hy2 := keepC hb hx2; clear hb)))
  go_ret
  exact ⟨rfl, hB3.out⟩
theorem told09 (b : Nat) (S : ByteArray) (k : Int) (w : World) (hx0 : w.cell? ⟨b, 0, none⟩ = some (.string S)) (hx1 : w.cell? ⟨b, 1, none⟩ = some (.int .i64 k)) (hx2 : w.cell? ⟨b, 2, none⟩ = some (.iface 50 (.int .i64 290))) (hg : w.cell? ⟨0, 0, none⟩ = some HandleV) (hS : S.toList.isEmpty = false) :
    Calls Tryd.prog 12 #[.iface 73 (.pointer (some ⟨b, 0, none⟩)), .int .i64 290, .string S, .int .i64 k] w fun ev w' => ev = .returned (.bool true) ∧ Below w.heap.size w w' := by
  have h3 := Lib.hid (lt_of_cell hx0)
  have h4 := Lib.hid (lt_of_cell hg)
  have hX2 := Lib.hid hx2
  have hG := Lib.hid hg
  have hP := Lib.hid (place_pFault b S k w hx0 hx1 hg)
  clear hg hx0 hx1 hx2
  go_enter Tryd.func12, Tryd.ntmps12
  go_wp2_with (first
    | (go_at_call 22; refine hP.out.mono ?_; rintro e w' ⟨rfl, hb⟩; have hB := Lib.hid hb; clear hb)
    | (go_at_call 21; go_loud (refine (number_pFault b _ 290 ((hB.out.cell (p := ⟨b, 2, none⟩) h3.out).trans hX2.out) ((hB.out.cell (p := ⟨0, 0, none⟩) h4.out).trans hG.out)).mono ?_; rintro e w' ⟨rfl, hb⟩; have hB2 := Lib.hid (hB.out.trans (hb.mono hB.out.size)); clear hb)))
  go_ret
  exact ⟨rfl, hB2.out⟩
end Err
end Go.Proofs.YtoflnmpbmjkaiaaDoor
