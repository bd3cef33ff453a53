/- slices.Delete of one seat. Conditions: as each says. -/
import Derived.Test.YtoflnmpbmjkaiaaDoorTab1
import Derived.Lib.SliceRun
namespace Go.Proofs.YtoflnmpbmjkaiaaDoor
open Go.RowKit
set_option maxRecDepth 100000
set_option maxHeartbeats 4000000
namespace Tb
theorem own_cut {w : World} {H g n cap : Nat} {e : TypeId} {size : Nat} {xs : List Value} (h : w.ownsRow H e size (.slice (some ⟨g, 0, none⟩) n cap) n xs) (i : Nat) (hi : i ≤ n) :
    w.ownsRow H e size (.slice (some ⟨g, 0, none⟩) i cap) i (xs.take (i * size)) := by
  have hl : i * size ≤ n * size := Nat.mul_le_mul_right _ hi
  refine ⟨by rw [List.length_take, h.1]; omega, ?_⟩
  rcases h.2 with ⟨h', _⟩ | ⟨g', cap', cur, h', hb, hg, hnc, hcm, hcs, htake⟩
  · simp at h'
  · simp only [Value.slice.injEq, Option.some.injEq, Addr.mk.injEq, and_true, true_and] at h'
    obtain ⟨rfl, rfl⟩ := h'
    refine .inr ⟨g, cap, cur, rfl, hb, hg, by omega, hcm, hcs, ?_⟩
    rw [← htake, List.take_take, Nat.min_eq_left hl]
theorem step_appendF {ops : Array Oper} {o : Oper} {a : Act} {w : World} {K : Act → World → Prop} {Q : Exit → Act → World → Prop} {E : Prop} (hgd : o.guard = none)
    (s x : Operand) (hop : o.op = .call { callee := .builtin .append, args := #[s, x], argTypes := #[51, 51] })
    {H g n cap : Nat} {xs : List Value} (hO : w.ownsRow H 59 2 (.slice (some ⟨g, 0, none⟩) n cap) n xs) (hs : a.eval s = .slice (some ⟨g, 0, none⟩) n cap) {ad : Addr} {m c : Nat} (hx : a.eval x = .slice (some ad) m c) (news : List Value) (hl : news.length = m * 2)
    (hnews : ∀ j u, news[j]? = some u → w.cell? (ad.add j) = some u) (h1 : ∀ u ∈ news, u.oneCell' = true) (hn : n + m ≤ cap)
    (hK : ∀ w', w'.ownsRow H 59 2 (.slice (some ⟨g, 0, none⟩) (n + m) cap) (n + m) (xs ++ news) → w.grownBy w' (some g) → K (a.put o.dst (.slice (some ⟨g, 0, none⟩) (n + m) cap)) w') :
    if Region.wanted o (yielded ops a.tmps) = true then Oper.wp Tryd.prog o a w K Q else E := by
  have hw : Region.wanted o (yielded ops a.tmps) = true := by simp [Region.wanted, hgd]
  rw [if_pos hw]
  have info : ∃ i0, Tryd.prog.info? 59 = some i0 ∧ i0.size = 2 := by
    have := info_seat
    cases h : Tryd.prog.info? 59 with
    | none => rw [h] at this; simp at this
    | some i => rw [h] at this; simp at this; exact ⟨i, rfl, this.2.1⟩
  obtain ⟨i0, hi, hz1⟩ := info
  obtain ⟨w', hrun, h2, h3⟩ := run_append_fits (P := Tryd.prog) w H 51 o.type 59 i0 2 Tryd.underlying51 hi hz1 g n cap xs hO ad m c news hl hnews h1 hn
  unfold Oper.wp execOp
  simp only [hop, resolve, invoke, builtin, Sem.run_bind, Sem.run_pure, Result.andThen_ok, List.map_toArray, List.map_cons, List.map_nil, hs, hx, hrun]
  exact hK w' h2 h3
theorem seat_len (st : List (Int × Nat)) : (seatCells st).length = st.length * 2 := by
  induction st with
  | nil => rfl
  | cons p r ih => rw [show seatCells (p :: r) = .int .i64 p.1 :: .pointer (some ⟨p.2, 0, none⟩) :: seatCells r by simp [seatCells]]; simp [ih]; omega
theorem seat_one (st : List (Int × Nat)) : ∀ u ∈ seatCells st, u.oneCell' = true := by
  intro u hu
  simp only [seatCells, List.mem_flatMap] at hu
  obtain ⟨p, _, hp⟩ := hu
  simp at hp
  rcases hp with rfl | rfl <;> rfl
theorem seat_erase (st : List (Int × Nat)) : ∀ k, (seatCells st).take (k * 2) ++ (seatCells st).drop ((k + 1) * 2) = seatCells (st.eraseIdx k) := by
  induction st with
  | nil => intro k; simp [seatCells]
  | cons p r ih =>
    intro k
    rw [show seatCells (p :: r) = .int .i64 p.1 :: .pointer (some ⟨p.2, 0, none⟩) :: seatCells r by simp [seatCells]]
    cases k with
    | zero => simp [List.eraseIdx]
    | succ k =>
      rw [show (k + 1) * 2 = k * 2 + 1 + 1 by omega, show (k + 1 + 1) * 2 = (k + 1) * 2 + 1 + 1 by omega]
      simp only [List.take_succ_cons, List.drop_succ_cons, List.eraseIdx_cons_succ, List.cons_append]
      rw [ih k]
      simp [seatCells]
theorem run_clear1 (W : World) (ty : TypeId) (g o c : Nat) (h0 : (W.cell? ⟨g, o, none⟩).isSome = true) (h1 : (W.cell? ⟨g, o + 1, none⟩).isSome = true) (hf : ∀ j, W.frozen? ⟨g, j, none⟩ = false) :
    (Builtin.clear_ #[51] ty #[.slice (some ⟨g, o, none⟩) 1 c]).run Tryd.prog W = .ok (.tuple #[]) (W.setCells g o [.int .i64 0, .pointer none]) := by
  have hst := run_storeCells_cells (P := Tryd.prog) g o [.int .i64 0, .pointer none] 0 W (by intro j hj; match j, hj with | 0, _ => exact h0 | 1, _ => exact h1) (by intro j _; exact hf _) (by intro v hv; simp at hv; rcases hv with rfl | rfl <;> rfl)
  simp only [Nat.add_zero] at hst
  have hz : ∀ w, (zeroValue 59).run Tryd.prog w = .ok (.agg #[.int .i64 0, .pointer none]) w := fun w => by kernel_rfl
  have hzc : (Builtin.zeroCells (Value.agg #[.int .i64 0, .pointer none]).cells 1).toList = [.int .i64 0, .pointer none] := by
    simp [Builtin.zeroCells, Value.cells]
    apply List.ext_getElem
    · simp
    · intro i h1 h2
      match i, h1, h2 with
      | 0, _, _ => simp
      | 1, _, _ => simp
      | i + 2, _, h2 => exact absurd h2 (by simp only [List.length_cons, List.length_nil]; omega)
  simp [Builtin.clear_, run_underlying Tryd.underlying51, hz, hzc, hst]
theorem own_some {w : World} {H g n cap : Nat} {e : TypeId} {size : Nat} {xs : List Value} (h : w.ownsRow H e size (.slice (some ⟨g, 0, none⟩) n cap) n xs) (j : Nat) (hj : j < cap * size) : (w.cell? ⟨g, j, none⟩).isSome = true := by
  rcases h.2 with ⟨h', _⟩ | ⟨g', cap', cur, h', hb, hg, hnc, hcm, hcs, htake⟩
  · simp at h'
  · simp only [Value.slice.injEq, Option.some.injEq, Addr.mk.injEq, and_true, true_and] at h'
    obtain ⟨rfl, rfl⟩ := h'
    rw [blk_cell hg j]
    simp [hcs, hj]
theorem own_past {w : World} {H g n cap : Nat} {e : TypeId} {size : Nat} {xs : List Value} (h : w.ownsRow H e size (.slice (some ⟨g, 0, none⟩) n cap) n xs) (j : Nat) (hj : n * size ≤ j) (u : Value) :
    (w.setCell ⟨g, j, none⟩ u).ownsRow H e size (.slice (some ⟨g, 0, none⟩) n cap) n xs ∧ w.grownBy (w.setCell ⟨g, j, none⟩ u) (some g) := by
  have h2 := h.stored j u
  rw [List.set_eq_of_length_le (by rw [h.1]; exact hj)] at h2
  exact h2
theorem grown_trans {a b c : World} {r : Option Nat} (h : a.grownBy b r) (k : b.grownBy c r) : a.grownBy c r :=
  ⟨k.os.trans h.os, k.tape.trans h.tape, k.output.trans h.output, Nat.le_trans h.size k.size, fun i hi hr => (k.block i (Nat.lt_of_lt_of_le hi h.size) hr).trans (h.block i hi hr)⟩
theorem delete (st : List (Int × Nat)) (g cap H k m : Nat) (w : World) (hm : st.length = m + 1) (hk : k ≤ m) (hs : m ≤ 1000) (hR : w.ownsRow H 59 2 (.slice (some ⟨g, 0, none⟩) (m + 1) cap) (m + 1) (seatCells st)) :
    Calls Tryd.prog 16 #[.slice (some ⟨g, 0, none⟩) (m + 1) cap, .int .i64 (k : Int), .int .i64 ((k : Int) + 1)] w fun e w' => e = .returned (.slice (some ⟨g, 0, none⟩) m cap) ∧
      w'.ownsRow H 59 2 (.slice (some ⟨g, 0, none⟩) m cap) m (seatCells (st.eraseIdx k)) ∧ w.grownBy w' (some g) := by
  have hcap : m + 1 ≤ cap := by
    rcases hR.2 with ⟨h', _⟩ | ⟨g', cap', cur, h', hb, hg, hnc, hcm, hcs, htake⟩
    · simp at h'
    · simp only [Value.slice.injEq, Option.some.injEq, Addr.mk.injEq, and_true, true_and] at h'
      obtain ⟨rfl, rfl⟩ := h'
      exact hnc
  have HR := Lib.hid hR
  clear hR
  have hkm : (k : Int) ≤ (m : Int) := by omega
  have HB : Hid (∀ t u, ((seatCells st).drop ((k + 1) * 2))[t]? = some u → w.drew.cell? ((⟨g, (k + 1) * 2, none⟩ : Addr).add t) = some u) := Lib.hid (by
    intro t u hu
    rw [List.getElem?_drop] at hu
    have hlt := (List.getElem?_eq_some_iff.1 hu).1
    rw [seat_len, hm] at hlt
    rw [show (⟨g, (k + 1) * 2, none⟩ : Addr).add t = ⟨g, (k + 1) * 2 + t, none⟩ by unfold Addr.add; split <;> simp_all]
    exact (HR.out.cellAt _ hlt).trans hu)
  have hkc : k ≤ cap := by omega
  have hk1 : (0 : Int) ≤ (k : Int) + 1 := by omega
  have hkc2 : k + 1 ≤ cap := by omega
  have HB0 : cap = k + 1 → Hid (∀ t u, ((seatCells st).drop ((k + 1) * 2))[t]? = some u → w.drew.cell? ((⟨g, 0, none⟩ : Addr).add t) = some u) := fun hck => Lib.hid (by
    intro t u hu
    rw [List.getElem?_drop] at hu
    have hlt := (List.getElem?_eq_some_iff.1 hu).1
    rw [seat_len, hm] at hlt
    omega)
  have hcm : ¬ cap = m := by omega
  have hmc : m ≤ cap := by omega
  have hm1 : (m : Int) ≤ (m : Int) + 1 := by omega
  by_cases hck : cap = k + 1
  · have HB1 := HB0 hck
    clear HB0 HB
    subst hck
    obtain rfl : m = k := by omega
    have hk3 : (m : Int) ≤ (m : Int) + 1 := by omega
    go_enter Tryd.func16, Tryd.ntmps16
    go_wp2
    go_region_law (refine step_appendF (by rfl) _ _ (by rfl) (own_cut HR.out m (by omega)) (by rfl) (by rfl) ((seatCells st).drop ((m + 1) * 2)) (by rw [List.length_drop, seat_len]; omega) HB1.out (fun u hu => seat_one st u (List.mem_of_mem_drop hu)) (by omega) ?_; rintro w1 h1 h2; rw [Nat.add_zero] at h1 ⊢; have H1 := Lib.hid h1; have H2 := Lib.hid h2; clear h1 h2; have hcl := fun ty => run_clear1 w1 ty g (m * 2) 1 (own_some H1.out _ (by omega)) (own_some H1.out _ (by omega)) (fun j => H1.out.frozenAt j))
    all_goals
      go_wp2
      go_ret
      have p1 := own_past H1.out (m * 2) (Nat.le_refl _) (.int .i64 0)
      have p2 := own_past p1.1 (m * 2 + 1) (Nat.le_succ _) (.pointer none)
      rw [seat_erase] at p2
      exact ⟨rfl, p2.1, grown_trans (grown_trans ⟨H2.out.os, H2.out.tape, H2.out.output, H2.out.size, H2.out.block⟩ p1.2) p2.2⟩
  · clear HB0
    have HB1 := HB
    go_enter Tryd.func16, Tryd.ntmps16
    go_wp2
    go_region_law (refine step_appendF (by rfl) _ _ (by rfl) (own_cut HR.out k (by omega)) (by rfl) (by rfl) ((seatCells st).drop ((k + 1) * 2)) (by rw [List.length_drop, seat_len]; omega) HB1.out (fun u hu => seat_one st u (List.mem_of_mem_drop hu)) (by omega) ?_; rintro w1 h1 h2; have hkm2 : k + (m - k) = m := (by omega); rw [hkm2] at h1 ⊢; clear hkm2; have H1 := Lib.hid h1; have H2 := Lib.hid h2; clear h1 h2; have hcl := fun ty => run_clear1 w1 ty g (m * 2) (cap - m) (own_some H1.out _ (by omega)) (own_some H1.out _ (by omega)) (fun j => H1.out.frozenAt j))
    all_goals
      go_wp2
      go_ret
      have p1 := own_past H1.out (m * 2) (Nat.le_refl _) (.int .i64 0)
      have p2 := own_past p1.1 (m * 2 + 1) (Nat.le_succ _) (.pointer none)
      rw [seat_erase] at p2
      exact ⟨rfl, p2.1, grown_trans (grown_trans ⟨H2.out.os, H2.out.tape, H2.out.output, H2.out.size, H2.out.block⟩ p1.2) p2.2⟩
end Tb
end Go.Proofs.YtoflnmpbmjkaiaaDoor
