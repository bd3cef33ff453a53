/- Opening where there are already so many as may be at all; listing; the limits. Conditions: as each says. -/
import Derived.Deep.DeepCutAuto
import Derived.Test.YtoflnmpbmjkaiaaDoorTab5
import Derived.Test.YtoflnmpbmjkaiaaDoorTab2
namespace Go.Proofs.YtoflnmpbmjkaiaaDoor
open Go.RowKit
set_option maxRecDepth 100000
set_option maxHeartbeats 4000000
namespace Tb
theorem topen_big (a b c d e f : Int) (tb : Nat) (st : List (Int × Nat)) (last : Int) (w : World) (hT : Tab w tb a b c d e f st last) (he : (st.length : Int) < e) (hh : 16 ≤ st.length) (hs : st.length ≤ 1000) :
    Calls Tryd.prog 8 #[.pointer (some ⟨tb, 0, none⟩)] w fun ev w' => ∃ x, ev = .returned (.tuple #[.int .i64 0, .iface 50 x]) ∧ Below w.heap.size w w' := by
  obtain ⟨v, hB, hR⟩ := hT
  have hv : ∃ A cp, v = .slice A st.length cp := by
    rcases hR.2 with ⟨rfl, h0⟩ | ⟨g, cap, cur, rfl, _⟩
    · exact ⟨_, _, by rw [h0]⟩
    · exact ⟨_, _, rfl⟩
  obtain ⟨A, cp, rfl⟩ := hv
  have HB := Lib.hid hB
  have k0 := blk_cell hB 0
  have k1 := blk_cell hB 1
  have k2 := blk_cell hB 2
  have k3 := blk_cell hB 3
  have k4 := blk_cell hB 4
  have k5 := blk_cell hB 5
  have k6 := blk_cell hB 6
  simp only [List.getElem?_toArray, List.getElem?_cons_zero, List.getElem?_cons_succ] at k0 k1 k2 k3 k4 k5 k6
  clear hB hR
  have hh2 : (16 : Int) ≤ (st.length : Int) := by omega
  go_enter Tryd.func8, Tryd.ntmps8
  go_wp2_with fail
  go_region_with (go_at_call 17; (refine (one_ok a b c d e f st.length _ he).mono ?_; rintro e1 w1 ⟨rfl, hb⟩; have hb1 := Lib.hid (bdrew0 hb); clear hb))
  all_goals
    have HB1 := Lib.hid (blk_keep hb1.out (blk_lt HB.out) HB.out)
    have l6 := blk_cell HB1.out 6
    simp only [List.getElem?_toArray, List.getElem?_cons_zero, List.getElem?_cons_succ] at l6
    go_wp2
    go_ret2
    exact ⟨_, rfl, hb1.out⟩
theorem plenty (w : World) : Calls Tryd.prog 13 #[] w fun ev w' => ev = .returned (limV 3 3 1000 4000 4 4) ∧ w' = w.alloc (.cells #[.int .i64 3, .int .i64 3, .int .i64 1000, .int .i64 4000, .int .i64 4, .int .i64 4] 27) := by
  go_enter Tryd.func13, Tryd.ntmps13
  go_wp2
  exact bodyPost_ret (v := limV 3 3 1000 4000 4 4) (by simp [results, Tryd.results13, go_sem, limV]) rfl ⟨rfl, rfl⟩
theorem limits29 (s : Nat) (hs : s < 256) (w : World) : Calls Tryd.prog 6 #[.int .u8 (s : Int)] w fun ev w' => ev = .returned (limV 3 3 1000 4000 ((s % 20 : Nat) : Int) 4) ∧ Below w.heap.size w w' := by
  go_enter Tryd.func6, Tryd.ntmps6
  go_wp2_with (go_at_call 13; go_loud (refine (plenty _).mono ?_; unfold limV; rintro e w' ⟨rfl, rfl⟩))
  exact bodyPost_ret (v := limV 3 3 1000 4000 ((s % 20 : Nat) : Int) 4) (by simp [results, Tryd.results6, go_sem, limV]) rfl ⟨rfl, (((Below.refl _ _).alloc (Nat.le_refl _) _).alloc (by simp) _).alloc (by simp; omega) _⟩
theorem info_int : (Tryd.prog.info? 3).map (fun i => (i.zero, i.size, i.bytes)) = some (some (.int .i64 0), 1, 8) := by kernel_rfl
theorem new1 (w : World) (x : Value) (t : TypeId) (n : Nat) (hn : w.heap.size = n) (j : Nat) (u : Value) (h : [x][j]? = some u) : (w.alloc (.cells #[x] t)).cell? ((⟨n, 0, none⟩ : Addr).add j) = some u := by
  subst hn
  rw [show (⟨w.heap.size, 0, none⟩ : Addr).add j = ⟨w.heap.size, j, none⟩ by unfold Addr.add; split <;> simp_all]
  exact (blk_cell (blk_new w #[x] t) j).trans (by simpa using h)
def idCells (st : List (Int × Nat)) : List Value := st.map fun p => .int .i64 p.1
theorem id_take (st : List (Int × Nat)) (k : Nat) (hk : k < st.length) : idCells (st.take (k + 1)) = idCells (st.take k) ++ [.int .i64 st[k]!.1] := by
  simp only [idCells, List.map_take]
  rw [List.take_succ_eq_append_getElem (by simpa using hk)]
  simp [hk]
theorem tids (a b c d e f : Int) (tb : Nat) (st : List (Int × Nat)) (last : Int) (w : World) (hT : Tab w tb a b c d e f st last) (hs : st.length ≤ 1000) :
    Calls Tryd.prog 9 #[.pointer (some ⟨tb, 0, none⟩)] w fun ev w' => ∃ A m cp, ev = .returned (.slice A m cp) ∧ m = st.length ∧ w'.ownsRow w.heap.size 3 1 (.slice A m cp) st.length (idCells st) ∧ Below w.heap.size w w' := by
  obtain ⟨v, hB, hR⟩ := hT
  have hv : ∃ A cp, v = .slice A st.length cp := by
    rcases hR.2 with ⟨rfl, h0⟩ | ⟨g, cap, cur, rfl, _⟩
    · exact ⟨_, _, by rw [h0]⟩
    · exact ⟨_, _, rfl⟩
  obtain ⟨A, cp, rfl⟩ := hv
  have HB := Lib.hid hB
  have HR := Lib.hid hR
  have k6 := blk_cell hB 6
  simp only [List.getElem?_toArray, List.getElem?_cons_zero, List.getElem?_cons_succ] at k6
  clear hB hR
  go_enter Tryd.func9, Tryd.ntmps9
  go_wp2
  go_loopw [3, 11] (fun ov kv wr => ∃ kk : Nat, kv = .int .i64 kk ∧ kk ≤ st.length ∧ wr.ownsRow w.heap.size 3 1 ov kk (idCells (st.take kk)) ∧ Below w.heap.size w wr)
    (fun _ kv _ => st.length - (intOf kv).toNat)
  case atStart => exact ⟨0, rfl, Nat.zero_le _, World.ownsRow_nil _ _ _ _, Below.refl _ _⟩
  case round =>
    obtain ⟨kk, rfl, hkk, hO, hb⟩ := hrel
    have HO := Lib.hid hO
    have Hb := Lib.hid hb
    by_cases hlt : kk < st.length
    · have hR2 := row_below HR.out hb
      obtain ⟨g, rfl, h1, h2⟩ : ∃ g, A = some ⟨g, 0, none⟩ ∧ wr.cell? ⟨g, kk * 2, none⟩ = some (.int .i64 st[kk]!.1) ∧ wr.cell? ⟨g, kk * 2 + 1, none⟩ = some (.pointer (some ⟨st[kk]!.2, 0, none⟩)) := by
        rcases hR2.2 with ⟨h, h0⟩ | ⟨g, cap, cur, h, _⟩
        · omega
        · simp only [Value.slice.injEq, true_and] at h
          obtain ⟨rfl, rfl⟩ := h
          have hg := seat_get st kk hlt
          exact ⟨g, rfl, (hR2.cellAt (kk * 2) (by omega)).trans hg.1, (hR2.cellAt (kk * 2 + 1) (by omega)).trans hg.2⟩
      have hl2 : (kk : Int) < (st.length : Int) := by omega
      generalize hy : st[kk]! = y at h1 h2
      have HY := Lib.hid hy
      clear hy
      obtain ⟨x, sb⟩ := y
      simp only at h1 h2
      clear hO hb hR2
      obtain ⟨i0, hi, hz0, hz1, hz2⟩ : ∃ i0, Tryd.prog.info? 3 = some i0 ∧ i0.zero = some (.int .i64 0) ∧ i0.size = 1 ∧ i0.bytes = 8 := by
        have := info_int
        cases h : Tryd.prog.info? 3 with
        | none => rw [h] at this; simp at this
        | some i => rw [h] at this; simp at this; exact ⟨i, rfl, this.1, this.2.1, this.2.2⟩
      have b1 := Lib.hid (show kk + 1 ≤ maxLen by unfold maxLen; omega)
      have b2 := Lib.hid (show (kk + 1) * 8 ≤ 140737488355328 by omega)
      have hbs := Lib.hid Hb.out.size
      go_wp2_with (at_builtin; go_loud (refine wpList_append_own _ rfl _ _ 41 rfl w.heap.size 3 i0 (.int .i64 0) 1 8 Tryd.underlying41 hi hz0 hz1 hz2 rfl (by decide) _ _ _ rfl ((HO.out.alloc _).alloc _) _ 1 1 [.int .i64 x] rfl rfl (new1 _ _ _ _ (by simp)) (by intro u hu; simp at hu; subst hu; rfl) b1.out b2.out (by have := hbs.out; simp; omega) ?_; intro v' w1 hown' hgrow hnil'; have HW := Lib.hid hown'; have HG := Lib.hid hgrow; clear hown' hgrow hnil'))
      have hG : ((wr.alloc (.cells #[.int .i64 x, .pointer (some ⟨sb, 0, none⟩)] 59)).alloc (.cells #[.int .i64 x] 3)).grownBy w1 u3.ownBlock := HG.out
      exact ⟨⟨kk + 1, rfl, hlt, by rw [id_take st kk hlt, HY.out]; exact HW.out, Below.grown ((Hb.out.alloc hbs.out _).alloc (by have := hbs.out; simp; omega) _) hG (by have := hbs.out; simp; omega) (fun k hk => (HO.out.lt k hk).1)⟩, by simp [intOf]; omega⟩
    · obtain rfl : kk = st.length := by omega
      clear hO hb
      go_wp2
      go_ret
      have hO := HO.out
      rw [List.take_length] at hO
      obtain ⟨A3, c3, rfl⟩ : ∃ A3 c3, u3 = .slice A3 st.length c3 := by
        rcases hO.2 with ⟨h, h0⟩ | ⟨g, cap, cur, h, _⟩
        · exact ⟨_, _, by rw [h, h0]⟩
        · exact ⟨_, _, h⟩
      exact ⟨A3, _, c3, rfl, rfl, hO, Hb.out⟩
end Tb
end Go.Proofs.YtoflnmpbmjkaiaaDoor
