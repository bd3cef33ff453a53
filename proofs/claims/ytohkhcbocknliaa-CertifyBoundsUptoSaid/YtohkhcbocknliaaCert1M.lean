/- certify.Sum by its contract. Conditions: as it says. -/
import Derived.Test.YtohkhcbocknliaaRegM
import Derived.Test.YtohkhcbocknliaaProb4M
namespace Go.Proofs.Ytohkhcbocknliaa
set_option linter.unusedSimpArgs false
set_option linter.unusedVariables false
open Go.RowKit Am
attribute [local go_sem ↓] Go.wp_at_zero Go.wp_at_succ
set_option maxHeartbeats 4000000
set_option maxRecDepth 100000
/-- the rows summed up, each so often: what each number gets, of the first k rows -/
def svTo (n : Nat) (ys : List Rat) (rows : List PRow) : Nat → List Rat
  | 0 => List.replicate n 0
  | k + 1 => addT (svTo n ys rows k) (el ys k) (rows.getD k default).coef
def sv (n : Nat) (ys : List Rat) (rows : List PRow) : List Rat := svTo n ys rows rows.length
/-- and what it comes to -/
def sbTo (ys : List Rat) (rows : List PRow) (k : Nat) : Rat := sumTo k fun i => el ys i * (rows.getD i default).rhs
def sb (ys : List Rat) (rows : List PRow) : Rat := sbTo ys rows rows.length
theorem svTo_len {n : Nat} {ys : List Rat} {rows : List PRow} (h : Rows n rows) : ∀ k, k ≤ rows.length → (svTo n ys rows k).length = n
  | 0, _ => by simp [svTo]
  | k + 1, hk => by
    have ih := svTo_len (ys := ys) h k (by omega)
    obtain ⟨p, hp⟩ : ∃ p, rows[k]? = some p := ⟨rows[k]'(by omega), List.getElem?_eq_getElem _⟩
    have hc := (h p (List.mem_of_getElem? hp)).1
    show (addT _ _ _).length = n
    rw [getD_of hp, addT_len (by omega), ih]
theorem addT_mem {xs ys : List Rat} {r q : Rat} (h : q ∈ addT xs r ys) : ∃ a ∈ xs, ∃ b ∈ ys, q = a + r * b := by
  obtain ⟨k, hk⟩ := List.mem_iff_getElem?.1 h
  unfold addT at hk
  rw [List.getElem?_zipWith] at hk
  cases ha : xs[k]? with
  | none => rw [ha] at hk; simp at hk
  | some a =>
    cases hb : ys[k]? with
    | none => rw [ha, hb] at hk; simp at hk
    | some b => rw [ha, hb] at hk; simp at hk; exact ⟨a, List.mem_of_getElem? ha, b, List.mem_of_getElem? hb, hk.symm⟩
theorem mw_svTo {n : Nat} {ys : List Rat} {rows : List PRow} (h : Rows n rows) (zy : Sm ys) : ∀ k, k ≤ rows.length → ∀ q ∈ svTo n ys rows k, mw q ≤ k * 20001 + 1
  | 0, _ => by
    intro q hq
    rw [svTo] at hq
    rw [List.eq_of_mem_replicate hq]; exact mw_zero
  | k + 1, hk => by
    intro q hq
    obtain ⟨p, hp⟩ : ∃ p, rows[k]? = some p := ⟨rows[k]'(by omega), List.getElem?_eq_getElem _⟩
    have hc := (h p (List.mem_of_getElem? hp)).2.1
    rw [svTo, getD_of hp] at hq
    obtain ⟨a, ha, b, hb, rfl⟩ := addT_mem hq
    have h1 := mw_svTo h zy k (by omega) a ha
    have h2 := hc b hb
    have h3 := mw_el (by omega) zy k
    have h4 := mw_add a (el ys k * b)
    have h5 := mw_mul (el ys k) b
    omega
theorem mw_rhs {n : Nat} {rows : List PRow} (h : Rows n rows) (i : Nat) : mw (rows.getD i default).rhs ≤ 10000 := by
  rw [List.getD_eq_getElem?_getD]
  cases e : rows[i]? with
  | none => exact Nat.le_trans mw_zero (by decide)
  | some p => exact (h p (List.mem_of_getElem? e)).2.2
theorem mw_sbTo {n : Nat} {ys : List Rat} {rows : List PRow} (h : Rows n rows) (zy : Sm ys) (k : Nat) : mw (sbTo ys rows k) ≤ k * 20001 + 1 :=
  mw_sumTo (fun i => Nat.le_trans (mw_mul _ _) (by have := mw_el (by omega) zy i; have := mw_rhs h i; omega)) k
theorem sbTo_succ {ys : List Rat} {rows : List PRow} {k : Nat} {p : PRow} {q : Rat} (hp : rows[k]? = some p) (hq : ys[k]? = some q) : sbTo ys rows (k + 1) = sbTo ys rows k + q * p.rhs := by
  unfold sbTo; rw [sumTo, el_of hq, getD_of hp]
theorem svTo_succ {n : Nat} {ys : List Rat} {rows : List PRow} {k : Nat} {p : PRow} {q : Rat} (hp : rows[k]? = some p) (hq : ys[k]? = some q) : svTo n ys rows (k + 1) = addT (svTo n ys rows k) q p.coef := by
  rw [svTo, el_of hq, getD_of hp]
theorem VecS.set3 {w : World} {H : Nat} {v : Value} {qs : List Rat} {b : Nat} {cs : Array Value} {t : TypeId} (h : VecS w H v qs) (hb : w.heap[b]? = some (.cells cs t (0, 0))) (ht : 95 ≠ t) (hlt : b < H) (i j k : Nat) (u x y : Value) :
    VecS (((w.setCell ⟨b, i, none⟩ u).setCell ⟨b, j, none⟩ x).setCell ⟨b, k, none⟩ y) H v qs := by
  have hne : v.ownBlock ≠ some b := fun e => by have := (h.lt e).1; omega
  exact ((h.setCell (p := ⟨b, i, none⟩) hne hb ht u).setCell (p := ⟨b, j, none⟩) hne (blk_set u hb) ht x).setCell (p := ⟨b, k, none⟩) hne (blk_set x (blk_set u hb)) ht y
def RetSum (w : World) (v : List Rat) (q : Rat) (b : Bool) (e : Ending) (w' : World) : Prop := ∃ (S : Option Addr) (ns cs : Nat) (g : Bool) (A : Option Addr) (m c : Nat) (D : Option Addr) (md cd : Nat),
  e = .returned (.tuple #[.slice S ns cs, .agg #[.bool g, .slice A m c, .slice D md cd], .bool b]) ∧ VecS w' w.heap.size (.slice S ns cs) v ∧ RatS w' g (.slice A m c) (.slice D md cd) q ∧ Below w.heap.size w w'
namespace Ct
theorem sum_no (C : Option Addr) (nc cc : Nat) (R : Option Addr) (nr cr : Nat) (cost : List Rat) (rows : List PRow) (Y : Option Addr) (ny cy : Nat) (y : List Rat) (w : World) (hc : VecS w 0 (.slice C nc cc) cost) (hr : RowsS w 0 (.slice R nr cr) rows) (hy : VecS w 0 (.slice Y ny cy) y) (hl : y.length ≠ rows.length) :
    Calls Try.prog 7 #[.agg #[.slice C nc cc, .slice R nr cr], .slice Y ny cy] w (RetSum w [] 0 false) := by
  have h1 : ¬ ((ny : Int) = (nr : Int)) := by rw [hy.len, hr.len]; omega
  have h2 : ¬ ny = nr := by rw [hy.len, hr.len]; omega
  clear hc hr hy hl
  go_enter Try.func7, Try.ntmps7
  go_wp2
  refine bodyPost_ret (v := .tuple #[.slice none 0 0, .agg #[.bool false, .slice none 0 0, .slice none 0 0], .bool false]) (by simp [results, Try.results7, go_sem]) rfl ?_
  exact ⟨_, _, _, _, _, _, _, _, _, _, rfl, VecS.nil _ _, RatS.zero _, (below_alloc w _).alloc (by simp) _⟩
theorem sum_ok (C : Option Addr) (nc cc : Nat) (R : Option Addr) (nr cr : Nat) (cost : List Rat) (rows : List PRow) (Y : Option Addr) (ny cy : Nat) (y : List Rat) (w : World) (hc : VecS w 0 (.slice C nc cc) cost) (hr : RowsS w 0 (.slice R nr cr) rows) (hy : VecS w 0 (.slice Y ny cy) y) (hl : y.length = rows.length) (hnr : nr ≤ 4) (hnc : nc ≤ 1000) (hrr : Rows nc rows) (zy : Sm y) :
    Calls Try.prog 7 #[.agg #[.slice C nc cc, .slice R nr cr], .slice Y ny cy] w (RetSum w (sv nc y rows) (sb y rows) true) := by
  have hn1 := hy.len
  have hn3 := hr.len
  have en : nr = ny := by omega
  subst en
  have HL := Lib.hid hl
  have HN := Lib.hid hn3
  have HNR := Lib.hid hnr
  have HNC := Lib.hid (show nc ≤ 1048576 by omega)
  have HRR := Lib.hid hrr
  have ZY := Lib.hid zy
  clear hl hn1 hn3 hrr zy
  obtain ⟨W, hW⟩ : ∃ W, ((w.alloc (.cells #[.slice C nc cc, .slice R nr cr] 31)).alloc (.cells #[.bool false, .slice none 0 0, .slice none 0 0] 40)) = W := ⟨_, rfl⟩
  have KB0 := Lib.hid (show W.heap[w.heap.size]? = some (.cells #[.slice C nc cc, .slice R nr cr] 31 (0, 0)) by rw [← hW]; exact blk_al (blk_nw (by simp)))
  have KB1 := Lib.hid (show W.heap[w.heap.size + 1]? = some (.cells #[.bool false, .slice none 0 0, .slice none 0 0] 40 (0, 0)) by rw [← hW]; exact blk_nw (by simp))
  have BB := Lib.hid (show Below w.heap.size w W by rw [← hW]; exact (below_alloc w _).alloc (by simp) _)
  have HZ := Lib.hid (show w.heap.size + 2 ≤ W.heap.size by rw [← hW]; simp)
  have HC := Lib.hid (show VecS W 0 (.slice C nc cc) cost by rw [← hW]; exact ((hc).alloc _).alloc _)
  have HY := Lib.hid (show VecS W 0 (.slice Y nr cy) y by rw [← hW]; exact ((hy).alloc _).alloc _)
  have HR := Lib.hid (show RowsS W 0 (.slice R nr cr) rows by rw [← hW]; exact ((hr).alloc _).alloc _)
  obtain ⟨c0_0_0, c0_0_0d, c0_1_0, c0_1_0d⟩ := bc2 KB0.out
  obtain ⟨c1_0_0, c1_0_0d, fc1_0_0, fc1_0_0d, c1_1_0, c1_1_0d, fc1_1_0, fc1_1_0d, c1_2_0, c1_2_0d, fc1_2_0, fc1_2_0d⟩ := bf3 KB1.out
  clear hc hr hy
  go_enter Try.func7, Try.ntmps7
  go_wp2_with (at_make; go_must (refine make_vec rfl _ _ rfl nc _ rfl rfl rfl HNC.out W.heap.size rfl ?_; intro w1 ho hb1; have hzW := hb1.size; have KB0_1 := Lib.hid (keepBlk hb1 KB0.out); have KB1_1 := Lib.hid (keepBlk hb1 KB1.out); have HC_1 := Lib.hid (HC.out.below hb1); have HY_1 := Lib.hid (HY.out.below hb1); have HR_1 := Lib.hid (HR.out.below hb1); have HO := Lib.hid (show VecS w1 W.heap.size (.slice (some ⟨W.heap.size, 0, none⟩) nc nc) (List.replicate nc 0) from ho); have BB_1 := Lib.hid (BB.out.trans ((hb1).mono BB.out.size)); obtain ⟨c0_0_1, c0_0_1d, c0_1_1, c0_1_1d⟩ := bc2 KB0_1.out; obtain ⟨c1_0_1, c1_0_1d, fc1_0_1, fc1_0_1d, c1_1_1, c1_1_1d, fc1_1_1, fc1_1_1d, c1_2_1, c1_2_1d, fc1_2_1, fc1_2_1d⟩ := bf3 KB1_1.out; have hb2z := below_alloc w1 (.cells #[.bool false, .slice none 0 0, .slice none 0 0] 40); have KB0_2 := Lib.hid (keepBlk hb2z KB0_1.out); have KB1_2 := Lib.hid (keepBlk hb2z KB1_1.out); have HC_2 := Lib.hid (HC_1.out.below hb2z); have HY_2 := Lib.hid (HY_1.out.below hb2z); have HR_2 := Lib.hid (HR_1.out.below hb2z); have HO_2 := Lib.hid (HO.out.below hb2z); have BB_2 := Lib.hid (BB_1.out.trans ((hb2z).mono BB_1.out.size)); obtain ⟨c0_0_2, c0_0_2d, c0_1_2, c0_1_2d⟩ := bc2 KB0_2.out; obtain ⟨c1_0_2, c1_0_2d, fc1_0_2, fc1_0_2d, c1_1_2, c1_1_2d, fc1_1_2, fc1_1_2d, c1_2_2, c1_2_2d, fc1_2_2, fc1_2_2d⟩ := bf3 KB1_2.out; clear ho hb1))
  clear hW
  go_loopw [7, 27] (fun ov i wr => ∃ (k : Nat) (S : Option Addr) (cs : Nat) (gs : Bool) (As : Option Addr) (ms cps : Nat) (Ds : Option Addr) (mds cds : Nat), i = .int .i64 k ∧ ov = .slice S nc cs ∧ k ≤ nr ∧ VecS wr W.heap.size (.slice S nc cs) (svTo nc y rows k) ∧ wr.heap[w1.heap.size]? = some (.cells #[.bool gs, .slice As ms cps, .slice Ds mds cds] 40 (0, 0)) ∧ RatS wr gs (.slice As ms cps) (.slice Ds mds cds) (sbTo y rows k) ∧ Below w1.heap.size w1 wr)
    (fun _ i _ => nr - (intOf i).toNat)
  case atStart => exact ⟨0, _, _, _, _, _, _, _, _, _, rfl, rfl, Nat.zero_le _, HO.out.alloc _, blk_new _ _ _, RatS.zero _, below_alloc w1 _⟩
  case round =>
    obtain ⟨k, S, cs, gs, As, ms, cps, Ds, mds, cds, rfl, rfl, hk, hV, hbox, hP, hB⟩ := hrel
    by_cases hlt : k < nr
    · obtain ⟨p, hp⟩ : ∃ p, rows[k]? = some p := ⟨rows[k]'(by rw [← HN.out]; exact hlt), List.getElem?_eq_getElem _⟩
      obtain ⟨q, hq⟩ : ∃ q, y[k]? = some q := ⟨y[k]'(by rw [HL.out, ← HN.out]; exact hlt), List.getElem?_eq_getElem _⟩
      obtain ⟨b, rfl, hb0, hb1⟩ := HR.out.has (by omega)
      obtain ⟨by_, rfl, hby0, hby1⟩ := HY.out.has (by omega)
      obtain ⟨Q, nq, cq, g, A, m, c, D, md, cd, k0, k1, k2, k3, k4, hvq, hrh⟩ := (HR_1.out.below hB).at_ hp
      obtain ⟨gb, Ab, mb, cb, Db, mdb, cdb, l0, l1, l2, hRb⟩ := (HY_1.out.below hB).at_ hq
      have HP := Lib.hid hp
      have HQ := Lib.hid hq
      have HPR := Lib.hid (HRR.out p (List.mem_of_getElem? hp))
      have HQZ := Lib.hid (ZY.out q (List.mem_of_getElem? hq))
      obtain rfl : nc = nq := by rw [hvq.len, HPR.out.1]
      have KB0_2 := Lib.hid (keepBlk hB KB0_1.out)
      have KB1_2 := Lib.hid (keepBlk hB KB1_1.out)
      have HC_2 := Lib.hid (HC_1.out.below hB)
      have HY_2 := Lib.hid (HY_1.out.below hB)
      have HR_2 := Lib.hid (HR_1.out.below hB)
      have HO_2 := Lib.hid (HO.out.below hB)
      have HV := Lib.hid (show VecS wr W.heap.size (.slice S nc cs) (svTo nc y rows k) from hV)
      have HPS := Lib.hid (show RatS wr gs (.slice As ms cps) (.slice Ds mds cds) (sbTo y rows k) from hP)
      have HRb := Lib.hid (show RatS wr gb (.slice Ab mb cb) (.slice Db mdb cdb) q from hRb)
      have HVQ := Lib.hid (show VecS wr 0 (.slice Q nc cq) p.coef from hvq)
      have HRH := Lib.hid (show RatS wr g (.slice A m c) (.slice D md cd) p.rhs from hrh)
      have HW := Lib.hid (show Bel w1 wr from Bel.mk hB)
      have BB_2 := Lib.hid (BB_1.out.trans ((hB).mono BB_1.out.size))
      obtain ⟨c0_0_2, c0_0_2d, c0_1_2, c0_1_2d⟩ := bc2 KB0_2.out
      obtain ⟨c1_0_2, c1_0_2d, fc1_0_2, fc1_0_2d, c1_1_2, c1_1_2d, fc1_1_2, fc1_1_2d, c1_2_2, c1_2_2d, fc1_2_2, fc1_2_2d⟩ := bf3 KB1_2.out
      have x0_2 : wr.cell? ⟨by_, k * 3, none⟩ = some (.bool gb) := l0
      have x0_2d := drewCell x0_2
      have x1_2 : wr.cell? ⟨by_, k * 3 + 1, none⟩ = some (.slice Ab mb cb) := l1
      have x1_2d := drewCell x1_2
      have x2_2 : wr.cell? ⟨by_, k * 3 + 2, none⟩ = some (.slice Db mdb cdb) := l2
      have x2_2d := drewCell x2_2
      have KBO := Lib.hid hbox
      clear hV hbox hP hB hp hq hRb hvq hrh l0 l1 l2
      have HLV := Lib.hid (show (svTo nc y rows k).length = p.coef.length by rw [svTo_len HRR.out k (by rw [← HN.out]; exact hk), HPR.out.1])
      have HZV := Lib.hid (show ∀ q ∈ svTo nc y rows k, mw q ≤ 100000 from fun q hq => Nat.le_trans (mw_svTo HRR.out ZY.out k (by rw [← HN.out]; exact hk) q hq) (by have := HNR.out; omega))
      have L1 := Lib.hid (show 4 * (mw q + mw p.rhs) + 8 ≤ LIM by have := HQZ.out; have := HPR.out.2.2; have := LIM_eq; omega)
      have L2 := Lib.hid (show 4 * (mw (sbTo y rows k) + mw (q * p.rhs)) + 8 ≤ LIM by have := HQZ.out; have := HPR.out.2.2; have := LIM_eq; have := mw_mul q p.rhs; have := mw_sbTo HRR.out ZY.out k; have := HNR.out; omega)
      have hi1 : (0 : Int) ≤ (k : Int) := Int.natCast_nonneg _
      have hi2 : (k : Int) < (nr : Int) := by omega
      have hz0 := HZ.out
      have hz1 : w.heap.size + 2 ≤ w1.heap.size := (by have := (Array.getElem?_eq_some_iff.1 KB1_1.out).1; omega)
      have hb3z := below_alloc wr (.cells #[.slice Q nc cq, .int .i64 p.kind, .bool g, .slice A m c, .slice D md cd] 48)
      have KB0_3 := Lib.hid (keepBlk hb3z KB0_2.out)
      have KB1_3 := Lib.hid (keepBlk hb3z KB1_2.out)
      have KB2_3 := Lib.hid (keepBlk hb3z KBO.out)
      have HC_3 := Lib.hid (HC_2.out.below hb3z)
      have HY_3 := Lib.hid (HY_2.out.below hb3z)
      have HR_3 := Lib.hid (HR_2.out.below hb3z)
      have HO_3 := Lib.hid (HO_2.out.below hb3z)
      have HV_3 := Lib.hid (HV.out.below hb3z)
      have HPS_3 := Lib.hid (HPS.out.below hb3z)
      have HRb_3 := Lib.hid (HRb.out.below hb3z)
      have HVQ_3 := Lib.hid (HVQ.out.below hb3z)
      have HRH_3 := Lib.hid (HRH.out.below hb3z)
      have HW_3 := Lib.hid (HW.out.below hb3z)
      have BB_3 := Lib.hid (BB_2.out.trans ((hb3z).mono BB_2.out.size))
      obtain ⟨c0_0_3, c0_0_3d, c0_1_3, c0_1_3d⟩ := bc2 KB0_3.out
      obtain ⟨c1_0_3, c1_0_3d, fc1_0_3, fc1_0_3d, c1_1_3, c1_1_3d, fc1_1_3, fc1_1_3d, c1_2_3, c1_2_3d, fc1_2_3, fc1_2_3d⟩ := bf3 KB1_3.out
      obtain ⟨c2_0_3, c2_0_3d, fc2_0_3, fc2_0_3d, c2_1_3, c2_1_3d, fc2_1_3, fc2_1_3d, c2_2_3, c2_2_3d, fc2_2_3, fc2_2_3d⟩ := bf3 KB2_3.out
      have x0_3 := keepCell hb3z x0_2
      have x0_3d := drewCell x0_3
      have x1_3 := keepCell hb3z x1_2
      have x1_3d := drewCell x1_3
      have x2_3 := keepCell hb3z x2_2
      have x2_3d := drewCell x2_3
      have x3_3 : (wr.alloc (.cells #[.slice Q nc cq, .int .i64 p.kind, .bool g, .slice A m c, .slice D md cd] 48)).cell? ⟨wr.heap.size, 0, none⟩ = some (.slice Q nc cq) := cell_nw rfl rfl
      have x3_3d := drewCell x3_3
      have x4_3 : (wr.alloc (.cells #[.slice Q nc cq, .int .i64 p.kind, .bool g, .slice A m c, .slice D md cd] 48)).cell? ⟨wr.heap.size, 2, none⟩ = some (.bool g) := cell_nw rfl rfl
      have x4_3d := drewCell x4_3
      have x5_3 : (wr.alloc (.cells #[.slice Q nc cq, .int .i64 p.kind, .bool g, .slice A m c, .slice D md cd] 48)).cell? ⟨wr.heap.size, 3, none⟩ = some (.slice A m c) := cell_nw rfl rfl
      have x5_3d := drewCell x5_3
      have x6_3 : (wr.alloc (.cells #[.slice Q nc cq, .int .i64 p.kind, .bool g, .slice A m c, .slice D md cd] 48)).cell? ⟨wr.heap.size, 4, none⟩ = some (.slice D md cd) := cell_nw rfl rfl
      have x6_3d := drewCell x6_3
      go_wp2_with fail
      have hzr : w1.heap.size < wr.heap.size := (Array.getElem?_eq_some_iff.1 KBO.out).1
      go_region_held3 (fun w' => w'.cell? ⟨by_, k * 3, none⟩ = some (.bool gb) ∧ w'.cell? ⟨by_, k * 3 + 1, none⟩ = some (.slice Ab mb cb) ∧ w'.cell? ⟨by_, k * 3 + 2, none⟩ = some (.slice Db mdb cdb) ∧ w'.cell? ⟨wr.heap.size, 0, none⟩ = some (.slice Q nc cq) ∧ w'.cell? ⟨wr.heap.size, 2, none⟩ = some (.bool g) ∧ w'.cell? ⟨wr.heap.size, 3, none⟩ = some (.slice A m c) ∧ w'.cell? ⟨wr.heap.size, 4, none⟩ = some (.slice D md cd))
        (((try go_split_ands); (try simp only [World.cell?_drew]); (repeat' apply And.intro) <;> (repeat (first | with_reducible assumption | with_reducible refine cell_set (by omega) ?_ | with_reducible refine cell_al ?_))))
        (first
          | (go_at_call 26; (with_reducible refine (Vc.addTimes S nc cs (svTo nc y rows k) gb Ab mb cb Db mdb cdb q Q nc cq p.coef W.heap.size 0 _ HV_3.out.drew HRb_3.out.drew HVQ_3.out.drew HLV.out HNC.out HZV.out (Nat.le_trans HQZ.out (by decide)) (fun q hq => Nat.le_trans (HPR.out.2.1 q hq) (by decide))).mono ?_); rintro e v1 ⟨S2, ns2, cs2, rfl, hn, hb⟩; have KB0_4 := Lib.hid (keepBlk hb KB0_3.out); have KB1_4 := Lib.hid (keepBlk hb KB1_3.out); have KB2_4 := Lib.hid (keepBlk hb KB2_3.out); have HC_4 := Lib.hid (HC_3.out.drew.below hb); have HY_4 := Lib.hid (HY_3.out.drew.below hb); have HR_4 := Lib.hid (HR_3.out.drew.below hb); have HO_4 := Lib.hid (HO_3.out.drew.below hb); have HV_4 := Lib.hid (HV_3.out.drew.below hb); have HPS_4 := Lib.hid (HPS_3.out.drew.below hb); have HRb_4 := Lib.hid (HRb_3.out.drew.below hb); have HVQ_4 := Lib.hid (HVQ_3.out.drew.below hb); have HRH_4 := Lib.hid (HRH_3.out.drew.below hb); have HW_4 := Lib.hid (HW_3.out.drew.below hb); have HV2 := Lib.hid (show VecS v1 wr.heap.size (.slice S2 ns2 cs2) (addT (svTo nc y rows k) q p.coef) from (hn.base (by show wr.heap.size ≤ (wr.alloc _).heap.size; simp))); have BB_4 := Lib.hid (BB_3.out.trans ((It.bdrew0' hb).mono BB_3.out.size)); obtain ⟨c0_0_4, c0_0_4d, c0_1_4, c0_1_4d⟩ := bc2 KB0_4.out; obtain ⟨c1_0_4, c1_0_4d, fc1_0_4, fc1_0_4d, c1_1_4, c1_1_4d, fc1_1_4, fc1_1_4d, c1_2_4, c1_2_4d, fc1_2_4, fc1_2_4d⟩ := bf3 KB1_4.out; obtain ⟨c2_0_4, c2_0_4d, fc2_0_4, fc2_0_4d, c2_1_4, c2_1_4d, fc2_1_4, fc2_1_4d, c2_2_4, c2_2_4d, fc2_2_4, fc2_2_4d⟩ := bf3 KB2_4.out; have x0_4 := keepCell hb x0_3d; have x0_4d := drewCell x0_4; have x1_4 := keepCell hb x1_3d; have x1_4d := drewCell x1_4; have x2_4 := keepCell hb x2_3d; have x2_4d := drewCell x2_4; have x3_4 := keepCell hb x3_3d; have x3_4d := drewCell x3_4; have x4_4 := keepCell hb x4_3d; have x4_4d := drewCell x4_4; have x5_4 := keepCell hb x5_3d; have x5_4d := drewCell x5_4; have x6_4 := keepCell hb x6_3d; have x6_4d := drewCell x6_4; clear hn hb)
          | fail)
      go_wp2_with fail
      obtain rfl : nc = ns2 := by rw [HV2.out.len, addT_len HLV.out, HLV.out, HPR.out.1]
      refine wp_region_E (S := fun w' => w'.cell? ⟨w1.heap.size, 0, none⟩ = some (.bool gs) ∧ w'.cell? ⟨w1.heap.size, 1, none⟩ = some (.slice As ms cps) ∧ w'.cell? ⟨w1.heap.size, 2, none⟩ = some (.slice Ds mds cds) ∧ w'.cell? ⟨by_, k * 3, none⟩ = some (.bool gb) ∧ w'.cell? ⟨by_, k * 3 + 1, none⟩ = some (.slice Ab mb cb) ∧ w'.cell? ⟨by_, k * 3 + 2, none⟩ = some (.slice Db mdb cdb) ∧ w'.cell? ⟨wr.heap.size, 0, none⟩ = some (.slice Q nc cq) ∧ w'.cell? ⟨wr.heap.size, 2, none⟩ = some (.bool g) ∧ w'.cell? ⟨wr.heap.size, 3, none⟩ = some (.slice A m c) ∧ w'.cell? ⟨wr.heap.size, 4, none⟩ = some (.slice D md cd)) 11 (by kernel_rfl) ?_ (fun hHeld => ?_)
      · (((try go_split_ands); (try simp only [World.cell?_drew]); (repeat' apply And.intro) <;> (repeat (first | with_reducible assumption | with_reducible refine cell_set (by omega) ?_ | with_reducible refine cell_al ?_))))
      refine wpAnyE_take (i := 0) (v := ?_) rfl (by kernel_rfl) (fun _ _ _ h => h) (Or.inl ⟨by rfl, ?_⟩) hHeld ?_
      rotate_left
      · ((intro w hSw; (try dsimp only at hSw); go_simp); (try with_reducible rfl))
      try simp only [Act.put, List.setIfInBounds_toArray, List.set_cons_zero, List.set_cons_succ, List.getElem_toArray, List.getElem_cons_zero, List.getElem_cons_succ]
      refine wpAnyE_take (i := 1) (v := ?_) rfl (by kernel_rfl) (fun _ _ _ h => h) (Or.inl ⟨by rfl, ?_⟩) hHeld ?_
      rotate_left
      · ((intro w hSw; (try dsimp only at hSw); go_simp); (try with_reducible rfl))
      try simp only [Act.put, List.setIfInBounds_toArray, List.set_cons_zero, List.set_cons_succ, List.getElem_toArray, List.getElem_cons_zero, List.getElem_cons_succ]
      refine wpAnyE_take (i := 2) (v := ?_) rfl (by kernel_rfl) (fun _ _ _ h => h) (Or.inl ⟨by rfl, ?_⟩) hHeld ?_
      rotate_left
      · ((intro w hSw; (try dsimp only at hSw); go_simp); (try with_reducible rfl))
      try simp only [Act.put, List.setIfInBounds_toArray, List.set_cons_zero, List.set_cons_succ, List.getElem_toArray, List.getElem_cons_zero, List.getElem_cons_succ]
      refine wpAnyE_take (i := 3) (v := ?_) rfl (by kernel_rfl) (fun _ _ _ h => h) (Or.inl ⟨by rfl, ?_⟩) hHeld ?_
      rotate_left
      · ((intro w hSw; (try dsimp only at hSw); go_simp); (try with_reducible rfl))
      try simp only [Act.put, List.setIfInBounds_toArray, List.set_cons_zero, List.set_cons_succ, List.getElem_toArray, List.getElem_cons_zero, List.getElem_cons_succ]
      refine wpAnyE_take (i := 4) (v := ?_) rfl (by kernel_rfl) (fun _ _ _ h => h) (Or.inl ⟨by rfl, ?_⟩) hHeld ?_
      rotate_left
      · ((intro w hSw; (try dsimp only at hSw); go_simp); (try with_reducible rfl))
      try simp only [Act.put, List.setIfInBounds_toArray, List.set_cons_zero, List.set_cons_succ, List.getElem_toArray, List.getElem_cons_zero, List.getElem_cons_succ]
      refine wpAnyE_take (i := 5) (v := ?_) rfl (by kernel_rfl) (fun _ _ _ h => h) (Or.inl ⟨by rfl, ?_⟩) hHeld ?_
      rotate_left
      · ((intro w hSw; (try dsimp only at hSw); go_simp); (try with_reducible rfl))
      try simp only [Act.put, List.setIfInBounds_toArray, List.set_cons_zero, List.set_cons_succ, List.getElem_toArray, List.getElem_cons_zero, List.getElem_cons_succ]
      refine wpAnyE_take (i := 6) (v := ?_) rfl (by kernel_rfl) (fun _ _ _ h => h) (Or.inl ⟨by rfl, ?_⟩) hHeld ?_
      rotate_left
      · ((intro w hSw; (try dsimp only at hSw); go_simp); (try with_reducible rfl))
      try simp only [Act.put, List.setIfInBounds_toArray, List.set_cons_zero, List.set_cons_succ, List.getElem_toArray, List.getElem_cons_zero, List.getElem_cons_succ]
      refine wpAnyE_take (i := 7) (v := ?_) rfl (by kernel_rfl) (fun _ _ _ h => h) (Or.inl ⟨by rfl, ?_⟩) hHeld ?_
      rotate_left
      · ((intro w hSw; (try dsimp only at hSw); go_simp); (try with_reducible rfl))
      try simp only [Act.put, List.setIfInBounds_toArray, List.set_cons_zero, List.set_cons_succ, List.getElem_toArray, List.getElem_cons_zero, List.getElem_cons_succ]
      refine wpAnyE_one (i := 8) rfl (by kernel_rfl) (fun K hK => ?_)
      go_simp
      (go_at_call 11; (with_reducible refine (Rt.mul gb Ab mb cb Db mdb cdb q g A m c D md cd p.rhs _ HRb_4.out.drew HRH_4.out.drew L1.out).mono ?_); rintro e v2 ⟨g3, A3, m3, c3, D3, md3, cd3, rfl, hn, hb⟩; have KB0_5 := Lib.hid (keepBlk hb KB0_4.out); have KB1_5 := Lib.hid (keepBlk hb KB1_4.out); have KB2_5 := Lib.hid (keepBlk hb KB2_4.out); have HC_5 := Lib.hid (HC_4.out.drew.below hb); have HY_5 := Lib.hid (HY_4.out.drew.below hb); have HR_5 := Lib.hid (HR_4.out.drew.below hb); have HO_5 := Lib.hid (HO_4.out.drew.below hb); have HV_5 := Lib.hid (HV_4.out.drew.below hb); have HPS_5 := Lib.hid (HPS_4.out.drew.below hb); have HRb_5 := Lib.hid (HRb_4.out.drew.below hb); have HVQ_5 := Lib.hid (HVQ_4.out.drew.below hb); have HRH_5 := Lib.hid (HRH_4.out.drew.below hb); have HW_5 := Lib.hid (HW_4.out.drew.below hb); have HV2_5 := Lib.hid (HV2.out.drew.below hb); have HM := Lib.hid (show RatS v2 g3 (.slice A3 m3 c3) (.slice D3 md3 cd3) (q * p.rhs) from hn); have BB_5 := Lib.hid (BB_4.out.trans ((It.bdrew0' hb).mono BB_4.out.size)); obtain ⟨c0_0_5, c0_0_5d, c0_1_5, c0_1_5d⟩ := bc2 KB0_5.out; obtain ⟨c1_0_5, c1_0_5d, fc1_0_5, fc1_0_5d, c1_1_5, c1_1_5d, fc1_1_5, fc1_1_5d, c1_2_5, c1_2_5d, fc1_2_5, fc1_2_5d⟩ := bf3 KB1_5.out; obtain ⟨c2_0_5, c2_0_5d, fc2_0_5, fc2_0_5d, c2_1_5, c2_1_5d, fc2_1_5, fc2_1_5d, c2_2_5, c2_2_5d, fc2_2_5, fc2_2_5d⟩ := bf3 KB2_5.out; have x0_5 := keepCell hb x0_4d; have x0_5d := drewCell x0_5; have x1_5 := keepCell hb x1_4d; have x1_5d := drewCell x1_5; have x2_5 := keepCell hb x2_4d; have x2_5d := drewCell x2_5; have x3_5 := keepCell hb x3_4d; have x3_5d := drewCell x3_5; have x4_5 := keepCell hb x4_4d; have x4_5d := drewCell x4_5; have x5_5 := keepCell hb x5_4d; have x5_5d := drewCell x5_5; have x6_5 := keepCell hb x6_4d; have x6_5d := drewCell x6_5; clear hn hb)
      (try go_wp2_with fail)
      refine hK.out _ _ ?_ (fun hHeld => ?_)
      · (((try go_split_ands); (try simp only [World.cell?_drew]); (repeat' apply And.intro) <;> (repeat (first | with_reducible assumption | with_reducible refine cell_set (by omega) ?_ | with_reducible refine cell_al ?_))))
      clear hK K
      try simp only [Act.put, List.setIfInBounds_toArray, List.set_cons_zero, List.set_cons_succ, List.getElem_toArray, List.getElem_cons_zero, List.getElem_cons_succ]
      refine wpAnyE_one (i := 9) rfl (by kernel_rfl) (fun K hK => ?_)
      go_simp
      (go_at_call 10; (with_reducible refine (Rt.add gs As ms cps Ds mds cds (sbTo y rows k) g3 A3 m3 c3 D3 md3 cd3 (q * p.rhs) _ HPS_5.out HM.out L2.out).mono ?_); rintro e v3 ⟨g4, A4, m4, c4, D4, md4, cd4, rfl, hn, hb⟩; have KB0_6 := Lib.hid (keepBlk hb KB0_5.out); have KB1_6 := Lib.hid (keepBlk hb KB1_5.out); have KB2_6 := Lib.hid (keepBlk hb KB2_5.out); have HC_6 := Lib.hid (HC_5.out.below hb); have HY_6 := Lib.hid (HY_5.out.below hb); have HR_6 := Lib.hid (HR_5.out.below hb); have HO_6 := Lib.hid (HO_5.out.below hb); have HV_6 := Lib.hid (HV_5.out.below hb); have HPS_6 := Lib.hid (HPS_5.out.below hb); have HRb_6 := Lib.hid (HRb_5.out.below hb); have HVQ_6 := Lib.hid (HVQ_5.out.below hb); have HRH_6 := Lib.hid (HRH_5.out.below hb); have HW_6 := Lib.hid (HW_5.out.below hb); have HV2_6 := Lib.hid (HV2_5.out.below hb); have HM_6 := Lib.hid (HM.out.below hb); have HS := Lib.hid (show RatS v3 g4 (.slice A4 m4 c4) (.slice D4 md4 cd4) (sbTo y rows k + q * p.rhs) from hn); have BB_6 := Lib.hid (BB_5.out.trans ((hb).mono BB_5.out.size)); obtain ⟨c0_0_6, c0_0_6d, c0_1_6, c0_1_6d⟩ := bc2 KB0_6.out; obtain ⟨c1_0_6, c1_0_6d, fc1_0_6, fc1_0_6d, c1_1_6, c1_1_6d, fc1_1_6, fc1_1_6d, c1_2_6, c1_2_6d, fc1_2_6, fc1_2_6d⟩ := bf3 KB1_6.out; obtain ⟨c2_0_6, c2_0_6d, fc2_0_6, fc2_0_6d, c2_1_6, c2_1_6d, fc2_1_6, fc2_1_6d, c2_2_6, c2_2_6d, fc2_2_6, fc2_2_6d⟩ := bf3 KB2_6.out; have x0_6 := keepCell hb x0_5; have x0_6d := drewCell x0_6; have x1_6 := keepCell hb x1_5; have x1_6d := drewCell x1_6; have x2_6 := keepCell hb x2_5; have x2_6d := drewCell x2_6; have x3_6 := keepCell hb x3_5; have x3_6d := drewCell x3_6; have x4_6 := keepCell hb x4_5; have x4_6d := drewCell x4_6; have x5_6 := keepCell hb x5_5; have x5_6d := drewCell x5_6; have x6_6 := keepCell hb x6_5; have x6_6d := drewCell x6_6; clear hn hb)
      (try go_wp2_with fail)
      refine hK.out _ _ ?_ (fun hHeld => ?_)
      · (((try go_split_ands); (try simp only [World.cell?_drew]); (repeat' apply And.intro) <;> (repeat (first | with_reducible assumption | with_reducible refine cell_set (by omega) ?_ | with_reducible refine cell_al ?_))))
      clear hK K
      try simp only [Act.put, List.setIfInBounds_toArray, List.set_cons_zero, List.set_cons_succ, List.getElem_toArray, List.getElem_cons_zero, List.getElem_cons_succ]
      refine wpAnyE_take (i := 10) (v := ?_) rfl (by kernel_rfl) (fun _ _ _ h => h) (Or.inl ⟨by rfl, ?_⟩) hHeld ?_
      rotate_left
      · ((intro w hSw; (try dsimp only at hSw); go_simp); (try with_reducible rfl))
      try simp only [Act.put, List.setIfInBounds_toArray, List.set_cons_zero, List.set_cons_succ, List.getElem_toArray, List.getElem_cons_zero, List.getElem_cons_succ]
      refine wpAnyE_fin rfl (by kernel_rfl) (fun K hK => ?_)
      go_simp
      refine hK.out _ _ ?_
      clear hK K
      try simp only [Act.put, List.setIfInBounds_toArray, List.set_cons_zero, List.set_cons_succ, List.getElem_toArray, List.getElem_cons_zero, List.getElem_cons_succ]
      refine wpAnyE_done (by kernel_rfl) ?_ _
      all_goals
        go_wp2
        go_roundw
        case rel => exact ⟨k + 1, S2, cs2, g4, A4, m4, c4, D4, md4, cd4, by go_num, rfl, by omega, by rw [svTo_succ HP.out HQ.out]; exact (VecS.set3 HV2_6.out KB2_6.out (by decide) hzr 0 1 2 _ _ _).base (by omega), blk_set _ (blk_set _ (blk_set _ KB2_6.out)), by rw [sbTo_succ HP.out HQ.out]; exact HS.out.set3 KB2_6.out (by decide) _ _ _, (Bel.set3 HW_6.out (Nat.le_refl _) _ _ _).b⟩
        case measure => simp [intOf]; omega
    · have hkn : k = nr := by omega
      have KB0_2 := Lib.hid (keepBlk hB KB0_1.out)
      have KB1_2 := Lib.hid (keepBlk hB KB1_1.out)
      have HC_2 := Lib.hid (HC_1.out.below hB)
      have HY_2 := Lib.hid (HY_1.out.below hB)
      have HR_2 := Lib.hid (HR_1.out.below hB)
      have HO_2 := Lib.hid (HO.out.below hB)
      have HV := Lib.hid (show VecS wr W.heap.size (.slice S nc cs) (svTo nc y rows k) from hV)
      have HPS := Lib.hid (show RatS wr gs (.slice As ms cps) (.slice Ds mds cds) (sbTo y rows k) from hP)
      have BB_2 := Lib.hid (BB_1.out.trans ((hB).mono BB_1.out.size))
      obtain ⟨c0_0_2, c0_0_2d, c0_1_2, c0_1_2d⟩ := bc2 KB0_2.out
      obtain ⟨c1_0_2, c1_0_2d, fc1_0_2, fc1_0_2d, c1_1_2, c1_1_2d, fc1_1_2, fc1_1_2d, c1_2_2, c1_2_2d, fc1_2_2, fc1_2_2d⟩ := bf3 KB1_2.out
      have KBO := Lib.hid hbox
      obtain ⟨c0_0_2, c0_0_2d, c0_1_2, c0_1_2d⟩ := bc2 KB0_2.out
      obtain ⟨c1_0_2, c1_0_2d, fc1_0_2, fc1_0_2d, c1_1_2, c1_1_2d, fc1_1_2, fc1_1_2d, c1_2_2, c1_2_2d, fc1_2_2, fc1_2_2d⟩ := bf3 KB1_2.out
      obtain ⟨c2_0_2, c2_0_2d, c2_1_2, c2_1_2d, c2_2_2, c2_2_2d⟩ := bc3 KBO.out
      clear hV hbox hP hB
      go_wp2_with fail
      go_region
      all_goals
        go_wp2
        refine bodyPost_ret (v := .tuple #[.slice S nc cs, .agg #[.bool gs, .slice As ms cps, .slice Ds mds cds], .bool true]) (by simp [results, Try.results7, go_sem, c1_0_2, c1_0_2d, c1_1_2, c1_1_2d, c1_2_2, c1_2_2d]) rfl ?_
        have h1 := VecS.set3 HV.out KB1_2.out (by decide) (show w.heap.size + 1 < W.heap.size by have := HZ.out; omega) 0 1 2 (.bool gs) (.slice As ms cps) (.slice Ds mds cds)
        have h2 := HPS.out.set3 KB1_2.out (by decide) (.bool gs) (.slice As ms cps) (.slice Ds mds cds)
        rw [hkn, HN.out] at h1 h2
        exact ⟨_, _, _, _, _, _, _, _, _, _, rfl, (h1.base (by have := HZ.out; omega)).drew, h2.drew, bdrew (Below.setCell (Below.setCell (Below.setCell (BB_2.out) (p := ⟨w.heap.size + 1, 0, none⟩) (by show w.heap.size ≤ w.heap.size + 1; omega) _) (p := ⟨w.heap.size + 1, 1, none⟩) (by show w.heap.size ≤ w.heap.size + 1; omega) _) (p := ⟨w.heap.size + 1, 2, none⟩) (by show w.heap.size ≤ w.heap.size + 1; omega) _)⟩
end Ct
end Go.Proofs.Ytohkhcbocknliaa
