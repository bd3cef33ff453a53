/- integer.New, Abs, Below, Sign, Neg by their contracts. Conditions: as each says. integer.Abs, Below, Sign, Neg by their contracts. Conditions: as each says. integer.Cmp, Add, Mul by their contracts. Conditions: as each says. integer.Mul by its contract. Conditions: as it says. Conditions: as they say. -/
import Derived.Test.YtohkhcbocknliaaGcd1M
namespace Go.Proofs.Ytohkhcbocknliaa
open Go.RowKit Am
attribute [local go_sem ↓] Go.wp_at_zero Go.wp_at_succ
set_option maxHeartbeats 1000000
set_option maxRecDepth 100000
/-- The bool g and the words s tell the whole number z. -/
structure IntS (w : World) (g : Bool) (s : Value) (z : Int) : Prop where
  abs : NatS w s z.natAbs
  neg : g = decide (z < 0)
theorem IntS.below {w w' : World} {g : Bool} {s : Value} {z : Int} (h : IntS w g s z) (hb : Below w.heap.size w w') : IntS w' g s z := ⟨h.abs.below hb, h.neg⟩
theorem IntS.alloc {w : World} {g : Bool} {s : Value} {z : Int} (h : IntS w g s z) (o : Obj) : IntS (w.alloc o) g s z := ⟨h.abs.alloc o, h.neg⟩
def RetInt (w : World) (z : Int) (e : Ending) (w' : World) : Prop := ∃ (g : Bool) (A : Option Addr) (m c : Nat), e = .returned (.agg #[.bool g, .slice A m c]) ∧ IntS w' g (.slice A m c) z ∧ Below w.heap.size w w'
namespace It
theorem sgn_new (g : Bool) (n : Nat) : (g && !isZ n) = decide ((if g then -(n : Int) else (n : Int)) < 0) := by
  unfold isZ
  cases g
  · simp
  · by_cases h : n = 0
    · simp [h]
    · simp [h]; omega
/-- a result's box of two cells, stored into -/
theorem set_two {w : World} {b : Nat} {u v : Value} {s : Value} {n : Nat} (h : NatS w s n) (hb : w.heap[b]? = some (.cells #[.bool false, .slice none 0 0] 38 (0, 0))) : NatS ((w.setCell ⟨b, 0, none⟩ u).setCell ⟨b, 1, none⟩ v) s n := by
  have h1 := heap_setCell_same w b 0 _ 38 u hb
  exact (h.setCell (p := ⟨b, 0, none⟩) hb (by decide) u).setCell (p := ⟨b, 1, none⟩) h1 (by decide) v
theorem new (g : Bool) (A : Option Addr) (m c n : Nat) (w : World) (hn : NatS w (.slice A m c) n) :
    Calls Try.prog 36 #[.bool g, .agg #[.slice A m c]] w (RetInt w (if g then -(n : Int) else (n : Int))) := by
  have HS := Lib.hid (sgn_new g n)
  obtain ⟨W, hW⟩ : ∃ W, W = (w.alloc (.cells #[.slice A m c] 36)).alloc (.cells #[.bool false, .slice none 0 0] 38) := ⟨_, rfl⟩
  have HN := Lib.hid (show NatS W (.slice A m c) n by rw [hW]; exact (hn.alloc _).alloc _)
  have HND : Hid (NatS W.drew (.slice A m c) n) := Lib.hid HN.out.drew
  have HK0 := Lib.hid (show W.heap[w.heap.size]? = some (.cells #[.slice A m c] 36 (0, 0)) by rw [hW]; exact blk_al (blk_nw rfl))
  have HR := Lib.hid (show W.heap[w.heap.size + 1]? = some (.cells #[.bool false, .slice none 0 0] 38 (0, 0)) by rw [hW]; exact blk_nw (by simp))
  have HB := Lib.hid (show Below w.heap.size w W by rw [hW]; exact (below_alloc w _).alloc (by simp) _)
  have k0 : W.drew.cell? ⟨w.heap.size, 0, none⟩ = some (.slice A m c) := blk_cell HK0.out 0
  have k1 : (W.alloc (.cells #[.slice A m c] 36)).drew.cell? ⟨w.heap.size, 0, none⟩ = some (.slice A m c) := cell_al (blk_cell HK0.out 0)
  have HR2 : Hid ((W.alloc (.cells #[.slice A m c] 36)).heap[w.heap.size + 1]? = some (.cells #[.bool false, .slice none 0 0] 38 (0, 0))) := Lib.hid (blk_al HR.out)
  have r0 : W.cell? ⟨w.heap.size + 1, 0, none⟩ = some (.bool false) := blk_cell HR.out 0
  have r1 : W.cell? ⟨w.heap.size + 1, 1, none⟩ = some (.slice none 0 0) := blk_cell HR.out 1
  have rf0 := blk_fro HR.out 0
  have rf1 := blk_fro HR.out 1
  have q0 : (W.alloc (.cells #[.slice A m c] 36)).cell? ⟨w.heap.size + 1, 0, none⟩ = some (.bool false) := blk_cell HR2.out 0
  have q1 : (W.alloc (.cells #[.slice A m c] 36)).cell? ⟨w.heap.size + 1, 1, none⟩ = some (.slice none 0 0) := blk_cell HR2.out 1
  have qf0 := blk_fro HR2.out 0
  have qf1 := blk_fro HR2.out 1
  have hbz := HB.out.size
  clear hn
  have HN2 : Hid (NatS (W.alloc (.cells #[.slice A m c] 36)) (.slice A m c) n) := Lib.hid (HN.out.alloc _)
  cases g
  case false =>
    go_enter Try.func36, Try.ntmps36
    go_wp2_with fail
    rw [← hW]
    clear hW
    go_region_with fail
    all_goals
      go_wp2
      refine bodyPost_ret (v := .agg #[.bool false, .slice A m c]) (by simp [results, Try.results36, go_sem, r0, r1]) rfl ?_
      exact ⟨false, A, m, c, rfl, ⟨by simpa using (set_two HN.out HR.out).drew, by simp⟩, (Below.setCell (Below.setCell HB.out (p := ⟨w.heap.size + 1, 0, none⟩) (by show w.heap.size ≤ w.heap.size + 1; omega) _) (p := ⟨w.heap.size + 1, 1, none⟩) (by show w.heap.size ≤ w.heap.size + 1; omega) _).drew⟩
  case true =>
    go_enter Try.func36, Try.ntmps36
    go_wp2_with fail
    rw [← hW]
    clear hW
    go_region_with (go_at_call 48; (with_reducible refine (Nt.zero (.slice A m c) n _ HND.out).mono ?_); rintro e w2 ⟨rfl, rfl⟩)
    all_goals
      go_wp2
      refine bodyPost_ret (v := .agg #[.bool (!isZ n), .slice A m c]) (by simp [results, Try.results36, go_sem, q0, q1]) rfl ?_
      exact ⟨!isZ n, A, m, c, rfl, ⟨by simpa using (set_two HN2.out HR2.out).drew, by have := HS.out; simpa using this⟩, (Below.setCell (Below.setCell (HB.out.alloc HB.out.size _) (p := ⟨w.heap.size + 1, 0, none⟩) (by show w.heap.size ≤ w.heap.size + 1; omega) _) (p := ⟨w.heap.size + 1, 1, none⟩) (by show w.heap.size ≤ w.heap.size + 1; omega) _).drew⟩
end It
end Go.Proofs.Ytohkhcbocknliaa
namespace Go.Proofs.Ytohkhcbocknliaa
open Go.RowKit Am
attribute [local go_sem ↓] Go.wp_at_zero Go.wp_at_succ
set_option maxHeartbeats 1000000
set_option maxRecDepth 100000
namespace It
theorem abs (g : Bool) (A : Option Addr) (m c : Nat) (w : World) : Calls Try.prog 52 #[.agg #[.bool g, .slice A m c]] w fun e w' => e = .returned (.agg #[.slice A m c]) ∧ Below w.heap.size w w' := by
  go_enter Try.func52, Try.ntmps52
  go_wp2
  exact bodyPost_ret (v := .agg #[.slice A m c]) (by simp [results, Try.results52, go_sem]) rfl ⟨rfl, (below_alloc w _).alloc (by simp) _⟩
theorem isBelow (g : Bool) (A : Option Addr) (m c : Nat) (w : World) : Calls Try.prog 54 #[.agg #[.bool g, .slice A m c]] w fun e w' => e = .returned (.bool g) ∧ Below w.heap.size w w' := by
  go_enter Try.func54, Try.ntmps54
  go_wp2
  go_ret
  exact ⟨rfl, below_alloc w _⟩
theorem signed (g : Bool) (z : Int) (h : g = decide (z < 0)) : (if (!g) = true then -((z.natAbs : Nat) : Int) else ((z.natAbs : Nat) : Int)) = -z := by
  by_cases hz : z < 0
  · rw [h, decide_eq_true hz]; simp; omega
  · rw [h, decide_eq_false hz]; simp; omega
theorem neg (g : Bool) (A : Option Addr) (m c : Nat) (z : Int) (w : World) (h : IntS w g (.slice A m c) z) : Calls Try.prog 79 #[.agg #[.bool g, .slice A m c]] w (RetInt w (-z)) := by
  have HG := Lib.hid (signed g z h.neg)
  have HN := Lib.hid (new (!g) A m c z.natAbs _ ((h.abs.alloc (.cells #[.bool g, .slice A m c] 38)).alloc (.cells #[.bool false, .slice none 0 0] 38)))
  clear h
  go_enter Try.func79, Try.ntmps79
  go_wp2_with fail
  refine HN.out.mono ?_
  rintro e w2 ⟨g2, A2, m2, c2, rfl, hi, hb⟩
  have kr := Lib.hid (keepBlk hb (show ((w.alloc (.cells #[.bool g, .slice A m c] 38)).alloc (.cells #[.bool false, .slice none 0 0] 38)).heap[w.heap.size + 1]? = some (.cells #[.bool false, .slice none 0 0] 38 (0, 0)) from blk_nw (by simp)))
  have r0 : w2.cell? ⟨w.heap.size + 1, 0, none⟩ = some (.bool false) := blk_cell kr.out 0
  have r1 : w2.cell? ⟨w.heap.size + 1, 1, none⟩ = some (.slice none 0 0) := blk_cell kr.out 1
  have rf0 := blk_fro kr.out 0
  have rf1 := blk_fro kr.out 1
  have HI := Lib.hid hi
  have HB := Lib.hid hb
  clear hi hb
  go_wp2
  refine bodyPost_ret (v := .agg #[.bool g2, .slice A2 m2 c2]) (by simp [results, Try.results79, go_sem, r0, r1]) rfl ?_
  have hi := HI.out
  rw [HG.out] at hi
  have hb0 : Below w.heap.size w w2 := ((below_alloc w _).alloc (by simp) _).trans (HB.out.mono (by simp; omega))
  exact ⟨g2, A2, m2, c2, rfl, ⟨set_two hi.abs kr.out, hi.neg⟩, Below.setCell (Below.setCell hb0 (p := ⟨w.heap.size + 1, 0, none⟩) (by show w.heap.size ≤ w.heap.size + 1; omega) _) (p := ⟨w.heap.size + 1, 1, none⟩) (by show w.heap.size ≤ w.heap.size + 1; omega) _⟩
theorem sign (g : Bool) (A : Option Addr) (m c : Nat) (z : Int) (w : World) (h : IntS w g (.slice A m c) z) : Calls Try.prog 31 #[.agg #[.bool g, .slice A m c]] w fun e w' => e = .returned (.int .i64 z.sign) ∧ Below w.heap.size w w' := by
  have HA := Lib.hid (h.abs.alloc (.cells #[.bool g, .slice A m c] 38))
  have hg := h.neg
  clear h
  rcases Int.lt_trichotomy z 0 with hz | hz | hz
  · rw [decide_eq_true hz] at hg
    have HZ := Lib.hid (Int.sign_eq_neg_one_of_neg hz)
    subst hg
    clear hz
    go_enter Try.func31, Try.ntmps31
    go_wp2
    go_ret
    exact ⟨by rw [HZ.out]; rfl, below_alloc w _⟩
  · subst hz
    have hg' : g = false := hg
    subst hg'
    have hz0 : isZ (Int.natAbs 0) = true := rfl
    clear hg
    go_enter Try.func31, Try.ntmps31
    go_wp2_with (go_at_call 48; (with_reducible refine (Nt.zero (.slice A m c) (Int.natAbs 0) _ HA.out).mono ?_); rintro e w2 ⟨rfl, rfl⟩; rw [hz0])
    go_ret
    exact ⟨rfl, (below_alloc w _).alloc (by simp) _⟩
  · have hg' : g = false := by rw [hg, decide_eq_false (by omega)]
    have HZ := Lib.hid (Int.sign_eq_one_of_pos hz)
    have hz0 : isZ z.natAbs = false := isZ_pos (by omega)
    subst hg'
    clear hg hz
    go_enter Try.func31, Try.ntmps31
    go_wp2_with (go_at_call 48; (with_reducible refine (Nt.zero (.slice A m c) z.natAbs _ HA.out).mono ?_); rintro e w2 ⟨rfl, rfl⟩; rw [hz0])
    go_ret
    exact ⟨by rw [HZ.out]; rfl, (below_alloc w _).alloc (by simp) _⟩
end It
end Go.Proofs.Ytohkhcbocknliaa
namespace Go.Proofs.Ytohkhcbocknliaa
open Go.RowKit Am
attribute [local go_sem ↓] Go.wp_at_zero Go.wp_at_succ
set_option maxHeartbeats 1000000
set_option maxRecDepth 100000
namespace It
theorem cmp (g : Bool) (A : Option Addr) (m c : Nat) (x : Int) (g' : Bool) (B : Option Addr) (m' c' : Nat) (y : Int) (w : World) (h : IntS w g (.slice A m c) x) (h' : IntS w g' (.slice B m' c') y) :
    Calls Try.prog 39 #[.agg #[.bool g, .slice A m c], .agg #[.bool g', .slice B m' c']] w fun e w' => e = .returned (.int .i64 (cmpI x y)) ∧ Below w.heap.size w w' := by
  have HA := Lib.hid ((h.abs.alloc (.cells #[.bool g, .slice A m c] 38)).alloc (.cells #[.bool g', .slice B m' c'] 38))
  have HB := Lib.hid ((h'.abs.alloc (.cells #[.bool g, .slice A m c] 38)).alloc (.cells #[.bool g', .slice B m' c'] 38))
  have HG := Lib.hid h.neg
  have HG' := Lib.hid h'.neg
  have hbb := Lib.hid ((below_alloc w (.cells #[.bool g, .slice A m c] 38)).alloc (by simp) (.cells #[.bool g', .slice B m' c'] 38))
  clear h h'
  have hne : ∀ {p : Prop} [Decidable p], true = decide p → p := fun h => of_decide_eq_true h.symm
  have hno : ∀ {p : Prop} [Decidable p], false = decide p → ¬ p := fun h => of_decide_eq_false h.symm
  cases g <;> cases g'
  · have h1 := Lib.hid (show cmpI ((x.natAbs : Nat) : Int) ((y.natAbs : Nat) : Int) = cmpI x y by
      have := hno HG.out
      have := hno HG'.out
      rw [show ((x.natAbs : Nat) : Int) = x by omega, show ((y.natAbs : Nat) : Int) = y by omega])
    clear hne hno
    go_enter Try.func39, Try.ntmps39
    go_wp2_with (go_at_call 45; (with_reducible refine (Nt.cmp A B m c m' c' x.natAbs y.natAbs _ HA.out HB.out).mono ?_); rintro e w2 ⟨rfl, hb⟩; rw [h1.out])
    go_ret
    exact ⟨rfl, hbb.out.trans (hb.mono hbb.out.size)⟩
  · have h1 := Lib.hid (show cmpI x y = 1 from cmpI_gt (by have := hno HG.out; have := hne HG'.out; omega))
    clear hne hno
    go_enter Try.func39, Try.ntmps39
    go_wp2
    go_ret
    exact ⟨by rw [h1.out]; rfl, hbb.out⟩
  · have h1 := Lib.hid (show cmpI x y = -1 from cmpI_lt (by have := hne HG.out; have := hno HG'.out; omega))
    clear hne hno
    go_enter Try.func39, Try.ntmps39
    go_wp2
    go_ret
    exact ⟨by rw [h1.out]; rfl, hbb.out⟩
  · have h1 := Lib.hid (show cmpI ((y.natAbs : Nat) : Int) ((x.natAbs : Nat) : Int) = cmpI x y by
      have := hne HG.out
      have := hne HG'.out
      unfold cmpI
      rcases Int.lt_trichotomy x y with h | h | h
      · rw [if_pos (by omega), if_pos h]
      · rw [if_neg (by omega), if_neg (by omega), if_neg (by omega), if_neg (by omega)]
      · rw [if_neg (by omega), if_pos (by omega), if_neg (by omega), if_pos h])
    clear hne hno
    go_enter Try.func39, Try.ntmps39
    go_wp2_with (go_at_call 45; (with_reducible refine (Nt.cmp B A m' c' m c y.natAbs x.natAbs _ HB.out HA.out).mono ?_); rintro e w2 ⟨rfl, hb⟩; rw [h1.out])
    go_ret
    exact ⟨rfl, hbb.out.trans (hb.mono hbb.out.size)⟩
end It
end Go.Proofs.Ytohkhcbocknliaa
namespace Go.Proofs.Ytohkhcbocknliaa
open Go.RowKit Am
attribute [local go_sem ↓] Go.wp_at_zero Go.wp_at_succ
set_option maxHeartbeats 1000000
set_option maxRecDepth 100000
namespace It
theorem mul_val (g g' : Bool) (x y : Int) (h : g = decide (x < 0)) (h' : g' = decide (y < 0)) : (if (!(g == g')) = true then -((x.natAbs * y.natAbs : Nat) : Int) else ((x.natAbs * y.natAbs : Nat) : Int)) = x * y := by
  have e : ((x.natAbs * y.natAbs : Nat) : Int) = (x * y).natAbs := by rw [Int.natAbs_mul]
  rw [e]
  rcases Int.lt_trichotomy x 0 with hx | hx | hx <;> rcases Int.lt_trichotomy y 0 with hy | hy | hy
  all_goals first
    | (subst hx; simp; done)
    | (subst hy; simp; done)
    | skip
  · have := Int.mul_pos_of_neg_of_neg hx hy
    rw [h, h', decide_eq_true hx, decide_eq_true hy]; simp; omega
  · have := Int.mul_neg_of_neg_of_pos hx hy
    rw [h, h', decide_eq_true hx, decide_eq_false (by omega)]; simp; omega
  · have := Int.mul_neg_of_pos_of_neg hx hy
    rw [h, h', decide_eq_false (by omega), decide_eq_true hy]; simp; omega
  · have := Int.mul_pos hx hy
    rw [h, h', decide_eq_false (by omega), decide_eq_false (by omega)]; simp; omega
theorem bdrew0' {w w1 : World} (h : Below w.drew.heap.size w.drew w1) : Below w.heap.size w w1 := ⟨h.os, h.tape, h.output, h.size, h.block⟩
theorem mul (g : Bool) (A : Option Addr) (m c : Nat) (x : Int) (g' : Bool) (B : Option Addr) (m' c' : Nat) (y : Int) (w : World) (h : IntS w g (.slice A m c) x) (h' : IntS w g' (.slice B m' c') y) (hla : 4 * wlen x.natAbs ≤ LIM) (hlb : 4 * wlen y.natAbs ≤ LIM) :
    Calls Try.prog 33 #[.agg #[.bool g, .slice A m c], .agg #[.bool g', .slice B m' c']] w (RetInt w (x * y)) := by
  have HV := Lib.hid (mul_val g g' x y h.neg h'.neg)
  have HLA := Lib.hid hla
  have HLB := Lib.hid hlb
  obtain ⟨W, hW⟩ : ∃ W, W = ((w.alloc (.cells #[.bool g, .slice A m c] 38)).alloc (.cells #[.bool g', .slice B m' c'] 38)).alloc (.cells #[.bool false, .slice none 0 0] 38) := ⟨_, rfl⟩
  have HA : Hid (NatS W.drew (.slice A m c) x.natAbs) := Lib.hid (by rw [hW]; exact (((h.abs.alloc _).alloc _).alloc _).drew)
  have HB : Hid (NatS W.drew (.slice B m' c') y.natAbs) := Lib.hid (by rw [hW]; exact (((h'.abs.alloc _).alloc _).alloc _).drew)
  have ha : W.heap[w.heap.size]? = some (.cells #[.bool g, .slice A m c] 38 (0, 0)) := by rw [hW]; exact blk_al (blk_al (blk_nw rfl))
  have hb : W.heap[w.heap.size + 1]? = some (.cells #[.bool g', .slice B m' c'] 38 (0, 0)) := by rw [hW]; exact blk_al (blk_nw (by simp))
  have hr : W.heap[w.heap.size + 1 + 1]? = some (.cells #[.bool false, .slice none 0 0] 38 (0, 0)) := by rw [hW]; exact blk_nw (by simp)
  have hB : Below w.heap.size w W := by rw [hW]; exact ((below_alloc w _).alloc (by simp) _).alloc (by simp; omega) _
  have a0 : W.drew.cell? ⟨w.heap.size, 0, none⟩ = some (.bool g) := blk_cell ha 0
  have a1 : W.drew.cell? ⟨w.heap.size, 1, none⟩ = some (.slice A m c) := blk_cell ha 1
  have b0 : W.drew.cell? ⟨w.heap.size + 1, 0, none⟩ = some (.bool g') := blk_cell hb 0
  have b1 : W.drew.cell? ⟨w.heap.size + 1, 1, none⟩ = some (.slice B m' c') := blk_cell hb 1
  have HKA := Lib.hid ha
  have HKB := Lib.hid hb
  have HKR := Lib.hid hr
  have HBB := Lib.hid hB
  clear h h' hla hlb ha hb hr hB
  go_enter Try.func33, Try.ntmps33
  go_wp2_with fail
  rw [← hW]
  clear hW
  go_region_with (first
    | (go_at_call 37; (with_reducible refine (Pr.mul A B m c m' c' x.natAbs y.natAbs _ HA.out HB.out HLA.out HLB.out).mono ?_); rintro e w2 ⟨A2, m2, c2, rfl, hn, hb2⟩; have HN := Lib.hid hn; have HB2 := Lib.hid hb2; have u0 : w2.cell? ⟨w.heap.size, 0, none⟩ = some (.bool g) := keepCell hb2 a0; have u1 : w2.cell? ⟨w.heap.size + 1, 0, none⟩ = some (.bool g') := keepCell hb2 b0; clear hn hb2)
    | (go_at_call 36; (with_reducible refine (new (!(g == g')) A2 m2 c2 (x.natAbs * y.natAbs) _ HN.out).mono ?_); rintro e w3 ⟨g3, A3, m3, c3, rfl, hi, hb3⟩; have HI := Lib.hid hi; have HB3 := Lib.hid hb3; have kr := Lib.hid (keepBlk hb3 (keepBlk HB2.out (show W.drew.heap[w.heap.size + 1 + 1]? = some (.cells #[.bool false, .slice none 0 0] 38 (0, 0)) from HKR.out))); have r0 : w3.cell? ⟨w.heap.size + 1 + 1, 0, none⟩ = some (.bool false) := blk_cell kr.out 0; have r1 : w3.cell? ⟨w.heap.size + 1 + 1, 1, none⟩ = some (.slice none 0 0) := blk_cell kr.out 1; have rf0 := blk_fro kr.out 0; have rf1 := blk_fro kr.out 1; clear hi hb3))
  all_goals
    go_wp2
    refine bodyPost_ret (v := .agg #[.bool g3, .slice A3 m3 c3]) (by simp [results, Try.results33, go_sem, r0, r1]) rfl ?_
    have hi := HI.out
    rw [HV.out] at hi
    have hz : w.heap.size ≤ W.heap.size := HBB.out.size
    have hb0 : Below w.heap.size w w3 := (HBB.out.trans ((bdrew0' HB2.out).mono hz)).trans (HB3.out.mono (Nat.le_trans hz (bdrew0' HB2.out).size))
    exact ⟨g3, A3, m3, c3, rfl, ⟨set_two hi.abs kr.out, hi.neg⟩, Below.setCell (Below.setCell hb0 (p := ⟨w.heap.size + 1 + 1, 0, none⟩) (by show w.heap.size ≤ w.heap.size + 1 + 1; omega) _) (p := ⟨w.heap.size + 1 + 1, 1, none⟩) (by show w.heap.size ≤ w.heap.size + 1 + 1; omega) _⟩
end It
end Go.Proofs.Ytohkhcbocknliaa
