/- integer.Of, and fractions: what lies in memory; rat.Num, Den, below, Sign, Zero, Neg by their contracts. Conditions: as each says. -/
import Derived.Test.YtohkhcbocknliaaInt5M
namespace Go.Proofs.Ytohkhcbocknliaa
set_option linter.unusedSimpArgs false
set_option linter.unusedVariables false
open Go.RowKit Am
attribute [local go_sem ↓] Go.wp_at_zero Go.wp_at_succ
set_option maxHeartbeats 1000000
set_option maxRecDepth 100000
/-- a fraction's second part, as it lies in memory: 0 stands for 1 -/
def dn (q : Rat) : Nat := if q.den = 1 then 0 else q.den
/-- The bool g, the words s and the words d tell the fraction q. -/
structure RatS (w : World) (g : Bool) (s d : Value) (q : Rat) : Prop where
  num : IntS w g s q.num
  den : NatS w d (dn q)
theorem IntS.drew {w : World} {g : Bool} {s : Value} {z : Int} (h : IntS w g s z) : IntS w.drew g s z := ⟨h.abs.drew, h.neg⟩
theorem RatS.below {w w' : World} {g : Bool} {s d : Value} {q : Rat} (h : RatS w g s d q) (hb : Below w.heap.size w w') : RatS w' g s d q := ⟨h.num.below hb, h.den.below hb⟩
theorem RatS.alloc {w : World} {g : Bool} {s d : Value} {q : Rat} (h : RatS w g s d q) (o : Obj) : RatS (w.alloc o) g s d q := ⟨h.num.alloc o, h.den.alloc o⟩
theorem RatS.drew {w : World} {g : Bool} {s d : Value} {q : Rat} (h : RatS w g s d q) : RatS w.drew g s d q := ⟨h.num.drew, h.den.drew⟩
/-- Is it 0? -/
def zr (q : Rat) : Bool := decide (q = 0)
theorem zr_eq (q : Rat) : (q.num.sign == 0) = zr q := by
  unfold zr
  rw [show (q.num.sign == 0) = decide (q.num.sign = 0) from rfl]
  congr 1
  rw [Int.sign_eq_zero_iff_zero, Rat.num_eq_zero]
def RetRat (w : World) (q : Rat) (e : Ending) (w' : World) : Prop := ∃ (g : Bool) (A : Option Addr) (m c : Nat) (D : Option Addr) (md cd : Nat), e = .returned (.agg #[.bool g, .slice A m c, .slice D md cd]) ∧ RatS w' g (.slice A m c) (.slice D md cd) q ∧ Below w.heap.size w w'
def RetRatB (w : World) (q : Rat) (b : Bool) (e : Ending) (w' : World) : Prop := ∃ (g : Bool) (A : Option Addr) (m c : Nat) (D : Option Addr) (md cd : Nat), e = .returned (.tuple #[.agg #[.bool g, .slice A m c, .slice D md cd], .bool b]) ∧ RatS w' g (.slice A m c) (.slice D md cd) q ∧ Below w.heap.size w w'
theorem dn_one {q : Rat} (h : q.den = 1) : dn q = 0 := by unfold dn; rw [if_pos h]
theorem dn_more {q : Rat} (h : q.den ≠ 1) : dn q = q.den := by unfold dn; rw [if_neg h]
/-- a box of a whole number, a fraction, stored into -/
theorem NatS.setIn {w : World} {b o : Nat} {cs : Array Value} {t : TypeId} {s : Value} {n : Nat} (h : NatS w s n) (hb : w.heap[b]? = some (.cells cs t (0, 0))) (ht : 95 ≠ t) (u : Value) : NatS (w.setCell ⟨b, o, none⟩ u) s n := h.setCell (p := ⟨b, o, none⟩) hb ht u
theorem blk_set {w : World} {b o : Nat} {cs : Array Value} {t : TypeId} (u : Value) (hb : w.heap[b]? = some (.cells cs t (0, 0))) : (w.setCell ⟨b, o, none⟩ u).heap[b]? = some (.cells (cs.setIfInBounds o u) t (0, 0)) := heap_setCell_same w b o cs t u hb
theorem RatS.set3 {w : World} {b : Nat} {cs : Array Value} {t : TypeId} {g : Bool} {s d : Value} {q : Rat} (h : RatS w g s d q) (hb : w.heap[b]? = some (.cells cs t (0, 0))) (ht : 95 ≠ t) (u v x : Value) :
    RatS (((w.setCell ⟨b, 0, none⟩ u).setCell ⟨b, 1, none⟩ v).setCell ⟨b, 2, none⟩ x) g s d q :=
  ⟨⟨((h.num.abs.setIn hb ht u).setIn (blk_set u hb) ht v).setIn (blk_set v (blk_set u hb)) ht x, h.num.neg⟩, ((h.den.setIn hb ht u).setIn (blk_set u hb) ht v).setIn (blk_set v (blk_set u hb)) ht x⟩
theorem IntS.set2 {w : World} {b : Nat} {cs : Array Value} {t : TypeId} {g : Bool} {s : Value} {z : Int} (h : IntS w g s z) (hb : w.heap[b]? = some (.cells cs t (0, 0))) (ht : 95 ≠ t) (u v : Value) :
    IntS ((w.setCell ⟨b, 0, none⟩ u).setCell ⟨b, 1, none⟩ v) g s z :=
  ⟨(h.abs.setIn hb ht u).setIn (blk_set u hb) ht v, h.neg⟩
theorem Nt.zero' (s : Value) (n : Nat) (w : World) (hs : NatS w s n) : Calls Try.prog 48 #[.agg #[s]] w fun e w' => e = .returned (.bool (isZ n)) ∧ Below w.heap.size w w' :=
  (Nt.zero s n w hs).mono (by rintro e w' ⟨rfl, rfl⟩; exact ⟨rfl, below_alloc w _⟩)
theorem Nt.of1 (x : Nat) (K : Int) (hK : K = (x : Int)) (hx : x < B64) (w : World) : Calls Try.prog 59 #[.slice (some ⟨w.heap.size, 0, none⟩) 1 1] (w.alloc (.cells #[.int .u64 K] 95)) (RetNat w x) := by
  subst hK
  have h : SR (w.alloc (.cells #[.int .u64 (x : Int)] 95)) (.slice (some ⟨w.heap.size, 0, none⟩) 1 1) [x] := by
    refine ⟨some ⟨w.heap.size, 0, none⟩, 1, rfl, Nat.le_refl _, by decide, ?_, (fun h => by cases h), ?_⟩
    · intro y hy; rw [List.mem_singleton] at hy; subst hy; exact hx
    · intro ad he j u hu
      obtain rfl := Option.some.inj he
      cases j with
      | zero => simp only [wcells, List.map, List.getElem?_cons_zero] at hu; rw [← hu]; exact cell_nw rfl rfl
      | succ j => simp [wcells] at hu
  refine (Nt.of _ _ _ h (by rw [LIM_eq]; simp)).mono ?_
  rintro e w' ⟨A, m, c, rfl, hn, hb⟩
  have e1 : nval [x] = x := by simp [nval]
  rw [e1] at hn
  exact ⟨A, m, c, rfl, hn, (below_alloc w _).trans (hb.mono (by simp))⟩
namespace It
theorem wrapNeg (x : Int) (h0 : x < 0) (h1 : -9223372036854775808 ≤ x) : IntKind.u64.wrap (-IntKind.u64.wrap x) = (x.natAbs : Int) := by
  unfold IntKind.wrap IntKind.signed IntKind.bits
  simp
  omega
theorem ofPos (x : Int) (h0 : 0 ≤ x) (h1 : x ≤ 9223372036854775807) (w : World) : Calls Try.prog 42 #[.int .i64 x] w (RetInt w x) := by
  have hlt : decide (x < 0) = false := decide_eq_false (by omega)
  have H0 := Lib.hid h0
  have HX := Lib.hid (show x = (x.natAbs : Int) by omega)
  have HB := Lib.hid (show x.natAbs < B64 by unfold B64; omega)
  obtain ⟨W, hW⟩ : ∃ W, (w.alloc (.cells #[.bool false, .slice none 0 0] 38)) = W := ⟨_, rfl⟩
  have KB0 := Lib.hid (show W.heap[w.heap.size]? = some (.cells #[.bool false, .slice none 0 0] 38 (0, 0)) by rw [← hW]; exact blk_nw (by simp))
  have BB := Lib.hid (show Below w.heap.size w W by rw [← hW]; exact below_alloc w _)
  have HZ := Lib.hid (show w.heap.size + 1 ≤ W.heap.size by rw [← hW]; simp)
  obtain ⟨c0_0_0, c0_0_0d, fc0_0_0, fc0_0_0d, c0_1_0, c0_1_0d, fc0_1_0, fc0_1_0d⟩ := bf2 KB0.out
  go_enter Try.func42, Try.ntmps42
  go_wp2_with fail
  clear hW
  with_reducible refine (Nt.of1 x.natAbs x HX.out HB.out _).mono ?_
  rintro e w1 ⟨A2, m2, c2, rfl, hn, hb⟩
  have KB0_1 := Lib.hid (keepBlk hb KB0.out)
  have HN := Lib.hid (show NatS w1 (.slice A2 m2 c2) x.natAbs from hn)
  have BB_1 := Lib.hid (BB.out.trans ((hb).mono BB.out.size))
  obtain ⟨c0_0_1, c0_0_1d, fc0_0_1, fc0_0_1d, c0_1_1, c0_1_1d, fc0_1_1, fc0_1_1d⟩ := bf2 KB0_1.out
  clear hn hb
  go_wp2_with fail
  with_reducible refine (new false A2 m2 c2 x.natAbs _ HN.out).mono ?_
  rintro e w2 ⟨g3, A3, m3, c3, rfl, hn, hb⟩
  have KB0_2 := Lib.hid (keepBlk hb KB0_1.out)
  have HN_2 := Lib.hid (HN.out.below hb)
  have HI := Lib.hid (show IntS w2 g3 (.slice A3 m3 c3) (if false then -(x.natAbs : Int) else (x.natAbs : Int)) from hn)
  have BB_2 := Lib.hid (BB_1.out.trans ((hb).mono BB_1.out.size))
  obtain ⟨c0_0_2, c0_0_2d, fc0_0_2, fc0_0_2d, c0_1_2, c0_1_2d, fc0_1_2, fc0_1_2d⟩ := bf2 KB0_2.out
  clear hn hb
  go_wp2
  refine bodyPost_ret (v := .agg #[.bool g3, .slice A3 m3 c3]) (by simp [results, Try.results42, go_sem, c0_0_2, c0_0_2d, c0_1_2, c0_1_2d]) rfl ?_
  have hi : IntS w2 g3 (.slice A3 m3 c3) x := by have h := HI.out; rwa [if_neg (by decide), ← HX.out] at h
  exact ⟨g3, A3, m3, c3, rfl, hi.set2 KB0_2.out (by decide) _ _, Below.setCell (Below.setCell (BB_2.out) (p := ⟨w.heap.size, 0, none⟩) (by show w.heap.size ≤ w.heap.size; omega) _) (p := ⟨w.heap.size, 1, none⟩) (by show w.heap.size ≤ w.heap.size; omega) _⟩
theorem ofNeg (x : Int) (h0 : x < 0) (h1 : -9223372036854775808 ≤ x) (w : World) : Calls Try.prog 42 #[.int .i64 x] w (RetInt w x) := by
  have hlt : decide (x < 0) = true := decide_eq_true h0
  have HX := Lib.hid (wrapNeg x h0 h1)
  have HX2 := Lib.hid (show -(x.natAbs : Int) = x by omega)
  have HB := Lib.hid (show x.natAbs < B64 by unfold B64; omega)
  obtain ⟨W, hW⟩ : ∃ W, (w.alloc (.cells #[.bool false, .slice none 0 0] 38)) = W := ⟨_, rfl⟩
  have KB0 := Lib.hid (show W.heap[w.heap.size]? = some (.cells #[.bool false, .slice none 0 0] 38 (0, 0)) by rw [← hW]; exact blk_nw (by simp))
  have BB := Lib.hid (show Below w.heap.size w W by rw [← hW]; exact below_alloc w _)
  have HZ := Lib.hid (show w.heap.size + 1 ≤ W.heap.size by rw [← hW]; simp)
  obtain ⟨c0_0_0, c0_0_0d, fc0_0_0, fc0_0_0d, c0_1_0, c0_1_0d, fc0_1_0, fc0_1_0d⟩ := bf2 KB0.out
  go_enter Try.func42, Try.ntmps42
  go_wp2_with fail
  clear hW
  with_reducible refine (Nt.of1 x.natAbs _ HX.out HB.out _).mono ?_
  rintro e w1 ⟨A2, m2, c2, rfl, hn, hb⟩
  have KB0_1 := Lib.hid (keepBlk hb KB0.out)
  have HN := Lib.hid (show NatS w1 (.slice A2 m2 c2) x.natAbs from hn)
  have BB_1 := Lib.hid (BB.out.trans ((hb).mono BB.out.size))
  obtain ⟨c0_0_1, c0_0_1d, fc0_0_1, fc0_0_1d, c0_1_1, c0_1_1d, fc0_1_1, fc0_1_1d⟩ := bf2 KB0_1.out
  clear hn hb
  go_wp2_with fail
  with_reducible refine (new true A2 m2 c2 x.natAbs _ HN.out).mono ?_
  rintro e w2 ⟨g3, A3, m3, c3, rfl, hn, hb⟩
  have KB0_2 := Lib.hid (keepBlk hb KB0_1.out)
  have HN_2 := Lib.hid (HN.out.below hb)
  have HI := Lib.hid (show IntS w2 g3 (.slice A3 m3 c3) (if true then -(x.natAbs : Int) else (x.natAbs : Int)) from hn)
  have BB_2 := Lib.hid (BB_1.out.trans ((hb).mono BB_1.out.size))
  obtain ⟨c0_0_2, c0_0_2d, fc0_0_2, fc0_0_2d, c0_1_2, c0_1_2d, fc0_1_2, fc0_1_2d⟩ := bf2 KB0_2.out
  clear hn hb
  go_wp2
  refine bodyPost_ret (v := .agg #[.bool g3, .slice A3 m3 c3]) (by simp [results, Try.results42, go_sem, c0_0_2, c0_0_2d, c0_1_2, c0_1_2d]) rfl ?_
  have hi : IntS w2 g3 (.slice A3 m3 c3) x := by have h := HI.out; rwa [if_pos trivial, HX2.out] at h
  exact ⟨g3, A3, m3, c3, rfl, hi.set2 KB0_2.out (by decide) _ _, Below.setCell (Below.setCell (BB_2.out) (p := ⟨w.heap.size, 0, none⟩) (by show w.heap.size ≤ w.heap.size; omega) _) (p := ⟨w.heap.size, 1, none⟩) (by show w.heap.size ≤ w.heap.size; omega) _⟩
theorem of (x : Int) (h0 : -9223372036854775808 ≤ x) (h1 : x ≤ 9223372036854775807) (w : World) : Calls Try.prog 42 #[.int .i64 x] w (RetInt w x) := by
  by_cases h : x < 0
  · exact ofNeg x h h0 w
  · exact ofPos x (by omega) h1 w
end It
namespace Rt
theorem num (g : Bool) (A : Option Addr) (m c : Nat) (D : Option Addr) (md cd : Nat) (q : Rat) (w : World) (h : RatS w g (.slice A m c) (.slice D md cd) q) :
    Calls Try.prog 44 #[.agg #[.bool g, .slice A m c, .slice D md cd]] w fun e w' => e = .returned (.agg #[.bool g, .slice A m c]) ∧ Below w.heap.size w w' := by
  obtain ⟨W, hW⟩ : ∃ W, ((w.alloc (.cells #[.bool g, .slice A m c, .slice D md cd] 40)).alloc (.cells #[.bool false, .slice none 0 0] 38)) = W := ⟨_, rfl⟩
  have KB0 := Lib.hid (show W.heap[w.heap.size]? = some (.cells #[.bool g, .slice A m c, .slice D md cd] 40 (0, 0)) by rw [← hW]; exact blk_al (blk_nw (by simp)))
  have KB1 := Lib.hid (show W.heap[w.heap.size + 1]? = some (.cells #[.bool false, .slice none 0 0] 38 (0, 0)) by rw [← hW]; exact blk_nw (by simp))
  have BB := Lib.hid (show Below w.heap.size w W by rw [← hW]; exact (below_alloc w _).alloc (by simp) _)
  have HZ := Lib.hid (show w.heap.size + 2 ≤ W.heap.size by rw [← hW]; simp)
  obtain ⟨c0_0_0, c0_0_0d, c0_1_0, c0_1_0d, c0_2_0, c0_2_0d⟩ := bc3 KB0.out
  obtain ⟨c1_0_0, c1_0_0d, fc1_0_0, fc1_0_0d, c1_1_0, c1_1_0d, fc1_1_0, fc1_1_0d⟩ := bf2 KB1.out
  clear h HZ KB0 KB1
  go_enter Try.func44, Try.ntmps44
  go_wp2_with fail
  clear hW
  go_wp2
  refine bodyPost_ret (v := .agg #[.bool g, .slice A m c]) (by simp [results, Try.results44, go_sem, c1_0_0, c1_0_0d, c1_1_0, c1_1_0d]) rfl ?_
  exact ⟨rfl, Below.setCell (Below.setCell (BB.out) (p := ⟨w.heap.size + 1, 0, none⟩) (by show w.heap.size ≤ w.heap.size + 1; omega) _) (p := ⟨w.heap.size + 1, 1, none⟩) (by show w.heap.size ≤ w.heap.size + 1; omega) _⟩
theorem den_one (g : Bool) (A : Option Addr) (m c : Nat) (D : Option Addr) (md cd : Nat) (q : Rat) (w : World) (h : RatS w g (.slice A m c) (.slice D md cd) q) (hd : q.den = 1) :
    Calls Try.prog 38 #[.agg #[.bool g, .slice A m c, .slice D md cd]] w (RetNat w q.den) := by
  rw [hd]
  have h2 : NatS w (.slice D md cd) 0 := by have := h.den; rwa [dn_one hd] at this
  have hz : isZ 0 = true := rfl
  clear h hd
  obtain ⟨W, hW⟩ : ∃ W, ((w.alloc (.cells #[.bool g, .slice A m c, .slice D md cd] 40)).alloc (.cells #[.slice none 0 0] 36)) = W := ⟨_, rfl⟩
  have KB0 := Lib.hid (show W.heap[w.heap.size]? = some (.cells #[.bool g, .slice A m c, .slice D md cd] 40 (0, 0)) by rw [← hW]; exact blk_al (blk_nw (by simp)))
  have KB1 := Lib.hid (show W.heap[w.heap.size + 1]? = some (.cells #[.slice none 0 0] 36 (0, 0)) by rw [← hW]; exact blk_nw (by simp))
  have BB := Lib.hid (show Below w.heap.size w W by rw [← hW]; exact (below_alloc w _).alloc (by simp) _)
  have HZ := Lib.hid (show w.heap.size + 2 ≤ W.heap.size by rw [← hW]; simp)
  have HX := Lib.hid (show NatS W (.slice D md cd) 0 by rw [← hW]; exact ((h2).alloc _).alloc _)
  obtain ⟨c0_0_0, c0_0_0d, c0_1_0, c0_1_0d, c0_2_0, c0_2_0d⟩ := bc3 KB0.out
  obtain ⟨c1_0_0, c1_0_0d, fc1_0_0, fc1_0_0d⟩ := bf1 KB1.out
  clear h2
  go_enter Try.func38, Try.ntmps38
  go_wp2_with fail
  clear hW
  with_reducible refine (Nt.zero' (.slice D md cd) 0 _ HX.out).mono ?_
  rintro e w1 ⟨rfl, hb⟩
  have KB0_1 := Lib.hid (keepBlk hb KB0.out)
  have KB1_1 := Lib.hid (keepBlk hb KB1.out)
  have HX_1 := Lib.hid (HX.out.below hb)
  have BB_1 := Lib.hid (BB.out.trans ((hb).mono BB.out.size))
  obtain ⟨c0_0_1, c0_0_1d, c0_1_1, c0_1_1d, c0_2_1, c0_2_1d⟩ := bc3 KB0_1.out
  obtain ⟨c1_0_1, c1_0_1d, fc1_0_1, fc1_0_1d⟩ := bf1 KB1_1.out
  clear hb
  rw [hz]
  go_wp2_with fail
  with_reducible refine (Nt.of1 1 1 rfl (by decide) _).mono ?_
  rintro e w2 ⟨A2, m2, c2, rfl, hn, hb⟩
  have KB0_2 := Lib.hid (keepBlk hb KB0_1.out)
  have KB1_2 := Lib.hid (keepBlk hb KB1_1.out)
  have HX_2 := Lib.hid (HX_1.out.below hb)
  have HN := Lib.hid (show NatS w2 (.slice A2 m2 c2) 1 from hn)
  have BB_2 := Lib.hid (BB_1.out.trans ((hb).mono BB_1.out.size))
  obtain ⟨c0_0_2, c0_0_2d, c0_1_2, c0_1_2d, c0_2_2, c0_2_2d⟩ := bc3 KB0_2.out
  obtain ⟨c1_0_2, c1_0_2d, fc1_0_2, fc1_0_2d⟩ := bf1 KB1_2.out
  clear hn hb
  go_wp2
  refine bodyPost_ret (v := .agg #[.slice A2 m2 c2]) (by simp [results, Try.results38, go_sem, c1_0_2, c1_0_2d]) rfl ?_
  exact ⟨A2, m2, c2, rfl, NatS.setIn HN.out KB1_2.out (by decide) _, Below.setCell (BB_2.out) (p := ⟨w.heap.size + 1, 0, none⟩) (by show w.heap.size ≤ w.heap.size + 1; omega) _⟩
theorem den_more (g : Bool) (A : Option Addr) (m c : Nat) (D : Option Addr) (md cd : Nat) (q : Rat) (w : World) (h : RatS w g (.slice A m c) (.slice D md cd) q) (hd : q.den ≠ 1) :
    Calls Try.prog 38 #[.agg #[.bool g, .slice A m c, .slice D md cd]] w (RetNat w q.den) := by
  have h2 : NatS w (.slice D md cd) q.den := by have := h.den; rwa [dn_more hd] at this
  have hz : isZ q.den = false := isZ_pos q.den_pos
  clear h hd
  obtain ⟨W, hW⟩ : ∃ W, ((w.alloc (.cells #[.bool g, .slice A m c, .slice D md cd] 40)).alloc (.cells #[.slice none 0 0] 36)) = W := ⟨_, rfl⟩
  have KB0 := Lib.hid (show W.heap[w.heap.size]? = some (.cells #[.bool g, .slice A m c, .slice D md cd] 40 (0, 0)) by rw [← hW]; exact blk_al (blk_nw (by simp)))
  have KB1 := Lib.hid (show W.heap[w.heap.size + 1]? = some (.cells #[.slice none 0 0] 36 (0, 0)) by rw [← hW]; exact blk_nw (by simp))
  have BB := Lib.hid (show Below w.heap.size w W by rw [← hW]; exact (below_alloc w _).alloc (by simp) _)
  have HZ := Lib.hid (show w.heap.size + 2 ≤ W.heap.size by rw [← hW]; simp)
  have HX := Lib.hid (show NatS W (.slice D md cd) q.den by rw [← hW]; exact ((h2).alloc _).alloc _)
  obtain ⟨c0_0_0, c0_0_0d, c0_1_0, c0_1_0d, c0_2_0, c0_2_0d⟩ := bc3 KB0.out
  obtain ⟨c1_0_0, c1_0_0d, fc1_0_0, fc1_0_0d⟩ := bf1 KB1.out
  clear h2
  go_enter Try.func38, Try.ntmps38
  go_wp2_with fail
  clear hW
  with_reducible refine (Nt.zero' (.slice D md cd) q.den _ HX.out).mono ?_
  rintro e w1 ⟨rfl, hb⟩
  have KB0_1 := Lib.hid (keepBlk hb KB0.out)
  have KB1_1 := Lib.hid (keepBlk hb KB1.out)
  have HX_1 := Lib.hid (HX.out.below hb)
  have BB_1 := Lib.hid (BB.out.trans ((hb).mono BB.out.size))
  obtain ⟨c0_0_1, c0_0_1d, c0_1_1, c0_1_1d, c0_2_1, c0_2_1d⟩ := bc3 KB0_1.out
  obtain ⟨c1_0_1, c1_0_1d, fc1_0_1, fc1_0_1d⟩ := bf1 KB1_1.out
  clear hb
  rw [hz]
  go_wp2
  refine bodyPost_ret (v := .agg #[.slice D md cd]) (by simp [results, Try.results38, go_sem, c1_0_1, c1_0_1d]) rfl ?_
  exact ⟨D, md, cd, rfl, NatS.setIn HX_1.out KB1_1.out (by decide) _, Below.setCell (BB_1.out) (p := ⟨w.heap.size + 1, 0, none⟩) (by show w.heap.size ≤ w.heap.size + 1; omega) _⟩
theorem den (g : Bool) (A : Option Addr) (m c : Nat) (D : Option Addr) (md cd : Nat) (q : Rat) (w : World) (h : RatS w g (.slice A m c) (.slice D md cd) q) : Calls Try.prog 38 #[.agg #[.bool g, .slice A m c, .slice D md cd]] w (RetNat w q.den) := by
  by_cases hd : q.den = 1
  · exact den_one g A m c D md cd q w h hd
  · exact den_more g A m c D md cd q w h hd
theorem below (g : Bool) (A : Option Addr) (m c : Nat) (D : Option Addr) (md cd : Nat) (q : Rat) (w : World) (h : RatS w g (.slice A m c) (.slice D md cd) q) : Calls Try.prog 34 #[.agg #[.bool g, .slice A m c, .slice D md cd]] w (RetInt w (q.den : Int)) := by
  obtain ⟨W, hW⟩ : ∃ W, ((w.alloc (.cells #[.bool g, .slice A m c, .slice D md cd] 40)).alloc (.cells #[.bool false, .slice none 0 0] 38)) = W := ⟨_, rfl⟩
  have KB0 := Lib.hid (show W.heap[w.heap.size]? = some (.cells #[.bool g, .slice A m c, .slice D md cd] 40 (0, 0)) by rw [← hW]; exact blk_al (blk_nw (by simp)))
  have KB1 := Lib.hid (show W.heap[w.heap.size + 1]? = some (.cells #[.bool false, .slice none 0 0] 38 (0, 0)) by rw [← hW]; exact blk_nw (by simp))
  have BB := Lib.hid (show Below w.heap.size w W by rw [← hW]; exact (below_alloc w _).alloc (by simp) _)
  have HZ := Lib.hid (show w.heap.size + 2 ≤ W.heap.size by rw [← hW]; simp)
  have HX := Lib.hid (show RatS W g (.slice A m c) (.slice D md cd) q by rw [← hW]; exact ((h).alloc _).alloc _)
  obtain ⟨c0_0_0, c0_0_0d, c0_1_0, c0_1_0d, c0_2_0, c0_2_0d⟩ := bc3 KB0.out
  obtain ⟨c1_0_0, c1_0_0d, fc1_0_0, fc1_0_0d, c1_1_0, c1_1_0d, fc1_1_0, fc1_1_0d⟩ := bf2 KB1.out
  clear h
  go_enter Try.func34, Try.ntmps34
  go_wp2_with fail
  clear hW
  with_reducible refine (den g A m c D md cd q _ HX.out).mono ?_
  rintro e w1 ⟨A2, m2, c2, rfl, hn, hb⟩
  have KB0_1 := Lib.hid (keepBlk hb KB0.out)
  have KB1_1 := Lib.hid (keepBlk hb KB1.out)
  have HX_1 := Lib.hid (HX.out.below hb)
  have HN := Lib.hid (show NatS w1 (.slice A2 m2 c2) q.den from hn)
  have BB_1 := Lib.hid (BB.out.trans ((hb).mono BB.out.size))
  obtain ⟨c0_0_1, c0_0_1d, c0_1_1, c0_1_1d, c0_2_1, c0_2_1d⟩ := bc3 KB0_1.out
  obtain ⟨c1_0_1, c1_0_1d, fc1_0_1, fc1_0_1d, c1_1_1, c1_1_1d, fc1_1_1, fc1_1_1d⟩ := bf2 KB1_1.out
  clear hn hb
  go_wp2_with fail
  with_reducible refine (It.new false A2 m2 c2 q.den _ HN.out).mono ?_
  rintro e w2 ⟨g3, A3, m3, c3, rfl, hn, hb⟩
  have KB0_2 := Lib.hid (keepBlk hb KB0_1.out)
  have KB1_2 := Lib.hid (keepBlk hb KB1_1.out)
  have HX_2 := Lib.hid (HX_1.out.below hb)
  have HN_2 := Lib.hid (HN.out.below hb)
  have HI := Lib.hid (show IntS w2 g3 (.slice A3 m3 c3) (if false then -(q.den : Int) else (q.den : Int)) from hn)
  have BB_2 := Lib.hid (BB_1.out.trans ((hb).mono BB_1.out.size))
  obtain ⟨c0_0_2, c0_0_2d, c0_1_2, c0_1_2d, c0_2_2, c0_2_2d⟩ := bc3 KB0_2.out
  obtain ⟨c1_0_2, c1_0_2d, fc1_0_2, fc1_0_2d, c1_1_2, c1_1_2d, fc1_1_2, fc1_1_2d⟩ := bf2 KB1_2.out
  clear hn hb
  go_wp2
  refine bodyPost_ret (v := .agg #[.bool g3, .slice A3 m3 c3]) (by simp [results, Try.results34, go_sem, c1_0_2, c1_0_2d, c1_1_2, c1_1_2d]) rfl ?_
  have hi : IntS w2 g3 (.slice A3 m3 c3) (q.den : Int) := by have h := HI.out; rwa [if_neg (by decide)] at h
  exact ⟨g3, A3, m3, c3, rfl, hi.set2 KB1_2.out (by decide) _ _, Below.setCell (Below.setCell (BB_2.out) (p := ⟨w.heap.size + 1, 0, none⟩) (by show w.heap.size ≤ w.heap.size + 1; omega) _) (p := ⟨w.heap.size + 1, 1, none⟩) (by show w.heap.size ≤ w.heap.size + 1; omega) _⟩
theorem sign (g : Bool) (A : Option Addr) (m c : Nat) (D : Option Addr) (md cd : Nat) (q : Rat) (w : World) (h : RatS w g (.slice A m c) (.slice D md cd) q) : Calls Try.prog 14 #[.agg #[.bool g, .slice A m c, .slice D md cd]] w fun e w' => e = .returned (.int .i64 q.num.sign) ∧ Below w.heap.size w w' := by
  obtain ⟨W, hW⟩ : ∃ W, (w.alloc (.cells #[.bool g, .slice A m c, .slice D md cd] 40)) = W := ⟨_, rfl⟩
  have KB0 := Lib.hid (show W.heap[w.heap.size]? = some (.cells #[.bool g, .slice A m c, .slice D md cd] 40 (0, 0)) by rw [← hW]; exact blk_nw (by simp))
  have BB := Lib.hid (show Below w.heap.size w W by rw [← hW]; exact below_alloc w _)
  have HZ := Lib.hid (show w.heap.size + 1 ≤ W.heap.size by rw [← hW]; simp)
  have HX := Lib.hid (show RatS W g (.slice A m c) (.slice D md cd) q by rw [← hW]; exact (h).alloc _)
  obtain ⟨c0_0_0, c0_0_0d, c0_1_0, c0_1_0d, c0_2_0, c0_2_0d⟩ := bc3 KB0.out
  clear h
  go_enter Try.func14, Try.ntmps14
  go_wp2_with fail
  clear hW
  with_reducible refine (It.sign g A m c q.num _ HX.out.num).mono ?_
  rintro e w1 ⟨rfl, hb⟩
  have KB0_1 := Lib.hid (keepBlk hb KB0.out)
  have HX_1 := Lib.hid (HX.out.below hb)
  have BB_1 := Lib.hid (BB.out.trans ((hb).mono BB.out.size))
  obtain ⟨c0_0_1, c0_0_1d, c0_1_1, c0_1_1d, c0_2_1, c0_2_1d⟩ := bc3 KB0_1.out
  clear hb
  go_wp2
  go_ret
  exact ⟨rfl, BB_1.out⟩
theorem zero (g : Bool) (A : Option Addr) (m c : Nat) (D : Option Addr) (md cd : Nat) (q : Rat) (w : World) (h : RatS w g (.slice A m c) (.slice D md cd) q) : Calls Try.prog 9 #[.agg #[.bool g, .slice A m c, .slice D md cd]] w fun e w' => e = .returned (.bool (zr q)) ∧ Below w.heap.size w w' := by
  obtain ⟨W, hW⟩ : ∃ W, (w.alloc (.cells #[.bool g, .slice A m c, .slice D md cd] 40)) = W := ⟨_, rfl⟩
  have KB0 := Lib.hid (show W.heap[w.heap.size]? = some (.cells #[.bool g, .slice A m c, .slice D md cd] 40 (0, 0)) by rw [← hW]; exact blk_nw (by simp))
  have BB := Lib.hid (show Below w.heap.size w W by rw [← hW]; exact below_alloc w _)
  have HZ := Lib.hid (show w.heap.size + 1 ≤ W.heap.size by rw [← hW]; simp)
  have HX := Lib.hid (show RatS W g (.slice A m c) (.slice D md cd) q by rw [← hW]; exact (h).alloc _)
  obtain ⟨c0_0_0, c0_0_0d, c0_1_0, c0_1_0d, c0_2_0, c0_2_0d⟩ := bc3 KB0.out
  clear h
  go_enter Try.func9, Try.ntmps9
  go_wp2_with fail
  clear hW
  with_reducible refine (It.sign g A m c q.num _ HX.out.num).mono ?_
  rintro e w1 ⟨rfl, hb⟩
  have KB0_1 := Lib.hid (keepBlk hb KB0.out)
  have HX_1 := Lib.hid (HX.out.below hb)
  have BB_1 := Lib.hid (BB.out.trans ((hb).mono BB.out.size))
  obtain ⟨c0_0_1, c0_0_1d, c0_1_1, c0_1_1d, c0_2_1, c0_2_1d⟩ := bc3 KB0_1.out
  clear hb
  go_wp2
  go_ret
  exact ⟨by show Ending.returned (.bool (q.num.sign == 0)) = .returned (.bool (zr q)); rw [zr_eq], BB_1.out⟩
theorem neg (g : Bool) (A : Option Addr) (m c : Nat) (D : Option Addr) (md cd : Nat) (q : Rat) (w : World) (h : RatS w g (.slice A m c) (.slice D md cd) q) : Calls Try.prog 75 #[.agg #[.bool g, .slice A m c, .slice D md cd]] w (RetRat w (-q)) := by
  obtain ⟨W, hW⟩ : ∃ W, ((w.alloc (.cells #[.bool g, .slice A m c, .slice D md cd] 40)).alloc (.cells #[.bool false, .slice none 0 0, .slice none 0 0] 40)) = W := ⟨_, rfl⟩
  have KB0 := Lib.hid (show W.heap[w.heap.size]? = some (.cells #[.bool g, .slice A m c, .slice D md cd] 40 (0, 0)) by rw [← hW]; exact blk_al (blk_nw (by simp)))
  have KB1 := Lib.hid (show W.heap[w.heap.size + 1]? = some (.cells #[.bool false, .slice none 0 0, .slice none 0 0] 40 (0, 0)) by rw [← hW]; exact blk_nw (by simp))
  have BB := Lib.hid (show Below w.heap.size w W by rw [← hW]; exact (below_alloc w _).alloc (by simp) _)
  have HZ := Lib.hid (show w.heap.size + 2 ≤ W.heap.size by rw [← hW]; simp)
  have HX := Lib.hid (show RatS W g (.slice A m c) (.slice D md cd) q by rw [← hW]; exact ((h).alloc _).alloc _)
  obtain ⟨c0_0_0, c0_0_0d, c0_1_0, c0_1_0d, c0_2_0, c0_2_0d⟩ := bc3 KB0.out
  obtain ⟨c1_0_0, c1_0_0d, fc1_0_0, fc1_0_0d, c1_1_0, c1_1_0d, fc1_1_0, fc1_1_0d, c1_2_0, c1_2_0d, fc1_2_0, fc1_2_0d⟩ := bf3 KB1.out
  clear h
  go_enter Try.func75, Try.ntmps75
  go_wp2_with fail
  clear hW
  go_region_with (first
    | (go_at_call 79; (with_reducible refine (It.neg g A m c q.num _ HX.out.drew.num).mono ?_); rintro e w1 ⟨g3, A3, m3, c3, rfl, hn, hb⟩; have KB0_1 := Lib.hid (keepBlk hb KB0.out); have KB1_1 := Lib.hid (keepBlk hb KB1.out); have HX_1 := Lib.hid (HX.out.drew.below hb); have HI := Lib.hid (show IntS w1 g3 (.slice A3 m3 c3) (-q.num) from hn); have BB_1 := Lib.hid (BB.out.trans ((It.bdrew0' hb).mono BB.out.size)); obtain ⟨c0_0_1, c0_0_1d, c0_1_1, c0_1_1d, c0_2_1, c0_2_1d⟩ := bc3 KB0_1.out; obtain ⟨c1_0_1, c1_0_1d, fc1_0_1, fc1_0_1d, c1_1_1, c1_1_1d, fc1_1_1, fc1_1_1d, c1_2_1, c1_2_1d, fc1_2_1, fc1_2_1d⟩ := bf3 KB1_1.out; clear hn hb))
  all_goals
    go_wp2
    refine bodyPost_ret (v := .agg #[.bool g3, .slice A3 m3 c3, .slice D md cd]) (by simp [results, Try.results75, go_sem, c1_0_1, c1_0_1d, c1_1_1, c1_1_1d, c1_2_1, c1_2_1d]) rfl ?_
    have hi : RatS w1 g3 (.slice A3 m3 c3) (.slice D md cd) (-q) := ⟨HI.out, HX_1.out.den⟩
    exact ⟨g3, A3, m3, c3, D, md, cd, rfl, hi.set3 KB1_1.out (by decide) _ _ _, Below.setCell (Below.setCell (Below.setCell (BB_1.out) (p := ⟨w.heap.size + 1, 0, none⟩) (by show w.heap.size ≤ w.heap.size + 1; omega) _) (p := ⟨w.heap.size + 1, 1, none⟩) (by show w.heap.size ≤ w.heap.size + 1; omega) _) (p := ⟨w.heap.size + 1, 2, none⟩) (by show w.heap.size ≤ w.heap.size + 1; omega) _⟩
theorem int (x : Int) (h0 : -9223372036854775808 ≤ x) (h1 : x ≤ 9223372036854775807) (w : World) : Calls Try.prog 18 #[.int .i64 x] w (RetRat w (x : Rat)) := by
  obtain ⟨W, hW⟩ : ∃ W, (w.alloc (.cells #[.bool false, .slice none 0 0, .slice none 0 0] 40)) = W := ⟨_, rfl⟩
  have KB0 := Lib.hid (show W.heap[w.heap.size]? = some (.cells #[.bool false, .slice none 0 0, .slice none 0 0] 40 (0, 0)) by rw [← hW]; exact blk_nw (by simp))
  have BB := Lib.hid (show Below w.heap.size w W by rw [← hW]; exact below_alloc w _)
  have HZ := Lib.hid (show w.heap.size + 1 ≤ W.heap.size by rw [← hW]; simp)
  obtain ⟨c0_0_0, c0_0_0d, fc0_0_0, fc0_0_0d, c0_1_0, c0_1_0d, fc0_1_0, fc0_1_0d, c0_2_0, c0_2_0d, fc0_2_0, fc0_2_0d⟩ := bf3 KB0.out
  go_enter Try.func18, Try.ntmps18
  go_wp2_with fail
  clear hW
  with_reducible refine (It.of x h0 h1 _).mono ?_
  rintro e w1 ⟨g3, A3, m3, c3, rfl, hn, hb⟩
  have KB0_1 := Lib.hid (keepBlk hb KB0.out)
  have HI := Lib.hid (show IntS w1 g3 (.slice A3 m3 c3) x from hn)
  have BB_1 := Lib.hid (BB.out.trans ((hb).mono BB.out.size))
  obtain ⟨c0_0_1, c0_0_1d, fc0_0_1, fc0_0_1d, c0_1_1, c0_1_1d, fc0_1_1, fc0_1_1d, c0_2_1, c0_2_1d, fc0_2_1, fc0_2_1d⟩ := bf3 KB0_1.out
  clear hn hb
  go_wp2
  refine bodyPost_ret (v := .agg #[.bool g3, .slice A3 m3 c3, .slice none 0 0]) (by simp [results, Try.results18, go_sem, c0_0_1, c0_0_1d, c0_1_1, c0_1_1d, c0_2_1, c0_2_1d]) rfl ?_
  have hi : RatS w1 g3 (.slice A3 m3 c3) (.slice none 0 0) (x : Rat) := ⟨HI.out, NatS.zero _⟩
  exact ⟨g3, A3, m3, c3, none, 0, 0, rfl, hi.set3 KB0_1.out (by decide) _ _ _, Below.setCell (Below.setCell (Below.setCell (BB_1.out) (p := ⟨w.heap.size, 0, none⟩) (by show w.heap.size ≤ w.heap.size; omega) _) (p := ⟨w.heap.size, 1, none⟩) (by show w.heap.size ≤ w.heap.size; omega) _) (p := ⟨w.heap.size, 2, none⟩) (by show w.heap.size ≤ w.heap.size; omega) _⟩
end Rt
end Go.Proofs.Ytohkhcbocknliaa
