/- cmp.Compare, nat.Cmp by their contracts. Conditions: as each says. -/
import Derived.Test.YtohkhcbocknliaaOutM
namespace Go.Proofs.Ytohkhcbocknliaa
open Go.RowKit Am
attribute [local go_sem ↓] Go.wp_at_zero Go.wp_at_succ
set_option maxHeartbeats 400000
set_option maxRecDepth 100000
/-- -1, 0 or 1. -/
def cmpI (a b : Int) : Int := if a < b then -1 else if b < a then 1 else 0
theorem cmpI_lt {a b : Int} (h : a < b) : cmpI a b = -1 := by unfold cmpI; rw [if_pos h]
theorem cmpI_gt {a b : Int} (h : b < a) : cmpI a b = 1 := by unfold cmpI; rw [if_neg (by omega), if_pos h]
theorem cmpI_eq {a b : Int} (h : a = b) : cmpI a b = 0 := by unfold cmpI; rw [if_neg (by omega), if_neg (by omega)]
namespace Nt
theorem cmpInt (a b : Int) (w : World) : Calls Try.prog 60 #[.int .i64 a, .int .i64 b] w fun e w' => e = .returned (.int .i64 (cmpI a b)) ∧ w = w' := by
  rcases Int.lt_trichotomy a b with h | h | h
  · have E := Lib.hid (cmpI_lt h)
    go_enter Try.func60, Try.ntmps60
    go_wp2
    go_ret
    exact ⟨ret1 (by rw [E.out]), rfl⟩
  · subst h
    have E := Lib.hid (cmpI_eq (a := a) rfl)
    go_enter Try.func60, Try.ntmps60
    go_wp2
    go_ret
    exact ⟨ret1 (by rw [E.out]), rfl⟩
  · have E := Lib.hid (cmpI_gt h)
    go_enter Try.func60, Try.ntmps60
    go_wp2
    go_ret
    exact ⟨ret1 (by rw [E.out]), rfl⟩
theorem cmpU (a b : Int) (w : World) : Calls Try.prog 61 #[.int .u64 a, .int .u64 b] w fun e w' => e = .returned (.int .i64 (cmpI a b)) ∧ w = w' := by
  rcases Int.lt_trichotomy a b with h | h | h
  · have E := Lib.hid (cmpI_lt h)
    go_enter Try.func61, Try.ntmps61
    go_wp2
    go_ret
    exact ⟨ret1 (by rw [E.out]), rfl⟩
  · subst h
    have E := Lib.hid (cmpI_eq (a := a) rfl)
    go_enter Try.func61, Try.ntmps61
    go_wp2
    go_ret
    exact ⟨ret1 (by rw [E.out]), rfl⟩
  · have E := Lib.hid (cmpI_gt h)
    go_enter Try.func61, Try.ntmps61
    go_wp2
    go_ret
    exact ⟨ret1 (by rw [E.out]), rfl⟩

theorem cmp_len (A B : Option Addr) (c c' : Nat) (xs ys : List Nat) (w : World) (hne : xs.length ≠ ys.length) (v : Int) (hv : v = cmpI xs.length ys.length) :
    Calls Try.prog 45 #[.agg #[.slice A xs.length c], .agg #[.slice B ys.length c']] w fun e w' => e = .returned (.int .i64 v) ∧ Below w.heap.size w w' := by
  rcases Nat.lt_or_ge xs.length ys.length with h | h
  · have e : cmpI xs.length ys.length = -1 := cmpI_lt (by omega)
    rw [e] at hv
    subst hv
    clear hne h
    go_enter Try.func45, Try.ntmps45
    go_wp2_with fail
    refine (cmpInt _ _ _).mono ?_
    rw [e]
    rintro e' w' ⟨rfl, rfl⟩
    clear e
    go_wp2
    go_ret
    exact ⟨rfl, (below_alloc w _).alloc (by simp) _⟩
  · have e : cmpI xs.length ys.length = 1 := cmpI_gt (by omega)
    rw [e] at hv
    subst hv
    clear hne h
    go_enter Try.func45, Try.ntmps45
    go_wp2_with fail
    refine (cmpInt _ _ _).mono ?_
    rw [e]
    rintro e' w' ⟨rfl, rfl⟩
    clear e
    go_wp2
    go_ret
    exact ⟨rfl, (below_alloc w _).alloc (by simp) _⟩

/-- Of as many words: both rows, or none. -/
theorem cmp_eqlen (A B : Option Addr) (c c' : Nat) (xs ys : List Nat) (w : World) (hx : SW w (.slice A xs.length c) xs) (hy : SW w (.slice B ys.length c') ys) (hl : xs.length = ys.length) :
    Calls Try.prog 45 #[.agg #[.slice A xs.length c], .agg #[.slice B ys.length c']] w fun e w' => e = .returned (.int .i64 (cmpI (nval xs) (nval ys))) ∧ Below w.heap.size w w' := by
  have hlen := hx.len_le
  have e0 : cmpI xs.length ys.length = 0 := cmpI_eq (by omega)
  have E0 := Lib.hid e0
  have HL := Lib.hid hl
  clear e0
  have HX := Lib.hid hx
  have HY := Lib.hid hy
  have hbel : Below w.heap.size w ((w.alloc (.cells #[.slice A xs.length c] 36)).alloc (.cells #[.slice B ys.length c'] 36)) := (below_alloc w _).alloc (by simp) _
  have HB := Lib.hid hbel
  clear hx hy hl hbel
  go_enter Try.func45, Try.ntmps45
  go_wp2_with fail
  refine (cmpInt _ _ _).mono ?_
  rw [E0.out]
  rintro e' w' ⟨rfl, rfl⟩
  go_wp2
  go_loopw [6] (fun i wr => ∃ (j q : Nat), i = .int .i64 ((j : Int) - 1) ∧ j ≤ xs.length ∧ xs.drop j = ys.drop j ∧ wr = (((w.alloc (.cells #[.slice A xs.length c] 36)).alloc (.cells #[.slice B ys.length c'] 36))).drewN q)
    (fun i _ => (intOf i + 1).toNat)
  case atStart =>
    exact ⟨xs.length, 0, rfl, Nat.le_refl _, by rw [List.drop_eq_nil_of_le (Nat.le_refl _), List.drop_eq_nil_of_le (by rw [HL.out]; exact Nat.le_refl _)], rfl⟩
  case round =>
    obtain ⟨j, q, rfl, hj, hd, rfl⟩ := hrel
    have HD := Lib.hid hd
    clear hd
    rcases Nat.eq_zero_or_pos j with rfl | hpos
    · have hres : cmpI (nval xs) (nval ys) = 0 := cmpI_eq (by have := HD.out; simp at this; rw [this])
      have HR := Lib.hid hres
      clear hres
      go_wp2
      go_ret
      exact ⟨ret1 (by rw [HR.out]), bdrewN HB.out q⟩
    · have hjx : j - 1 < xs.length := by omega
      have hjy : j - 1 < ys.length := by have := HL.out; omega
      rcases HX.out.form with ⟨h1, h2⟩ | ⟨g, cap, h1, hg, hcap, hm, hcx⟩
      · exfalso; rw [h2] at hjx; simp at hjx
      rcases HY.out.form with ⟨h3, h4⟩ | ⟨g', cap', h3, hg', hcap', hm', hcy⟩
      · exfalso; rw [h4] at hjy; simp at hjy
      injection h1 with hA _ hc1
      injection h3 with hB _ hc2
      subst hA hB hc1 hc2
      have cx := cell_al (ob := .cells #[.slice (some ⟨g', 0, none⟩) ys.length c'] 36) (cell_al (ob := .cells #[.slice (some ⟨g, 0, none⟩) xs.length c] 36) (hcx (j - 1) hjx))
      have cy := cell_al (ob := .cells #[.slice (some ⟨g', 0, none⟩) ys.length c'] 36) (cell_al (ob := .cells #[.slice (some ⟨g, 0, none⟩) xs.length c] 36) (hcy (j - 1) hjy))
      have b0 := cell_al (ob := .cells #[.slice (some ⟨g', 0, none⟩) ys.length c'] 36) (cell_nw (W := w) (o := 0) (t := 36) (cs := #[.slice (some ⟨g, 0, none⟩) xs.length c]) rfl rfl)
      have b1 := cell_nw (W := w.alloc (.cells #[.slice (some ⟨g, 0, none⟩) xs.length c] 36)) (b := w.heap.size + 1) (o := 0) (t := 36) (cs := #[.slice (some ⟨g', 0, none⟩) ys.length c']) (by simp) rfl
      clear hcx hcy
      have hjx' : (j : Int) - 1 < (xs.length : Int) := by omega
      have hjy' : (j : Int) - 1 < (ys.length : Int) := by omega
      have hj0 : (0 : Int) ≤ (j : Int) - 1 := by omega
      go_wp2_with fail
      go_region_held3 (fun w' => w'.cell? ⟨w.heap.size, 0, none⟩ = some (.slice (some ⟨g, 0, none⟩) xs.length c) ∧ w'.cell? ⟨w.heap.size + 1, 0, none⟩ = some (.slice (some ⟨g', 0, none⟩) ys.length c') ∧
          w'.cell? ⟨g, j - 1, none⟩ = some (.int .u64 ((wd xs (j - 1) : Nat) : Int)) ∧ w'.cell? ⟨g', j - 1, none⟩ = some (.int .u64 ((wd ys (j - 1) : Nat) : Int)))
        (first | ((try go_split_ands); (try simp only [World.cell?_drew, World.cell?_drewN]); (repeat' apply And.intro) <;> assumption) | go_keep)
        (first | (go_at_call 61; (with_reducible refine (cmpU _ _ _).mono ?_); rintro e w' ⟨rfl, rfl⟩))
      have hd1 : xs.drop (j - 1 + 1) = ys.drop (j - 1 + 1) := by rw [show j - 1 + 1 = j by omega]; exact HD.out
      have HD1 := Lib.hid hd1
      clear hd1 cx cy b0 b1 hjx' hjy'
      rcases Nat.lt_trichotomy (wd xs (j - 1)) (wd ys (j - 1)) with h | h | h
      · have hres : cmpI (nval xs) (nval ys) = -1 := cmpI_lt (by have := nval_cmp_top HX.out.2 (j - 1) hjx hjy HD1.out h; omega)
        have HR := Lib.hid hres
        have hr : cmpI ((wd xs (j - 1) : Nat) : Int) ((wd ys (j - 1) : Nat) : Int) = -1 := cmpI_lt (by omega)
        clear hres h
        rw [hr]
        clear hr
        go_wp2
        go_ret
        exact ⟨ret1 (by rw [HR.out]), bdrewN HB.out _⟩
      · have hr : cmpI ((wd xs (j - 1) : Nat) : Int) ((wd ys (j - 1) : Nat) : Int) = 0 := cmpI_eq (by omega)
        have hd2 := Lib.hid (drop_eq_step (j - 1) hjx hjy HD1.out h)
        clear h
        rw [hr]
        clear hr
        go_wp2
        go_roundw
        case rel => exact ⟨j - 1, _, by congr 1; omega, by omega, hd2.out, rfl⟩
        case measure => simp [intOf]; omega
      · have hres : cmpI (nval xs) (nval ys) = 1 := cmpI_gt (by have := nval_cmp_top HY.out.2 (j - 1) hjy hjx HD1.out.symm h; omega)
        have HR := Lib.hid hres
        have hr : cmpI ((wd xs (j - 1) : Nat) : Int) ((wd ys (j - 1) : Nat) : Int) = 1 := cmpI_gt (by omega)
        clear hres h
        rw [hr]
        clear hr
        go_wp2
        go_ret
        exact ⟨ret1 (by rw [HR.out]), bdrewN HB.out _⟩

theorem cmp (A B : Option Addr) (m c m' c' a b : Nat) (w : World) (ha : NatS w (.slice A m c) a) (hb : NatS w (.slice B m' c') b) :
    Calls Try.prog 45 #[.agg #[.slice A m c], .agg #[.slice B m' c']] w fun e w' => e = .returned (.int .i64 (cmpI a b)) ∧ Below w.heap.size w w' := by
  obtain ⟨xs, hx, hcx, rfl, hlx, rfl⟩ := ha.words
  obtain ⟨ys, hy, hcy, rfl, hly, rfl⟩ := hb.words
  rcases Nat.lt_trichotomy xs.length ys.length with h | h | h
  · have := nval_lt_of_len hx.2 hcy h
    exact cmp_len A B c c' xs ys w (by omega) _ (by rw [cmpI_lt (by omega), cmpI_lt (by omega)])
  · exact cmp_eqlen A B c c' xs ys w hx hy h
  · have := nval_lt_of_len hy.2 hcx h
    exact cmp_len A B c c' xs ys w (by omega) _ (by rw [cmpI_gt (by omega), cmpI_gt (by omega)])
end Nt
end Go.Proofs.Ytohkhcbocknliaa
