/- vec.Sub, Scale, Dot by their contracts. Conditions: as each says. -/
import Derived.Test.YtohkhcbocknliaaVec5M
namespace Go.Proofs.Ytohkhcbocknliaa
set_option linter.unusedSimpArgs false
set_option linter.unusedVariables false
open Go.RowKit Am
attribute [local go_sem ↓] Go.wp_at_zero Go.wp_at_succ
set_option maxHeartbeats 4000000
set_option maxRecDepth 100000
theorem mw_int (x : Int) (h : I64 x) : mw (x : Rat) ≤ 1 := by
  unfold mw
  rw [Rat.num_intCast, Rat.den_intCast]
  have h1 := wlen_word (n := x.natAbs) (by unfold B64; omega)
  have h2 := wlen_word (n := 1) (by decide)
  omega
theorem mw_zero : mw 0 ≤ 1 := mw_int 0 (by constructor <;> decide)
/-- the sum of f 0 .. f (n - 1) -/
def sumTo : Nat → (Nat → Rat) → Rat
  | 0, _ => 0
  | n + 1, f => sumTo n f + f n
/-- the element number i; 0 past the end -/
def el (xs : List Rat) (i : Nat) : Rat := xs.getD i 0
theorem el_of {xs : List Rat} {i : Nat} {a : Rat} (h : xs[i]? = some a) : el xs i = a := by unfold el; rw [List.getD_eq_getElem?_getD, h]; rfl
theorem mw_el {xs : List Rat} {M : Nat} (hM : 1 ≤ M) (h : ∀ q ∈ xs, mw q ≤ M) (i : Nat) : mw (el xs i) ≤ M := by
  unfold el
  rw [List.getD_eq_getElem?_getD]
  cases e : xs[i]? with
  | none => exact Nat.le_trans mw_zero hM
  | some a => exact h a (List.mem_of_getElem? e)
theorem mw_sumTo {f : Nat → Rat} {M : Nat} (h : ∀ i, mw (f i) ≤ M) : ∀ n, mw (sumTo n f) ≤ n * (M + 1) + 1
  | 0 => by simpa [sumTo] using mw_zero
  | n + 1 => by
    have h1 := mw_sumTo h n
    have h2 := h n
    have h3 := mw_add (sumTo n f) (f n)
    rw [Nat.succ_mul]
    show mw (sumTo n f + f n) ≤ _
    omega
/-- the sum of the products, place by place, of the first k -/
def dotTo (xs ys : List Rat) (k : Nat) : Rat := sumTo k fun i => el xs i * el ys i
def dot (xs ys : List Rat) : Rat := dotTo xs ys xs.length
theorem dotTo_succ (xs ys : List Rat) (k : Nat) {a b : Rat} (ha : xs[k]? = some a) (hb : ys[k]? = some b) : dotTo xs ys (k + 1) = dotTo xs ys k + a * b := by
  unfold dotTo; rw [sumTo, el_of ha, el_of hb]
theorem dotTo_skip (xs ys : List Rat) (k : Nat) {a b : Rat} (ha : xs[k]? = some a) (hb : ys[k]? = some b) (h : a = 0 ∨ b = 0) : dotTo xs ys (k + 1) = dotTo xs ys k := by
  rw [dotTo_succ xs ys k ha hb]
  rcases h with rfl | rfl
  · rw [Rat.zero_mul, Rat.add_zero]
  · rw [Rat.mul_zero, Rat.add_zero]
theorem mw_dotTo {xs ys : List Rat} (zx : ∀ q ∈ xs, mw q ≤ 10000) (zy : ∀ q ∈ ys, mw q ≤ 10000) (k : Nat) : mw (dotTo xs ys k) ≤ k * 20001 + 1 :=
  mw_sumTo (fun i => Nat.le_trans (mw_mul _ _) (by have := mw_el (by omega) zx i; have := mw_el (by omega) zy i; omega)) k
/-- r times all -/
def scale (r : Rat) (xs : List Rat) : List Rat := xs.map fun a => r * a
theorem scale_get {r : Rat} {xs : List Rat} {k : Nat} {a : Rat} (h : xs[k]? = some a) : (scale r xs)[k]? = some (r * a) := by simp [scale, h]
theorem scale_len (r : Rat) (xs : List Rat) : (scale r xs).length = xs.length := by simp [scale]
namespace Vc
theorem sub (A : Option Addr) (n c : Nat) (xs : List Rat) (B : Option Addr) (n' c' : Nat) (ys : List Rat) (H H' : Nat) (w : World) (hx : VecS w H (.slice A n c) xs) (hy : VecS w H' (.slice B n' c') ys)
    (hl : xs.length = ys.length) (hb : n ≤ 1048576) (zx : ∀ q ∈ xs, mw q ≤ 100000) (zy : ∀ q ∈ ys, mw q ≤ 100000) :
    Calls Try.prog 29 #[.slice A n c, .slice B n' c'] w (RetVecB w (addT xs ((-1 : Int) : Rat) ys) true) := by
  have HA := Lib.hid hx
  have HB := Lib.hid hy
  have HL := Lib.hid hl
  have HBN := Lib.hid hb
  have ZX := Lib.hid zx
  have ZY := Lib.hid zy
  clear hx hy hl hb zx zy
  go_enter Try.func29, Try.ntmps29
  go_wp2_with fail
  refine (Rt.int (-1) (by decide) (by decide) _).mono ?_
  rintro e w1 ⟨g, R, m, cr, D, md, cd, rfl, hr, hb⟩
  have HA1 := Lib.hid (HA.out.below hb)
  have HB1 := Lib.hid (HB.out.below hb)
  have HR := Lib.hid hr
  have HBB := Lib.hid hb
  clear hr hb
  go_wp2_with fail
  refine (addTimes A n c xs g R m cr D md cd ((-1 : Int) : Rat) B n' c' ys H H' _ HA1.out HR.out HB1.out HL.out HBN.out ZX.out (Nat.le_trans (mw_int _ (by constructor <;> decide)) (by decide)) ZY.out).mono ?_
  rintro e w2 ⟨A2, n2, c2, rfl, hv, hb⟩
  have HV := Lib.hid (hv.base HBB.out.size)
  have HB2 := Lib.hid (HBB.out.trans (hb.mono HBB.out.size))
  clear hv hb
  go_wp2
  refine bodyPost_ret (v := .tuple #[.slice A2 n2 c2, .bool true]) (by simp [results, Try.results29, go_sem]) rfl ?_
  exact ⟨_, _, _, rfl, HV.out, HB2.out⟩
theorem scale (g : Bool) (R : Option Addr) (m cr : Nat) (D : Option Addr) (md cd : Nat) (r : Rat) (A : Option Addr) (n c : Nat) (xs : List Rat) (H : Nat) (w : World) (hx : VecS w H (.slice A n c) xs) (hr : RatS w g (.slice R m cr) (.slice D md cd) r)
    (hb : n ≤ 1048576) (zx : ∀ q ∈ xs, mw q ≤ 100000) (zr : mw r ≤ 100000) :
    Calls Try.prog 43 #[.agg #[.bool g, .slice R m cr, .slice D md cd], .slice A n c] w (RetVec w (scale r xs)) := by
  have hn := hx.len
  have HN := Lib.hid hn
  have HBN := Lib.hid hb
  have ZX := Lib.hid zx
  have ZR := Lib.hid zr
  have hnb : n ≤ 9223372036854775807 := by omega
  clear hn hb zx zr
  obtain ⟨W, hW⟩ : ∃ W, (w.alloc (.cells #[.bool g, .slice R m cr, .slice D md cd] 40)) = W := ⟨_, rfl⟩
  have KB0 := Lib.hid (show W.heap[w.heap.size]? = some (.cells #[.bool g, .slice R m cr, .slice D md cd] 40 (0, 0)) by rw [← hW]; exact blk_nw (by simp))
  have BB := Lib.hid (show Below w.heap.size w W by rw [← hW]; exact below_alloc w _)
  have HZ := Lib.hid (show w.heap.size + 1 ≤ W.heap.size by rw [← hW]; simp)
  have HA := Lib.hid (show VecS W H (.slice A n c) xs by rw [← hW]; exact (hx).alloc _)
  have HR := Lib.hid (show RatS W g (.slice R m cr) (.slice D md cd) r by rw [← hW]; exact (hr).alloc _)
  obtain ⟨c0_0_0, c0_0_0d, c0_1_0, c0_1_0d, c0_2_0, c0_2_0d⟩ := bc3 KB0.out
  clear hx hr
  go_enter Try.func43, Try.ntmps43
  go_wp2_with (at_make; go_must (refine make_vec rfl _ _ rfl n _ rfl rfl rfl HBN.out W.heap.size rfl ?_; intro w1 ho hb1))
  clear hW
  have HO := Lib.hid ho
  have HB1 := Lib.hid hb1
  clear ho hb1
  go_wp2
  go_loopw [12] (fun i wr => ∃ k : Nat, i = .int .i64 k ∧ k ≤ n ∧ VecS wr W.heap.size (.slice (some ⟨W.heap.size, 0, none⟩) n n) (mix (Go.Proofs.Ytohkhcbocknliaa.scale r xs) k) ∧ Below W.heap.size W wr)
    (fun i _ => n - (intOf i).toNat)
  case atStart => exact ⟨0, rfl, Nat.zero_le _, by rw [mix_zero, scale_len, ← HN.out]; exact HO.out, HB1.out⟩
  case round =>
    obtain ⟨k, rfl, hk, hv, hB⟩ := hrel
    by_cases hlt : k < n
    · obtain ⟨a, ha⟩ : ∃ a, xs[k]? = some a := ⟨xs[k]'(by rw [← HN.out]; exact hlt), List.getElem?_eq_getElem _⟩
      obtain ⟨bx, rfl, hbx0, hbx1⟩ := HA.out.has (by omega)
      obtain ⟨ga, Aa, ma, ca, Da, mda, cda, k0, k1, k2, hRa⟩ := (HA.out.below hB).at_ ha
      have KB0_1 := Lib.hid (keepBlk hB KB0.out)
      have HA_1 := Lib.hid (HA.out.below hB)
      have HR_1 := Lib.hid (HR.out.below hB)
      have HRa := Lib.hid (show RatS wr ga (.slice Aa ma ca) (.slice Da mda cda) a from hRa)
      have HV := Lib.hid (show VecS wr W.heap.size (.slice (some ⟨W.heap.size, 0, none⟩) n n) (mix (Go.Proofs.Ytohkhcbocknliaa.scale r xs) k) from hv)
      have HW := Lib.hid (show Bel W wr from Bel.mk hB)
      have BB_1 := Lib.hid (BB.out.trans ((hB).mono BB.out.size))
      obtain ⟨c0_0_1, c0_0_1d, c0_1_1, c0_1_1d, c0_2_1, c0_2_1d⟩ := bc3 KB0_1.out
      have x0_1 : wr.cell? ⟨bx, k * 3, none⟩ = some (.bool ga) := k0
      have x0_1d := drewCell x0_1
      have x1_1 : wr.cell? ⟨bx, k * 3 + 1, none⟩ = some (.slice Aa ma ca) := k1
      have x1_1d := drewCell x1_1
      have x2_1 : wr.cell? ⟨bx, k * 3 + 2, none⟩ = some (.slice Da mda cda) := k2
      have x2_1d := drewCell x2_1
      have HGET := Lib.hid (scale_get (r := r) ha)
      have ZA := Lib.hid (ZX.out a (List.mem_of_getElem? ha))
      have hi1 : (0 : Int) ≤ (k : Int) := Int.natCast_nonneg _
      have hi2 : (k : Int) < (n : Int) := by omega
      have L1 := Lib.hid (show 4 * (mw r + mw a) + 8 ≤ LIM by have := ZR.out; have := ZA.out; have := LIM_eq; omega)
      have HMIX := Lib.hid (mix_get (k := k) (rs := Go.Proofs.Ytohkhcbocknliaa.scale r xs) (by rw [scale_len, ← HN.out]; exact hlt))
      clear hv hB ha k0 k1 k2 hRa
      have hz0 := HZ.out
      go_wp2_with fail
      go_region_held3 (fun w' => w'.cell? ⟨w.heap.size, 0, none⟩ = some (.bool g) ∧ w'.cell? ⟨w.heap.size, 1, none⟩ = some (.slice R m cr) ∧ w'.cell? ⟨w.heap.size, 2, none⟩ = some (.slice D md cd) ∧ w'.cell? ⟨bx, k * 3, none⟩ = some (.bool ga) ∧ w'.cell? ⟨bx, k * 3 + 1, none⟩ = some (.slice Aa ma ca) ∧ w'.cell? ⟨bx, k * 3 + 2, none⟩ = some (.slice Da mda cda))
        (((try go_split_ands); (try simp only [World.cell?_drew]); (repeat' apply And.intro) <;> (repeat (first | with_reducible assumption | with_reducible refine cell_set (by omega) ?_ | with_reducible refine cell_al ?_))))
        (first
          | (go_at_call 11; (with_reducible refine (Rt.mul g R m cr D md cd r ga Aa ma ca Da mda cda a _ HR_1.out.drew HRa.out.drew L1.out).mono ?_); rintro e u1 ⟨g1, A1, m1, c1, D1, md1, cd1, rfl, hn, hb⟩; have KB0_2 := Lib.hid (keepBlk hb KB0_1.out); have HA_2 := Lib.hid (HA_1.out.drew.below hb); have HR_2 := Lib.hid (HR_1.out.drew.below hb); have HRa_2 := Lib.hid (HRa.out.drew.below hb); have HV_2 := Lib.hid (HV.out.drew.below hb); have HW_2 := Lib.hid (HW.out.drew.below hb); have HM := Lib.hid (show RatS u1 g1 (.slice A1 m1 c1) (.slice D1 md1 cd1) (r * a) from hn); have BB_2 := Lib.hid (BB_1.out.trans ((It.bdrew0' hb).mono BB_1.out.size)); obtain ⟨c0_0_2, c0_0_2d, c0_1_2, c0_1_2d, c0_2_2, c0_2_2d⟩ := bc3 KB0_2.out; have x0_2 := keepCell hb x0_1d; have x0_2d := drewCell x0_2; have x1_2 := keepCell hb x1_1d; have x1_2d := drewCell x1_2; have x2_2 := keepCell hb x2_1d; have x2_2d := drewCell x2_2; have pp := HV_2.out.at_ HMIX.out; obtain ⟨go, Ao, mo, co, Do, mdo, cdo, o0, o1, o2, _⟩ := pp; have of0 := HV_2.out.fro (k * 3); have of1 := HV_2.out.fro (k * 3 + 1); have of2 := HV_2.out.fro (k * 3 + 2); clear hn hb)
          | fail)
      go_wp2
      go_roundw
      case rel => exact ⟨k + 1, by go_num, by omega, by rw [← mix_step HGET.out]; exact VecS.store HV_2.out k HM.out, (Bel.set3 HW_2.out (Nat.le_refl _) _ _ _).b⟩
      case measure => simp [intOf]; omega
    · obtain rfl : k = n := by omega
      have HV := Lib.hid hv
      have HF := Lib.hid hB
      clear hv hB
      go_wp2
      go_ret
      refine ⟨_, _, _, rfl, ?_, BB.out.trans (HF.out.mono BB.out.size)⟩
      have h := HV.out
      rw [show k = (Go.Proofs.Ytohkhcbocknliaa.scale r xs).length by rw [scale_len, ← HN.out], mix_all] at h
      rw [← show k = (Go.Proofs.Ytohkhcbocknliaa.scale r xs).length by rw [scale_len, ← HN.out]] at h
      exact h.base BB.out.size
end Vc
end Go.Proofs.Ytohkhcbocknliaa
