/- prod.Mul by its contract: the long factors. Conditions: as each says. -/
import Derived.Test.YtohkhcbocknliaaProd3M
import Derived.Deep.DeepCutAuto
namespace Go.Proofs.Ytohkhcbocknliaa
open Go.RowKit Am
attribute [local go_sem ↓] Go.wp_at_zero Go.wp_at_succ
set_option maxHeartbeats 10000000
set_option maxRecDepth 100000
namespace Pr
theorem raisedI (A : Option Addr) (m c a k : Nat) (K : Int) (hK : K = (k : Int)) (w : World) (ha : NatS w (.slice A m c) a) (hk : k + wlen a ≤ LIM) :
    Calls Try.prog 58 #[.agg #[.slice A m c], .int .i64 K] w (RetNat w (a * B64 ^ k)) := by subst hK; exact raised A m c a k w ha hk
theorem kara_le (p q r s : Nat) : p * r + q * s ≤ (p + q) * (r + s) := by
  have : (p + q) * (r + s) = p * r + q * s + (p * s + q * r) := by grind
  omega
theorem kara (a b X : Nat) (_ : 0 < X) : a % X * (b % X) + (((a % X + a / X) * (b % X + b / X) - (a % X * (b % X) + a / X * (b / X))) * X + a / X * (b / X) * (X * X)) = a * b := by
  have e1 := Nat.mod_add_div a X
  have e2 := Nat.mod_add_div b X
  generalize a % X = p at *
  generalize a / X = q at *
  generalize b % X = r at *
  generalize b / X = s at *
  have : (p + q) * (r + s) - (p * r + q * s) = p * s + q * r := by
    have : (p + q) * (r + s) = p * r + q * s + (p * s + q * r) := by grind
    omega
  rw [this, ← e1, ← e2]
  grind
/-- What prod.Mul does with factors of at most so many words. -/
def MulUpto (M : Nat) : Prop := ∀ (A B : Option Addr) (m c m' c' a b : Nat) (w : World), NatS w (.slice A m c) a → NatS w (.slice B m' c') b → 4 * wlen a ≤ LIM → 4 * wlen b ≤ LIM → wlen a < M → wlen b < M →
    Calls Try.prog 37 #[.agg #[.slice A m c], .agg #[.slice B m' c']] w (RetNat w (a * b))
theorem mul_big (A B : Option Addr) (m c m' c' a b M : Nat) (w : World) (ih : MulUpto M) (hM : wlen a ≤ M ∧ wlen b ≤ M) (ha : NatS w (.slice A m c) a) (hb : NatS w (.slice B m' c') b) (hla : 4 * wlen a ≤ LIM) (hlb : 4 * wlen b ≤ LIM) (h8a : 8 ≤ wlen a) (h8b : 8 ≤ wlen b) :
    Calls Try.prog 37 #[.agg #[.slice A m c], .agg #[.slice B m' c']] w (RetNat w (a * b)) := by
  obtain ⟨xs, hx, hcx, hvx, hlx, rfl⟩ := ha.words
  obtain ⟨ys, hy, hcy, hvy, hly, rfl⟩ := hb.words
  have HA := Lib.hid ha
  have HB := Lib.hid hb
  have HLA := Lib.hid hla
  have HLB := Lib.hid hlb
  have HWX := Lib.hid hlx
  have HWY := Lib.hid hly
  unfold MulUpto at ih
  have IH := Lib.hid ih
  have HX := Lib.hid hx
  have HY := Lib.hid hy
  rw [← hlx] at h8a
  rw [← hly] at h8b
  obtain ⟨mn, hmn⟩ : ∃ mn, mn = if ys.length < xs.length then ys.length else xs.length := ⟨_, rfl⟩
  have hm8 : ¬ (mn : Int) < 8 := by split at hmn <;> omega
  have hmin : (if ys.length < xs.length then (ys.length : Int) else (xs.length : Int)) = (mn : Int) := by rw [hmn]; split <;> rfl
  obtain ⟨mx, hmx⟩ : ∃ mx, mx = if xs.length < ys.length then ys.length else xs.length := ⟨_, rfl⟩
  have hmax : (if xs.length < ys.length then (ys.length : Int) else (xs.length : Int)) = (mx : Int) := by rw [hmx]; split <;> rfl
  have hmx1 : xs.length ≤ mx ∧ ys.length ≤ mx ∧ mx ≤ LIM ∧ mx ≤ M ∧ 4 * mx ≤ LIM := by have := LIM_eq; split at hmx <;> omega
  have hmx8 : 8 ≤ mx := by omega
  have HMX := Lib.hid hmx1
  have hmxb : mx ≤ 9223372036854775806 := by have := LIM_eq; omega
  clear hmn hmx hmx1
  clear ih ha hb hx hy hcx hcy hvx hvy hlx hly
  have c0 : (((w.alloc (.cells #[.slice A xs.length c] 36)).alloc (.cells #[.slice B ys.length c'] 36)).alloc (.cells #[.slice none 0 0] 36)).cell? ⟨w.heap.size, 0, none⟩ = some (.slice A xs.length c) := cell_al (cell_al (cell_nw rfl rfl))
  have c1 : (((w.alloc (.cells #[.slice A xs.length c] 36)).alloc (.cells #[.slice B ys.length c'] 36)).alloc (.cells #[.slice none 0 0] 36)).cell? ⟨w.heap.size + 1, 0, none⟩ = some (.slice B ys.length c') := cell_al (cell_nw (by simp) rfl)
  have k2 : (((w.alloc (.cells #[.slice A xs.length c] 36)).alloc (.cells #[.slice B ys.length c'] 36)).alloc (.cells #[.slice none 0 0] 36)).heap[w.heap.size + 1 + 1]? = some (.cells #[.slice none 0 0] 36 (0, 0)) := blk_nw (by simp)
  have kb : Below w.heap.size w (((w.alloc (.cells #[.slice A xs.length c] 36)).alloc (.cells #[.slice B ys.length c'] 36)).alloc (.cells #[.slice none 0 0] 36)) := ((below_alloc w _).alloc (by simp) _).alloc (by simp; omega) _
  have kz : (((w.alloc (.cells #[.slice A xs.length c] 36)).alloc (.cells #[.slice B ys.length c'] 36)).alloc (.cells #[.slice none 0 0] 36)).heap.size = w.heap.size + 1 + 1 + 1 := by simp
  have hA1 := HA.out.below kb
  have hB1 := HB.out.below kb
  have hX1 := HX.out.below kb
  have hY1 := HY.out.below kb
  go_enter Try.func37, Try.ntmps37
  go_wp2_with fail
  generalize (((w.alloc (.cells #[.slice A xs.length c] 36)).alloc (.cells #[.slice B ys.length c'] 36)).alloc (.cells #[.slice none 0 0] 36)) = W0 at *
  have HS := Lib.hid (show ∀ w', Below W0.heap.size W0 w' → ((w'.cell? ⟨w.heap.size, 0, none⟩ = some (.slice A xs.length c) ∧ w'.cell? ⟨w.heap.size + 1, 0, none⟩ = some (.slice B ys.length c')) ∧ Below W0.heap.size W0 w') from fun w' h => ⟨⟨keepCell h c0, keepCell h c1⟩, h⟩)
  have HX1 := Lib.hid hX1
  have HY1 := Lib.hid hY1
  have HA1 := Lib.hid hA1
  have HB1 := Lib.hid hB1
  have HK2 := Lib.hid k2
  have HKB := Lib.hid kb
  have HKZ := Lib.hid kz
  clear hX1 hY1 hA1 hB1 k2 kb kz
  have H8A := Lib.hid h8a
  have H8B := Lib.hid h8b
  clear hla hlb h8a h8b
  go_region_held3 (fun w' => (w'.cell? ⟨w.heap.size, 0, none⟩ = some (.slice A xs.length c) ∧ w'.cell? ⟨w.heap.size + 1, 0, none⟩ = some (.slice B ys.length c')) ∧ Below W0.heap.size W0 w')
    ((refine HS.out _ ?_; repeat (first | exact Below.refl _ _ | exact (by assumption : _ ∧ Below _ _ _).2 | with_reducible refine bdrew ?_ | with_reducible refine al2 ?_ _)))
    (first
      | (go_at_call 55; (with_reducible refine (Nt.len (.slice A xs.length c) xs _ (HX1.out.below (by assumption : _ ∧ Below _ _ _).2)).mono ?_); rintro e w' ⟨rfl, rfl⟩)
      | (go_at_call 55; (with_reducible refine (Nt.len (.slice B ys.length c') ys _ (HY1.out.below (by assumption : _ ∧ Below _ _ _).2)).mono ?_); rintro e w' ⟨rfl, rfl⟩))
  go_wp2_with fail
  go_region_held3 (fun w' => (w'.cell? ⟨w.heap.size, 0, none⟩ = some (.slice A xs.length c) ∧ w'.cell? ⟨w.heap.size + 1, 0, none⟩ = some (.slice B ys.length c')) ∧ Below W0.heap.size W0 w')
    ((refine HS.out _ ?_; repeat (first | exact Below.refl _ _ | exact (by assumption : _ ∧ Below _ _ _).2 | with_reducible refine bdrew ?_ | with_reducible refine al2 ?_ _)))
    (first
      | (go_at_call 55; (with_reducible refine (Nt.len (.slice A xs.length c) xs _ (HX1.out.below (by assumption : _ ∧ Below _ _ _).2)).mono ?_); rintro e w' ⟨rfl, rfl⟩)
      | (go_at_call 55; (with_reducible refine (Nt.len (.slice B ys.length c') ys _ (HY1.out.below (by assumption : _ ∧ Below _ _ _).2)).mono ?_); rintro e w' ⟨rfl, rfl⟩))
  obtain ⟨k, hk⟩ : ∃ k, k = (mx + 1) / 2 := ⟨_, rfl⟩
  have e1 : IntKind.i64.wrap ((IntKind.i64.wrap ((mx : Int) + 1)).tdiv 2) = (k : Int) := by
    rw [IntWalk.i64_in ((mx : Int) + 1) (by omega), Int.tdiv_eq_ediv_of_nonneg (by omega), hk]
    have : ((mx : Int) + 1) / 2 = (((mx + 1) / 2 : Nat) : Int) := by omega
    rw [this, IntWalk.i64_in _ (by omega)]
  simp only [e1]
  clear e1
  have hk4 : 4 ≤ k := by omega
  have hkm : k + 1 < mx := by omega
  have hk2 : mx ≤ 2 * k := by omega
  clear hk
  have hh := (by assumption : _ ∧ Below W0.heap.size W0 ((((W0.alloc (.cells #[.slice A xs.length c] 36)).alloc (.cells #[.slice B ys.length c'] 36)).alloc (.cells #[.slice A xs.length c] 36)).alloc (.cells #[.slice B ys.length c'] 36)).drew.drew).2
  generalize hV : ((((W0.alloc (.cells #[.slice A xs.length c] 36)).alloc (.cells #[.slice B ys.length c'] 36)).alloc (.cells #[.slice A xs.length c] 36)).alloc (.cells #[.slice B ys.length c'] 36)).drew.drew = w1 at *
  clear hV
  have HK := Lib.hid hk4
  have HKM := Lib.hid hkm
  have HK2M := Lib.hid hk2
  have d0 := keepCell hh c0
  have d1 := keepCell hh c1
  have HA2 := Lib.hid (HA1.out.below hh)
  have HB2 := Lib.hid (HB1.out.below hh)
  have D0 := Lib.hid d0
  have D1 := Lib.hid d1
  have D2 := Lib.hid (keepBlk hh HK2.out)
  have DB := Lib.hid (HKB.out.trans (hh.mono (by have := HKZ.out; omega)))
  have DZ := Lib.hid (show w.heap.size + 3 ≤ w1.heap.size by have := hh.size; have := HKZ.out; omega)
  clear hk2 hkm c0 c1 hmin hmax hm8 HX HY HX1 HY1 HKB HS HK2
  go_wp2_with fail
  have G : (∃ v, v = 1) := ⟨1, rfl⟩
  refine (cut A xs.length c a k _ HA2.out (by omega) (by have := HMX.out; have := HKM.out; omega) (by rw [← HWX.out]; have := H8A.out; omega) (by have := HMX.out; rw [← HWX.out]; omega)).mono ?_
  rintro e w2 ⟨A1, m1, c1, A2, m2, c2, rfl, ha0, ha1, hb2⟩
  have d3 := cell_al (ob := .cells #[.slice A2 m2 c2] 36) (cell_al (ob := .cells #[.slice A1 m1 c1] 36) (keepCell hb2 D1.out))
  have HA01 := Lib.hid ha0
  have HA02 := Lib.hid ha1
  have HBB2 := Lib.hid hb2
  have hz2 := hb2.size
  have hz1 := DZ.out
  clear ha0 ha1 hb2 G
  go_wp2_with fail
  refine (cut B ys.length c' b k _ ((HB2.out.below HBB2.out).alloc _ |>.alloc _) (by omega) (by have := HMX.out; have := HKM.out; omega) (by rw [← HWY.out]; have := H8B.out; omega) (by have := HMX.out; rw [← HWY.out]; omega)).mono ?_
  rintro e w3 ⟨B1, m3, c3, B2, m4, c4, rfl, hb0, hb1', hb3⟩
  have hz3 := hb3.size
  simp at hz3
  clear d3
  go_wp2_with fail
  have P0 : ((w3.alloc (.cells #[.slice B1 m3 c3] 36)).alloc (.cells #[.slice B2 m4 c4] 36)).cell? ⟨w2.heap.size, 0, none⟩ = some (.slice A1 m1 c1) := cell_al (cell_al (keepCell hb3 (cell_al (cell_nw rfl rfl))))
  have P1 : ((w3.alloc (.cells #[.slice B1 m3 c3] 36)).alloc (.cells #[.slice B2 m4 c4] 36)).cell? ⟨w2.heap.size + 1, 0, none⟩ = some (.slice A2 m2 c2) := cell_al (cell_al (keepCell hb3 (cell_nw (by simp) rfl)))
  have P2 : ((w3.alloc (.cells #[.slice B1 m3 c3] 36)).alloc (.cells #[.slice B2 m4 c4] 36)).cell? ⟨w3.heap.size, 0, none⟩ = some (.slice B1 m3 c3) := cell_al (cell_nw rfl rfl)
  have P3 : ((w3.alloc (.cells #[.slice B1 m3 c3] 36)).alloc (.cells #[.slice B2 m4 c4] 36)).cell? ⟨w3.heap.size + 1, 0, none⟩ = some (.slice B2 m4 c4) := cell_nw (by simp) rfl
  have N0 := Lib.hid ((((HA01.out.alloc (.cells #[.slice A1 m1 c1] 36)).alloc (.cells #[.slice A2 m2 c2] 36)).below hb3).alloc (.cells #[.slice B1 m3 c3] 36) |>.alloc (.cells #[.slice B2 m4 c4] 36))
  have N1 := Lib.hid ((((HA02.out.alloc (.cells #[.slice A1 m1 c1] 36)).alloc (.cells #[.slice A2 m2 c2] 36)).below hb3).alloc (.cells #[.slice B1 m3 c3] 36) |>.alloc (.cells #[.slice B2 m4 c4] 36))
  have N2 := Lib.hid ((hb0.alloc (.cells #[.slice B1 m3 c3] 36)).alloc (.cells #[.slice B2 m4 c4] 36))
  have N3 := Lib.hid ((hb1'.alloc (.cells #[.slice B1 m3 c3] 36)).alloc (.cells #[.slice B2 m4 c4] 36))
  have ER := Lib.hid (show ((w3.alloc (.cells #[.slice B1 m3 c3] 36)).alloc (.cells #[.slice B2 m4 c4] 36)).heap[w.heap.size + 1 + 1]? = some (.cells #[.slice none 0 0] 36 (0, 0)) from blk_al (blk_al (keepBlk hb3 (blk_al (blk_al (keepBlk HBB2.out D2.out))))))
  have EB := Lib.hid (show Below w.heap.size w ((w3.alloc (.cells #[.slice B1 m3 c3] 36)).alloc (.cells #[.slice B2 m4 c4] 36)) from al2 (al2 (bstep2 (al2 (al2 (bstep2 DB.out HBB2.out) _) _) hb3) _) _)
  have EZ := Lib.hid (show w.heap.size + 3 ≤ ((w3.alloc (.cells #[.slice B1 m3 c3] 36)).alloc (.cells #[.slice B2 m4 c4] 36)).heap.size by simp; omega)
  generalize hV : (w3.alloc (.cells #[.slice B1 m3 c3] 36)).alloc (.cells #[.slice B2 m4 c4] 36) = V at *
  clear hV hb0 hb1' hb3 hz3 HBB2 HA01 HA02 DB DZ D2 D1 D0 HA2 HB2
  generalize w2.heap.size = p0 at *
  generalize w3.heap.size = q0 at *
  have ha1 : wlen (a % B64 ^ k) ≤ k := wlen_le_of_lt (Nat.mod_lt _ (Nat.pow_pos (by decide)))
  have hb1 : wlen (b % B64 ^ k) ≤ k := wlen_le_of_lt (Nat.mod_lt _ (Nat.pow_pos (by decide)))
  have ha2 : wlen (a / B64 ^ k) ≤ mx - k := wlen_le_of_lt (by
    have h1 := lt_wlen a
    have h2 : B64 ^ wlen a ≤ B64 ^ (mx - k) * B64 ^ k := by rw [← Nat.pow_add]; exact Nat.pow_le_pow_right (by decide) (by have := HMX.out; have := HWX.out; have := HKM.out; omega)
    exact (Nat.div_lt_iff_lt_mul (Nat.pow_pos (by decide))).2 (by omega))
  have hb2 : wlen (b / B64 ^ k) ≤ mx - k := wlen_le_of_lt (by
    have h1 := lt_wlen b
    have h2 : B64 ^ wlen b ≤ B64 ^ (mx - k) * B64 ^ k := by rw [← Nat.pow_add]; exact Nat.pow_le_pow_right (by decide) (by have := HMX.out; have := HWY.out; have := HKM.out; omega)
    exact (Nat.div_lt_iff_lt_mul (Nat.pow_pos (by decide))).2 (by omega))
  have hM4 : 4 * mx ≤ LIM := by have := HMX.out; omega
  have F0 := Lib.hid (show 4 * wlen (a % B64 ^ k) ≤ LIM by have := HKM.out; omega)
  have F1 := Lib.hid (show 4 * wlen (a / B64 ^ k) ≤ LIM by omega)
  have F2 := Lib.hid (show 4 * wlen (b % B64 ^ k) ≤ LIM by have := HKM.out; omega)
  have F3 := Lib.hid (show 4 * wlen (b / B64 ^ k) ≤ LIM by omega)
  have hMM : mx ≤ M := by have := HMX.out; omega
  have G0 := Lib.hid (show wlen (a % B64 ^ k) < M by have := HKM.out; omega)
  have G1 := Lib.hid (show wlen (a / B64 ^ k) < M by have := HK.out; omega)
  have G2 := Lib.hid (show wlen (b % B64 ^ k) < M by have := HKM.out; omega)
  have G3 := Lib.hid (show wlen (b / B64 ^ k) < M by have := HK.out; omega)
  have HWA := Lib.hid (And.intro ha1 ha2)
  have HWB := Lib.hid (And.intro hb1 hb2)
  have HM4 := Lib.hid hM4
  have HMM := Lib.hid hMM
  clear ha1 ha2 hb1 hb2 hM4 hMM
  have HS := Lib.hid (show ∀ w', Below V.heap.size V w' → ((w'.cell? ⟨p0, 0, none⟩ = some (.slice A1 m1 c1) ∧ w'.cell? ⟨p0 + 1, 0, none⟩ = some (.slice A2 m2 c2) ∧ w'.cell? ⟨q0, 0, none⟩ = some (.slice B1 m3 c3) ∧ w'.cell? ⟨q0 + 1, 0, none⟩ = some (.slice B2 m4 c4)) ∧ Below V.heap.size V w') from fun w' h => ⟨⟨keepCell h P0, keepCell h P1, keepCell h P2, keepCell h P3⟩, h⟩)
  go_cut [10, 11] (fun s10 s11 wr => ∃ (g0 g1 : Nat) (L1 : Option Addr) (ml cl : Nat) (L2 : Option Addr) (mh ch : Nat), s10 = .pointer (some ⟨g0, 0, none⟩) ∧ s11 = .pointer (some ⟨g1, 0, none⟩) ∧ Below V.heap.size V wr ∧
    wr.cell? ⟨g0, 0, none⟩ = some (.slice L1 ml cl) ∧ wr.cell? ⟨g1, 0, none⟩ = some (.slice L2 mh ch) ∧ NatS wr (.slice L1 ml cl) (a % B64 ^ k * (b % B64 ^ k)) ∧ NatS wr (.slice L2 mh ch) (a / B64 ^ k * (b / B64 ^ k)) ∧ V.heap.size ≤ g0 ∧ V.heap.size ≤ g1)
  case first =>
    go_region_held3 (fun w' => (w'.cell? ⟨p0, 0, none⟩ = some (.slice A1 m1 c1) ∧ w'.cell? ⟨p0 + 1, 0, none⟩ = some (.slice A2 m2 c2) ∧ w'.cell? ⟨q0, 0, none⟩ = some (.slice B1 m3 c3) ∧ w'.cell? ⟨q0 + 1, 0, none⟩ = some (.slice B2 m4 c4)) ∧ Below V.heap.size V w')
      ((refine HS.out _ ?_; repeat (first | exact Below.refl _ _ | exact (by assumption : _ ∧ Below _ _ _).2 | with_reducible refine bdrew ?_ | with_reducible refine al2 ?_ _ | with_reducible refine set2 ?_ (by omega) | with_reducible refine bstep2 ?_ (by assumption))))
      (first
        | (go_at_call 37; (with_reducible refine (IH.out A1 B1 m1 c1 m3 c3 (a % B64 ^ k) (b % B64 ^ k) _ (N0.out.below (by assumption : _ ∧ Below _ _ _).2) (N2.out.below (by assumption : _ ∧ Below _ _ _).2) F0.out F2.out G0.out G2.out).mono ?_); rintro e u1 ⟨L1, ml, cl, rfl, hl, hbl⟩; have hzl := hbl.size; (try simp at hzl); have hze : V.heap.size ≤ u1.heap.size := (by omega); (try ((first | (have pp := keepBox (b := V.heap.size) (v := .slice none 0 0) (t := 36) hbl (blk_new _ _ _); obtain ⟨X0, ⟨X0c, X0f⟩, ⟨X0d, X0g⟩, ⟨X0e, X0h⟩, ⟨X0i, X0j⟩, X0k, X0l⟩ := pp) | (have pp := keepBox (b := V.heap.size) (v := .slice none 0 0) (t := 36) hbl (blk_al (blk_new _ _ _)); obtain ⟨X0, ⟨X0c, X0f⟩, ⟨X0d, X0g⟩, ⟨X0e, X0h⟩, ⟨X0i, X0j⟩, X0k, X0l⟩ := pp) | (have pp := keepBox (b := V.heap.size) (v := .slice none 0 0) (t := 36) hbl (box_new1 _ _ _ _); obtain ⟨X0, ⟨X0c, X0f⟩, ⟨X0d, X0g⟩, ⟨X0e, X0h⟩, ⟨X0i, X0j⟩, X0k, X0l⟩ := pp)); have X0 := Lib.hid X0)); (try ((first | (have pp := keepBox (b := V.heap.size + 1) (v := .slice none 0 0) (t := 36) hbl (blk_new _ _ _); obtain ⟨X1, ⟨X1c, X1f⟩, ⟨X1d, X1g⟩, ⟨X1e, X1h⟩, ⟨X1i, X1j⟩, X1k, X1l⟩ := pp) | (have pp := keepBox (b := V.heap.size + 1) (v := .slice none 0 0) (t := 36) hbl (blk_al (blk_new _ _ _)); obtain ⟨X1, ⟨X1c, X1f⟩, ⟨X1d, X1g⟩, ⟨X1e, X1h⟩, ⟨X1i, X1j⟩, X1k, X1l⟩ := pp) | (have pp := keepBox (b := V.heap.size + 1) (v := .slice none 0 0) (t := 36) hbl (box_new1 _ _ _ _); obtain ⟨X1, ⟨X1c, X1f⟩, ⟨X1d, X1g⟩, ⟨X1e, X1h⟩, ⟨X1i, X1j⟩, X1k, X1l⟩ := pp)); have X1 := Lib.hid X1)); have HL1 := Lib.hid hl; clear hl)
        | (go_at_call 37; (with_reducible refine (IH.out A2 B2 m2 c2 m4 c4 (a / B64 ^ k) (b / B64 ^ k) _ (N1.out.below (by assumption : _ ∧ Below _ _ _).2) (N3.out.below (by assumption : _ ∧ Below _ _ _).2) F1.out F3.out G1.out G3.out).mono ?_); rintro e u2 ⟨L2, mh, ch, rfl, hh2, hbh⟩; have hzh := hbh.size; (try simp at hzh); have hzf : V.heap.size ≤ u2.heap.size := (by omega); (try ((first | (have pp := keepBox (b := V.heap.size) (v := .slice none 0 0) (t := 36) hbh (X0.out); obtain ⟨Y0, ⟨Y0c, Y0f⟩, ⟨Y0d, Y0g⟩, ⟨Y0e, Y0h⟩, ⟨Y0i, Y0j⟩, Y0k, Y0l⟩ := pp) | (have pp := keepBox (b := V.heap.size) (v := .slice none 0 0) (t := 36) hbh (X1.out); obtain ⟨Y0, ⟨Y0c, Y0f⟩, ⟨Y0d, Y0g⟩, ⟨Y0e, Y0h⟩, ⟨Y0i, Y0j⟩, Y0k, Y0l⟩ := pp) | (have pp := keepBox (b := V.heap.size) (v := .slice none 0 0) (t := 36) hbh (blk_al X0.out); obtain ⟨Y0, ⟨Y0c, Y0f⟩, ⟨Y0d, Y0g⟩, ⟨Y0e, Y0h⟩, ⟨Y0i, Y0j⟩, Y0k, Y0l⟩ := pp) | (have pp := keepBox (b := V.heap.size) (v := .slice none 0 0) (t := 36) hbh (blk_al X1.out); obtain ⟨Y0, ⟨Y0c, Y0f⟩, ⟨Y0d, Y0g⟩, ⟨Y0e, Y0h⟩, ⟨Y0i, Y0j⟩, Y0k, Y0l⟩ := pp) | (have pp := keepBox (b := V.heap.size) (v := .slice none 0 0) (t := 36) hbh (blk_al (blk_al X0.out)); obtain ⟨Y0, ⟨Y0c, Y0f⟩, ⟨Y0d, Y0g⟩, ⟨Y0e, Y0h⟩, ⟨Y0i, Y0j⟩, Y0k, Y0l⟩ := pp) | (have pp := keepBox (b := V.heap.size) (v := .slice none 0 0) (t := 36) hbh (blk_new _ _ _); obtain ⟨Y0, ⟨Y0c, Y0f⟩, ⟨Y0d, Y0g⟩, ⟨Y0e, Y0h⟩, ⟨Y0i, Y0j⟩, Y0k, Y0l⟩ := pp) | (have pp := keepBox (b := V.heap.size) (v := .slice none 0 0) (t := 36) hbh (blk_al (blk_new _ _ _)); obtain ⟨Y0, ⟨Y0c, Y0f⟩, ⟨Y0d, Y0g⟩, ⟨Y0e, Y0h⟩, ⟨Y0i, Y0j⟩, Y0k, Y0l⟩ := pp) | (have pp := keepBox (b := V.heap.size) (v := .slice none 0 0) (t := 36) hbh (box_new1 _ _ _ _); obtain ⟨Y0, ⟨Y0c, Y0f⟩, ⟨Y0d, Y0g⟩, ⟨Y0e, Y0h⟩, ⟨Y0i, Y0j⟩, Y0k, Y0l⟩ := pp)); have Y0 := Lib.hid Y0)); (try ((first | (have pp := keepBox (b := V.heap.size + 1) (v := .slice none 0 0) (t := 36) hbh (X0.out); obtain ⟨Y1, ⟨Y1c, Y1f⟩, ⟨Y1d, Y1g⟩, ⟨Y1e, Y1h⟩, ⟨Y1i, Y1j⟩, Y1k, Y1l⟩ := pp) | (have pp := keepBox (b := V.heap.size + 1) (v := .slice none 0 0) (t := 36) hbh (X1.out); obtain ⟨Y1, ⟨Y1c, Y1f⟩, ⟨Y1d, Y1g⟩, ⟨Y1e, Y1h⟩, ⟨Y1i, Y1j⟩, Y1k, Y1l⟩ := pp) | (have pp := keepBox (b := V.heap.size + 1) (v := .slice none 0 0) (t := 36) hbh (blk_al X0.out); obtain ⟨Y1, ⟨Y1c, Y1f⟩, ⟨Y1d, Y1g⟩, ⟨Y1e, Y1h⟩, ⟨Y1i, Y1j⟩, Y1k, Y1l⟩ := pp) | (have pp := keepBox (b := V.heap.size + 1) (v := .slice none 0 0) (t := 36) hbh (blk_al X1.out); obtain ⟨Y1, ⟨Y1c, Y1f⟩, ⟨Y1d, Y1g⟩, ⟨Y1e, Y1h⟩, ⟨Y1i, Y1j⟩, Y1k, Y1l⟩ := pp) | (have pp := keepBox (b := V.heap.size + 1) (v := .slice none 0 0) (t := 36) hbh (blk_al (blk_al X0.out)); obtain ⟨Y1, ⟨Y1c, Y1f⟩, ⟨Y1d, Y1g⟩, ⟨Y1e, Y1h⟩, ⟨Y1i, Y1j⟩, Y1k, Y1l⟩ := pp) | (have pp := keepBox (b := V.heap.size + 1) (v := .slice none 0 0) (t := 36) hbh (blk_new _ _ _); obtain ⟨Y1, ⟨Y1c, Y1f⟩, ⟨Y1d, Y1g⟩, ⟨Y1e, Y1h⟩, ⟨Y1i, Y1j⟩, Y1k, Y1l⟩ := pp) | (have pp := keepBox (b := V.heap.size + 1) (v := .slice none 0 0) (t := 36) hbh (blk_al (blk_new _ _ _)); obtain ⟨Y1, ⟨Y1c, Y1f⟩, ⟨Y1d, Y1g⟩, ⟨Y1e, Y1h⟩, ⟨Y1i, Y1j⟩, Y1k, Y1l⟩ := pp) | (have pp := keepBox (b := V.heap.size + 1) (v := .slice none 0 0) (t := 36) hbh (box_new1 _ _ _ _); obtain ⟨Y1, ⟨Y1c, Y1f⟩, ⟨Y1d, Y1g⟩, ⟨Y1e, Y1h⟩, ⟨Y1i, Y1j⟩, Y1k, Y1l⟩ := pp)); have Y1 := Lib.hid Y1)); (try ((first | (have pp := keepBox (b := u1.heap.size) (v := .slice none 0 0) (t := 36) hbh (X0.out); obtain ⟨Y2, ⟨Y2c, Y2f⟩, ⟨Y2d, Y2g⟩, ⟨Y2e, Y2h⟩, ⟨Y2i, Y2j⟩, Y2k, Y2l⟩ := pp) | (have pp := keepBox (b := u1.heap.size) (v := .slice none 0 0) (t := 36) hbh (X1.out); obtain ⟨Y2, ⟨Y2c, Y2f⟩, ⟨Y2d, Y2g⟩, ⟨Y2e, Y2h⟩, ⟨Y2i, Y2j⟩, Y2k, Y2l⟩ := pp) | (have pp := keepBox (b := u1.heap.size) (v := .slice none 0 0) (t := 36) hbh (blk_al X0.out); obtain ⟨Y2, ⟨Y2c, Y2f⟩, ⟨Y2d, Y2g⟩, ⟨Y2e, Y2h⟩, ⟨Y2i, Y2j⟩, Y2k, Y2l⟩ := pp) | (have pp := keepBox (b := u1.heap.size) (v := .slice none 0 0) (t := 36) hbh (blk_al X1.out); obtain ⟨Y2, ⟨Y2c, Y2f⟩, ⟨Y2d, Y2g⟩, ⟨Y2e, Y2h⟩, ⟨Y2i, Y2j⟩, Y2k, Y2l⟩ := pp) | (have pp := keepBox (b := u1.heap.size) (v := .slice none 0 0) (t := 36) hbh (blk_al (blk_al X0.out)); obtain ⟨Y2, ⟨Y2c, Y2f⟩, ⟨Y2d, Y2g⟩, ⟨Y2e, Y2h⟩, ⟨Y2i, Y2j⟩, Y2k, Y2l⟩ := pp) | (have pp := keepBox (b := u1.heap.size) (v := .slice none 0 0) (t := 36) hbh (blk_new _ _ _); obtain ⟨Y2, ⟨Y2c, Y2f⟩, ⟨Y2d, Y2g⟩, ⟨Y2e, Y2h⟩, ⟨Y2i, Y2j⟩, Y2k, Y2l⟩ := pp) | (have pp := keepBox (b := u1.heap.size) (v := .slice none 0 0) (t := 36) hbh (blk_al (blk_new _ _ _)); obtain ⟨Y2, ⟨Y2c, Y2f⟩, ⟨Y2d, Y2g⟩, ⟨Y2e, Y2h⟩, ⟨Y2i, Y2j⟩, Y2k, Y2l⟩ := pp) | (have pp := keepBox (b := u1.heap.size) (v := .slice none 0 0) (t := 36) hbh (box_new1 _ _ _ _); obtain ⟨Y2, ⟨Y2c, Y2f⟩, ⟨Y2d, Y2g⟩, ⟨Y2e, Y2h⟩, ⟨Y2i, Y2j⟩, Y2k, Y2l⟩ := pp)); have Y2 := Lib.hid Y2)); (try ((first | (have pp := keepBox (b := u1.heap.size + 1) (v := .slice none 0 0) (t := 36) hbh (X0.out); obtain ⟨Y3, ⟨Y3c, Y3f⟩, ⟨Y3d, Y3g⟩, ⟨Y3e, Y3h⟩, ⟨Y3i, Y3j⟩, Y3k, Y3l⟩ := pp) | (have pp := keepBox (b := u1.heap.size + 1) (v := .slice none 0 0) (t := 36) hbh (X1.out); obtain ⟨Y3, ⟨Y3c, Y3f⟩, ⟨Y3d, Y3g⟩, ⟨Y3e, Y3h⟩, ⟨Y3i, Y3j⟩, Y3k, Y3l⟩ := pp) | (have pp := keepBox (b := u1.heap.size + 1) (v := .slice none 0 0) (t := 36) hbh (blk_al X0.out); obtain ⟨Y3, ⟨Y3c, Y3f⟩, ⟨Y3d, Y3g⟩, ⟨Y3e, Y3h⟩, ⟨Y3i, Y3j⟩, Y3k, Y3l⟩ := pp) | (have pp := keepBox (b := u1.heap.size + 1) (v := .slice none 0 0) (t := 36) hbh (blk_al X1.out); obtain ⟨Y3, ⟨Y3c, Y3f⟩, ⟨Y3d, Y3g⟩, ⟨Y3e, Y3h⟩, ⟨Y3i, Y3j⟩, Y3k, Y3l⟩ := pp) | (have pp := keepBox (b := u1.heap.size + 1) (v := .slice none 0 0) (t := 36) hbh (blk_al (blk_al X0.out)); obtain ⟨Y3, ⟨Y3c, Y3f⟩, ⟨Y3d, Y3g⟩, ⟨Y3e, Y3h⟩, ⟨Y3i, Y3j⟩, Y3k, Y3l⟩ := pp) | (have pp := keepBox (b := u1.heap.size + 1) (v := .slice none 0 0) (t := 36) hbh (blk_new _ _ _); obtain ⟨Y3, ⟨Y3c, Y3f⟩, ⟨Y3d, Y3g⟩, ⟨Y3e, Y3h⟩, ⟨Y3i, Y3j⟩, Y3k, Y3l⟩ := pp) | (have pp := keepBox (b := u1.heap.size + 1) (v := .slice none 0 0) (t := 36) hbh (blk_al (blk_new _ _ _)); obtain ⟨Y3, ⟨Y3c, Y3f⟩, ⟨Y3d, Y3g⟩, ⟨Y3e, Y3h⟩, ⟨Y3i, Y3j⟩, Y3k, Y3l⟩ := pp) | (have pp := keepBox (b := u1.heap.size + 1) (v := .slice none 0 0) (t := 36) hbh (box_new1 _ _ _ _); obtain ⟨Y3, ⟨Y3c, Y3f⟩, ⟨Y3d, Y3g⟩, ⟨Y3e, Y3h⟩, ⟨Y3i, Y3j⟩, Y3k, Y3l⟩ := pp)); have Y3 := Lib.hid Y3)); have HL2 := Lib.hid hh2; clear hh2))
    all_goals
      go_wp2
      go_meet
      case rel =>
        refine ⟨_, _, L1, ml, cl, L2, mh, ch, rfl, rfl, (by assumption : _ ∧ Below V.heap.size V _).2, ?_, ?_, ?_, ?_, ?_, ?_⟩
        all_goals (repeat' (first
          | exact HL2.out | exact HL1.out | assumption
          | with_reducible exact cell_new0 _ _ _ | with_reducible exact cell_new1 _ _ _ _
          | with_reducible refine cell_al ?_ | with_reducible refine Box.cell ?_ | with_reducible refine cell_set ?_ ?_
          | with_reducible exact Box.new _ _ | with_reducible exact Box.new1 _ _ _ | with_reducible refine Box.alloc ?_ | with_reducible refine Box.set ?_
          | exact Box.of Y0.out | exact Box.of Y1.out | exact Box.of Y2.out | exact Box.of Y3.out
          | with_reducible refine NatS.alloc ?_ _ | with_reducible refine NatS.setBox ?_ ?_ | refine NatS.below ?_ hbh | with_reducible refine NatS.drew ?_
          | omega))
  case rest =>
    obtain ⟨g0, g1, L1, ml, cl, L2, mh, ch, rfl, rfl, hbV, k0, k1, hL1, hL2, hg0, hg1⟩ := hcut
    rename World => wa
    have P0 := keepCell hbV P0
    have P1 := keepCell hbV P1
    have P2 := keepCell hbV P2
    have P3 := keepCell hbV P3
    have N0 := Lib.hid (N0.out.below hbV)
    have N1 := Lib.hid (N1.out.below hbV)
    have N2 := Lib.hid (N2.out.below hbV)
    have N3 := Lib.hid (N3.out.below hbV)
    have NL1 := Lib.hid hL1
    have NL2 := Lib.hid hL2
    have EZV := EZ
    have ER := Lib.hid (keepBlk hbV ER.out)
    have EB := Lib.hid (EB.out.trans (hbV.mono (by have := EZ.out; omega)))
    have EZ := Lib.hid (show w.heap.size + 3 ≤ wa.heap.size by have := EZ.out; have := hbV.size; omega)
    have HG0 := Lib.hid (show w.heap.size + 3 ≤ g0 ∧ w.heap.size + 3 ≤ g1 by have := EZV.out; omega)
    clear hg0 hg1
    have S1 : wlen (a % B64 ^ k + a / B64 ^ k) ≤ k + 1 := by have := wlen_add (a % B64 ^ k) (a / B64 ^ k); have := HWA.out; have := HK2M.out; omega
    have S2 : wlen (b % B64 ^ k + b / B64 ^ k) ≤ k + 1 := by have := wlen_add (b % B64 ^ k) (b / B64 ^ k); have := HWB.out; have := HK2M.out; omega
    have F4 := Lib.hid (show 4 * wlen (a % B64 ^ k + a / B64 ^ k) ≤ LIM by have := HM4.out; have := HKM.out; omega)
    have F5 := Lib.hid (show 4 * wlen (b % B64 ^ k + b / B64 ^ k) ≤ LIM by have := HM4.out; have := HKM.out; omega)
    have G4 := Lib.hid (show wlen (a % B64 ^ k + a / B64 ^ k) < M by have := HMM.out; have := HKM.out; omega)
    have G5 := Lib.hid (show wlen (b % B64 ^ k + b / B64 ^ k) < M by have := HMM.out; have := HKM.out; omega)
    have Q0 := Lib.hid (show wlen (a % B64 ^ k) ≤ LIM by have := F0.out; omega)
    have Q1 := Lib.hid (show wlen (a / B64 ^ k) ≤ LIM by have := F1.out; omega)
    have Q2 := Lib.hid (show wlen (b % B64 ^ k) ≤ LIM by have := F2.out; omega)
    have Q3 := Lib.hid (show wlen (b / B64 ^ k) ≤ LIM by have := F3.out; omega)
    clear S1 S2 hbV hL1 hL2 HS F0 F1 F2 F3 G0 G1 G2 G3
    go_wp2_with fail
    have HS := Lib.hid (show ∀ w', Below wa.heap.size wa w' → ((w'.cell? ⟨p0, 0, none⟩ = some (.slice A1 m1 c1) ∧ w'.cell? ⟨p0 + 1, 0, none⟩ = some (.slice A2 m2 c2) ∧ w'.cell? ⟨q0, 0, none⟩ = some (.slice B1 m3 c3) ∧ w'.cell? ⟨q0 + 1, 0, none⟩ = some (.slice B2 m4 c4) ∧ w'.cell? ⟨g0, 0, none⟩ = some (.slice L1 ml cl) ∧ w'.cell? ⟨g1, 0, none⟩ = some (.slice L2 mh ch)) ∧ Below wa.heap.size wa w') from fun w' h => ⟨⟨keepCell h P0, keepCell h P1, keepCell h P2, keepCell h P3, keepCell h k0, keepCell h k1⟩, h⟩)
    go_cut [12] (fun s12 wr => ∃ (g2 : Nat) (D : Option Addr) (md cd : Nat), s12 = .pointer (some ⟨g2, 0, none⟩) ∧ Below wa.heap.size wa wr ∧
      wr.cell? ⟨g2, 0, none⟩ = some (.slice D md cd) ∧ NatS wr (.slice D md cd) ((a % B64 ^ k + a / B64 ^ k) * (b % B64 ^ k + b / B64 ^ k)))
    case first =>
      go_region_held3 (fun w' => ((w'.cell? ⟨p0, 0, none⟩ = some (.slice A1 m1 c1) ∧ w'.cell? ⟨p0 + 1, 0, none⟩ = some (.slice A2 m2 c2) ∧ w'.cell? ⟨q0, 0, none⟩ = some (.slice B1 m3 c3) ∧ w'.cell? ⟨q0 + 1, 0, none⟩ = some (.slice B2 m4 c4) ∧ w'.cell? ⟨g0, 0, none⟩ = some (.slice L1 ml cl) ∧ w'.cell? ⟨g1, 0, none⟩ = some (.slice L2 mh ch)) ∧ Below wa.heap.size wa w'))
        ((refine HS.out _ ?_; repeat (first | exact Below.refl _ _ | exact (by assumption : _ ∧ Below _ _ _).2 | with_reducible refine bdrew ?_ | with_reducible refine al2 ?_ _ | with_reducible refine set2 ?_ (by omega) | with_reducible refine bstep2 ?_ (by assumption))))
        (first
          | (go_at_call 49; (with_reducible refine (Nt.add A1 A2 m1 c1 m2 c2 (a % B64 ^ k) (a / B64 ^ k) _ (N0.out.below (by assumption : _ ∧ Below _ _ _).2) (N1.out.below (by assumption : _ ∧ Below _ _ _).2) Q0.out Q1.out).mono ?_); rintro e u1 ⟨E1, me, ce, rfl, he1, hb1⟩; have hz1 := hb1.size; (try simp at hz1); have hze1 : wa.heap.size ≤ u1.heap.size := (by omega); (try ((first | (have pp := keepBox (b := wa.heap.size) (v := .slice none 0 0) (t := 36) hb1 (blk_new _ _ _); obtain ⟨X1_0_0, ⟨X1_0_0c, X1_0_0f⟩, ⟨X1_0_0d, X1_0_0g⟩, ⟨X1_0_0e, X1_0_0h⟩, ⟨X1_0_0i, X1_0_0j⟩, X1_0_0k, X1_0_0l⟩ := pp)); have X1_0_0 := Lib.hid X1_0_0)); have HE1 := Lib.hid he1; clear he1)
          | (go_at_call 49; (with_reducible refine (Nt.add B1 B2 m3 c3 m4 c4 (b % B64 ^ k) (b / B64 ^ k) _ (N2.out.below (by assumption : _ ∧ Below _ _ _).2) (N3.out.below (by assumption : _ ∧ Below _ _ _).2) Q2.out Q3.out).mono ?_); rintro e u2 ⟨E2, mf, cf, rfl, he2, hb2⟩; have hz2 := hb2.size; (try simp at hz2); have hze2 : wa.heap.size ≤ u2.heap.size := (by omega); (try ((first | (have pp := keepBox (b := wa.heap.size) (v := .slice none 0 0) (t := 36) hb2 (X1_0_0.out); obtain ⟨X2_0_0, ⟨X2_0_0c, X2_0_0f⟩, ⟨X2_0_0d, X2_0_0g⟩, ⟨X2_0_0e, X2_0_0h⟩, ⟨X2_0_0i, X2_0_0j⟩, X2_0_0k, X2_0_0l⟩ := pp) | (have pp := keepBox (b := wa.heap.size) (v := .slice none 0 0) (t := 36) hb2 (blk_al X1_0_0.out); obtain ⟨X2_0_0, ⟨X2_0_0c, X2_0_0f⟩, ⟨X2_0_0d, X2_0_0g⟩, ⟨X2_0_0e, X2_0_0h⟩, ⟨X2_0_0i, X2_0_0j⟩, X2_0_0k, X2_0_0l⟩ := pp)); have X2_0_0 := Lib.hid X2_0_0)); (try ((first | (have pp := keepBox (b := u1.heap.size) (v := .slice none 0 0) (t := 36) hb2 (blk_new _ _ _); obtain ⟨X2_1_0, ⟨X2_1_0c, X2_1_0f⟩, ⟨X2_1_0d, X2_1_0g⟩, ⟨X2_1_0e, X2_1_0h⟩, ⟨X2_1_0i, X2_1_0j⟩, X2_1_0k, X2_1_0l⟩ := pp)); have X2_1_0 := Lib.hid X2_1_0)); have HE2 := Lib.hid he2; clear he2)
          | (go_at_call 37; (with_reducible refine (IH.out E1 E2 me ce mf cf _ _ _ (by repeat (first | exact HE1.out | with_reducible refine NatS.alloc ?_ _ | with_reducible refine NatS.drew ?_ | refine NatS.below ?_ hb2)) (by repeat (first | exact HE2.out | with_reducible refine NatS.alloc ?_ _ | with_reducible refine NatS.drew ?_)) F4.out F5.out G4.out G5.out).mono ?_); rintro e u3 ⟨E3, mg, cg, rfl, he3, hb3⟩; have hz3 := hb3.size; (try simp at hz3); have hze3 : wa.heap.size ≤ u3.heap.size := (by omega); (try ((first | (have pp := keepBox (b := wa.heap.size) (v := .slice none 0 0) (t := 36) hb3 (X2_0_0.out); obtain ⟨X3_0_0, ⟨X3_0_0c, X3_0_0f⟩, ⟨X3_0_0d, X3_0_0g⟩, ⟨X3_0_0e, X3_0_0h⟩, ⟨X3_0_0i, X3_0_0j⟩, X3_0_0k, X3_0_0l⟩ := pp) | (have pp := keepBox (b := wa.heap.size) (v := .slice none 0 0) (t := 36) hb3 (blk_al X2_0_0.out); obtain ⟨X3_0_0, ⟨X3_0_0c, X3_0_0f⟩, ⟨X3_0_0d, X3_0_0g⟩, ⟨X3_0_0e, X3_0_0h⟩, ⟨X3_0_0i, X3_0_0j⟩, X3_0_0k, X3_0_0l⟩ := pp)); have X3_0_0 := Lib.hid X3_0_0)); (try ((first | (have pp := keepBox (b := u1.heap.size) (v := .slice none 0 0) (t := 36) hb3 (X2_1_0.out); obtain ⟨X3_1_0, ⟨X3_1_0c, X3_1_0f⟩, ⟨X3_1_0d, X3_1_0g⟩, ⟨X3_1_0e, X3_1_0h⟩, ⟨X3_1_0i, X3_1_0j⟩, X3_1_0k, X3_1_0l⟩ := pp) | (have pp := keepBox (b := u1.heap.size) (v := .slice none 0 0) (t := 36) hb3 (blk_al X2_1_0.out); obtain ⟨X3_1_0, ⟨X3_1_0c, X3_1_0f⟩, ⟨X3_1_0d, X3_1_0g⟩, ⟨X3_1_0e, X3_1_0h⟩, ⟨X3_1_0i, X3_1_0j⟩, X3_1_0k, X3_1_0l⟩ := pp)); have X3_1_0 := Lib.hid X3_1_0)); (try ((first | (have pp := keepBox (b := u2.heap.size) (v := .slice none 0 0) (t := 36) hb3 (blk_new _ _ _); obtain ⟨X3_2_0, ⟨X3_2_0c, X3_2_0f⟩, ⟨X3_2_0d, X3_2_0g⟩, ⟨X3_2_0e, X3_2_0h⟩, ⟨X3_2_0i, X3_2_0j⟩, X3_2_0k, X3_2_0l⟩ := pp)); have X3_2_0 := Lib.hid X3_2_0)); have HE3 := Lib.hid he3; clear he3))
      all_goals
        go_wp2
        go_meet
        case rel =>
          refine ⟨_, E3, mg, cg, rfl, (by assumption : _ ∧ Below wa.heap.size wa _).2, ?_, ?_⟩
          all_goals
            repeat' (first
              | with_reducible exact HE3.out
              | with_reducible assumption
              | with_reducible exact cell_new0 _ _ _
              | with_reducible exact cell_new1 _ _ _ _
              | with_reducible refine cell_al ?_
              | with_reducible refine Box.cell ?_
              | with_reducible refine cell_set ?_ ?_
              | with_reducible exact Box.new _ _
              | with_reducible exact Box.new1 _ _ _
              | with_reducible refine Box.alloc ?_
              | with_reducible refine Box.set ?_
              | exact Box.of X3_0_0.out
              | exact Box.of X3_1_0.out
              | exact Box.of X3_2_0.out
              | with_reducible refine NatS.alloc ?_ _
              | with_reducible refine NatS.setBox ?_ ?_
              | with_reducible refine NatS.drew ?_
              | omega)
    case rest =>
      obtain ⟨g2, D, md, cd, rfl, hbW, k2, hD⟩ := hcut
      rename World => wb
      have k0 := keepCell hbW k0
      have k1 := keepCell hbW k1
      have NL1 := Lib.hid (NL1.out.below hbW)
      have NL2 := Lib.hid (NL2.out.below hbW)
      have ND := Lib.hid hD
      have ER := Lib.hid (keepBlk hbW ER.out)
      have EB := Lib.hid (EB.out.trans (hbW.mono (by have := EZ.out; omega)))
      have EZ := Lib.hid (show w.heap.size + 3 ≤ wb.heap.size by have := EZ.out; have := hbW.size; omega)
      have S3 : wlen (a % B64 ^ k * (b % B64 ^ k)) ≤ 2 * k := by have := wlen_mul (a % B64 ^ k) (b % B64 ^ k); have := HWA.out; have := HWB.out; omega
      have S4 : wlen (a / B64 ^ k * (b / B64 ^ k)) ≤ 2 * (mx - k) := by have := wlen_mul (a / B64 ^ k) (b / B64 ^ k); have := HWA.out; have := HWB.out; omega
      have S5 : wlen ((a % B64 ^ k + a / B64 ^ k) * (b % B64 ^ k + b / B64 ^ k)) ≤ 2 * (k + 1) := by
        have := wlen_mul (a % B64 ^ k + a / B64 ^ k) (b % B64 ^ k + b / B64 ^ k)
        have := wlen_add (a % B64 ^ k) (a / B64 ^ k); have := wlen_add (b % B64 ^ k) (b / B64 ^ k); have := HWA.out; have := HWB.out; have := HK2M.out; omega
      have hle : a % B64 ^ k * (b % B64 ^ k) + a / B64 ^ k * (b / B64 ^ k) ≤ (a % B64 ^ k + a / B64 ^ k) * (b % B64 ^ k + b / B64 ^ k) := kara_le _ _ _ _
      have S6 : wlen ((a % B64 ^ k + a / B64 ^ k) * (b % B64 ^ k + b / B64 ^ k) - (a % B64 ^ k * (b % B64 ^ k) + a / B64 ^ k * (b / B64 ^ k))) ≤ 2 * (k + 1) := Nat.le_trans (wlen_mono (Nat.sub_le _ _)) S5
      have Q4 := Lib.hid (show wlen (a % B64 ^ k * (b % B64 ^ k)) ≤ LIM by have := HM4.out; have := HKM.out; omega)
      have Q5 := Lib.hid (show wlen (a / B64 ^ k * (b / B64 ^ k)) ≤ LIM by have := HM4.out; have := HKM.out; omega)
      have Q6 := Lib.hid (show wlen ((a % B64 ^ k + a / B64 ^ k) * (b % B64 ^ k + b / B64 ^ k)) ≤ LIM by have := HM4.out; have := HKM.out; omega)
      have Q7 := Lib.hid hle
      have HV := Lib.hid (kara a b (B64 ^ k) (Nat.pow_pos (by decide)))
      have E2K : B64 ^ (2 * k) = B64 ^ k * B64 ^ k := by rw [Nat.two_mul, Nat.pow_add]
      have wX : wlen (B64 ^ k) ≤ k + 1 := wlen_le_of_lt (Nat.pow_lt_pow_right (by decide) (by omega))
      have R1 := Lib.hid (show k + wlen ((a % B64 ^ k + a / B64 ^ k) * (b % B64 ^ k + b / B64 ^ k) - (a % B64 ^ k * (b % B64 ^ k) + a / B64 ^ k * (b / B64 ^ k))) ≤ LIM by have := HM4.out; have := HKM.out; omega)
      have R2 := Lib.hid (show 2 * k + wlen (a / B64 ^ k * (b / B64 ^ k)) ≤ LIM by have := HM4.out; have := HKM.out; omega)
      generalize a % B64 ^ k * (b % B64 ^ k) = lo at *
      generalize a / B64 ^ k * (b / B64 ^ k) = hi at *
      generalize (a % B64 ^ k + a / B64 ^ k) * (b % B64 ^ k + b / B64 ^ k) = bo at *
      have R3 := Lib.hid (show wlen ((bo - (lo + hi)) * B64 ^ k) ≤ 3 * k + 3 by have := wlen_mul (bo - (lo + hi)) (B64 ^ k); omega)
      have R4 := Lib.hid (show wlen (hi * B64 ^ (2 * k)) ≤ 2 * mx + 2 by have h1 := wlen_mul hi (B64 ^ (2 * k)); have h2 := wlen_mul (B64 ^ k) (B64 ^ k); rw [← E2K] at h2; have := HKM.out; omega)
      have R5 := Lib.hid (show wlen ((bo - (lo + hi)) * B64 ^ k) ≤ LIM by have := R3.out; have := HM4.out; have := HKM.out; omega)
      have R6 := Lib.hid (show wlen (hi * B64 ^ (2 * k)) ≤ LIM by have := R4.out; have := HM4.out; omega)
      have R7 := Lib.hid (show wlen ((bo - (lo + hi)) * B64 ^ k + hi * B64 ^ (2 * k)) ≤ LIM by have := wlen_add ((bo - (lo + hi)) * B64 ^ k) (hi * B64 ^ (2 * k)); have := R3.out; have := R4.out; have := HM4.out; have := HKM.out; omega)
      have HV2 := Lib.hid (show lo + ((bo - (lo + hi)) * B64 ^ k + hi * B64 ^ (2 * k)) = a * b by rw [E2K]; exact HV.out)
      clear S3 S4 S5 S6 hle hbW hD HS E2K wX HV Q0 Q1 Q2 Q3 F4 F5 G4 G5
      go_wp2_with fail
      have HS := Lib.hid (show ∀ w', Below wb.heap.size wb w' → ((w'.cell? ⟨g0, 0, none⟩ = some (.slice L1 ml cl) ∧ w'.cell? ⟨g1, 0, none⟩ = some (.slice L2 mh ch) ∧ w'.cell? ⟨g2, 0, none⟩ = some (.slice D md cd)) ∧ Below wb.heap.size wb w') from fun w' h => ⟨⟨keepCell h k0, keepCell h k1, keepCell h k2⟩, h⟩)
      go_cut [13, 14] (fun s13 s14 wr => ∃ (g3 : Nat) (G : Option Addr) (mg cg : Nat), s13 = .pointer (some ⟨g3, 0, none⟩) ∧ s14 = .bool true ∧ Below wb.heap.size wb wr ∧
        wr.cell? ⟨g3, 0, none⟩ = some (.slice G mg cg) ∧ NatS wr (.slice G mg cg) (bo - (lo + hi)) ∧ wb.heap.size ≤ g3)
      case first =>
        go_region_held3 (fun w' => ((w'.cell? ⟨g0, 0, none⟩ = some (.slice L1 ml cl) ∧ w'.cell? ⟨g1, 0, none⟩ = some (.slice L2 mh ch) ∧ w'.cell? ⟨g2, 0, none⟩ = some (.slice D md cd)) ∧ Below wb.heap.size wb w'))
          ((refine HS.out _ ?_; repeat (first | exact Below.refl _ _ | exact (by assumption : _ ∧ Below _ _ _).2 | with_reducible refine bdrew ?_ | with_reducible refine al2 ?_ _ | with_reducible refine set2 ?_ (by omega) | with_reducible refine bstep2 ?_ (by assumption))))
          (first
            | (go_at_call 49; (with_reducible refine (Nt.add L1 L2 ml cl mh ch lo hi _ (NL1.out.below (by assumption : _ ∧ Below _ _ _).2) (NL2.out.below (by assumption : _ ∧ Below _ _ _).2) Q4.out Q5.out).mono ?_); rintro e u1 ⟨E1, me, ce, rfl, he1, hb1⟩; have hz1 := hb1.size; (try simp at hz1); have hze1 : wb.heap.size ≤ u1.heap.size := (by omega); (try ((first | (have pp := keepBox (b := wb.heap.size) (v := .slice none 0 0) (t := 36) hb1 (blk_new _ _ _); obtain ⟨X1_0_0, ⟨X1_0_0c, X1_0_0f⟩, ⟨X1_0_0d, X1_0_0g⟩, ⟨X1_0_0e, X1_0_0h⟩, ⟨X1_0_0i, X1_0_0j⟩, X1_0_0k, X1_0_0l⟩ := pp)); have X1_0_0 := Lib.hid X1_0_0)); have HE1 := Lib.hid he1; clear he1)
            | (go_at_call 50; (with_reducible refine (Nt.sub_ok D E1 md cd me ce bo (lo + hi) _ (ND.out.below (by assumption : _ ∧ Below _ _ _).2) (by repeat (first | exact HE1.out | with_reducible refine NatS.alloc ?_ _ | with_reducible refine NatS.drew ?_)) Q7.out Q6.out).mono ?_); rintro e u2 ⟨E2, mf, cf, rfl, he2, hb2⟩; have hz2 := hb2.size; (try simp at hz2); have hze2 : wb.heap.size ≤ u2.heap.size := (by omega); (try ((first | (have pp := keepBox (b := wb.heap.size) (v := .slice none 0 0) (t := 36) hb2 (X1_0_0.out); obtain ⟨X2_0_0, ⟨X2_0_0c, X2_0_0f⟩, ⟨X2_0_0d, X2_0_0g⟩, ⟨X2_0_0e, X2_0_0h⟩, ⟨X2_0_0i, X2_0_0j⟩, X2_0_0k, X2_0_0l⟩ := pp) | (have pp := keepBox (b := wb.heap.size) (v := .slice none 0 0) (t := 36) hb2 (blk_al X1_0_0.out); obtain ⟨X2_0_0, ⟨X2_0_0c, X2_0_0f⟩, ⟨X2_0_0d, X2_0_0g⟩, ⟨X2_0_0e, X2_0_0h⟩, ⟨X2_0_0i, X2_0_0j⟩, X2_0_0k, X2_0_0l⟩ := pp)); have X2_0_0 := Lib.hid X2_0_0)); (try ((first | (have pp := keepBox (b := u1.heap.size) (v := .slice none 0 0) (t := 36) hb2 (blk_new _ _ _); obtain ⟨X2_1_0, ⟨X2_1_0c, X2_1_0f⟩, ⟨X2_1_0d, X2_1_0g⟩, ⟨X2_1_0e, X2_1_0h⟩, ⟨X2_1_0i, X2_1_0j⟩, X2_1_0k, X2_1_0l⟩ := pp)); have X2_1_0 := Lib.hid X2_1_0)); have HE2 := Lib.hid he2; clear he2))
        all_goals
          go_wp2
          go_meet
          case rel =>
            refine ⟨_, E2, mf, cf, rfl, rfl, (by assumption : _ ∧ Below wb.heap.size wb _).2, ?_, ?_, ?_⟩
            all_goals
              repeat' (first
                | with_reducible exact HE2.out
                | with_reducible assumption
                | with_reducible exact cell_new0 _ _ _
                | with_reducible exact cell_new1 _ _ _ _
                | with_reducible refine cell_al ?_
                | with_reducible refine Box.cell ?_
                | with_reducible refine cell_set ?_ ?_
                | with_reducible exact Box.new _ _
                | with_reducible exact Box.new1 _ _ _
                | with_reducible refine Box.alloc ?_
                | with_reducible refine Box.set ?_
                | exact Box.of X2_0_0.out
                | exact Box.of X2_1_0.out
                | with_reducible refine NatS.alloc ?_ _
                | with_reducible refine NatS.setBox ?_ ?_
                | with_reducible refine NatS.drew ?_
                | omega)
      case rest =>
        obtain ⟨g3, G, mg, cg, rfl, rfl, hbX, k3, hG, hg3⟩ := hcut
        rename World => wd
        have k0 := keepCell hbX k0
        have k1 := keepCell hbX k1
        have NL1 := Lib.hid (NL1.out.below hbX)
        have NL2 := Lib.hid (NL2.out.below hbX)
        have NG := Lib.hid hG
        have EZB := EZ
        have ER := Lib.hid (keepBlk hbX ER.out)
        have EB := Lib.hid (EB.out.trans (hbX.mono (by have := EZ.out; omega)))
        have EZ := Lib.hid (show w.heap.size + 3 ≤ wd.heap.size by have := EZ.out; have := hbX.size; omega)
        have hg3 : w.heap.size + 3 ≤ g3 := by have := EZB.out; omega
        have hg0 := HG0.out.1
        have hg1 := HG0.out.2
        clear hbX hG HS
        go_wp2_with fail
        obtain ⟨kk, hkk⟩ : ∃ kk, kk = 2 * k := ⟨_, rfl⟩
        rw [← hkk] at R2 R4 R6 R7 HV2
        have HKI := Lib.hid (show IntKind.i64.wrap (2 * (k : Int)) = (kk : Int) by rw [IntWalk.i64_in _ (by have := HKM.out; have := HM4.out; have := LIM_eq; omega), hkk]; omega)
        clear hkk
        go_region_held3 (fun w' => w'.cell? ⟨g0, 0, none⟩ = some (.slice L1 ml cl) ∧ w'.cell? ⟨g1, 0, none⟩ = some (.slice L2 mh ch) ∧ w'.cell? ⟨g3, 0, none⟩ = some (.slice G mg cg))
          (((try go_split_ands); (try simp only [World.cell?_drew]); (repeat' apply And.intro) <;> (first | assumption | exact keepCell hb1 (by assumption) | exact keepCell hb2 (by assumption) | exact keepCell hb3 (by assumption) | exact keepCell hb4 (by assumption) | exact cell_set (by omega) (by assumption) | exact cell_al (by assumption))))
          (first
            | (go_at_call 58; (with_reducible refine (raised G mg cg (bo - (lo + hi)) k _ (by repeat (first | exact NG.out | with_reducible refine NatS.alloc ?_ _ | with_reducible refine NatS.drew ?_)) R1.out).mono ?_); rintro e u1 ⟨E1, me, ce, rfl, he1, hb1⟩; have hz1 := hb1.size; (try simp at hz1); have hze1 : wd.heap.size ≤ u1.heap.size := (by omega); have HE1 := Lib.hid he1; clear he1)
            | (go_at_call 58; (with_reducible refine (raisedI L2 mh ch hi kk (IntKind.i64.wrap (2 * (k : Int))) HKI.out _ (by repeat (first | exact NL2.out | with_reducible refine NatS.alloc ?_ _ | with_reducible refine NatS.drew ?_ | refine NatS.below ?_ hb1)) R2.out).mono ?_); rintro e u2 ⟨E2, mf, cf, rfl, he2, hb2⟩; have hz2 := hb2.size; (try simp at hz2); have hze2 : wd.heap.size ≤ u2.heap.size := (by omega); have HE2 := Lib.hid he2; clear he2)
            | (go_at_call 49; (with_reducible refine (Nt.add E1 E2 me ce mf cf _ _ _ (by repeat (first | exact HE1.out | with_reducible refine NatS.alloc ?_ _ | with_reducible refine NatS.drew ?_ | refine NatS.below ?_ hb2)) (by repeat (first | exact HE2.out | with_reducible refine NatS.alloc ?_ _ | with_reducible refine NatS.drew ?_)) R5.out R6.out).mono ?_); rintro e u3 ⟨E3, mg3, cg3, rfl, he3, hb3⟩; have hz3 := hb3.size; (try simp at hz3); have hze3 : wd.heap.size ≤ u3.heap.size := (by omega); have HE3 := Lib.hid he3; clear he3)
            | (go_at_call 49; (with_reducible refine (Nt.add L1 E3 ml cl mg3 cg3 lo _ _ (by repeat (first | exact NL1.out | with_reducible refine NatS.alloc ?_ _ | with_reducible refine NatS.drew ?_ | refine NatS.below ?_ hb3 | refine NatS.below ?_ hb2 | refine NatS.below ?_ hb1)) (by repeat (first | exact HE3.out | with_reducible refine NatS.alloc ?_ _ | with_reducible refine NatS.drew ?_)) Q4.out R7.out).mono ?_); rintro e u4 ⟨E4, mh4, ch4, rfl, he4, hb4⟩; have hz4 := hb4.size; (try simp at hz4); have hze4 : wd.heap.size ≤ u4.heap.size := (by omega); have HE4 := Lib.hid he4; have ER4 := Lib.hid (keepBlk hb4 (keepBlk hb3 (keepBlk hb2 (keepBlk hb1 ER.out)))); have EB4 := Lib.hid (bstep2 (bstep2 (bstep2 (bstep2 (bdrew EB.out) hb1) hb2) hb3) hb4); have ERc := blk_cell ER4.out 0; have ERf := blk_fro ER4.out 0; simp only [List.getElem?_toArray, List.getElem?_cons_zero] at ERc; clear he4))
        all_goals
          go_wp2
          refine bodyPost_ret (v := .agg #[.slice E4 mh4 ch4]) (by simp [results, Try.results37, go_sem, ERc]) rfl ?_
          have hs4 := HE4.out
          rw [HV2.out] at hs4
          exact ⟨_, _, _, rfl, hs4.setCell (p := ⟨w.heap.size + 1 + 1, 0, none⟩) ER4.out (by decide) _, Below.setCell EB4.out (by simp; omega) _⟩
theorem mul_upto : ∀ M, MulUpto M
  | 0 => fun _ _ _ _ _ _ _ _ _ _ _ _ _ h _ => absurd h (by omega)
  | M + 1 => fun A B m c m' c' a b w ha hb hla hlb hMa hMb => by
    by_cases h8 : wlen a < 8 ∨ wlen b < 8
    · exact mul_small A B m c m' c' a b w ha hb (by omega) h8
    · exact mul_big A B m c m' c' a b M w (mul_upto M) (by omega) ha hb hla hlb (by omega) (by omega)
/-- prod.Mul. -/
theorem mul (A B : Option Addr) (m c m' c' a b : Nat) (w : World) (ha : NatS w (.slice A m c) a) (hb : NatS w (.slice B m' c') b) (hla : 4 * wlen a ≤ LIM) (hlb : 4 * wlen b ≤ LIM) :
    Calls Try.prog 37 #[.agg #[.slice A m c], .agg #[.slice B m' c']] w (RetNat w (a * b)) :=
  mul_upto (wlen a + wlen b + 1) A B m c m' c' a b w ha hb hla hlb (by omega) (by omega)
end Pr
end Go.Proofs.Ytohkhcbocknliaa
