/- quot.guess by its contract. Conditions: as each says. -/
import Derived.Test.YtohkhcbocknliaaQuot1M
namespace Go.Proofs.Ytohkhcbocknliaa
open Go.RowKit Am
attribute [local go_sem ↓] Go.wp_at_zero Go.wp_at_succ
set_option maxHeartbeats 1000000
set_option maxRecDepth 100000
namespace Qt
theorem guess_cmp (q v0 r u0 : Nat) (h0 : u0 < 18446744073709551616) : (mulHi q v0 0 0 < r ∨ mulHi q v0 0 0 = r ∧ mulLo q v0 0 0 ≤ u0) ↔ q * v0 ≤ r * B64 + u0 := by
  unfold mulHi mulLo
  simp only [Nat.add_zero]
  generalize q * v0 = P
  have := Nat.div_add_mod P B64
  have hB : B64 = 18446744073709551616 := rfl
  have h2 := Nat.mod_lt P (show 0 < B64 by decide)
  rw [hB] at *
  omega
theorem addC_one {x y : Nat} (h : (((addC x y 0 : Nat) : Int) == 1) = true) : B64 ≤ x + y := by
  have h1 : addC x y 0 = 1 := by have := eq_of_beq h; omega
  unfold addC at h1
  have hB : B64 = 18446744073709551616 := rfl
  rw [hB] at h1 ⊢
  omega
theorem addC_no {x y : Nat} (hx : x < 18446744073709551616) (hy : y < 18446744073709551616) (h : (((addC x y 0 : Nat) : Int) == 1) = false) : addW x y 0 = x + y ∧ x + y < 18446744073709551616 := by
  have h1 : ¬ addC x y 0 = 1 := by have := ne_of_beq_false h; omega
  unfold addC at h1
  unfold addW
  have hB : B64 = 18446744073709551616 := rfl
  rw [hB] at h1 ⊢
  have h2 : (x + y + 0) / 18446744073709551616 = 0 := by omega
  omega
theorem wrap_pred {q : Nat} (h : 0 < q) (hq : q < 18446744073709551616) : IntKind.u64.wrap ((q : Int) - 1) = ((q - 1 : Nat) : Int) := by
  rw [IntKind.wrap_u64]
  omega
theorem guess (u2 u1 u0 v1 v0 : Nat) (w : World) (h2 : u2 ≤ v1) (h1 : u1 < 18446744073709551616) (h0 : u0 < 18446744073709551616) (hv : 9223372036854775808 ≤ v1) (hv1 : v1 < 18446744073709551616) (hv0 : v0 < 18446744073709551616) :
    Calls Try.prog 83 #[.int .u64 (u2 : Int), .int .u64 (u1 : Int), .int .u64 (u0 : Int), .int .u64 (v1 : Int), .int .u64 (v0 : Int)] w fun e w' => (∃ q : Nat, e = .returned (.int .u64 (q : Int)) ∧ GuessIs u2 u1 u0 v1 v0 q) ∧ ∃ n, w' = w.drewN n := by
  rcases Nat.lt_or_ge u2 v1 with hlt | hge
  · have hst := Lib.hid (GuessInv.start u2 u1 u0 v1 v0 hlt h1 h0)
    go_enter Try.func83, Try.ntmps83
    go_wp2_with (first
      | (go_at_call 87; (refine (Word.div_ok u2 u1 v1 hlt h1 hv1 _).mono ?_); rintro e w' ⟨rfl, nd, rfl⟩))
    go_loopw [11, 12] (fun qv rv wr => ∃ (q r n : Nat), qv = .int .u64 (q : Int) ∧ rv = .int .u64 (r : Int) ∧ GuessInv u2 u1 u0 v1 v0 q r ∧ r < 18446744073709551616 ∧ wr = w.drewN n) (fun qv _ _ => (intOf qv).toNat)
    case atStart => exact ⟨_, _, nd, rfl, rfl, hst.out, by unfold divR; exact Nat.lt_of_lt_of_le (Nat.mod_lt _ (by omega)) (by omega), rfl⟩
    case round =>
      obtain ⟨q, r, n, rfl, rfl, hI, hr, rfl⟩ := hrel
      have hq := hI.lt
      have HI := Lib.hid hI
      clear hI hst
      by_cases hc : q * v0 ≤ r * B64 + u0
      · have hd := Lib.hid (HI.out.done hv0 (.inl hc))
        have hcc := (guess_cmp q v0 r u0 h0).2 hc
        clear hc
        go_wp2_with (first
          | (go_at_call 78; (refine (Word.mul q v0 hq hv0 _).mono ?_); rintro e w' ⟨rfl, rfl⟩))
        all_goals first
          | exact bodyPost_ret (v := .int .u64 (q : Int)) (by simp [results, Try.results83, go_sem]) rfl ⟨⟨q, rfl, hd.out⟩, n, rfl⟩
          | (exfalso; omega)
      · have hdn := HI.out.down (by omega)
        have hq0 := hdn.2
        have HD := Lib.hid hdn.1
        have hcc : ¬ (mulHi q v0 0 0 < r ∨ mulHi q v0 0 0 = r ∧ mulLo q v0 0 0 ≤ u0) := fun h => hc ((guess_cmp q v0 r u0 h0).1 h)
        clear hc hdn
        go_wp2_with (first
          | (go_at_call 78; (refine (Word.mul q v0 hq hv0 _).mono ?_); rintro e w' ⟨rfl, rfl⟩)
          | (go_at_call 63; (refine (Word.add r v1 0 hr hv1 (by decide) _).mono ?_); rintro e w' ⟨rfl, rfl⟩))
        all_goals first
          | (have h9 := addC_one (by assumption)
             exact bodyPost_ret (v := .int .u64 (IntKind.u64.wrap ((q : Int) - 1))) (by simp [results, Try.results83, go_sem]) rfl ⟨⟨q - 1, by rw [wrap_pred hq0 hq], HD.out.done hv0 (.inr h9)⟩, n, rfl⟩)
          | (have h9 := addC_no hr hv1 (by assumption)
             refine ⟨⟨q - 1, r + v1, n, by rw [wrap_pred hq0 hq], by rw [h9.1], HD.out, h9.2, rfl⟩, ?_⟩
             rw [wrap_pred hq0 hq]
             simp only [intOf]
             omega)
  · have hev : u2 = v1 := by omega
    have hst := Lib.hid (show GuessInv u2 u1 u0 v1 v0 (B64 - 1) (u1 + v1) by rw [hev]; exact GuessInv.start' u1 u0 v1 v0)
    clear hev
    go_enter Try.func83, Try.ntmps83
    go_wp2_with (first
      | (go_at_call 87; (refine (Word.div_no u2 u1 v1 hge _).mono ?_); rintro e w' ⟨rfl, rfl⟩)
      | (go_at_call 63; (refine (Word.add u1 v1 0 h1 hv1 (by decide) _).mono ?_); rintro e w' ⟨rfl, rfl⟩))
    · have h9 := addC_one (by assumption)
      exact bodyPost_ret (v := .int .u64 18446744073709551615) (by simp [results, Try.results83, go_sem]) rfl ⟨⟨B64 - 1, rfl, hst.out.done hv0 (.inr h9)⟩, 0, rfl⟩
    · have hb : (((addC u1 v1 0 : Nat) : Int) == 1) = false := by assumption
      have h9 := Lib.hid (addC_no h1 hv1 hb)
      simp only [hb]
      clear hb
      go_loopw [11, 12] (fun qv rv wr => ∃ (q r n : Nat), qv = .int .u64 (q : Int) ∧ rv = .int .u64 (r : Int) ∧ GuessInv u2 u1 u0 v1 v0 q r ∧ r < 18446744073709551616 ∧ wr = w.drewN n) (fun qv _ _ => (intOf qv).toNat)
      case atStart => exact ⟨B64 - 1, u1 + v1, 0, rfl, by rw [h9.out.1], hst.out, h9.out.2, rfl⟩
      case round =>
        obtain ⟨q, r, n, rfl, rfl, hI, hr, rfl⟩ := hrel
        have hq := hI.lt
        have HI := Lib.hid hI
        clear hI hst
        by_cases hc : q * v0 ≤ r * B64 + u0
        · have hd := Lib.hid (HI.out.done hv0 (.inl hc))
          have hcc := (guess_cmp q v0 r u0 h0).2 hc
          clear hc
          go_wp2_with (first
            | (go_at_call 78; (refine (Word.mul q v0 hq hv0 _).mono ?_); rintro e w' ⟨rfl, rfl⟩))
          all_goals first
            | exact bodyPost_ret (v := .int .u64 (q : Int)) (by simp [results, Try.results83, go_sem]) rfl ⟨⟨q, rfl, hd.out⟩, n, rfl⟩
            | (exfalso; omega)
        · have hdn := HI.out.down (by omega)
          have hq0 := hdn.2
          have HD := Lib.hid hdn.1
          have hcc : ¬ (mulHi q v0 0 0 < r ∨ mulHi q v0 0 0 = r ∧ mulLo q v0 0 0 ≤ u0) := fun h => hc ((guess_cmp q v0 r u0 h0).1 h)
          clear hc hdn
          go_wp2_with (first
            | (go_at_call 78; (refine (Word.mul q v0 hq hv0 _).mono ?_); rintro e w' ⟨rfl, rfl⟩)
            | (go_at_call 63; (refine (Word.add r v1 0 hr hv1 (by decide) _).mono ?_); rintro e w' ⟨rfl, rfl⟩))
          all_goals first
            | (have h9 := addC_one (by assumption)
               exact bodyPost_ret (v := .int .u64 (IntKind.u64.wrap ((q : Int) - 1))) (by simp [results, Try.results83, go_sem]) rfl ⟨⟨q - 1, by rw [wrap_pred hq0 hq], HD.out.done hv0 (.inr h9)⟩, n, rfl⟩)
            | (have h9 := addC_no hr hv1 (by assumption)
               refine ⟨⟨q - 1, r + v1, n, by rw [wrap_pred hq0 hq], by rw [h9.1], HD.out, h9.2, rfl⟩, ?_⟩
               rw [wrap_pred hq0 hq]
               simp only [intOf]
               omega)
end Qt
end Go.Proofs.Ytohkhcbocknliaa
