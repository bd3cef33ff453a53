/- The functions of package word by their contracts: sums, differences, products, quotients of words. Conditions: the arguments are words. The functions of package word that loop: how many bits, and quotients. Conditions: the arguments are words. word.Div by its contract. Conditions: the arguments are words. Conditions: as they say. -/
import Derived.Test.YtohkhcbocknliaaProg
import Derived.Test.YtohkhcbocknliaaMathM
import Derived.WalkKit
import Derived.WalkSpells
import Derived.Deep.QuietTactic
import Derived.BigQuiet
import Derived.Lib.Hide
namespace Go.Proofs.Ytohkhcbocknliaa
open Go.RowKit Am
set_option maxHeartbeats 400000

theorem ret2u {a b a' b' : Int} (h1 : a = a') (h2 : b = b') : Ending.returned (.tuple #[.int .u64 a, .int .u64 b]) = Ending.returned (.tuple #[.int .u64 a', .int .u64 b']) := by rw [h1, h2]
theorem ret1 {k : IntKind} {a a' : Int} (h1 : a = a') : Ending.returned (.int k a) = Ending.returned (.int k a') := by rw [h1]
theorem wrap_nat (a : Nat) (h : a < 18446744073709551616) : IntKind.u64.wrap (a : Int) = (a : Int) := by
  rw [IntKind.wrap_u64]; omega

namespace Word
theorem f_add (x y c : Nat) (hc : c ≤ 1) :
    IntKind.u64.wrap (IntKind.u64.wrap (↑x + ↑y) + bits BinOp.and IntKind.u64 (↑c) 1) = ((addW x y c : Nat) : Int) := by
  rw [show (1 : Int) = ((1 : Nat) : Int) from rfl, u64_and_nat c 1 (by omega) (by decide), and_one, IntKind.wrap_u64, IntKind.wrap_u64]
  unfold addW B64; omega
theorem f_addC (x y c : Nat) (hx : x < 18446744073709551616) (hy : y < 18446744073709551616) (hc : c ≤ 1) :
    bits BinOp.or IntKind.u64 (bits BinOp.and IntKind.u64 ↑x ↑y) (bits BinOp.andNot IntKind.u64 (bits BinOp.or IntKind.u64 ↑x ↑y) ((addW x y c : Nat) : Int)) / 9223372036854775808 = ((addC x y c : Nat) : Int) := by
  have h1 := addW_lt x y c
  have h2 : x &&& y < 18446744073709551616 := Nat.lt_of_le_of_lt Nat.and_le_left hx
  have h3 : x ||| y < 2 ^ 64 := Nat.or_lt_two_pow (by omega) (by omega)
  have h4 : (x ||| y) &&& (18446744073709551615 - addW x y c) < 18446744073709551616 := Nat.lt_of_le_of_lt Nat.and_le_left (by omega)
  rw [u64_and_nat x y hx hy, u64_or_nat x y hx hy, u64_andNot_nat _ _ (by omega) h1, u64_or_nat _ _ h2 h4]
  have := carry_eq x y c hx hy hc
  unfold addW addC B64
  rw [← this]
  rfl
theorem f_sub (x y c : Nat) (hy : y < 18446744073709551616) (hc : c ≤ 1) :
    IntKind.u64.wrap (IntKind.u64.wrap (↑x - ↑y) - bits BinOp.and IntKind.u64 (↑c) 1) = ((subW x y c : Nat) : Int) := by
  rw [show (1 : Int) = ((1 : Nat) : Int) from rfl, u64_and_nat c 1 (by omega) (by decide), and_one, IntKind.wrap_u64, IntKind.wrap_u64]
  unfold subW B64; omega
theorem f_subC (x y c : Nat) (hx : x < 18446744073709551616) (hy : y < 18446744073709551616) (hc : c ≤ 1) :
    bits BinOp.or IntKind.u64 (bits BinOp.and IntKind.u64 (bits BinOp.xor IntKind.u64 IntKind.u64.max ↑x) ↑y)
        (bits BinOp.and IntKind.u64 (bits BinOp.xor IntKind.u64 IntKind.u64.max (bits BinOp.xor IntKind.u64 ↑x ↑y)) ((subW x y c : Nat) : Int)) / 9223372036854775808 = ((subC x y c : Nat) : Int) := by
  have h1 := subW_lt x y c
  have hm : IntKind.u64.max = ((18446744073709551615 : Nat) : Int) := by decide
  have hxy : x ^^^ y < 2 ^ 64 := Nat.xor_lt_two_pow (by omega) (by omega)
  have hn : ∀ z : Nat, z < 18446744073709551616 → 18446744073709551615 ^^^ z = 18446744073709551615 - z := by
    intro z hz
    have e : (18446744073709551615 : Nat) = 2 ^ 64 - 1 := by decide
    rw [e]
    have hz' : z < 2 ^ 64 := by omega
    have h1 : (BitVec.allOnes 64 ^^^ BitVec.ofNat 64 z).toNat = (~~~ BitVec.ofNat 64 z).toNat := by rw [BitVec.allOnes_xor]
    rw [BitVec.toNat_xor, BitVec.toNat_allOnes, BitVec.toNat_not, BitVec.toNat_ofNat, Nat.mod_eq_of_lt hz'] at h1
    exact h1
  rw [hm, u64_xor_nat _ _ (by decide) hx, u64_xor_nat _ _ hx hy, u64_xor_nat _ _ (by decide) (by omega), hn x hx, hn _ (by omega)]
  have h2 : (18446744073709551615 - x) &&& y < 18446744073709551616 := Nat.lt_of_le_of_lt Nat.and_le_right hy
  have h4 : (18446744073709551615 - (x ^^^ y)) &&& subW x y c < 18446744073709551616 := Nat.lt_of_le_of_lt Nat.and_le_right h1
  rw [u64_and_nat _ _ (by omega) hy, u64_and_nat _ _ (by omega) h1, u64_or_nat _ _ h2 h4]
  have := borrow_eq x y c hx hy hc
  unfold subW subC B64
  rw [← this]
  rfl
theorem add (x y c : Nat) (hx : x < 18446744073709551616) (hy : y < 18446744073709551616) (hc : c ≤ 1) (w : World) : Calls Try.prog 63 #[.int .u64 x, .int .u64 y, .int .u64 c] w fun e w' => e = .returned (.tuple #[.int .u64 (addW x y c : Nat), .int .u64 (addC x y c : Nat)]) ∧ w = w' := by
  have hA := f_add x y c hc
  have hB := f_addC x y c hx hy hc
  go_enter Try.func63, Try.ntmps63
  go_wp2
  go_ret2
  exact ⟨ret2u rfl rfl, rfl⟩
theorem sub (x y c : Nat) (hx : x < 18446744073709551616) (hy : y < 18446744073709551616) (hc : c ≤ 1) (w : World) : Calls Try.prog 66 #[.int .u64 x, .int .u64 y, .int .u64 c] w fun e w' => e = .returned (.tuple #[.int .u64 (subW x y c : Nat), .int .u64 (subC x y c : Nat)]) ∧ w = w' := by
  have hA := f_sub x y c hy hc
  have hB := f_subC x y c hx hy hc
  have hs : IntKind.u64.signed = false := rfl
  go_enter Try.func66, Try.ntmps66
  go_wp2
  go_ret2
  exact ⟨ret2u rfl rfl, rfl⟩

theorem half_mul {a b : Nat} (ha : a < 4294967296) (hb : b < 4294967296) : a * b ≤ 18446744065119617025 := by
  have h1 : a ≤ 4294967295 := by omega
  have h2 : b ≤ 4294967295 := by omega
  exact Nat.mul_le_mul h1 h2
theorem f_mulHi (x y : Nat) (hx : x < 18446744073709551616) (hy : y < 18446744073709551616) :
    IntKind.u64.wrap (IntKind.u64.wrap (IntKind.u64.wrap (↑x / 4294967296 * (↑y / 4294967296)) +
        IntKind.u64.wrap (IntKind.u64.wrap (↑x / 4294967296 * bits BinOp.and IntKind.u64 (↑y) 4294967295) +
          IntKind.u64.wrap (bits BinOp.and IntKind.u64 (↑x) 4294967295 * bits BinOp.and IntKind.u64 (↑y) 4294967295) / 4294967296) / 4294967296) +
      IntKind.u64.wrap (bits BinOp.and IntKind.u64 (IntKind.u64.wrap (IntKind.u64.wrap (↑x / 4294967296 * bits BinOp.and IntKind.u64 (↑y) 4294967295) +
          IntKind.u64.wrap (bits BinOp.and IntKind.u64 (↑x) 4294967295 * bits BinOp.and IntKind.u64 (↑y) 4294967295) / 4294967296)) 4294967295 +
        IntKind.u64.wrap (bits BinOp.and IntKind.u64 (↑x) 4294967295 * (↑y / 4294967296))) / 4294967296) = ((mulHi x y 0 0 : Nat) : Int) := by
  have e : (4294967295 : Int) = ((4294967295 : Nat) : Int) := rfl
  have f : (4294967296 : Int) = ((4294967296 : Nat) : Int) := rfl
  have hh := mul_hi x y hx hy
  have hx1 : x / 4294967296 < 4294967296 := by omega
  have hy1 : y / 4294967296 < 4294967296 := by omega
  have hx0 : x % 4294967296 < 4294967296 := Nat.mod_lt _ (by decide)
  have hy0 : y % 4294967296 < 4294967296 := Nat.mod_lt _ (by decide)
  have m11 := half_mul hx1 hy1
  have m10 := half_mul hx1 hy0
  have m00 := half_mul hx0 hy0
  have m01 := half_mul hx0 hy1
  rw [e, f, u64_and_nat x _ hx (by decide), u64_and_nat y _ hy (by decide), and_low, and_low]
  simp only [← Int.natCast_ediv, ← Int.natCast_mul]
  generalize x / 4294967296 * (y / 4294967296) = p11 at *
  generalize x / 4294967296 * (y % 4294967296) = p10 at *
  generalize x % 4294967296 * (y % 4294967296) = p00 at *
  generalize x % 4294967296 * (y / 4294967296) = p01 at *
  rw [wrap_nat p11 (by omega), wrap_nat p10 (by omega), wrap_nat p00 (by omega), wrap_nat p01 (by omega)]
  simp only [← Int.natCast_ediv, ← Int.natCast_add]
  rw [wrap_nat (p10 + p00 / 4294967296) (by omega), u64_and_nat _ _ (by omega) (by decide), and_low]
  simp only [← Int.natCast_ediv, ← Int.natCast_add]
  rw [wrap_nat _ (by omega), wrap_nat _ (by omega)]
  simp only [← Int.natCast_ediv, ← Int.natCast_add]
  rw [wrap_nat _ (by omega)]
  unfold mulHi
  rw [show x * y + 0 + 0 = x * y from rfl, ← hh]
theorem f_mulLo (x y : Nat) : IntKind.u64.wrap (↑x * ↑y) = ((mulLo x y 0 0 : Nat) : Int) := by
  rw [← Int.natCast_mul, IntKind.wrap_u64]; unfold mulLo B64; omega
theorem mul (x y : Nat) (hx : x < 18446744073709551616) (hy : y < 18446744073709551616) (w : World) : Calls Try.prog 78 #[.int .u64 x, .int .u64 y] w fun e w' => e = .returned (.tuple #[.int .u64 (mulHi x y 0 0 : Nat), .int .u64 (mulLo x y 0 0 : Nat)]) ∧ w = w' := by
  have hA := f_mulHi x y hx hy
  have hB := f_mulLo x y
  go_enter Try.func78, Try.ntmps78
  go_wp2
  go_ret2
  refine ⟨ret2u ?_ ?_, rfl⟩
  · rfl
  · rfl
theorem madd_nat (x y a b : Nat) :
    addW (addW (mulLo x y 0 0) a 0) b 0 = mulLo x y a b ∧ mulHi x y 0 0 + addC (mulLo x y 0 0) a 0 + addC (addW (mulLo x y 0 0) a 0) b 0 = mulHi x y a b := by
  unfold addW addC mulLo mulHi B64
  generalize x * y = p
  omega
theorem mulAdd (x y a b : Nat) (hx : x < 18446744073709551616) (hy : y < 18446744073709551616) (ha : a < 18446744073709551616) (hb : b < 18446744073709551616) (w : World) :
    Calls Try.prog 70 #[.int .u64 x, .int .u64 y, .int .u64 a, .int .u64 b] w fun e w' => e = .returned (.tuple #[.int .u64 (mulHi x y a b : Nat), .int .u64 (mulLo x y a b : Nat)]) ∧ w = w' := by
  have h1 := mulLo_lt x y 0 0
  have h2 := addW_lt (mulLo x y 0 0) a 0
  have h := madd_nat x y a b
  have hH := mulHi_lt hx hy ha hb
  have e1 : IntKind.u64.wrap ((mulHi x y 0 0 : Nat) + (addC (mulLo x y 0 0) a 0 : Nat) : Int) = ((mulHi x y 0 0 + addC (mulLo x y 0 0) a 0 : Nat) : Int) := by
    rw [← Int.natCast_add]; exact wrap_nat _ (by omega)
  have e2 : IntKind.u64.wrap (((mulHi x y 0 0 + addC (mulLo x y 0 0) a 0 : Nat) : Int) + (addC (addW (mulLo x y 0 0) a 0) b 0 : Nat)) = ((mulHi x y a b : Nat) : Int) := by
    rw [← Int.natCast_add, h.2]; exact wrap_nat _ hH
  have H := Lib.hid h
  have E1 := Lib.hid e1
  have E2 := Lib.hid e2
  clear h e1 e2
  go_enter Try.func70, Try.ntmps70
  go_wp2_with fail
  refine (mul x y hx hy _).mono ?_
  rintro e w' ⟨rfl, rfl⟩
  go_wp2_with fail
  refine (add _ a 0 h1 ha (by omega) _).mono ?_
  rintro e w' ⟨rfl, rfl⟩
  go_wp2_with fail
  refine (add _ b 0 h2 hb (by omega) _).mono ?_
  rintro e w' ⟨rfl, rfl⟩
  go_wp2
  go_ret2
  refine ⟨ret2u ?_ ?_, rfl⟩
  · exact (congrArg (fun z => IntKind.u64.wrap (z + _)) E1.out).trans E2.out
  · exact congrArg Int.ofNat H.out.1
end Word
end Go.Proofs.Ytohkhcbocknliaa
namespace Go.Proofs.Ytohkhcbocknliaa
open Go.RowKit Am
set_option maxHeartbeats 1000000
namespace Word
def LenK (K : Int) (X : Nat) : Prop := ((K = 32 ∧ X < 2 ^ 64) ∨ (K = 16 ∧ X < 2 ^ 32) ∨ (K = 8 ∧ X < 2 ^ 16) ∨ (K = 4 ∧ X < 2 ^ 8) ∨ (K = 2 ∧ X < 2 ^ 4) ∨ (K = 1 ∧ X < 2 ^ 2) ∨ (K = 0 ∧ X < 2))
/-- The search's state: k is 2^j by 2, what is left has at most 2^j bits. -/
def LenAt (x0 : Nat) (x n k : Value) : Prop := ∃ (N : Nat) (K : Int) (X : Nat), n = .int .i64 N ∧ k = .int .i64 K ∧ x = .int .u64 X ∧ N ≤ 64 ∧ X < 18446744073709551616 ∧ blen x0 = N + blen X ∧ LenK K X
theorem LenAt.hit {x0 N X K : Nat} (K2 : Int) (hb : blen x0 = N + blen X) (hx0 : x0 < 18446744073709551616) (hX : X < 2 ^ (K + K)) (hne : X / 2 ^ K ≠ 0)
    (hd : ∀ Y, Y < 2 ^ K → LenK K2 Y) (hXs : X < 18446744073709551616) :
    LenAt x0 (.int .u64 ((X / 2 ^ K : Nat) : Int)) (.int .i64 ((N : Int) + (K : Int))) (.int .i64 K2) := by
  have hbs := blen_shift hne
  have h64 := blen_64 hx0
  refine ⟨N + K, K2, X / 2 ^ K, by simp, rfl, rfl, by omega, ?_, by omega, hd _ ?_⟩
  · exact Nat.lt_of_le_of_lt (Nat.div_le_self _ _) hXs
  · rw [Nat.div_lt_iff_lt_mul (Nat.pow_pos (by decide)), ← Nat.pow_add]; exact hX
theorem LenAt.miss {x0 N X K : Nat} (K2 : Int) (hb : blen x0 = N + blen X) (hN : N ≤ 64) (hne : X / 2 ^ K = 0)
    (hd : ∀ Y, Y < 2 ^ K → LenK K2 Y) (hXs : X < 18446744073709551616) :
    LenAt x0 (.int .u64 (X : Int)) (.int .i64 (N : Int)) (.int .i64 K2) := by
  refine ⟨N, K2, X, rfl, rfl, rfl, hN, hXs, hb, hd _ ?_⟩
  have hp : 0 < 2 ^ K := Nat.pow_pos (by decide)
  rcases Nat.lt_or_ge X (2 ^ K) with h | h
  · exact h
  · have := Nat.div_pos h hp; omega

theorem len (x : Nat) (hx : x < 18446744073709551616) (w : World) : Calls Try.prog 88 #[.int .u64 x] w fun e w' => e = .returned (.int .i64 (blen x : Nat)) ∧ ∃ n, w' = w.drewN n := by
  go_enter Try.func88, Try.ntmps88
  go_wp2
  go_loopw [0, 3, 4] (fun x' n k wr => LenAt x x' n k ∧ ∃ q, wr = w.drewN q) (fun _ _ k _ => (intOf k).toNat)
  case atStart => exact ⟨⟨0, 32, x, rfl, rfl, rfl, by omega, hx, by omega, .inl ⟨rfl, by simpa using hx⟩⟩, 0, rfl⟩
  case round =>
    obtain ⟨⟨N, K, X, rfl, rfl, rfl, hN, hXs, hb, hc⟩, q, rfl⟩ := hrel
    have HB := Lib.hid hb
    clear hb
    have HC := Lib.hid hc
    rcases hc with ⟨rfl, hX⟩ | ⟨rfl, hX⟩ | ⟨rfl, hX⟩ | ⟨rfl, hX⟩ | ⟨rfl, hX⟩ | ⟨rfl, hX⟩ | ⟨rfl, hX⟩
    · by_cases h0 : X / 2 ^ 32 = 0
      · have HM := Lib.hid (LenAt.miss (K := 32) 16 HB.out hN h0 (fun Y h => by unfold LenK; omega) hXs)
        have hT : ((X : Int) / 4294967296 != 0) = false := by rw [bne_eq_false_iff_eq]; omega
        clear h0
        go_wp2
        go_roundw
        case rel => exact ⟨HM.out, q, rfl⟩
        case measure => simp [intOf]
      · have HM := Lib.hid (LenAt.hit (K := 32) 16 HB.out hx (by omega) h0 (fun Y h => by unfold LenK; omega) hXs)
        have hT : ((X : Int) / 4294967296 != 0) = true := by rw [bne_iff_ne]; omega
        clear h0
        go_wp2
        go_quiet (fail)
        go_wp2
        go_roundw
        case rel => exact ⟨HM.out, _, rfl⟩
        case measure => simp [intOf]
    · by_cases h0 : X / 2 ^ 16 = 0
      · have HM := Lib.hid (LenAt.miss (K := 16) 8 HB.out hN h0 (fun Y h => by unfold LenK; omega) hXs)
        have hT : ((X : Int) / 65536 != 0) = false := by rw [bne_eq_false_iff_eq]; omega
        clear h0
        go_wp2
        go_roundw
        case rel => exact ⟨HM.out, q, rfl⟩
        case measure => simp [intOf]
      · have HM := Lib.hid (LenAt.hit (K := 16) 8 HB.out hx (by omega) h0 (fun Y h => by unfold LenK; omega) hXs)
        have hT : ((X : Int) / 65536 != 0) = true := by rw [bne_iff_ne]; omega
        clear h0
        go_wp2
        go_quiet (fail)
        go_wp2
        go_roundw
        case rel => exact ⟨HM.out, _, rfl⟩
        case measure => simp [intOf]
    · by_cases h0 : X / 2 ^ 8 = 0
      · have HM := Lib.hid (LenAt.miss (K := 8) 4 HB.out hN h0 (fun Y h => by unfold LenK; omega) hXs)
        have hT : ((X : Int) / 256 != 0) = false := by rw [bne_eq_false_iff_eq]; omega
        clear h0
        go_wp2
        go_roundw
        case rel => exact ⟨HM.out, q, rfl⟩
        case measure => simp [intOf]
      · have HM := Lib.hid (LenAt.hit (K := 8) 4 HB.out hx (by omega) h0 (fun Y h => by unfold LenK; omega) hXs)
        have hT : ((X : Int) / 256 != 0) = true := by rw [bne_iff_ne]; omega
        clear h0
        go_wp2
        go_quiet (fail)
        go_wp2
        go_roundw
        case rel => exact ⟨HM.out, _, rfl⟩
        case measure => simp [intOf]
    · by_cases h0 : X / 2 ^ 4 = 0
      · have HM := Lib.hid (LenAt.miss (K := 4) 2 HB.out hN h0 (fun Y h => by unfold LenK; omega) hXs)
        have hT : ((X : Int) / 16 != 0) = false := by rw [bne_eq_false_iff_eq]; omega
        clear h0
        go_wp2
        go_roundw
        case rel => exact ⟨HM.out, q, rfl⟩
        case measure => simp [intOf]
      · have HM := Lib.hid (LenAt.hit (K := 4) 2 HB.out hx (by omega) h0 (fun Y h => by unfold LenK; omega) hXs)
        have hT : ((X : Int) / 16 != 0) = true := by rw [bne_iff_ne]; omega
        clear h0
        go_wp2
        go_quiet (fail)
        go_wp2
        go_roundw
        case rel => exact ⟨HM.out, _, rfl⟩
        case measure => simp [intOf]
    · by_cases h0 : X / 2 ^ 2 = 0
      · have HM := Lib.hid (LenAt.miss (K := 2) 1 HB.out hN h0 (fun Y h => by unfold LenK; omega) hXs)
        have hT : ((X : Int) / 4 != 0) = false := by rw [bne_eq_false_iff_eq]; omega
        clear h0
        go_wp2
        go_roundw
        case rel => exact ⟨HM.out, q, rfl⟩
        case measure => simp [intOf]
      · have HM := Lib.hid (LenAt.hit (K := 2) 1 HB.out hx (by omega) h0 (fun Y h => by unfold LenK; omega) hXs)
        have hT : ((X : Int) / 4 != 0) = true := by rw [bne_iff_ne]; omega
        clear h0
        go_wp2
        go_quiet (fail)
        go_wp2
        go_roundw
        case rel => exact ⟨HM.out, _, rfl⟩
        case measure => simp [intOf]
    · by_cases h0 : X / 2 ^ 1 = 0
      · have HM := Lib.hid (LenAt.miss (K := 1) 0 HB.out hN h0 (fun Y h => by unfold LenK; omega) hXs)
        have hT : ((X : Int) / 2 != 0) = false := by rw [bne_eq_false_iff_eq]; omega
        clear h0
        go_wp2
        go_roundw
        case rel => exact ⟨HM.out, q, rfl⟩
        case measure => simp [intOf]
      · have HM := Lib.hid (LenAt.hit (K := 1) 0 HB.out hx (by omega) h0 (fun Y h => by unfold LenK; omega) hXs)
        have hT : ((X : Int) / 2 != 0) = true := by rw [bne_iff_ne]; omega
        clear h0
        go_wp2
        go_quiet (fail)
        go_wp2
        go_roundw
        case rel => exact ⟨HM.out, _, rfl⟩
        case measure => simp [intOf]
    · have hb := HB.out
      rw [blen_small (x := X) (by omega)] at hb
      have hX' : X ≤ 1 := by omega
      have HB2 := Lib.hid hb
      clear hb
      go_wp2
      go_ret
      exact ⟨ret1 (by have := HB2.out; omega), q, rfl⟩
theorem lead (x : Nat) (hx : x < 18446744073709551616) (w : World) : Calls Try.prog 81 #[.int .u64 x] w fun e w' => e = .returned (.int .i64 ((64 - blen x : Nat) : Int)) ∧ ∃ n, w' = w.drewN n := by
  have hb := blen_64 hx
  go_enter Try.func81, Try.ntmps81
  go_wp2_with fail
  refine (len x hx _).mono ?_
  rintro e w' ⟨rfl, n, rfl⟩
  go_wp2
  go_ret
  exact ⟨ret1 (by omega), n, rfl⟩

/-- The half word's loop: q and r. -/
def DigAt (u next y1 y0 : Nat) (q r : Value) : Prop := ∃ Q R : Nat, q = .int .u64 Q ∧ r = .int .u64 R ∧ R < 4294967296 ∧ DigInv u next y1 y0 Q R
def digQ (u next y : Nat) : Nat := (u * 4294967296 + next) / y
def digR (u next y : Nat) : Nat := (u * 4294967296 + next) % y
theorem dig_out {u next y Q : Nat} (hy : 9223372036854775808 ≤ y) (hyB : y < 18446744073709551616) (hQ : Q = digQ u next y) (hle : Q * y ≤ u * 4294967296 + next) :
    IntKind.u64.wrap (IntKind.u64.wrap (IntKind.u64.wrap (↑u * 4294967296) + ↑next) - IntKind.u64.wrap (↑Q * ↑y)) = ((digR u next y : Nat) : Int) := by
  have hr : digR u next y < y := Nat.mod_lt _ (by omega)
  have hdm := Nat.div_add_mod (u * 4294967296 + next) y
  have e : Q * y + digR u next y = u * 4294967296 + next := by
    rw [hQ]; unfold digQ digR; rw [Nat.mul_comm]; exact hdm
  have e2 : (Q : Int) * (y : Int) = ((Q * y : Nat) : Int) := (Int.natCast_mul Q y).symm
  rw [e2, IntKind.wrap_u64, IntKind.wrap_u64, IntKind.wrap_u64, IntKind.wrap_u64]
  generalize Q * y = p at *
  omega
theorem digit (u next y : Nat) (hy : 9223372036854775808 ≤ y) (hyB : y < 18446744073709551616) (hu : u < y) (hn : next < 4294967296) (w : World) :
    Calls Try.prog 89 #[.int .u64 u, .int .u64 next, .int .u64 y] w fun e w' => e = .returned (.tuple #[.int .u64 (digQ u next y : Nat), .int .u64 (digR u next y : Nat)]) ∧ ∃ n, w' = w.drewN n := by
  obtain ⟨y1, e1⟩ : ∃ y1, y1 = y / 4294967296 := ⟨_, rfl⟩
  obtain ⟨y0, e0⟩ : ∃ y0, y0 = y % 4294967296 := ⟨_, rfl⟩
  have h1 : 2147483648 ≤ y1 := by omega
  have h1' : y1 < 4294967296 := by omega
  have h0 : y0 < 4294967296 := by omega
  have hyy : y1 * 4294967296 + y0 = y := by omega
  have hus : u < 18446744073709551616 := by omega
  obtain ⟨q0, eq0⟩ : ∃ q0, q0 = u / y1 := ⟨_, rfl⟩
  obtain ⟨r0, er0⟩ : ∃ r0, r0 = u % y1 := ⟨_, rfl⟩
  have hst : DigInv u next y1 y0 q0 r0 := by rw [eq0, er0]; exact DigInv.start u next y1 y0 h1 h0 hn (by omega)
  have hr0 : r0 < 4294967296 := by have : u % y1 < y1 := Nat.mod_lt _ (by omega); omega
  have hq0 := hst.le
  have E1 : (y : Int) / 4294967296 = (y1 : Int) := by omega
  have E0 : bits BinOp.and IntKind.u64 (↑y) 4294967295 = (y0 : Int) := by
    rw [show (4294967295 : Int) = ((4294967295 : Nat) : Int) from rfl, u64_and_nat y _ hyB (by decide), and_low, e0]
  have EQ : IntKind.u64.wrap ((u : Int) / (y1 : Int)) = (q0 : Int) := by
    rw [← Int.natCast_ediv, ← eq0]; exact wrap_nat _ (by omega)
  have ER : (u : Int) % (y1 : Int) = (r0 : Int) := by rw [← Int.natCast_emod, ← er0]
  have HY := Lib.hid hyy
  have ER' := Lib.hid ER
  have ST := Lib.hid hst
  clear hyy hst e1 e0 eq0 er0
  go_enter Try.func89, Try.ntmps89
  go_wp2
  go_quiet (fail)
  go_wp2
  clear E1 E0 EQ ER
  go_loopw [10, 11] (fun q r wr => DigAt u next y1 y0 q r ∧ ∃ n, wr = w.drewN n) (fun q _ _ => (intOf q).toNat)
  case atStart => exact ⟨⟨q0, r0, rfl, congrArg _ ER'.out, hr0, ST.out⟩, _, rfl⟩
  case round =>
    obtain ⟨⟨Q, R, rfl, rfl, hR, hD⟩, n, rfl⟩ := hrel
    have hQ := hD.le
    have HD := Lib.hid hD
    clear hD ST
    have key : (4294967295 < Q ∨ R * 4294967296 + next < Q * y0) → DigInv u next y1 y0 (Q - 1) (R + y1) :=
      fun hc => (HD.out.down (by rw [HY.out]; exact hu) hn hc).1
    have KEY := Lib.hid key
    clear key
    by_cases hA : 4294967295 < Q
    · have HN := Lib.hid (KEY.out (.inl hA))
      have eQ : ((Q - 1 : Nat) : Int) = (Q : Int) - 1 := by omega
      have EQ := Lib.hid eQ
      by_cases hB : 4294967295 < R + y1
      · have hd := HN.out.done h0 (.inr ⟨by omega, by have := HN.out.le; omega⟩)
        rw [HY.out] at hd
        have hF := dig_out (next := next) hy hyB hd.1 hd.2
        rw [eQ] at hF
        have HQ := Lib.hid hd.1
        clear hd eQ
        go_wp2
        go_ret2
        exact ⟨ret2u (EQ.out.symm.trans (congrArg Int.ofNat HQ.out)) rfl, n, rfl⟩
      · clear eQ
        go_wp2
        go_roundw
        case rel => exact ⟨⟨Q - 1, R + y1, congrArg _ EQ.out.symm, by simp, by omega, HN.out⟩, n, rfl⟩
        case measure => simp [intOf]; omega
    · obtain ⟨p, ep⟩ : ∃ p, p = Q * y0 := ⟨_, rfl⟩
      have hp : p ≤ 18446744065119617025 := by rw [ep]; exact half_mul (by omega) h0
      have EP : (Q : Int) * (y0 : Int) = (p : Int) := by rw [ep]; exact (Int.natCast_mul _ _).symm
      by_cases hC : R * 4294967296 + next < p
      · have hQ0 : 0 < Q := by
          rcases Nat.eq_zero_or_pos Q with rfl | h
          · simp at ep; omega
          · exact h
        have HN := Lib.hid (KEY.out (.inr (by rw [← ep]; exact hC)))
        have eQ : ((Q - 1 : Nat) : Int) = (Q : Int) - 1 := by omega
        have EQ := Lib.hid eQ
        clear ep
        by_cases hB : 4294967295 < R + y1
        · have hd := HN.out.done h0 (.inr ⟨by omega, by have := HN.out.le; omega⟩)
          rw [HY.out] at hd
          have hF := dig_out (next := next) hy hyB hd.1 hd.2
          rw [eQ] at hF
          have HQ := Lib.hid hd.1
          clear hd eQ
          go_wp2
          go_ret2
          exact ⟨ret2u (EQ.out.symm.trans (congrArg Int.ofNat HQ.out)) rfl, n, rfl⟩
        · clear eQ
          go_wp2
          go_roundw
          case rel => exact ⟨⟨Q - 1, R + y1, congrArg _ EQ.out.symm, by simp, by omega, HN.out⟩, n, rfl⟩
          case measure => simp [intOf]; omega
      · have hd := HD.out.done h0 (.inl (by rw [← ep]; omega))
        rw [HY.out] at hd
        have hF := dig_out (next := next) hy hyB hd.1 hd.2
        have HQ := Lib.hid hd.1
        clear hd ep
        go_wp2
        go_ret2
        exact ⟨ret2u (congrArg Int.ofNat HQ.out) rfl, n, rfl⟩
end Word
end Go.Proofs.Ytohkhcbocknliaa
namespace Go.Proofs.Ytohkhcbocknliaa
open Go.RowKit Am
set_option maxHeartbeats 1000000
namespace Word
theorem div_no (hi lo y : Nat) (h : y ≤ hi) (w : World) :
    Calls Try.prog 87 #[.int .u64 hi, .int .u64 lo, .int .u64 y] w fun e w' => e = .returned (.tuple #[.int .u64 0, .int .u64 0, .bool false]) ∧ w = w' := by
  go_enter Try.func87, Try.ntmps87
  go_wp2
  go_ret3
  exact ⟨rfl, rfl⟩
theorem div_nat {hi lo y S H L Y L1 L0 : Nat} (hS : S < 64) (hlo : lo < 18446744073709551616) (h : hi < y) (eH : H = hi * 2 ^ S + lo * 2 ^ S / 18446744073709551616) (eL : L = lo * 2 ^ S % 18446744073709551616)
    (eY : Y = y * 2 ^ S) (e1 : L1 = L / 4294967296) (e0 : L0 = L % 4294967296) :
    digQ H L1 Y * 4294967296 + digQ (digR H L1 Y) L0 Y = divQ hi lo y ∧ digR (digR H L1 Y) L0 Y / 2 ^ S = divR hi lo y := by
  have hp : 0 < 2 ^ S := Nat.pow_pos (by decide)
  have hY : 0 < Y := by rw [eY]; exact Nat.mul_pos (by omega) hp
  have h1 := (shl_two hS hlo h).1
  have h2 := div_two H L1 L0 Y hY
  have h3 := div_scaled (hi * B64 + lo) y (2 ^ S) hp
  have eLL : L1 * 4294967296 + L0 = L := by omega
  rw [eLL] at h2
  have e : H * 18446744073709551616 + L = (hi * B64 + lo) * 2 ^ S := by rw [h1, eH, eL]
  rw [e, eY, h3.1, h3.2, ← eY] at h2
  refine ⟨h2.1, ?_⟩
  have h4 : digR (digR H L1 Y) L0 Y = (hi * B64 + lo) % y * 2 ^ S := h2.2
  rw [h4, Nat.mul_div_cancel _ hp]; rfl
theorem div_ok (hi lo y : Nat) (h : hi < y) (hlo : lo < 18446744073709551616) (hy : y < 18446744073709551616) (w : World) :
    Calls Try.prog 87 #[.int .u64 hi, .int .u64 lo, .int .u64 y] w fun e w' => e = .returned (.tuple #[.int .u64 (divQ hi lo y : Nat), .int .u64 (divR hi lo y : Nat), .bool true]) ∧ ∃ n, w' = w.drewN n := by
  obtain ⟨S, hS⟩ : ∃ S, 64 - blen y = S := ⟨_, rfl⟩
  have hS63 : S < 64 := by have := blen_pos (x := y) (by omega); omega
  have hls := lead_shift (y := y) (by omega) hy
  rw [hS] at hls
  obtain ⟨Y, eY⟩ : ∃ Y, Y = y * 2 ^ S := ⟨_, rfl⟩
  obtain ⟨L, eL⟩ : ∃ L, L = lo * 2 ^ S % 18446744073709551616 := ⟨_, rfl⟩
  obtain ⟨H, eH⟩ : ∃ H, H = hi * 2 ^ S + lo * 2 ^ S / 18446744073709551616 := ⟨_, rfl⟩
  have hH : H < Y := by rw [eH, eY]; exact (shl_two hS63 hlo h).2
  have hL : L < 18446744073709551616 := by rw [eL]; exact Nat.mod_lt _ (by decide)
  rw [← eY] at hls
  obtain ⟨L1, e1⟩ : ∃ L1, L1 = L / 4294967296 := ⟨_, rfl⟩
  obtain ⟨L0, e0⟩ : ∃ L0, L0 = L % 4294967296 := ⟨_, rfl⟩
  have hL1 : L1 < 4294967296 := by omega
  have hL0 : L0 < 4294967296 := by omega
  have hfin := div_nat hS63 hlo h eH eL eY e1 e0
  have cp : ∀ k : Nat, ((2 : Int) ^ k) = ((2 ^ k : Nat) : Int) := fun k => by simp
  have RY : IntKind.u64.wrap ((y : Int) * 2 ^ S) = (Y : Int) := by
    rw [cp, ← Int.natCast_mul, ← eY]; exact wrap_nat _ hls.1
  have RL : IntKind.u64.wrap ((lo : Int) * 2 ^ S) = (L : Int) := by
    rw [cp, ← Int.natCast_mul, IntKind.wrap_u64, eL]; rfl
  have RH : bits BinOp.or IntKind.u64 (IntKind.u64.wrap ((hi : Int) * 2 ^ S)) ((lo : Int) / 2 ^ (64 - S)) = (H : Int) := by
    have h1 : hi * 2 ^ S < 18446744073709551616 := by omega
    have h2 := shr_split (x := lo) hS63
    have h3 := shl_high (s := S) hlo
    have h4 : (2 : Nat) ^ S < 18446744073709551616 := by
      have : (2 : Nat) ^ S < 2 ^ 64 := Nat.pow_lt_pow_right (by decide) hS63
      omega
    rw [cp, cp, ← Int.natCast_mul, wrap_nat _ h1, ← Int.natCast_ediv, h2, u64_or_nat _ _ h1 (by omega), or_add h3, eH]
  have R1 : (L : Int) / 4294967296 = (L1 : Int) := by omega
  have R0 : bits BinOp.and IntKind.u64 (L : Int) 4294967295 = (L0 : Int) := by
    rw [show (4294967295 : Int) = ((4294967295 : Nat) : Int) from rfl, u64_and_nat L _ hL (by decide), and_low, e0]
  have hQb := divQ_lt h hlo
  have RQ : IntKind.u64.wrap (IntKind.u64.wrap ((digQ H L1 Y : Nat) * 4294967296) + (digQ (digR H L1 Y) L0 Y : Nat)) = ((divQ hi lo y : Nat) : Int) := by
    have := hfin.1
    rw [IntKind.wrap_u64, IntKind.wrap_u64]; omega
  have RR : ((digR (digR H L1 Y) L0 Y : Nat) : Int) / 2 ^ S = ((divR hi lo y : Nat) : Int) := by
    rw [cp, ← Int.natCast_ediv, hfin.2]
  have hr1 : digR H L1 Y < Y := Nat.mod_lt _ (by omega)
  clear eY eL eH e1 e0 hfin cp
  go_enter Try.func87, Try.ntmps87
  go_wp2_with fail
  refine (lead y hy _).mono ?_
  rintro e w' ⟨rfl, n, rfl⟩
  go_wp2
  go_quiet (fail)
  go_wp2_with fail
  refine (digit H L1 Y hls.2 hls.1 hH hL1 _).mono ?_
  rintro e w' ⟨rfl, n1, rfl⟩
  go_wp2_with fail
  refine (digit (digR H L1 Y) L0 Y hls.2 hls.1 hr1 hL0 _).mono ?_
  rintro e w' ⟨rfl, n2, rfl⟩
  go_wp2
  go_quiet (fail)
  go_wp2
  go_ret3
  exact ⟨rfl, _, World.drewN_drewN _ _ _⟩
end Word
end Go.Proofs.Ytohkhcbocknliaa
