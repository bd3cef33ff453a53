/- The functions of package word by their contracts: sums,differences,products,quotients of words. Conditions: the arguments are words. The functions of package word that loop: how many bits,and quotients. Conditions: the arguments are words. word.Div by its contract. Conditions: the arguments are words. Words in memory: a slice that reads as words,a number;what keeps them. The small functions of package nat by their contracts. Conditions: as each says. nat.Of,nat.Words and slices.Clone by their contracts. Conditions: as each says. Conditions: as they say. -/
import Derived.Test.YtdbgbaiekpbaoaaGreatDoorProg
import Derived.Test.YtdbgbaiekpbaoaaGreatDoorMathZp
import Derived.WalkKit
import Derived.WalkSpells
import Derived.Deep.QuietTactic
import Derived.BigQuiet
import Derived.Lib.Hide
import Derived.Deep.RegionHeld3
import Derived.Deep.AppendLies
import Derived.Deep.DrawnRows
import Derived.WalkSmall
import Derived.Laws.CopyOwn
import Derived.Laws.AppendOwnNone
namespace Go.Proofs.YtdbgbaiekpbaoaaGreatDoor
open Go.RowKit Am
open Lib (hid)
set_option maxHeartbeats 400000

theorem zqv {a b a' b':Int} (h1:a = a') (h2:b = b'):Ending.returned (.tuple #[.int .u64 a, .int .u64 b]) = Ending.returned (.tuple #[.int .u64 a', .int .u64 b']):=by rw [h1,h2]
theorem zst {k:IntKind} {a a':Int} (h1:a = a'):Ending.returned (.int k a) = Ending.returned (.int k a'):=by rw [h1]
theorem zb7 (a:Nat) (h:a < 18446744073709551616):IntKind.u64.wrap (a:Int) = (a:Int):=by
 rw [IntKind.wrap_u64];omega

namespace Word
theorem zHz (x y c:Nat) (hc:c ≤ 1) :
  IntKind.u64.wrap (IntKind.u64.wrap (↑x + ↑y) + bits BinOp.and IntKind.u64 (↑c) 1) = ((zjj x y c:Nat):Int):=by
 rw [show (1:Int) = ((1:Nat):Int) from rfl,u64_and_nat c 1 (by omega) (by decide),ztU,IntKind.wrap_u64,IntKind.wrap_u64]
 unfold zjj B64;omega
theorem zDc (x y c:Nat) (hx:x < 18446744073709551616) (hy:y < 18446744073709551616) (hc:c ≤ 1) :
  bits BinOp.or IntKind.u64 (bits BinOp.and IntKind.u64 ↑x ↑y) (bits BinOp.andNot IntKind.u64 (bits BinOp.or IntKind.u64 ↑x ↑y) ((zjj x y c:Nat):Int)) / 9223372036854775808 = ((zlD x y c:Nat):Int):=by
 have h1:=ztQ x y c
 have h2:x &&& y < 18446744073709551616:=Nat.lt_of_le_of_lt Nat.and_le_left hx
 have h3:x ||| y < 2 ^ 64:=Nat.or_lt_two_pow (by omega) (by omega)
 have h4:(x ||| y) &&& (18446744073709551615 - zjj x y c) < 18446744073709551616:=Nat.lt_of_le_of_lt Nat.and_le_left (by omega)
 rw [u64_and_nat x y hx hy,u64_or_nat x y hx hy,u64_andNot_nat _ _ (by omega) h1,u64_or_nat _ _ h2 h4]
 have:=zwy x y c hx hy hc
 unfold zjj zlD B64
 rw [← this]
 rfl
theorem zHA (x y c:Nat) (hy:y < 18446744073709551616) (hc:c ≤ 1) :
  IntKind.u64.wrap (IntKind.u64.wrap (↑x - ↑y) - bits BinOp.and IntKind.u64 (↑c) 1) = ((zqC x y c:Nat):Int):=by
 rw [show (1:Int) = ((1:Nat):Int) from rfl,u64_and_nat c 1 (by omega) (by decide),ztU,IntKind.wrap_u64,IntKind.wrap_u64]
 unfold zqC B64;omega
theorem zDe (x y c:Nat) (hx:x < 18446744073709551616) (hy:y < 18446744073709551616) (hc:c ≤ 1) :
  bits BinOp.or IntKind.u64 (bits BinOp.and IntKind.u64 (bits BinOp.xor IntKind.u64 IntKind.u64.max ↑x) ↑y)
    (bits BinOp.and IntKind.u64 (bits BinOp.xor IntKind.u64 IntKind.u64.max (bits BinOp.xor IntKind.u64 ↑x ↑y)) ((zqC x y c:Nat):Int)) / 9223372036854775808 = ((zvv x y c:Nat):Int):=by
 have h1:=zBp x y c
 have hm:IntKind.u64.max = ((18446744073709551615:Nat):Int):=by decide
 have hxy:x ^^^ y < 2 ^ 64:=Nat.xor_lt_two_pow (by omega) (by omega)
 have hn:∀ z:Nat,z < 18446744073709551616 → 18446744073709551615 ^^^ z = 18446744073709551615 - z:=by
  intro z hz
  have e:(18446744073709551615:Nat) = 2 ^ 64 - 1:=by decide
  rw [e]
  have hz':z < 2 ^ 64:=by omega
  have h1:(BitVec.allOnes 64 ^^^ BitVec.ofNat 64 z).toNat = (~~~ BitVec.ofNat 64 z).toNat:=by rw [BitVec.allOnes_xor]
  rw [BitVec.toNat_xor,BitVec.toNat_allOnes,BitVec.toNat_not,BitVec.toNat_ofNat,Nat.mod_eq_of_lt hz'] at h1
  exact h1
 rw [hm,u64_xor_nat _ _ (by decide) hx,u64_xor_nat _ _ hx hy,u64_xor_nat _ _ (by decide) (by omega),hn x hx,hn _ (by omega)]
 have h2:(18446744073709551615 - x) &&& y < 18446744073709551616:=Nat.lt_of_le_of_lt Nat.and_le_right hy
 have h4:(18446744073709551615 - (x ^^^ y)) &&& zqC x y c < 18446744073709551616:=Nat.lt_of_le_of_lt Nat.and_le_right h1
 rw [u64_and_nat _ _ (by omega) hy,u64_and_nat _ _ (by omega) h1,u64_or_nat _ _ h2 h4]
 have:=zt1 x y c hx hy hc
 unfold zqC zvv B64
 rw [← this]
 rfl
theorem add (x y c:Nat) (hx:x < 18446744073709551616) (hy:y < 18446744073709551616) (hc:c ≤ 1) (w:World):Calls Tryz.prog 159 #[.int .u64 x, .int .u64 y, .int .u64 c] w fun e w' => e = .returned (.tuple #[.int .u64 (zjj x y c:Nat), .int .u64 (zlD x y c:Nat)]) ∧ w = w':=by
 have hA:=zHz x y c hc
 have hB:=zDc x y c hx hy hc
 go_enter Tryz.func159,Tryz.ntmps159
 go_wp2
 go_ret2
 exact ⟨zqv rfl rfl,rfl⟩
theorem sub (x y c:Nat) (hx:x < 18446744073709551616) (hy:y < 18446744073709551616) (hc:c ≤ 1) (w:World):Calls Tryz.prog 161 #[.int .u64 x, .int .u64 y, .int .u64 c] w fun e w' => e = .returned (.tuple #[.int .u64 (zqC x y c:Nat), .int .u64 (zvv x y c:Nat)]) ∧ w = w':=by
 have hA:=zHA x y c hy hc
 have hB:=zDe x y c hx hy hc
 have hs:IntKind.u64.signed = false:=rfl
 go_enter Tryz.func161,Tryz.ntmps161
 go_wp2
 go_ret2
 exact ⟨zqv rfl rfl,rfl⟩

theorem zhS {a b:Nat} (ha:a < 4294967296) (hb:b < 4294967296):a * b ≤ 18446744065119617025:=by
 have h1:a ≤ 4294967295:=by omega
 have h2:b ≤ 4294967295:=by omega
 exact Nat.mul_le_mul h1 h2
theorem zAi (x y:Nat) (hx:x < 18446744073709551616) (hy:y < 18446744073709551616) :
  IntKind.u64.wrap (IntKind.u64.wrap (IntKind.u64.wrap (↑x / 4294967296 * (↑y / 4294967296)) +
    IntKind.u64.wrap (IntKind.u64.wrap (↑x / 4294967296 * bits BinOp.and IntKind.u64 (↑y) 4294967295) +
     IntKind.u64.wrap (bits BinOp.and IntKind.u64 (↑x) 4294967295 * bits BinOp.and IntKind.u64 (↑y) 4294967295) / 4294967296) / 4294967296) +
   IntKind.u64.wrap (bits BinOp.and IntKind.u64 (IntKind.u64.wrap (IntKind.u64.wrap (↑x / 4294967296 * bits BinOp.and IntKind.u64 (↑y) 4294967295) +
     IntKind.u64.wrap (bits BinOp.and IntKind.u64 (↑x) 4294967295 * bits BinOp.and IntKind.u64 (↑y) 4294967295) / 4294967296)) 4294967295 +
    IntKind.u64.wrap (bits BinOp.and IntKind.u64 (↑x) 4294967295 * (↑y / 4294967296))) / 4294967296) = ((zdw x y 0 0:Nat):Int):=by
 have e:(4294967295:Int) = ((4294967295:Nat):Int):=rfl
 have f:(4294967296:Int) = ((4294967296:Nat):Int):=rfl
 have hh:=zDH x y hx hy
 have hx1:x / 4294967296 < 4294967296:=by omega
 have hy1:y / 4294967296 < 4294967296:=by omega
 have hx0:x % 4294967296 < 4294967296:=Nat.mod_lt _ (by decide)
 have hy0:y % 4294967296 < 4294967296:=Nat.mod_lt _ (by decide)
 have m11:=zhS hx1 hy1
 have m10:=zhS hx1 hy0
 have m00:=zhS hx0 hy0
 have m01:=zhS hx0 hy1
 rw [e,f,u64_and_nat x _ hx (by decide),u64_and_nat y _ hy (by decide),zj9,zj9]
 simp only [← Int.natCast_ediv, ← Int.natCast_mul]
 generalize x / 4294967296 * (y / 4294967296) = p11 at *
 generalize x / 4294967296 * (y % 4294967296) = p10 at *
 generalize x % 4294967296 * (y % 4294967296) = p00 at *
 generalize x % 4294967296 * (y / 4294967296) = p01 at *
 rw [zb7 p11 (by omega),zb7 p10 (by omega),zb7 p00 (by omega),zb7 p01 (by omega)]
 simp only [← Int.natCast_ediv, ← Int.natCast_add]
 rw [zb7 (p10 + p00 / 4294967296) (by omega),u64_and_nat _ _ (by omega) (by decide),zj9]
 simp only [← Int.natCast_ediv, ← Int.natCast_add]
 rw [zb7 _ (by omega),zb7 _ (by omega)]
 simp only [← Int.natCast_ediv, ← Int.natCast_add]
 rw [zb7 _ (by omega)]
 unfold zdw
 rw [show x * y + 0 + 0 = x * y from rfl, ← hh]
theorem zAj (x y:Nat):IntKind.u64.wrap (↑x * ↑y) = ((zdo x y 0 0:Nat):Int):=by
 rw [← Int.natCast_mul,IntKind.wrap_u64];unfold zdo B64;omega
theorem mul (x y:Nat) (hx:x < 18446744073709551616) (hy:y < 18446744073709551616) (w:World):Calls Tryz.prog 177 #[.int .u64 x, .int .u64 y] w fun e w' => e = .returned (.tuple #[.int .u64 (zdw x y 0 0:Nat), .int .u64 (zdo x y 0 0:Nat)]) ∧ w = w':=by
 have hA:=zAi x y hx hy
 have hB:=zAj x y
 go_enter Tryz.func177,Tryz.ntmps177
 go_wp2
 go_ret2
 refine ⟨zqv ?_ ?_,rfl⟩
 ·rfl
 ·rfl
theorem zxl (x y a b:Nat) :
  zjj (zjj (zdo x y 0 0) a 0) b 0 = zdo x y a b ∧ zdw x y 0 0 + zlD (zdo x y 0 0) a 0 + zlD (zjj (zdo x y 0 0) a 0) b 0 = zdw x y a b:=by
 unfold zjj zlD zdo zdw B64
 generalize x * y = p
 omega
theorem mulAdd (x y a b:Nat) (hx:x < 18446744073709551616) (hy:y < 18446744073709551616) (ha:a < 18446744073709551616) (hb:b < 18446744073709551616) (w:World) :
  Calls Tryz.prog 156 #[.int .u64 x, .int .u64 y, .int .u64 a, .int .u64 b] w fun e w' => e = .returned (.tuple #[.int .u64 (zdw x y a b:Nat), .int .u64 (zdo x y a b:Nat)]) ∧ w = w':=by
 have h1:=zrG x y 0 0
 have h2:=ztQ (zdo x y 0 0) a 0
 have h:=zxl x y a b
 have hH:=zxp hx hy ha hb
 have e1:IntKind.u64.wrap ((zdw x y 0 0:Nat) + (zlD (zdo x y 0 0) a 0:Nat):Int) = ((zdw x y 0 0 + zlD (zdo x y 0 0) a 0:Nat):Int):=by
  rw [← Int.natCast_add];exact zb7 _ (by omega)
 have e2:IntKind.u64.wrap (((zdw x y 0 0 + zlD (zdo x y 0 0) a 0:Nat):Int) + (zlD (zjj (zdo x y 0 0) a 0) b 0:Nat)) = ((zdw x y a b:Nat):Int):=by
  rw [← Int.natCast_add,h.2];exact zb7 _ hH
 have H:=hid h
 have E1:=hid e1
 have E2:=hid e2
 clear h e1 e2
 go_enter Tryz.func156,Tryz.ntmps156
 go_wp2_with fail
 refine (mul x y hx hy _).mono ?_
 rintro e w' ⟨rfl,rfl⟩
 go_wp2_with fail
 refine (add _ a 0 h1 ha (by omega) _).mono ?_
 rintro e w' ⟨rfl,rfl⟩
 go_wp2_with fail
 refine (add _ b 0 h2 hb (by omega) _).mono ?_
 rintro e w' ⟨rfl,rfl⟩
 go_wp2
 go_ret2
 refine ⟨zqv ?_ ?_,rfl⟩
 ·exact (congrArg (fun z => IntKind.u64.wrap (z + _)) E1.out).trans E2.out
 ·exact congrArg Int.ofNat H.out.1
end Word
end Go.Proofs.YtdbgbaiekpbaoaaGreatDoor
namespace Go.Proofs.YtdbgbaiekpbaoaaGreatDoor
open Go.RowKit Am
open Lib (hid)
set_option maxHeartbeats 1000000
namespace Word
def zpm (K:Int) (X:Nat):Prop:=((K = 32 ∧ X < 2 ^ 64) ∨ (K = 16 ∧ X < 2 ^ 32) ∨ (K = 8 ∧ X < 2 ^ 16) ∨ (K = 4 ∧ X < 2 ^ 8) ∨ (K = 2 ∧ X < 2 ^ 4) ∨ (K = 1 ∧ X < 2 ^ 2) ∨ (K = 0 ∧ X < 2))
def zfe (x0:Nat) (x n k:Value):Prop := ∃ (N:Nat) (K:Int) (X:Nat),n = .int .i64 N ∧ k = .int .i64 K ∧ x = .int .u64 X ∧ N ≤ 64 ∧ X < 18446744073709551616 ∧ blen x0 = N + blen X ∧ zpm K X
theorem zfe.hit {x0 N X K:Nat} (K2:Int) (hb:blen x0 = N + blen X) (hx0:x0 < 18446744073709551616) (hX:X < 2 ^ (K + K)) (hne:X / 2 ^ K ≠ 0)
  (hd:∀ Y,Y < 2 ^ K → zpm K2 Y) (hXs:X < 18446744073709551616) :
  zfe x0 (.int .u64 ((X / 2 ^ K:Nat):Int)) (.int .i64 ((N:Int) + (K:Int))) (.int .i64 K2):=by
 have hbs:=zr2 hne
 have h64:=zmT hx0
 refine ⟨N + K,K2,X / 2 ^ K,by simp,rfl,rfl,by omega,?_,by omega,hd _ ?_⟩
 ·exact Nat.lt_of_le_of_lt (Nat.div_le_self _ _) hXs
 ·rw [Nat.div_lt_iff_lt_mul (Nat.pow_pos (by decide)), ← Nat.pow_add];exact hX
theorem zfe.miss {x0 N X K:Nat} (K2:Int) (hb:blen x0 = N + blen X) (hN:N ≤ 64) (hne:X / 2 ^ K = 0)
  (hd:∀ Y,Y < 2 ^ K → zpm K2 Y) (hXs:X < 18446744073709551616) :
  zfe x0 (.int .u64 (X:Int)) (.int .i64 (N:Int)) (.int .i64 K2):=by
 refine ⟨N,K2,X,rfl,rfl,rfl,hN,hXs,hb,hd _ ?_⟩
 have hp:0 < 2 ^ K:=Nat.pow_pos (by decide)
 rcases Nat.lt_or_ge X (2 ^ K) with h | h
 ·exact h
 ·have:=Nat.div_pos h hp;omega

theorem len (x:Nat) (hx:x < 18446744073709551616) (w:World):Calls Tryz.prog 191 #[.int .u64 x] w fun e w' => e = .returned (.int .i64 (blen x:Nat)) ∧ ∃ n,w' = w.drewN n:=by
 go_enter Tryz.func191,Tryz.ntmps191
 go_wp2
 go_loopw [0,3,4] (fun x' n k wr => zfe x x' n k ∧ ∃ q,wr = w.drewN q) (fun _ _ k _ => (intOf k).toNat)
 case atStart => exact ⟨⟨0,32,x,rfl,rfl,rfl,by omega,hx,by omega, .inl ⟨rfl,by simpa using hx⟩⟩,0,rfl⟩
 case round =>
  obtain ⟨⟨N,K,X,rfl,rfl,rfl,hN,hXs,hb,hc⟩,q,rfl⟩:=hrel
  have HB:=hid hb
  clear hb
  have HC:=hid hc
  rcases hc with ⟨rfl,hX⟩ | ⟨rfl,hX⟩ | ⟨rfl,hX⟩ | ⟨rfl,hX⟩ | ⟨rfl,hX⟩ | ⟨rfl,hX⟩ | ⟨rfl,hX⟩
  ·by_cases h0:X / 2 ^ 32 = 0
   ·have HM:=hid (zfe.miss (K:=32) 16 HB.out hN h0 (fun Y h => by unfold zpm;omega) hXs)
    have hT:((X:Int) / 4294967296 != 0) = false:=by rw [bne_eq_false_iff_eq];omega
    clear h0
    go_wp2
    go_roundw
    case rel => exact ⟨HM.out,q,rfl⟩
    case measure => simp [intOf]
   ·have HM:=hid (zfe.hit (K:=32) 16 HB.out hx (by omega) h0 (fun Y h => by unfold zpm;omega) hXs)
    have hT:((X:Int) / 4294967296 != 0) = true:=by rw [bne_iff_ne];omega
    clear h0
    go_wp2
    go_quiet (fail)
    go_wp2
    go_roundw
    case rel => exact ⟨HM.out,_,rfl⟩
    case measure => simp [intOf]
  ·by_cases h0:X / 2 ^ 16 = 0
   ·have HM:=hid (zfe.miss (K:=16) 8 HB.out hN h0 (fun Y h => by unfold zpm;omega) hXs)
    have hT:((X:Int) / 65536 != 0) = false:=by rw [bne_eq_false_iff_eq];omega
    clear h0
    go_wp2
    go_roundw
    case rel => exact ⟨HM.out,q,rfl⟩
    case measure => simp [intOf]
   ·have HM:=hid (zfe.hit (K:=16) 8 HB.out hx (by omega) h0 (fun Y h => by unfold zpm;omega) hXs)
    have hT:((X:Int) / 65536 != 0) = true:=by rw [bne_iff_ne];omega
    clear h0
    go_wp2
    go_quiet (fail)
    go_wp2
    go_roundw
    case rel => exact ⟨HM.out,_,rfl⟩
    case measure => simp [intOf]
  ·by_cases h0:X / 2 ^ 8 = 0
   ·have HM:=hid (zfe.miss (K:=8) 4 HB.out hN h0 (fun Y h => by unfold zpm;omega) hXs)
    have hT:((X:Int) / 256 != 0) = false:=by rw [bne_eq_false_iff_eq];omega
    clear h0
    go_wp2
    go_roundw
    case rel => exact ⟨HM.out,q,rfl⟩
    case measure => simp [intOf]
   ·have HM:=hid (zfe.hit (K:=8) 4 HB.out hx (by omega) h0 (fun Y h => by unfold zpm;omega) hXs)
    have hT:((X:Int) / 256 != 0) = true:=by rw [bne_iff_ne];omega
    clear h0
    go_wp2
    go_quiet (fail)
    go_wp2
    go_roundw
    case rel => exact ⟨HM.out,_,rfl⟩
    case measure => simp [intOf]
  ·by_cases h0:X / 2 ^ 4 = 0
   ·have HM:=hid (zfe.miss (K:=4) 2 HB.out hN h0 (fun Y h => by unfold zpm;omega) hXs)
    have hT:((X:Int) / 16 != 0) = false:=by rw [bne_eq_false_iff_eq];omega
    clear h0
    go_wp2
    go_roundw
    case rel => exact ⟨HM.out,q,rfl⟩
    case measure => simp [intOf]
   ·have HM:=hid (zfe.hit (K:=4) 2 HB.out hx (by omega) h0 (fun Y h => by unfold zpm;omega) hXs)
    have hT:((X:Int) / 16 != 0) = true:=by rw [bne_iff_ne];omega
    clear h0
    go_wp2
    go_quiet (fail)
    go_wp2
    go_roundw
    case rel => exact ⟨HM.out,_,rfl⟩
    case measure => simp [intOf]
  ·by_cases h0:X / 2 ^ 2 = 0
   ·have HM:=hid (zfe.miss (K:=2) 1 HB.out hN h0 (fun Y h => by unfold zpm;omega) hXs)
    have hT:((X:Int) / 4 != 0) = false:=by rw [bne_eq_false_iff_eq];omega
    clear h0
    go_wp2
    go_roundw
    case rel => exact ⟨HM.out,q,rfl⟩
    case measure => simp [intOf]
   ·have HM:=hid (zfe.hit (K:=2) 1 HB.out hx (by omega) h0 (fun Y h => by unfold zpm;omega) hXs)
    have hT:((X:Int) / 4 != 0) = true:=by rw [bne_iff_ne];omega
    clear h0
    go_wp2
    go_quiet (fail)
    go_wp2
    go_roundw
    case rel => exact ⟨HM.out,_,rfl⟩
    case measure => simp [intOf]
  ·by_cases h0:X / 2 ^ 1 = 0
   ·have HM:=hid (zfe.miss (K:=1) 0 HB.out hN h0 (fun Y h => by unfold zpm;omega) hXs)
    have hT:((X:Int) / 2 != 0) = false:=by rw [bne_eq_false_iff_eq];omega
    clear h0
    go_wp2
    go_roundw
    case rel => exact ⟨HM.out,q,rfl⟩
    case measure => simp [intOf]
   ·have HM:=hid (zfe.hit (K:=1) 0 HB.out hx (by omega) h0 (fun Y h => by unfold zpm;omega) hXs)
    have hT:((X:Int) / 2 != 0) = true:=by rw [bne_iff_ne];omega
    clear h0
    go_wp2
    go_quiet (fail)
    go_wp2
    go_roundw
    case rel => exact ⟨HM.out,_,rfl⟩
    case measure => simp [intOf]
  ·have hb:=HB.out
   rw [zr3 (x:=X) (by omega)] at hb
   have HB2:=hid hb
   clear hb
   go_wp2
   go_ret
   exact ⟨zst (by have:=HB2.out;omega),q,rfl⟩
theorem lead (x:Nat) (hx:x < 18446744073709551616) (w:World):Calls Tryz.prog 184 #[.int .u64 x] w fun e w' => e = .returned (.int .i64 ((64 - blen x:Nat):Int)) ∧ ∃ n,w' = w.drewN n:=by
 have hb:=zmT hx
 go_enter Tryz.func184,Tryz.ntmps184
 go_wp2_with fail
 refine (len x hx _).mono ?_
 rintro e w' ⟨rfl,n,rfl⟩
 go_wp2
 go_ret
 exact ⟨zst (by omega),n,rfl⟩

def zFR (u next y1 y0:Nat) (q r:Value):Prop := ∃ Q R:Nat,q = .int .u64 Q ∧ r = .int .u64 R ∧ R < 4294967296 ∧ DigInv u next y1 y0 Q R
def zz8 (u next y:Nat):Nat:=(u * 4294967296 + next) / y
def zpW (u next y:Nat):Nat:=(u * 4294967296 + next) % y
theorem zpX {u next y Q:Nat} (hy:9223372036854775808 ≤ y) (hyB:y < 18446744073709551616) (hQ:Q = zz8 u next y) (hle:Q * y ≤ u * 4294967296 + next) :
  IntKind.u64.wrap (IntKind.u64.wrap (IntKind.u64.wrap (↑u * 4294967296) + ↑next) - IntKind.u64.wrap (↑Q * ↑y)) = ((zpW u next y:Nat):Int):=by
 have hr:zpW u next y < y:=Nat.mod_lt _ (by omega)
 have hdm:=Nat.div_add_mod (u * 4294967296 + next) y
 have e:Q * y + zpW u next y = u * 4294967296 + next:=by
  rw [hQ];unfold zz8 zpW;rw [Nat.mul_comm];exact hdm
 have e2:(Q:Int) * (y:Int) = ((Q * y:Nat):Int):=(Int.natCast_mul Q y).symm
 rw [e2,IntKind.wrap_u64,IntKind.wrap_u64,IntKind.wrap_u64,IntKind.wrap_u64]
 generalize Q * y = p at *
 omega
theorem digit (u next y:Nat) (hy:9223372036854775808 ≤ y) (hyB:y < 18446744073709551616) (hu:u < y) (hn:next < 4294967296) (w:World) :
  Calls Tryz.prog 192 #[.int .u64 u, .int .u64 next, .int .u64 y] w fun e w' => e = .returned (.tuple #[.int .u64 (zz8 u next y:Nat), .int .u64 (zpW u next y:Nat)]) ∧ ∃ n,w' = w.drewN n:=by
 obtain ⟨y1,e1⟩:∃ y1,y1 = y / 4294967296:=⟨_,rfl⟩
 obtain ⟨y0,e0⟩:∃ y0,y0 = y % 4294967296:=⟨_,rfl⟩
 have h1:2147483648 ≤ y1:=by omega
 have h1':y1 < 4294967296:=by omega
 have h0:y0 < 4294967296:=by omega
 have hyy:y1 * 4294967296 + y0 = y:=by omega
 have hus:u < 18446744073709551616:=by omega
 obtain ⟨q0,eq0⟩:∃ q0,q0 = u / y1:=⟨_,rfl⟩
 obtain ⟨r0,er0⟩:∃ r0,r0 = u % y1:=⟨_,rfl⟩
 have hst:DigInv u next y1 y0 q0 r0:=by rw [eq0,er0];exact DigInv.start u next y1 y0 h1 h0 hn (by omega)
 have hr0:r0 < 4294967296:=by have : u % y1 < y1:=Nat.mod_lt _ (by omega);omega
 have hq0:=hst.le
 have E1:(y:Int) / 4294967296 = (y1:Int):=by omega
 have E0:bits BinOp.and IntKind.u64 (↑y) 4294967295 = (y0:Int):=by
  rw [show (4294967295:Int) = ((4294967295:Nat):Int) from rfl,u64_and_nat y _ hyB (by decide),zj9,e0]
 have EQ:IntKind.u64.wrap ((u:Int) / (y1:Int)) = (q0:Int):=by
  rw [← Int.natCast_ediv, ← eq0];exact zb7 _ (by omega)
 have ER:(u:Int) % (y1:Int) = (r0:Int):=by rw [← Int.natCast_emod, ← er0]
 have HY:=hid hyy
 have ER':=hid ER
 have ST:=hid hst
 clear hyy hst e1 e0 eq0 er0
 go_enter Tryz.func192,Tryz.ntmps192
 go_wp2
 go_quiet (fail)
 go_wp2
 clear E1 E0 EQ ER
 go_loopw [10,11] (fun q r wr => zFR u next y1 y0 q r ∧ ∃ n,wr = w.drewN n) (fun q _ _ => (intOf q).toNat)
 case atStart => exact ⟨⟨q0,r0,rfl,congrArg _ ER'.out,hr0,ST.out⟩,_,rfl⟩
 case round =>
  obtain ⟨⟨Q,R,rfl,rfl,hR,hD⟩,n,rfl⟩:=hrel
  have hQ:=hD.le
  have HD:=hid hD
  clear hD ST
  have key:(4294967295 < Q ∨ R * 4294967296 + next < Q * y0) → DigInv u next y1 y0 (Q - 1) (R + y1) :=
   fun hc => (HD.out.down (by rw [HY.out];exact hu) hn hc).1
  have KEY:=hid key
  clear key
  by_cases hA:4294967295 < Q
  ·have HN:=hid (KEY.out (.inl hA))
   have eQ:((Q - 1:Nat):Int) = (Q:Int) - 1:=by omega
   have EQ:=hid eQ
   by_cases hB:4294967295 < R + y1
   ·have hd:=HN.out.done h0 (.inr ⟨by omega,by have:=HN.out.le;omega⟩)
    rw [HY.out] at hd
    have hF:=zpX (next:=next) hy hyB hd.1 hd.2
    rw [eQ] at hF
    have HQ:=hid hd.1
    clear hd eQ
    go_wp2
    go_ret2
    exact ⟨zqv (EQ.out.symm.trans (congrArg Int.ofNat HQ.out)) rfl,n,rfl⟩
   ·clear eQ
    go_wp2
    go_roundw
    case rel => exact ⟨⟨Q - 1,R + y1,congrArg _ EQ.out.symm,by simp,by omega,HN.out⟩,n,rfl⟩
    case measure => simp [intOf];omega
  ·obtain ⟨p,ep⟩:∃ p,p = Q * y0:=⟨_,rfl⟩
   have hp:p ≤ 18446744065119617025:=by rw [ep];exact zhS (by omega) h0
   have EP:(Q:Int) * (y0:Int) = (p:Int):=by rw [ep];exact (Int.natCast_mul _ _).symm
   by_cases hC:R * 4294967296 + next < p
   ·have hQ0:0 < Q:=by
     rcases Nat.eq_zero_or_pos Q with rfl | h
     ·simp at ep;omega
     ·exact h
    have HN:=hid (KEY.out (.inr (by rw [← ep];exact hC)))
    have eQ:((Q - 1:Nat):Int) = (Q:Int) - 1:=by omega
    have EQ:=hid eQ
    clear ep
    by_cases hB:4294967295 < R + y1
    ·have hd:=HN.out.done h0 (.inr ⟨by omega,by have:=HN.out.le;omega⟩)
     rw [HY.out] at hd
     have hF:=zpX (next:=next) hy hyB hd.1 hd.2
     rw [eQ] at hF
     have HQ:=hid hd.1
     clear hd eQ
     go_wp2
     go_ret2
     exact ⟨zqv (EQ.out.symm.trans (congrArg Int.ofNat HQ.out)) rfl,n,rfl⟩
    ·clear eQ
     go_wp2
     go_roundw
     case rel => exact ⟨⟨Q - 1,R + y1,congrArg _ EQ.out.symm,by simp,by omega,HN.out⟩,n,rfl⟩
     case measure => simp [intOf];omega
   ·have hd:=HD.out.done h0 (.inl (by rw [← ep];omega))
    rw [HY.out] at hd
    have hF:=zpX (next:=next) hy hyB hd.1 hd.2
    have HQ:=hid hd.1
    clear hd ep
    go_wp2
    go_ret2
    exact ⟨zqv (congrArg Int.ofNat HQ.out) rfl,n,rfl⟩
end Word
namespace Word
theorem div_no (hi lo y:Nat) (h:y ≤ hi) (w:World) :
  Calls Tryz.prog 190 #[.int .u64 hi, .int .u64 lo, .int .u64 y] w fun e w' => e = .returned (.tuple #[.int .u64 0, .int .u64 0, .bool false]) ∧ w = w':=by
 go_enter Tryz.func190,Tryz.ntmps190
 go_wp2
 go_ret3
 exact ⟨rfl,rfl⟩
theorem zAb {hi lo y S H L Y L1 L0:Nat} (hS:S < 64) (hlo:lo < 18446744073709551616) (h:hi < y) (eH:H = hi * 2 ^ S + lo * 2 ^ S / 18446744073709551616) (eL:L = lo * 2 ^ S % 18446744073709551616)
  (eY:Y = y * 2 ^ S) (e1:L1 = L / 4294967296) (e0:L0 = L % 4294967296) :
  zz8 H L1 Y * 4294967296 + zz8 (zpW H L1 Y) L0 Y = zz9 hi lo y ∧ zpW (zpW H L1 Y) L0 Y / 2 ^ S = zBV hi lo y:=by
 have hp:0 < 2 ^ S:=Nat.pow_pos (by decide)
 have hY:0 < Y:=by rw [eY];exact Nat.mul_pos (by omega) hp
 have h1:=(zvp hS hlo h).1
 have h2:=zAc H L1 L0 Y hY
 have h3:=zr6 (hi * B64 + lo) y (2 ^ S) hp
 have eLL:L1 * 4294967296 + L0 = L:=by omega
 rw [eLL] at h2
 have e:H * 18446744073709551616 + L = (hi * B64 + lo) * 2 ^ S:=by rw [h1,eH,eL]
 rw [e,eY,h3.1,h3.2, ← eY] at h2
 refine ⟨h2.1,?_⟩
 have h4:zpW (zpW H L1 Y) L0 Y = (hi * B64 + lo) % y * 2 ^ S:=h2.2
 rw [h4,Nat.mul_div_cancel _ hp];rfl
theorem div_ok (hi lo y:Nat) (h:hi < y) (hlo:lo < 18446744073709551616) (hy:y < 18446744073709551616) (w:World) :
  Calls Tryz.prog 190 #[.int .u64 hi, .int .u64 lo, .int .u64 y] w fun e w' => e = .returned (.tuple #[.int .u64 (zz9 hi lo y:Nat), .int .u64 (zBV hi lo y:Nat), .bool true]) ∧ ∃ n,w' = w.drewN n:=by
 obtain ⟨S,hS⟩:∃ S,64 - blen y = S:=⟨_,rfl⟩
 have hS63:S < 64:=by have:=zhl (x:=y) (by omega);omega
 have hls:=zsf (y:=y) (by omega) hy
 rw [hS] at hls
 obtain ⟨Y,eY⟩:∃ Y,Y = y * 2 ^ S:=⟨_,rfl⟩
 obtain ⟨L,eL⟩:∃ L,L = lo * 2 ^ S % 18446744073709551616:=⟨_,rfl⟩
 obtain ⟨H,eH⟩:∃ H,H = hi * 2 ^ S + lo * 2 ^ S / 18446744073709551616:=⟨_,rfl⟩
 have hH:H < Y:=by rw [eH,eY];exact (zvp hS63 hlo h).2
 have hL:L < 18446744073709551616:=by rw [eL];exact Nat.mod_lt _ (by decide)
 rw [← eY] at hls
 obtain ⟨L1,e1⟩:∃ L1,L1 = L / 4294967296:=⟨_,rfl⟩
 obtain ⟨L0,e0⟩:∃ L0,L0 = L % 4294967296:=⟨_,rfl⟩
 have hL1:L1 < 4294967296:=by omega
 have hL0:L0 < 4294967296:=by omega
 have hfin:=zAb hS63 hlo h eH eL eY e1 e0
 have cp:∀ k:Nat,((2:Int) ^ k) = ((2 ^ k:Nat):Int):=fun k => by simp
 have RY:IntKind.u64.wrap ((y:Int) * 2 ^ S) = (Y:Int):=by
  rw [cp, ← Int.natCast_mul, ← eY];exact zb7 _ hls.1
 have RL:IntKind.u64.wrap ((lo:Int) * 2 ^ S) = (L:Int):=by
  rw [cp, ← Int.natCast_mul,IntKind.wrap_u64,eL];rfl
 have RH:bits BinOp.or IntKind.u64 (IntKind.u64.wrap ((hi:Int) * 2 ^ S)) ((lo:Int) / 2 ^ (64 - S)) = (H:Int):=by
  have h1:hi * 2 ^ S < 18446744073709551616:=by omega
  have h2:=zoZ (x:=lo) hS63
  have h3:=znR (s:=S) hlo
  have h4:(2:Nat) ^ S < 18446744073709551616:=by
   have : (2:Nat) ^ S < 2 ^ 64:=Nat.pow_lt_pow_right (by decide) hS63
   omega
  rw [cp,cp, ← Int.natCast_mul,zb7 _ h1, ← Int.natCast_ediv,h2,u64_or_nat _ _ h1 (by omega),zyy h3,eH]
 have R1:(L:Int) / 4294967296 = (L1:Int):=by omega
 have R0:bits BinOp.and IntKind.u64 (L:Int) 4294967295 = (L0:Int):=by
  rw [show (4294967295:Int) = ((4294967295:Nat):Int) from rfl,u64_and_nat L _ hL (by decide),zj9,e0]
 have hQb:=zAa h hlo
 have RQ:IntKind.u64.wrap (IntKind.u64.wrap ((zz8 H L1 Y:Nat) * 4294967296) + (zz8 (zpW H L1 Y) L0 Y:Nat)) = ((zz9 hi lo y:Nat):Int):=by
  have:=hfin.1
  rw [IntKind.wrap_u64,IntKind.wrap_u64];omega
 have RR:((zpW (zpW H L1 Y) L0 Y:Nat):Int) / 2 ^ S = ((zBV hi lo y:Nat):Int):=by
  rw [cp, ← Int.natCast_ediv,hfin.2]
 have hr1:zpW H L1 Y < Y:=Nat.mod_lt _ (by omega)
 clear eY eL eH e1 e0 hfin cp
 go_enter Tryz.func190,Tryz.ntmps190
 go_wp2_with fail
 refine (lead y hy _).mono ?_
 rintro e w' ⟨rfl,n,rfl⟩
 go_wp2
 go_quiet (fail)
 go_wp2_with fail
 refine (digit H L1 Y hls.2 hls.1 hH hL1 _).mono ?_
 rintro e w' ⟨rfl,n1,rfl⟩
 go_wp2_with fail
 refine (digit (zpW H L1 Y) L0 Y hls.2 hls.1 hr1 hL0 _).mono ?_
 rintro e w' ⟨rfl,n2,rfl⟩
 go_wp2
 go_quiet (fail)
 go_wp2
 go_ret3
 exact ⟨rfl,_,World.drewN_drewN _ _ _⟩
end Word
end Go.Proofs.YtdbgbaiekpbaoaaGreatDoor
namespace Go.Proofs.YtdbgbaiekpbaoaaGreatDoor
open Go.RowKit Am
open Lib (hid)

def LIM:Nat:=1099511627776
theorem zaP:LIM = 1099511627776:=rfl
def wcells (xs:List Nat):List Value:=xs.map fun (x:Nat) => Value.int .u64 (x:Int)
theorem zdA (xs:List Nat):(wcells xs).length = xs.length:=by simp [wcells]
theorem zeu {xs:List Nat} {k:Nat} (hk:k < xs.length):(wcells xs)[k]? = some (.int .u64 ((wd xs k:Nat):Int)):=by
 simp [wcells,wd,hk]
theorem ziN (xs:List Nat) (k v:Nat):wcells (xs.set k v) = (wcells xs).set k (.int .u64 (v:Int)):=by simp [wcells]
theorem zlr (n:Nat):wcells (List.replicate n 0) = List.replicate n (.int .u64 0):=by simp [wcells]
theorem zia (xs ys:List Nat):wcells (xs ++ ys) = wcells xs ++ wcells ys:=by simp [wcells]
theorem zg7 (xs:List Nat) (k:Nat):wcells (xs.take k) = (wcells xs).take k:=by simp [wcells]
theorem zgf (xs:List Nat):∀ u ∈ wcells xs,u.oneCell' = true:=by
 intro u hu;simp only [wcells,List.mem_map] at hu;obtain ⟨x,_,rfl⟩:=hu;rfl

theorem zf7:(Tryz.prog.info? 193).map (fun i => (i.zero,i.size,i.bytes)) = some (some (.int .u64 0),1,8):=by kernel_rfl

def SW (w:World) (s:Value) (xs:List Nat):Prop:=w.ownsRow 0 193 1 s xs.length (wcells xs) ∧ Wds xs
def zas (w:World) (s:Value) (n:Nat):Prop := ∃ xs,SW w s xs ∧ Canon xs ∧ nval xs = n
def isZ (n:Nat):Bool:=decide (n = 0)
theorem zk4 {n:Nat} (h:0 < n):isZ n = false:=by unfold isZ;rw [decide_eq_false_iff_not];omega
section
variable {w w':World} {s:Value} {xs:List Nat} {n:Nat}
theorem zbu {base b':Nat} {e:TypeId} {size:Nat} {ys:List Value} (h:w.ownsRow base e size s n ys) (hb:b' ≤ base):w.ownsRow b' e size s n ys:=by
 obtain ⟨h1,h2⟩:=h
 refine ⟨h1,?_⟩
 rcases h2 with h2 | ⟨g,cap,cur,hv,hg,r⟩
 ·exact .inl h2
 ·exact .inr ⟨g,cap,cur,hv,by omega,r⟩
theorem SW.of_own {base:Nat} (h:w.ownsRow base 193 1 s xs.length (wcells xs)) (hw:Wds xs):SW w s xs:=⟨zbu h (Nat.zero_le _),hw⟩
theorem SW.block (h:SW w s xs) {k:Nat} (hk:s.ownBlock = some k):k < w.heap.size:=(h.1.lt k hk).2
theorem SW.keep (h:SW w s xs) (hk:∀ k,s.ownBlock = some k → w'.heap[k]? = w.heap[k]?):SW w' s xs:=by
 refine ⟨⟨h.1.1,?_⟩,h.2⟩
 rcases h.1.2 with h2 | ⟨g,cap,cur,hv,hg,hh,r⟩
 ·exact .inl h2
 ·exact .inr ⟨g,cap,cur,hv,hg,by rw [hk g (by rw [hv];rfl)];exact hh,r⟩
theorem SW.below (h:SW w s xs) (hb:Below w.heap.size w w'):SW w' s xs:=h.keep fun k hk => hb.block k (h.block hk)
theorem SW.drewN (h:SW w s xs) (k:Nat):SW (w.drewN k) s xs:=h.keep fun _ _ => rfl
theorem SW.alloc (h:SW w s xs) (o:Obj):SW (w.alloc o) s xs:=h.keep fun k hk => Below.heap_alloc w o k (h.block hk)
theorem SW.nil (w:World):SW w (.slice none 0 0) []:=⟨World.ownsRow_nil _ _ _ _,Wds.nil⟩
theorem SW.form (h:SW w s xs):(s = .slice none 0 0 ∧ xs = []) ∨ ∃ g cap,s = .slice (some ⟨g,0,none⟩) xs.length cap ∧ g < w.heap.size ∧ xs.length ≤ cap ∧ cap ≤ maxLen ∧
  (∀ k,k < xs.length → w.cell? ⟨g,k,none⟩ = some (.int .u64 ((wd xs k:Nat):Int))):=by
 rcases h.1.2 with ⟨h1,h2⟩ | ⟨g,cap,cur,hv,hg,hh,hn,hm,_⟩
 ·exact .inl ⟨h1,List.length_eq_zero_iff.1 h2⟩
 ·refine .inr ⟨g,cap,hv,(h.1.lt g (by rw [hv];rfl)).2,hn,hm,fun k hk => ?_⟩
  have hr:w.ownsRow 0 193 1 (.slice (some ⟨g,0,none⟩) xs.length cap) xs.length (wcells xs):=hv ▸ h.1
  rw [hr.cellAt k (by omega),zeu hk]
theorem SW.len_le (h:SW w s xs):xs.length ≤ 9223372036854775807:=by
 rcases h.form with ⟨_,rfl⟩ | ⟨g,cap,_,_,h1,h2,_⟩
 ·simp
 ·unfold maxLen at h2;omega
theorem SW.slice (h:SW w s xs):∃ A m c,s = .slice A m c:=by
 rcases h.form with ⟨rfl,rfl⟩ | ⟨g,cap,rfl,_⟩
 ·exact ⟨_,_,_,rfl⟩
 ·exact ⟨_,_,_,rfl⟩
theorem SW.len_eq {A:Option Addr} {m c:Nat} (h:SW w (.slice A m c) xs):m = xs.length:=by
 rcases h.form with ⟨h1,rfl⟩ | ⟨g,cap,h1,_⟩
 ·injection h1
 ·injection h1
theorem SW.setCell (h:SW w s xs) {p:Addr} (hne:s.ownBlock ≠ some p.block) (u:Value):SW (w.setCell p u) s xs :=
 h.keep fun k hk => Below.heap_setCell w p u k (fun e => hne (by rw [hk,e]))
theorem zas.slice (h:zas w s n):∃ A m c,s = .slice A m c:=by obtain ⟨xs,h,_⟩:=h;exact h.slice
theorem za6 {base:Nat} {e t:TypeId} {size:Nat} {ys:List Value} {cs:Array Value} {g:Nat} (h:w.ownsRow base e size s n ys) (hg:w.heap[g]? = some (.cells cs t (0,0))) (hne:e ≠ t):s.ownBlock ≠ some g:=by
 rcases h.2 with ⟨rfl,_⟩ | ⟨g',cap,cur,rfl,_,hh,_⟩
 ·simp [Value.ownBlock]
 ·intro he
  have : g' = g:=by simpa [Value.ownBlock] using he
  subst this
  rw [hh] at hg
  injection hg with hg
  injection hg with _ ht
  exact hne ht
theorem zas.setCell (h:zas w s n) {p:Addr} {t:TypeId} {cs:Array Value} (hg:w.heap[p.block]? = some (.cells cs t (0,0))) (hne:193 ≠ t) (u:Value):zas (w.setCell p u) s n:=by
 obtain ⟨xs,h2,h3⟩:=h;exact ⟨xs,h2.setCell (za6 h2.1 hg hne) u,h3⟩
theorem zas.mk (h:SW w s xs) (hc:Canon xs):zas w s (nval xs):=⟨xs,h,hc,rfl⟩
theorem zas.below (h:zas w s n) (hb:Below w.heap.size w w'):zas w' s n:=by
 obtain ⟨xs,h2,h3⟩:=h;exact ⟨xs,h2.below hb,h3⟩
theorem zas.drewN (h:zas w s n) (k:Nat):zas (w.drewN k) s n:=by
 obtain ⟨xs,h2,h3⟩:=h;exact ⟨xs,h2.drewN k,h3⟩
theorem zas.drew (h:zas w s n):zas w.drew s n:=h.drewN 1
theorem zas.alloc (h:zas w s n) (o:Obj):zas (w.alloc o) s n:=by
 obtain ⟨xs,h2,h3⟩:=h;exact ⟨xs,h2.alloc o,h3⟩
theorem zas.zero (w:World):zas w (.slice none 0 0) 0:=⟨[],SW.nil w,zop,rfl⟩
theorem zas.words {A:Option Addr} {m c:Nat} (h:zas w (.slice A m c) n):∃ xs,SW w (.slice A xs.length c) xs ∧ Canon xs ∧ nval xs = n ∧ xs.length = wlen n ∧ m = xs.length:=by
 obtain ⟨xs,h1,h2,h3⟩:=h
 have:=h1.len_eq
 subst this
 exact ⟨xs,h1,h2,h3,by rw [← h3];exact zk7 xs h1.2 h2,rfl⟩
theorem zas.len (h:zas w s n):∃ xs,SW w s xs ∧ Canon xs ∧ nval xs = n ∧ xs.length = wlen n:=by
 obtain ⟨xs,h1,h2,h3⟩:=h;exact ⟨xs,h1,h2,h3,by rw [← h3];exact zk7 xs h1.2 h2⟩
theorem zae (w:World) (o:Obj):Below w.heap.size w (w.alloc o):=(Below.refl _ _).alloc (Nat.le_refl _) o
theorem zap (w:World) (n:Nat):Below w.heap.size w (w.drewN n):=⟨rfl,rfl,rfl,Nat.le_refl _,fun _ _ => rfl⟩
theorem zhk {B:Nat} {a:World} (h:Below B a w) (n:Nat):Below B a (w.drewN n):=⟨h.os,h.tape,h.output,h.size,h.block⟩
theorem bstep {B:Nat} {a:World} (h:Below B a w) (hb:Below w.heap.size w w') (hB:B ≤ w.heap.size):Below B a w':=h.trans (hb.mono hB)
end

theorem zad {w w1:World} (hb:Below w.heap.size w w1) {b:Nat} {o:Obj} (h:w.heap[b]? = some o):w1.heap[b]? = some o :=
 (hb.block b (Array.getElem?_eq_some_iff.1 h).1).trans h
theorem zal (w:World) (cs:Array Value) (t:TypeId):(w.alloc (.cells cs t)).heap[w.heap.size]? = some (.cells cs t (0,0)):=heap_alloc_new w _
theorem zac {w:World} {g:Nat} {cs:Array Value} {t:TypeId} (h:w.heap[g]? = some (.cells cs t (0,0))) (i:Nat):w.cell? ⟨g,i,none⟩ = cs[i]?:=cell_of_row w g i cs t (0,0) h
theorem zag {w:World} {g:Nat} {cs:Array Value} {t:TypeId} (h:w.heap[g]? = some (.cells cs t (0,0))) (i:Nat):w.frozen? ⟨g,i,none⟩ = false:=frozen_of_row w g i cs t h
theorem zab {w w1:World} (hb:Below w.heap.size w w1) {b o:Nat} {v:Value} (h:w.cell? ⟨b,o,none⟩ = some v):w1.cell? ⟨b,o,none⟩ = some v :=
 (hb.cell (p:=⟨b,o,none⟩) (World.block_lt_of_cell? w ⟨b,o,none⟩ h)).trans h
theorem zaa {w:World} {p:Addr} {v:Value} (h:w.cell? p = some v):w.drew.cell? p = some v:=h
theorem bc1 {w:World} {b:Nat} {a0:Value} {t:TypeId} (h:w.heap[b]? = some (.cells #[a0] t (0,0))):w.cell? ⟨b,0,none⟩ = some a0 ∧ w.drew.cell? ⟨b,0,none⟩ = some a0:=⟨zac h 0,zac h 0⟩
theorem bf1 {w:World} {b:Nat} {a0:Value} {t:TypeId} (h:w.heap[b]? = some (.cells #[a0] t (0,0))):w.cell? ⟨b,0,none⟩ = some a0 ∧ w.drew.cell? ⟨b,0,none⟩ = some a0 ∧ w.frozen? ⟨b,0,none⟩ = false ∧ w.drew.frozen? ⟨b,0,none⟩ = false:=⟨zac h 0,zac h 0,zag h 0,zag h 0⟩
theorem bc2 {w:World} {b:Nat} {a0 a1:Value} {t:TypeId} (h:w.heap[b]? = some (.cells #[a0,a1] t (0,0))):w.cell? ⟨b,0,none⟩ = some a0 ∧ w.drew.cell? ⟨b,0,none⟩ = some a0 ∧ w.cell? ⟨b,1,none⟩ = some a1 ∧ w.drew.cell? ⟨b,1,none⟩ = some a1:=⟨zac h 0,zac h 0,zac h 1,zac h 1⟩
theorem bf2 {w:World} {b:Nat} {a0 a1:Value} {t:TypeId} (h:w.heap[b]? = some (.cells #[a0,a1] t (0,0))):w.cell? ⟨b,0,none⟩ = some a0 ∧ w.drew.cell? ⟨b,0,none⟩ = some a0 ∧ w.frozen? ⟨b,0,none⟩ = false ∧ w.drew.frozen? ⟨b,0,none⟩ = false ∧ w.cell? ⟨b,1,none⟩ = some a1 ∧ w.drew.cell? ⟨b,1,none⟩ = some a1 ∧ w.frozen? ⟨b,1,none⟩ = false ∧ w.drew.frozen? ⟨b,1,none⟩ = false:=⟨zac h 0,zac h 0,zag h 0,zag h 0,zac h 1,zac h 1,zag h 1,zag h 1⟩
theorem bc3 {w:World} {b:Nat} {a0 a1 a2:Value} {t:TypeId} (h:w.heap[b]? = some (.cells #[a0,a1,a2] t (0,0))):w.cell? ⟨b,0,none⟩ = some a0 ∧ w.drew.cell? ⟨b,0,none⟩ = some a0 ∧ w.cell? ⟨b,1,none⟩ = some a1 ∧ w.drew.cell? ⟨b,1,none⟩ = some a1 ∧ w.cell? ⟨b,2,none⟩ = some a2 ∧ w.drew.cell? ⟨b,2,none⟩ = some a2:=⟨zac h 0,zac h 0,zac h 1,zac h 1,zac h 2,zac h 2⟩
theorem bf3 {w:World} {b:Nat} {a0 a1 a2:Value} {t:TypeId} (h:w.heap[b]? = some (.cells #[a0,a1,a2] t (0,0))):w.cell? ⟨b,0,none⟩ = some a0 ∧ w.drew.cell? ⟨b,0,none⟩ = some a0 ∧ w.frozen? ⟨b,0,none⟩ = false ∧ w.drew.frozen? ⟨b,0,none⟩ = false ∧ w.cell? ⟨b,1,none⟩ = some a1 ∧ w.drew.cell? ⟨b,1,none⟩ = some a1 ∧ w.frozen? ⟨b,1,none⟩ = false ∧ w.drew.frozen? ⟨b,1,none⟩ = false ∧ w.cell? ⟨b,2,none⟩ = some a2 ∧ w.drew.cell? ⟨b,2,none⟩ = some a2 ∧ w.frozen? ⟨b,2,none⟩ = false ∧ w.drew.frozen? ⟨b,2,none⟩ = false:=⟨zac h 0,zac h 0,zag h 0,zag h 0,zac h 1,zac h 1,zag h 1,zag h 1,zac h 2,zac h 2,zag h 2,zag h 2⟩
theorem bf4 {w:World} {b:Nat} {a0 a1 a2 a3:Value} {t:TypeId} (h:w.heap[b]? = some (.cells #[a0,a1,a2,a3] t (0,0))):w.cell? ⟨b,0,none⟩ = some a0 ∧ w.drew.cell? ⟨b,0,none⟩ = some a0 ∧ w.frozen? ⟨b,0,none⟩ = false ∧ w.drew.frozen? ⟨b,0,none⟩ = false ∧ w.cell? ⟨b,1,none⟩ = some a1 ∧ w.drew.cell? ⟨b,1,none⟩ = some a1 ∧ w.frozen? ⟨b,1,none⟩ = false ∧ w.drew.frozen? ⟨b,1,none⟩ = false ∧ w.cell? ⟨b,2,none⟩ = some a2 ∧ w.drew.cell? ⟨b,2,none⟩ = some a2 ∧ w.frozen? ⟨b,2,none⟩ = false ∧ w.drew.frozen? ⟨b,2,none⟩ = false ∧ w.cell? ⟨b,3,none⟩ = some a3 ∧ w.drew.cell? ⟨b,3,none⟩ = some a3 ∧ w.frozen? ⟨b,3,none⟩ = false ∧ w.drew.frozen? ⟨b,3,none⟩ = false:=⟨zac h 0,zac h 0,zag h 0,zag h 0,zac h 1,zac h 1,zag h 1,zag h 1,zac h 2,zac h 2,zag h 2,zag h 2,zac h 3,zac h 3,zag h 3,zag h 3⟩
theorem bc5 {w:World} {b:Nat} {a0 a1 a2 a3 a4:Value} {t:TypeId} (h:w.heap[b]? = some (.cells #[a0,a1,a2,a3,a4] t (0,0))):w.cell? ⟨b,0,none⟩ = some a0 ∧ w.drew.cell? ⟨b,0,none⟩ = some a0 ∧ w.cell? ⟨b,1,none⟩ = some a1 ∧ w.drew.cell? ⟨b,1,none⟩ = some a1 ∧ w.cell? ⟨b,2,none⟩ = some a2 ∧ w.drew.cell? ⟨b,2,none⟩ = some a2 ∧ w.cell? ⟨b,3,none⟩ = some a3 ∧ w.drew.cell? ⟨b,3,none⟩ = some a3 ∧ w.cell? ⟨b,4,none⟩ = some a4 ∧ w.drew.cell? ⟨b,4,none⟩ = some a4:=⟨zac h 0,zac h 0,zac h 1,zac h 1,zac h 2,zac h 2,zac h 3,zac h 3,zac h 4,zac h 4⟩
theorem bf5 {w:World} {b:Nat} {a0 a1 a2 a3 a4:Value} {t:TypeId} (h:w.heap[b]? = some (.cells #[a0,a1,a2,a3,a4] t (0,0))):w.cell? ⟨b,0,none⟩ = some a0 ∧ w.drew.cell? ⟨b,0,none⟩ = some a0 ∧ w.frozen? ⟨b,0,none⟩ = false ∧ w.drew.frozen? ⟨b,0,none⟩ = false ∧ w.cell? ⟨b,1,none⟩ = some a1 ∧ w.drew.cell? ⟨b,1,none⟩ = some a1 ∧ w.frozen? ⟨b,1,none⟩ = false ∧ w.drew.frozen? ⟨b,1,none⟩ = false ∧ w.cell? ⟨b,2,none⟩ = some a2 ∧ w.drew.cell? ⟨b,2,none⟩ = some a2 ∧ w.frozen? ⟨b,2,none⟩ = false ∧ w.drew.frozen? ⟨b,2,none⟩ = false ∧ w.cell? ⟨b,3,none⟩ = some a3 ∧ w.drew.cell? ⟨b,3,none⟩ = some a3 ∧ w.frozen? ⟨b,3,none⟩ = false ∧ w.drew.frozen? ⟨b,3,none⟩ = false ∧ w.cell? ⟨b,4,none⟩ = some a4 ∧ w.drew.cell? ⟨b,4,none⟩ = some a4 ∧ w.frozen? ⟨b,4,none⟩ = false ∧ w.drew.frozen? ⟨b,4,none⟩ = false:=⟨zac h 0,zac h 0,zag h 0,zag h 0,zac h 1,zac h 1,zag h 1,zag h 1,zac h 2,zac h 2,zag h 2,zag h 2,zac h 3,zac h 3,zag h 3,zag h 3,zac h 4,zac h 4,zag h 4,zag h 4⟩
theorem bc6 {w:World} {b:Nat} {a0 a1 a2 a3 a4 a5:Value} {t:TypeId} (h:w.heap[b]? = some (.cells #[a0,a1,a2,a3,a4,a5] t (0,0))):w.cell? ⟨b,0,none⟩ = some a0 ∧ w.drew.cell? ⟨b,0,none⟩ = some a0 ∧ w.cell? ⟨b,1,none⟩ = some a1 ∧ w.drew.cell? ⟨b,1,none⟩ = some a1 ∧ w.cell? ⟨b,2,none⟩ = some a2 ∧ w.drew.cell? ⟨b,2,none⟩ = some a2 ∧ w.cell? ⟨b,3,none⟩ = some a3 ∧ w.drew.cell? ⟨b,3,none⟩ = some a3 ∧ w.cell? ⟨b,4,none⟩ = some a4 ∧ w.drew.cell? ⟨b,4,none⟩ = some a4 ∧ w.cell? ⟨b,5,none⟩ = some a5 ∧ w.drew.cell? ⟨b,5,none⟩ = some a5:=⟨zac h 0,zac h 0,zac h 1,zac h 1,zac h 2,zac h 2,zac h 3,zac h 3,zac h 4,zac h 4,zac h 5,zac h 5⟩
theorem bf6 {w:World} {b:Nat} {a0 a1 a2 a3 a4 a5:Value} {t:TypeId} (h:w.heap[b]? = some (.cells #[a0,a1,a2,a3,a4,a5] t (0,0))):w.cell? ⟨b,0,none⟩ = some a0 ∧ w.drew.cell? ⟨b,0,none⟩ = some a0 ∧ w.frozen? ⟨b,0,none⟩ = false ∧ w.drew.frozen? ⟨b,0,none⟩ = false ∧ w.cell? ⟨b,1,none⟩ = some a1 ∧ w.drew.cell? ⟨b,1,none⟩ = some a1 ∧ w.frozen? ⟨b,1,none⟩ = false ∧ w.drew.frozen? ⟨b,1,none⟩ = false ∧ w.cell? ⟨b,2,none⟩ = some a2 ∧ w.drew.cell? ⟨b,2,none⟩ = some a2 ∧ w.frozen? ⟨b,2,none⟩ = false ∧ w.drew.frozen? ⟨b,2,none⟩ = false ∧ w.cell? ⟨b,3,none⟩ = some a3 ∧ w.drew.cell? ⟨b,3,none⟩ = some a3 ∧ w.frozen? ⟨b,3,none⟩ = false ∧ w.drew.frozen? ⟨b,3,none⟩ = false ∧ w.cell? ⟨b,4,none⟩ = some a4 ∧ w.drew.cell? ⟨b,4,none⟩ = some a4 ∧ w.frozen? ⟨b,4,none⟩ = false ∧ w.drew.frozen? ⟨b,4,none⟩ = false ∧ w.cell? ⟨b,5,none⟩ = some a5 ∧ w.drew.cell? ⟨b,5,none⟩ = some a5 ∧ w.frozen? ⟨b,5,none⟩ = false ∧ w.drew.frozen? ⟨b,5,none⟩ = false:=⟨zac h 0,zac h 0,zag h 0,zag h 0,zac h 1,zac h 1,zag h 1,zag h 1,zac h 2,zac h 2,zag h 2,zag h 2,zac h 3,zac h 3,zag h 3,zag h 3,zac h 4,zac h 4,zag h 4,zag h 4,zac h 5,zac h 5,zag h 5,zag h 5⟩
theorem bc9 {w:World} {b:Nat} {a0 a1 a2 a3 a4 a5 a6 a7 a8:Value} {t:TypeId} (h:w.heap[b]? = some (.cells #[a0,a1,a2,a3,a4,a5,a6,a7,a8] t (0,0))):w.cell? ⟨b,0,none⟩ = some a0 ∧ w.drew.cell? ⟨b,0,none⟩ = some a0 ∧ w.cell? ⟨b,1,none⟩ = some a1 ∧ w.drew.cell? ⟨b,1,none⟩ = some a1 ∧ w.cell? ⟨b,2,none⟩ = some a2 ∧ w.drew.cell? ⟨b,2,none⟩ = some a2 ∧ w.cell? ⟨b,3,none⟩ = some a3 ∧ w.drew.cell? ⟨b,3,none⟩ = some a3 ∧ w.cell? ⟨b,4,none⟩ = some a4 ∧ w.drew.cell? ⟨b,4,none⟩ = some a4 ∧ w.cell? ⟨b,5,none⟩ = some a5 ∧ w.drew.cell? ⟨b,5,none⟩ = some a5 ∧ w.cell? ⟨b,6,none⟩ = some a6 ∧ w.drew.cell? ⟨b,6,none⟩ = some a6 ∧ w.cell? ⟨b,7,none⟩ = some a7 ∧ w.drew.cell? ⟨b,7,none⟩ = some a7 ∧ w.cell? ⟨b,8,none⟩ = some a8 ∧ w.drew.cell? ⟨b,8,none⟩ = some a8:=⟨zac h 0,zac h 0,zac h 1,zac h 1,zac h 2,zac h 2,zac h 3,zac h 3,zac h 4,zac h 4,zac h 5,zac h 5,zac h 6,zac h 6,zac h 7,zac h 7,zac h 8,zac h 8⟩
theorem bf9 {w:World} {b:Nat} {a0 a1 a2 a3 a4 a5 a6 a7 a8:Value} {t:TypeId} (h:w.heap[b]? = some (.cells #[a0,a1,a2,a3,a4,a5,a6,a7,a8] t (0,0))):w.cell? ⟨b,0,none⟩ = some a0 ∧ w.drew.cell? ⟨b,0,none⟩ = some a0 ∧ w.frozen? ⟨b,0,none⟩ = false ∧ w.drew.frozen? ⟨b,0,none⟩ = false ∧ w.cell? ⟨b,1,none⟩ = some a1 ∧ w.drew.cell? ⟨b,1,none⟩ = some a1 ∧ w.frozen? ⟨b,1,none⟩ = false ∧ w.drew.frozen? ⟨b,1,none⟩ = false ∧ w.cell? ⟨b,2,none⟩ = some a2 ∧ w.drew.cell? ⟨b,2,none⟩ = some a2 ∧ w.frozen? ⟨b,2,none⟩ = false ∧ w.drew.frozen? ⟨b,2,none⟩ = false ∧ w.cell? ⟨b,3,none⟩ = some a3 ∧ w.drew.cell? ⟨b,3,none⟩ = some a3 ∧ w.frozen? ⟨b,3,none⟩ = false ∧ w.drew.frozen? ⟨b,3,none⟩ = false ∧ w.cell? ⟨b,4,none⟩ = some a4 ∧ w.drew.cell? ⟨b,4,none⟩ = some a4 ∧ w.frozen? ⟨b,4,none⟩ = false ∧ w.drew.frozen? ⟨b,4,none⟩ = false ∧ w.cell? ⟨b,5,none⟩ = some a5 ∧ w.drew.cell? ⟨b,5,none⟩ = some a5 ∧ w.frozen? ⟨b,5,none⟩ = false ∧ w.drew.frozen? ⟨b,5,none⟩ = false ∧ w.cell? ⟨b,6,none⟩ = some a6 ∧ w.drew.cell? ⟨b,6,none⟩ = some a6 ∧ w.frozen? ⟨b,6,none⟩ = false ∧ w.drew.frozen? ⟨b,6,none⟩ = false ∧ w.cell? ⟨b,7,none⟩ = some a7 ∧ w.drew.cell? ⟨b,7,none⟩ = some a7 ∧ w.frozen? ⟨b,7,none⟩ = false ∧ w.drew.frozen? ⟨b,7,none⟩ = false ∧ w.cell? ⟨b,8,none⟩ = some a8 ∧ w.drew.cell? ⟨b,8,none⟩ = some a8 ∧ w.frozen? ⟨b,8,none⟩ = false ∧ w.drew.frozen? ⟨b,8,none⟩ = false:=⟨zac h 0,zac h 0,zag h 0,zag h 0,zac h 1,zac h 1,zag h 1,zag h 1,zac h 2,zac h 2,zag h 2,zag h 2,zac h 3,zac h 3,zag h 3,zag h 3,zac h 4,zac h 4,zag h 4,zag h 4,zac h 5,zac h 5,zag h 5,zag h 5,zac h 6,zac h 6,zag h 6,zag h 6,zac h 7,zac h 7,zag h 7,zag h 7,zac h 8,zac h 8,zag h 8,zag h 8⟩
theorem zKh {B:Nat} {w w1:World} (hb:Below B w w1) {b o:Nat} {v:Value} (hlt:b < B) (h:w.cell? ⟨b,o,none⟩ = some v):w1.cell? ⟨b,o,none⟩ = some v :=
 (hb.cell (p:=⟨b,o,none⟩) hlt).trans h
def SR (w:World) (s:Value) (xs:List Nat):Prop := ∃ A c,s = .slice A xs.length c ∧ xs.length ≤ c ∧ c ≤ 9223372036854775807 ∧ Wds xs ∧ (A = none → xs = [] ∧ c = 0) ∧
  ∀ ad,A = some ad → ∀ j u,(wcells xs)[j]? = some u → w.cell? (ad.add j) = some u
theorem SW.reads {w:World} {s:Value} {xs:List Nat} (h:SW w s xs):SR w s xs:=by
 rcases h.form with ⟨rfl,rfl⟩ | ⟨g,cap,rfl,hg,hcap,hm,hc⟩
 ·exact ⟨none,0,rfl,Nat.le_refl _,by decide,Wds.nil,fun _ => ⟨rfl,rfl⟩,fun ad h => by cases h⟩
 ·refine ⟨_,cap,rfl,hcap,by unfold maxLen at hm;omega,h.2,(fun h => by cases h),fun ad he j u hu => ?_⟩
  obtain rfl:=Option.some.inj he
  exact h.1.cells (g:=g) rfl j u hu
def zCs (w:World) (xs:List Nat) (e:Ending) (w':World):Prop := ∃ (A:Option Addr) (m c:Nat),e = .returned (.slice A m c) ∧ SW w' (.slice A m c) xs ∧ Below w.heap.size w w'
def zc0 (w:World) (n:Nat) (e:Ending) (w':World):Prop := ∃ (A:Option Addr) (m c:Nat),e = .returned (.agg #[.slice A m c]) ∧ zas w' (.slice A m c) n ∧ Below w.heap.size w w'
def zjL (w:World) (n:Nat) (b:Bool) (e:Ending) (w':World):Prop := ∃ (A:Option Addr) (m c:Nat),e = .returned (.tuple #[.agg #[.slice A m c], .bool b]) ∧ zas w' (.slice A m c) n ∧ Below w.heap.size w w'
end Go.Proofs.YtdbgbaiekpbaoaaGreatDoor
namespace Go.Proofs.YtdbgbaiekpbaoaaGreatDoor
open Go.RowKit Am
open Lib (hid)
set_option maxHeartbeats 1000000
namespace Nt
theorem zyC {xs:List Nat} {k:Nat} (h:xs.length ≤ k):wd xs k = 0:=zjA xs k h
theorem word (s:Value) (xs:List Nat) (k:Int) (hk:0 ≤ k) (w:World) (hs:SW w s xs) :
  Calls Tryz.prog 157 #[.agg #[s], .int .i64 k] w fun e w' => e = .returned (.int .u64 ((wd xs k.toNat:Nat):Int)) ∧ w' = w.alloc (.cells #[s] 31):=by
 have hl:=hs.len_le
 rcases hs.form with ⟨rfl,rfl⟩ | ⟨g,cap,rfl,hg,hcap,hm,hc⟩
 ·have hz:=hid (zyC (xs:=[]) (k:=k.toNat) (by simp))
  clear hl
  go_enter Tryz.func157,Tryz.ntmps157
  go_wp2
  go_ret
  exact ⟨zst (by rw [hz.out];rfl),rfl⟩
 ·by_cases hlt:k < xs.length
  ·have hcell:=hc k.toNat (by omega)
   obtain ⟨j,rfl⟩:=Int.eq_ofNat_of_zero_le hk
   rw [Int.toNat_natCast] at *
   generalize wd xs j = x at *
   clear hc hs
   go_enter Tryz.func157,Tryz.ntmps157
   go_wp2
   go_ret
   exact ⟨rfl,rfl⟩
  ·have hz:=hid (zyC (xs:=xs) (k:=k.toNat) (by omega))
   clear hc hs
   go_enter Tryz.func157,Tryz.ntmps157
   go_wp2
   go_ret
   exact ⟨zst (by rw [hz.out];rfl),rfl⟩
theorem len (s:Value) (xs:List Nat) (w:World) (hs:SW w s xs) :
  Calls Tryz.prog 117 #[.agg #[s]] w fun e w' => e = .returned (.int .i64 (xs.length:Int)) ∧ w' = w.alloc (.cells #[s] 31):=by
 rcases hs.form with ⟨rfl,rfl⟩ | ⟨g,cap,rfl,hg,hcap,hm,hc⟩
 all_goals
  try clear hc
  clear hs
  go_enter Tryz.func117,Tryz.ntmps117
  go_wp2
  go_ret
  exact ⟨rfl,rfl⟩
theorem zero (s:Value) (n:Nat) (w:World) (hs:zas w s n) :
  Calls Tryz.prog 111 #[.agg #[s]] w fun e w' => e = .returned (.bool (isZ n)) ∧ w' = w.alloc (.cells #[s] 31):=by
 obtain ⟨xs,hs,hc,rfl⟩:=hs
 have hz:((xs.length:Int) == 0) = isZ (nval xs):=by
  have:=zoS xs hc
  by_cases h:xs = []
  ·subst h;rfl
  ·rw [zk4 (Nat.pos_of_ne_zero (fun e => h (this.1 e)))]
   simp [h]
 rcases hs.form with ⟨rfl,rfl⟩ | ⟨g,cap,rfl,hg,hcap,hm,hcc⟩
 ·clear hs hz
  go_enter Tryz.func111,Tryz.ntmps111
  go_wp2
  go_ret
  exact ⟨rfl,rfl⟩
 ·clear hcc hs
  go_enter Tryz.func111,Tryz.ntmps111
  go_wp2
  go_ret
  exact ⟨rfl,rfl⟩
theorem uint_one (s:Value) (n:Nat) (hn:n < 18446744073709551616) (w:World) (hs:zas w s n) :
  Calls Tryz.prog 155 #[.agg #[s]] w fun e w' => e = .returned (.tuple #[.int .u64 (n:Int), .bool true]) ∧ Below w.heap.size w w':=by
 obtain ⟨xs,hs,hc,hn',hl⟩:=hs.len
 have hl1:xs.length ≤ 1:=by rw [hl];exact zdl hn
 have hwd:wd xs 0 = n:=by
  rw [← hn',wd,zhQ xs hs.2,Nat.pow_zero,Nat.div_one,hn'];exact Nat.mod_eq_of_lt hn
 have HW:=hid hwd
 have hs2:=hs.alloc (.cells #[s] 31)
 have hlen:=hs.len_le
 rcases hs.form with ⟨rfl,rfl⟩ | ⟨g,cap,rfl,hg,hcap,hm,hcc⟩
 ·clear hl hn' hwd
  go_enter Tryz.func155,Tryz.ntmps155
  go_wp2_with (go_at_call 157;refine (word _ _ _ (by omega) _ hs2).mono ?_;rintro e w' ⟨rfl,rfl⟩)
  go_ret2
  exact ⟨by rw [← HW.out];rfl,(Below.refl _ _).alloc (Nat.le_refl _) _ |>.alloc (by simp) _⟩
 ·clear hcc hl hn' hwd
  go_enter Tryz.func155,Tryz.ntmps155
  go_wp2_with (go_at_call 157;refine (word _ _ _ (by omega) _ hs2).mono ?_;rintro e w' ⟨rfl,rfl⟩)
  go_ret2
  exact ⟨by rw [← HW.out];rfl,(Below.refl _ _).alloc (Nat.le_refl _) _ |>.alloc (by simp) _⟩
theorem uint_more (s:Value) (n:Nat) (hn:18446744073709551616 ≤ n) (w:World) (hs:zas w s n) :
  Calls Tryz.prog 155 #[.agg #[s]] w fun e w' => e = .returned (.tuple #[.int .u64 0, .bool false]) ∧ Below w.heap.size w w':=by
 obtain ⟨xs,hs,hc,hn',hl⟩:=hs.len
 have hl1:1 < xs.length:=by
  rcases Nat.lt_or_ge 1 xs.length with h | h
  ·exact h
  ·have h':=(zfP n 1).1 (by omega)
   simp only [Nat.pow_one,B64] at h';omega
 have hlen:=hs.len_le
 rcases hs.form with ⟨rfl,rfl⟩ | ⟨g,cap,rfl,hg,hcap,hm,hcc⟩
 ·simp at hl1
 ·clear hcc hl hn'
  go_enter Tryz.func155,Tryz.ntmps155
  go_wp2
  go_ret2
  exact ⟨rfl,(Below.refl _ _).alloc (Nat.le_refl _) _⟩

theorem zzd {w:World} {g cap m:Nat} {xs:List Nat} (h:SW w (.slice (some ⟨g,0,none⟩) xs.length cap) xs) (hm:m ≤ xs.length):SW w (.slice (some ⟨g,0,none⟩) m cap) (xs.take m):=by
 have hl:(xs.take m).length = m:=by simp;omega
 refine ⟨⟨by rw [zdA];omega,?_⟩,h.2.take m⟩
 rcases h.1.2 with ⟨h1,_⟩ | ⟨g',cap',cur,hv,hg,hh,hn,hmx,hs,ht⟩
 ·simp at h1
 ·simp only [Value.slice.injEq,Option.some.injEq,Addr.mk.injEq,and_true,true_and] at hv
  obtain ⟨rfl,rfl⟩:=hv
  refine .inr ⟨g,cap,cur,by rw [hl],hg,hh,by omega,hmx,hs,?_⟩
  rw [zg7, ← ht,hl,List.take_take]
  congr 1;omega
theorem zvz {xs:List Nat} {m:Nat} (hm:0 < m) (hl:m ≤ xs.length) (h0:wd xs (m - 1) = 0):trimZ (xs.take m) = trimZ (xs.take (m - 1)):=by
 obtain ⟨k,rfl⟩:∃ k,m = k + 1:=⟨m - 1,by omega⟩
 simp only [Nat.add_sub_cancel] at *
 have : xs[k]'(by omega) = 0:=by
  have:=h0;unfold wd at this;rw [List.getD_eq_getElem?_getD,List.getElem?_eq_getElem (by omega)] at this;exact this
 rw [List.take_succ_eq_append_getElem (by omega),this,zdK]
theorem zo8 {xs:List Nat} {m:Nat} (hl:m ≤ xs.length) (h0:0 < m → wd xs (m - 1) ≠ 0):Canon (xs.take m):=by
 rcases Nat.eq_zero_or_pos m with rfl | hm
 ·simpa using zop
 ·obtain ⟨k,rfl⟩:∃ k,m = k + 1:=⟨m - 1,by omega⟩
  have h1:=h0 hm
  simp only [Nat.add_sub_cancel] at h1
  rw [List.take_succ_eq_append_getElem (by omega)]
  apply zm8
  unfold wd at h1;rw [List.getD_eq_getElem?_getD,List.getElem?_eq_getElem (by omega)] at h1;exact h1
def lenOf:Value → Nat | .slice _ n _ => n | _ => 0
theorem trim (s:Value) (xs:List Nat) (w:World) (hs:SW w s xs):Calls Tryz.prog 160 #[s] w (zc0 w (nval xs)):=by
 have hlen:=hs.len_le
 rcases hs.form with ⟨rfl,rfl⟩ | ⟨g,cap,rfl,hg,hcap,hm,hcc⟩
 ·clear hs
  go_enter Tryz.func160,Tryz.ntmps160
  go_wp2
  refine wp_loop_rounds 1 ?_
  rw [rounds_succ]
  go_wp2
  refine bodyPost_ret (v := .agg #[.slice none 0 0]) (by simp [results,Tryz.results160,go_sem]) rfl ⟨_,_,_,rfl,zas.zero _,(Below.refl _ _).alloc (Nat.le_refl _) _⟩
 ·unfold maxLen at hm
  go_enter Tryz.func160,Tryz.ntmps160
  have HCC:=hid hcc
  have HS:=hid hs
  clear hcc hs
  go_wp2
  go_loop [0] (fun v => ∃ m:Nat,m ≤ xs.length ∧ v = .slice (some ⟨g,0,none⟩) m cap ∧ trimZ (xs.take m) = trimZ xs) (fun v => lenOf v)
  case atStart => exact ⟨xs.length,Nat.le_refl _,rfl,by rw [List.take_of_length_le (Nat.le_refl _)]⟩
  case round =>
   obtain ⟨m,hml,rfl,htr⟩:=hrel
   have HT:=hid htr
   clear htr
   have fin:Canon (xs.take m) → zc0 w (nval xs) (.returned (.agg #[.slice (some ⟨g,0,none⟩) m cap])) (w.alloc (.cells #[.slice (some ⟨g,0,none⟩) m cap] 31)):=by
    intro hcan
    refine ⟨_,_,_,rfl,?_,(Below.refl _ _).alloc (Nat.le_refl _) _⟩
    have h1:=zas.mk ((zzd HS.out hml).alloc (.cells #[.slice (some ⟨g,0,none⟩) m cap] 31)) hcan
    rwa [← zl7,zln hcan, ← zln hcan,HT.out,zl7] at h1
   have FIN:=hid fin
   clear fin
   rcases Nat.eq_zero_or_pos m with rfl | hpos
   ·have hst:=hid (FIN.out (zo8 (by omega) (by omega)))
    go_wp2
    exact bodyPost_ret (v := .agg #[.slice (some ⟨g,0,none⟩) 0 cap]) (by simp [results,Tryz.results160,go_sem]) rfl hst.out
   ·have hcell:=HCC.out (m - 1) (by omega)
    by_cases hx:wd xs (m - 1) = 0
    ·have hT:=hid ((zvz hpos hml hx).symm.trans HT.out)
     rw [hx] at hcell
     clear hx
     go_wp2
     go_round
     case rel => exact ⟨m - 1,by omega,rfl,hT.out⟩
     case measure => simp [lenOf];omega
    ·have hst:=hid (FIN.out (zo8 hml (fun _ => hx)))
     have hb:(((wd xs (m - 1):Nat):Int) == 0) = false:=by rw [beq_eq_false_iff_ne];omega
     clear hx
     generalize wd xs (m - 1) = x at *
     go_wp2
     exact bodyPost_ret (v := .agg #[.slice (some ⟨g,0,none⟩) m cap]) (by simp [results,Tryz.results160,go_sem]) rfl hst.out
end Nt
namespace Nt
theorem clone (s:Value) (xs:List Nat) (w:World) (h:SR w s xs) (hb:xs.length ≤ LIM):Calls Tryz.prog 162 #[s] w (zCs w xs):=by
 obtain ⟨A,c,rfl,hlc,hc9,hw,hnil,hcell⟩:=h
 have hWD:=hid hw
 clear hw
 rcases A with _ | ad
 ·obtain ⟨rfl,rfl⟩:=hnil rfl
  clear hcell hnil
  have hq:=fun (w:World) => Lib.run_eql_slice_nil (P:=Tryz.prog) w 29 193 none 0 0 0 0 Tryz.underlying29
  go_enter Tryz.func162,Tryz.ntmps162
  go_wp2
  go_ret
  exact ⟨_,_,_,rfl,SW.nil _,Below.refl _ _⟩
 ·have HC:=hid (hcell ad rfl)
  clear hcell hnil
  have hq:=fun (w:World) => Lib.run_eql_slice_nil (P:=Tryz.prog) w 29 193 (some ad) xs.length c 0 0 Tryz.underlying29
  obtain ⟨i0,hi,hz0,hz1,hz2⟩:=info_parts zf7
  have hown:=World.ownsRow_made (e:=193) (size:=1) (base:=w.heap.size) w #[] 0 (Nat.le_refl _) (by unfold maxLen;omega) rfl
  have hnews:∀ j u,(wcells xs)[j]? = some u → (w.alloc (.cells #[] 193)).cell? (ad.add j) = some u:=fun j u hu =>
   (World.cell?_alloc_lt w _ _ (World.block_lt_of_cell? w _ (HC.out j u hu))).trans (HC.out j u hu)
  have HO:=hid hown
  have HN:=hid hnews
  have b1:0 + xs.length ≤ maxLen:=by unfold maxLen;omega
  have b2:(0 + xs.length) * 8 ≤ 140737488355328:=by have:=zaP;omega
  have B1:=hid b1
  have B2:=hid b2
  clear hown hnews b1 b2 hb hlc hc9
  go_enter Tryz.func162,Tryz.ntmps162
  go_wp2_with (at_builtin;refine wpList_append_own _ rfl _ _ 29 rfl w.heap.size 193 i0 (.int .u64 0) 1 8 Tryz.underlying29 hi hz0 hz1 hz2 rfl (by decide) _ _ _ rfl HO.out ad xs.length c (wcells xs) rfl (by rw [zdA];omega) HN.out (zgf xs) B1.out B2.out (by simp) ?_;intro v' w1 hown' hgrow hnil')
  go_ret
  rw [Nat.zero_add,List.nil_append] at hown'
  have hs':=SW.of_own hown' hWD.out
  obtain ⟨A',m',c',rfl⟩:=hs'.slice
  exact ⟨A',m',c',rfl,hs',(zae w _).trans ((Below.refl _ _).grown hgrow (by simp) (fun k hk => by cases hk;exact Nat.le_refl _))⟩
theorem of (s:Value) (xs:List Nat) (w:World) (h:SR w s xs) (hb:xs.length ≤ LIM):Calls Tryz.prog 123 #[s] w (zc0 w (nval xs)):=by
 have h2:SR (w.alloc (.cells #[.slice none 0 0] 31)) s xs:=by
  obtain ⟨A,c,h1,h2,h3,h4,h5,h6⟩:=h
  exact ⟨A,c,h1,h2,h3,h4,h5,fun ad he j u hu => (World.cell?_alloc_lt w _ _ (World.block_lt_of_cell? w _ (h6 ad he j u hu))).trans (h6 ad he j u hu)⟩
 have H2:=hid h2
 have HB:=hid hb
 clear h h2 hb
 go_enter Tryz.func123,Tryz.ntmps123
 go_wp2_with fail
 refine (clone s xs _ H2.out HB.out).mono ?_
 rintro e w1 ⟨A1,m1,c1,rfl,hs1,hb1⟩
 go_wp2_with fail
 refine (trim _ xs _ hs1).mono ?_
 rintro e w2 ⟨A2,m2,c2,rfl,hs2,hb2⟩
 have hz2:w.heap.size < w2.heap.size:=by have h1:=hb1.size;have h2:=hb2.size;simp at h1;omega
 have hk:=zad hb2 (zad hb1 (zal w #[.slice none 0 0] 31))
 have hc:w2.cell? ⟨w.heap.size,0,none⟩ = some (.slice none 0 0):=zac hk 0
 have hf:=zag hk 0
 have HK:=hid hk
 clear hk
 go_wp2
 refine bodyPost_ret (v := .agg #[.slice A2 m2 c2]) (by simp [results,Tryz.results123,go_sem,hc]) rfl ⟨_,_,_,rfl,hs2.setCell (p:=⟨w.heap.size,0,none⟩) HK.out (by decide) _,?_⟩
 exact (bstep (bstep (zae w _) hb1 (by simp)) hb2 (by have h1:=hb1.size;simp at h1;omega)).setCell (Nat.le_refl _) _
end Nt
end Go.Proofs.YtdbgbaiekpbaoaaGreatDoor
