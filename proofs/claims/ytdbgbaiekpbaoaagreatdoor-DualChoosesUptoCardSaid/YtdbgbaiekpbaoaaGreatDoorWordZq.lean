/- The functions of package word by their contracts: sums,differences,products,quotients of words. Conditions: the arguments are words. The functions of package word that loop: how many bits,and quotients. Conditions: the arguments are words. Conditions: as they say. -/
import Derived.Test.YtdbgbaiekpbaoaaGreatDoorProg
import Derived.Test.YtdbgbaiekpbaoaaGreatDoorMathZq
import Derived.WalkKit
import Derived.WalkSpells
import Derived.Deep.QuietTactic
import Derived.BigQuiet
import Derived.Lib.Hide
namespace Go.Proofs.YtdbgbaiekpbaoaaGreatDoor
open Go.RowKit Am
open Lib (hid)
set_option maxHeartbeats 400000

theorem zqv {a b a' b':Int} (h1:a = a') (h2:b = b'):Ending.returned (.tuple #[.int .u64 a, .int .u64 b]) = Ending.returned (.tuple #[.int .u64 a', .int .u64 b']):=by rw [h1,h2]
theorem zst {k:IntKind} {a a':Int} (h1:a = a'):Ending.returned (.int k a) = Ending.returned (.int k a'):=by rw [h1]
theorem zb7 (a:Nat) (h:a < 18446744073709551616):IntKind.u64.wrap (a:Int) = (a:Int):=by
 rw [IntKind.wrap_u64];omega

namespace Word
theorem zHz (x y c:Nat) (hc:c ≤ 1) :
  IntKind.u64.wrap (IntKind.u64.wrap (↑x + ↑y) + bits BinOp.and IntKind.u64 (↑c) 1) = ((zjj x y c:Nat):Int):=by
 rw [show (1:Int) = ((1:Nat):Int) from rfl,u64_and_nat c 1 (by omega) (by decide),ztU,IntKind.wrap_u64,IntKind.wrap_u64]
 unfold zjj B64;omega
theorem zDc (x y c:Nat) (hx:x < 18446744073709551616) (hy:y < 18446744073709551616) (hc:c ≤ 1) :
  bits BinOp.or IntKind.u64 (bits BinOp.and IntKind.u64 ↑x ↑y) (bits BinOp.andNot IntKind.u64 (bits BinOp.or IntKind.u64 ↑x ↑y) ((zjj x y c:Nat):Int)) / 9223372036854775808 = ((zlD x y c:Nat):Int):=by
 have h1:=ztQ x y c
 have h2:x &&& y < 18446744073709551616:=Nat.lt_of_le_of_lt Nat.and_le_left hx
 have h3:x ||| y < 2 ^ 64:=Nat.or_lt_two_pow (by omega) (by omega)
 have h4:(x ||| y) &&& (18446744073709551615 - zjj x y c) < 18446744073709551616:=Nat.lt_of_le_of_lt Nat.and_le_left (by omega)
 rw [u64_and_nat x y hx hy,u64_or_nat x y hx hy,u64_andNot_nat _ _ (by omega) h1,u64_or_nat _ _ h2 h4]
 have:=zwy x y c hx hy hc
 unfold zjj zlD B64
 rw [← this]
 rfl
theorem zHA (x y c:Nat) (hy:y < 18446744073709551616) (hc:c ≤ 1) :
  IntKind.u64.wrap (IntKind.u64.wrap (↑x - ↑y) - bits BinOp.and IntKind.u64 (↑c) 1) = ((zqC x y c:Nat):Int):=by
 rw [show (1:Int) = ((1:Nat):Int) from rfl,u64_and_nat c 1 (by omega) (by decide),ztU,IntKind.wrap_u64,IntKind.wrap_u64]
 unfold zqC B64;omega
theorem zDe (x y c:Nat) (hx:x < 18446744073709551616) (hy:y < 18446744073709551616) (hc:c ≤ 1) :
  bits BinOp.or IntKind.u64 (bits BinOp.and IntKind.u64 (bits BinOp.xor IntKind.u64 IntKind.u64.max ↑x) ↑y)
    (bits BinOp.and IntKind.u64 (bits BinOp.xor IntKind.u64 IntKind.u64.max (bits BinOp.xor IntKind.u64 ↑x ↑y)) ((zqC x y c:Nat):Int)) / 9223372036854775808 = ((zvv x y c:Nat):Int):=by
 have h1:=zBp x y c
 have hm:IntKind.u64.max = ((18446744073709551615:Nat):Int):=by decide
 have hxy:x ^^^ y < 2 ^ 64:=Nat.xor_lt_two_pow (by omega) (by omega)
 have hn:∀ z:Nat,z < 18446744073709551616 → 18446744073709551615 ^^^ z = 18446744073709551615 - z:=by
  intro z hz
  have e:(18446744073709551615:Nat) = 2 ^ 64 - 1:=by decide
  rw [e]
  have hz':z < 2 ^ 64:=by omega
  have h1:(BitVec.allOnes 64 ^^^ BitVec.ofNat 64 z).toNat = (~~~ BitVec.ofNat 64 z).toNat:=by rw [BitVec.allOnes_xor]
  rw [BitVec.toNat_xor,BitVec.toNat_allOnes,BitVec.toNat_not,BitVec.toNat_ofNat,Nat.mod_eq_of_lt hz'] at h1
  exact h1
 rw [hm,u64_xor_nat _ _ (by decide) hx,u64_xor_nat _ _ hx hy,u64_xor_nat _ _ (by decide) (by omega),hn x hx,hn _ (by omega)]
 have h2:(18446744073709551615 - x) &&& y < 18446744073709551616:=Nat.lt_of_le_of_lt Nat.and_le_right hy
 have h4:(18446744073709551615 - (x ^^^ y)) &&& zqC x y c < 18446744073709551616:=Nat.lt_of_le_of_lt Nat.and_le_right h1
 rw [u64_and_nat _ _ (by omega) hy,u64_and_nat _ _ (by omega) h1,u64_or_nat _ _ h2 h4]
 have:=zt1 x y c hx hy hc
 unfold zqC zvv B64
 rw [← this]
 rfl
theorem add (x y c:Nat) (hx:x < 18446744073709551616) (hy:y < 18446744073709551616) (hc:c ≤ 1) (w:World):Calls Tryz.prog 159 #[.int .u64 x, .int .u64 y, .int .u64 c] w fun e w' => e = .returned (.tuple #[.int .u64 (zjj x y c:Nat), .int .u64 (zlD x y c:Nat)]) ∧ w = w':=by
 have hA:=zHz x y c hc
 have hB:=zDc x y c hx hy hc
 go_enter Tryz.func159,Tryz.ntmps159
 go_wp2
 go_ret2
 exact ⟨zqv rfl rfl,rfl⟩
theorem sub (x y c:Nat) (hx:x < 18446744073709551616) (hy:y < 18446744073709551616) (hc:c ≤ 1) (w:World):Calls Tryz.prog 161 #[.int .u64 x, .int .u64 y, .int .u64 c] w fun e w' => e = .returned (.tuple #[.int .u64 (zqC x y c:Nat), .int .u64 (zvv x y c:Nat)]) ∧ w = w':=by
 have hA:=zHA x y c hy hc
 have hB:=zDe x y c hx hy hc
 have hs:IntKind.u64.signed = false:=rfl
 go_enter Tryz.func161,Tryz.ntmps161
 go_wp2
 go_ret2
 exact ⟨zqv rfl rfl,rfl⟩

theorem zhS {a b:Nat} (ha:a < 4294967296) (hb:b < 4294967296):a * b ≤ 18446744065119617025:=by
 have h1:a ≤ 4294967295:=by omega
 have h2:b ≤ 4294967295:=by omega
 exact Nat.mul_le_mul h1 h2
theorem zAi (x y:Nat) (hx:x < 18446744073709551616) (hy:y < 18446744073709551616) :
  IntKind.u64.wrap (IntKind.u64.wrap (IntKind.u64.wrap (↑x / 4294967296 * (↑y / 4294967296)) +
    IntKind.u64.wrap (IntKind.u64.wrap (↑x / 4294967296 * bits BinOp.and IntKind.u64 (↑y) 4294967295) +
     IntKind.u64.wrap (bits BinOp.and IntKind.u64 (↑x) 4294967295 * bits BinOp.and IntKind.u64 (↑y) 4294967295) / 4294967296) / 4294967296) +
   IntKind.u64.wrap (bits BinOp.and IntKind.u64 (IntKind.u64.wrap (IntKind.u64.wrap (↑x / 4294967296 * bits BinOp.and IntKind.u64 (↑y) 4294967295) +
     IntKind.u64.wrap (bits BinOp.and IntKind.u64 (↑x) 4294967295 * bits BinOp.and IntKind.u64 (↑y) 4294967295) / 4294967296)) 4294967295 +
    IntKind.u64.wrap (bits BinOp.and IntKind.u64 (↑x) 4294967295 * (↑y / 4294967296))) / 4294967296) = ((zdw x y 0 0:Nat):Int):=by
 have e:(4294967295:Int) = ((4294967295:Nat):Int):=rfl
 have f:(4294967296:Int) = ((4294967296:Nat):Int):=rfl
 have hh:=zDH x y hx hy
 have hx1:x / 4294967296 < 4294967296:=by omega
 have hy1:y / 4294967296 < 4294967296:=by omega
 have hx0:x % 4294967296 < 4294967296:=Nat.mod_lt _ (by decide)
 have hy0:y % 4294967296 < 4294967296:=Nat.mod_lt _ (by decide)
 have m11:=zhS hx1 hy1
 have m10:=zhS hx1 hy0
 have m00:=zhS hx0 hy0
 have m01:=zhS hx0 hy1
 rw [e,f,u64_and_nat x _ hx (by decide),u64_and_nat y _ hy (by decide),zj9,zj9]
 simp only [← Int.natCast_ediv, ← Int.natCast_mul]
 generalize x / 4294967296 * (y / 4294967296) = p11 at *
 generalize x / 4294967296 * (y % 4294967296) = p10 at *
 generalize x % 4294967296 * (y % 4294967296) = p00 at *
 generalize x % 4294967296 * (y / 4294967296) = p01 at *
 rw [zb7 p11 (by omega),zb7 p10 (by omega),zb7 p00 (by omega),zb7 p01 (by omega)]
 simp only [← Int.natCast_ediv, ← Int.natCast_add]
 rw [zb7 (p10 + p00 / 4294967296) (by omega),u64_and_nat _ _ (by omega) (by decide),zj9]
 simp only [← Int.natCast_ediv, ← Int.natCast_add]
 rw [zb7 _ (by omega),zb7 _ (by omega)]
 simp only [← Int.natCast_ediv, ← Int.natCast_add]
 rw [zb7 _ (by omega)]
 unfold zdw
 rw [show x * y + 0 + 0 = x * y from rfl, ← hh]
theorem zAj (x y:Nat):IntKind.u64.wrap (↑x * ↑y) = ((zdo x y 0 0:Nat):Int):=by
 rw [← Int.natCast_mul,IntKind.wrap_u64];unfold zdo B64;omega
theorem mul (x y:Nat) (hx:x < 18446744073709551616) (hy:y < 18446744073709551616) (w:World):Calls Tryz.prog 177 #[.int .u64 x, .int .u64 y] w fun e w' => e = .returned (.tuple #[.int .u64 (zdw x y 0 0:Nat), .int .u64 (zdo x y 0 0:Nat)]) ∧ w = w':=by
 have hA:=zAi x y hx hy
 have hB:=zAj x y
 go_enter Tryz.func177,Tryz.ntmps177
 go_wp2
 go_ret2
 refine ⟨zqv ?_ ?_,rfl⟩
 ·rfl
 ·rfl
theorem zxl (x y a b:Nat) :
  zjj (zjj (zdo x y 0 0) a 0) b 0 = zdo x y a b ∧ zdw x y 0 0 + zlD (zdo x y 0 0) a 0 + zlD (zjj (zdo x y 0 0) a 0) b 0 = zdw x y a b:=by
 unfold zjj zlD zdo zdw B64
 generalize x * y = p
 omega
theorem mulAdd (x y a b:Nat) (hx:x < 18446744073709551616) (hy:y < 18446744073709551616) (ha:a < 18446744073709551616) (hb:b < 18446744073709551616) (w:World) :
  Calls Tryz.prog 156 #[.int .u64 x, .int .u64 y, .int .u64 a, .int .u64 b] w fun e w' => e = .returned (.tuple #[.int .u64 (zdw x y a b:Nat), .int .u64 (zdo x y a b:Nat)]) ∧ w = w':=by
 have h1:=zrG x y 0 0
 have h2:=ztQ (zdo x y 0 0) a 0
 have h:=zxl x y a b
 have hH:=zxp hx hy ha hb
 have e1:IntKind.u64.wrap ((zdw x y 0 0:Nat) + (zlD (zdo x y 0 0) a 0:Nat):Int) = ((zdw x y 0 0 + zlD (zdo x y 0 0) a 0:Nat):Int):=by
  rw [← Int.natCast_add];exact zb7 _ (by omega)
 have e2:IntKind.u64.wrap (((zdw x y 0 0 + zlD (zdo x y 0 0) a 0:Nat):Int) + (zlD (zjj (zdo x y 0 0) a 0) b 0:Nat)) = ((zdw x y a b:Nat):Int):=by
  rw [← Int.natCast_add,h.2];exact zb7 _ hH
 have H:=hid h
 have E1:=hid e1
 have E2:=hid e2
 clear h e1 e2
 go_enter Tryz.func156,Tryz.ntmps156
 go_wp2_with fail
 refine (mul x y hx hy _).mono ?_
 rintro e w' ⟨rfl,rfl⟩
 go_wp2_with fail
 refine (add _ a 0 h1 ha (by omega) _).mono ?_
 rintro e w' ⟨rfl,rfl⟩
 go_wp2_with fail
 refine (add _ b 0 h2 hb (by omega) _).mono ?_
 rintro e w' ⟨rfl,rfl⟩
 go_wp2
 go_ret2
 refine ⟨zqv ?_ ?_,rfl⟩
 ·exact (congrArg (fun z => IntKind.u64.wrap (z + _)) E1.out).trans E2.out
 ·exact congrArg Int.ofNat H.out.1
end Word
end Go.Proofs.YtdbgbaiekpbaoaaGreatDoor
namespace Go.Proofs.YtdbgbaiekpbaoaaGreatDoor
open Go.RowKit Am
open Lib (hid)
set_option maxHeartbeats 1000000
namespace Word
def zpm (K:Int) (X:Nat):Prop:=((K = 32 ∧ X < 2 ^ 64) ∨ (K = 16 ∧ X < 2 ^ 32) ∨ (K = 8 ∧ X < 2 ^ 16) ∨ (K = 4 ∧ X < 2 ^ 8) ∨ (K = 2 ∧ X < 2 ^ 4) ∨ (K = 1 ∧ X < 2 ^ 2) ∨ (K = 0 ∧ X < 2))
def zfe (x0:Nat) (x n k:Value):Prop := ∃ (N:Nat) (K:Int) (X:Nat),n = .int .i64 N ∧ k = .int .i64 K ∧ x = .int .u64 X ∧ N ≤ 64 ∧ X < 18446744073709551616 ∧ blen x0 = N + blen X ∧ zpm K X
theorem zfe.hit {x0 N X K:Nat} (K2:Int) (hb:blen x0 = N + blen X) (hx0:x0 < 18446744073709551616) (hX:X < 2 ^ (K + K)) (hne:X / 2 ^ K ≠ 0)
  (hd:∀ Y,Y < 2 ^ K → zpm K2 Y) (hXs:X < 18446744073709551616) :
  zfe x0 (.int .u64 ((X / 2 ^ K:Nat):Int)) (.int .i64 ((N:Int) + (K:Int))) (.int .i64 K2):=by
 have hbs:=zr2 hne
 have h64:=zmT hx0
 refine ⟨N + K,K2,X / 2 ^ K,by simp,rfl,rfl,by omega,?_,by omega,hd _ ?_⟩
 ·exact Nat.lt_of_le_of_lt (Nat.div_le_self _ _) hXs
 ·rw [Nat.div_lt_iff_lt_mul (Nat.pow_pos (by decide)), ← Nat.pow_add];exact hX
theorem zfe.miss {x0 N X K:Nat} (K2:Int) (hb:blen x0 = N + blen X) (hN:N ≤ 64) (hne:X / 2 ^ K = 0)
  (hd:∀ Y,Y < 2 ^ K → zpm K2 Y) (hXs:X < 18446744073709551616) :
  zfe x0 (.int .u64 (X:Int)) (.int .i64 (N:Int)) (.int .i64 K2):=by
 refine ⟨N,K2,X,rfl,rfl,rfl,hN,hXs,hb,hd _ ?_⟩
 have hp:0 < 2 ^ K:=Nat.pow_pos (by decide)
 rcases Nat.lt_or_ge X (2 ^ K) with h | h
 ·exact h
 ·have:=Nat.div_pos h hp;omega

theorem len (x:Nat) (hx:x < 18446744073709551616) (w:World):Calls Tryz.prog 191 #[.int .u64 x] w fun e w' => e = .returned (.int .i64 (blen x:Nat)) ∧ ∃ n,w' = w.drewN n:=by
 go_enter Tryz.func191,Tryz.ntmps191
 go_wp2
 go_loopw [0,3,4] (fun x' n k wr => zfe x x' n k ∧ ∃ q,wr = w.drewN q) (fun _ _ k _ => (intOf k).toNat)
 case atStart => exact ⟨⟨0,32,x,rfl,rfl,rfl,by omega,hx,by omega, .inl ⟨rfl,by simpa using hx⟩⟩,0,rfl⟩
 case round =>
  obtain ⟨⟨N,K,X,rfl,rfl,rfl,hN,hXs,hb,hc⟩,q,rfl⟩:=hrel
  have HB:=hid hb
  clear hb
  have HC:=hid hc
  rcases hc with ⟨rfl,hX⟩ | ⟨rfl,hX⟩ | ⟨rfl,hX⟩ | ⟨rfl,hX⟩ | ⟨rfl,hX⟩ | ⟨rfl,hX⟩ | ⟨rfl,hX⟩
  ·by_cases h0:X / 2 ^ 32 = 0
   ·have HM:=hid (zfe.miss (K:=32) 16 HB.out hN h0 (fun Y h => by unfold zpm;omega) hXs)
    have hT:((X:Int) / 4294967296 != 0) = false:=by rw [bne_eq_false_iff_eq];omega
    clear h0
    go_wp2
    go_roundw
    case rel => exact ⟨HM.out,q,rfl⟩
    case measure => simp [intOf]
   ·have HM:=hid (zfe.hit (K:=32) 16 HB.out hx (by omega) h0 (fun Y h => by unfold zpm;omega) hXs)
    have hT:((X:Int) / 4294967296 != 0) = true:=by rw [bne_iff_ne];omega
    clear h0
    go_wp2
    go_quiet (fail)
    go_wp2
    go_roundw
    case rel => exact ⟨HM.out,_,rfl⟩
    case measure => simp [intOf]
  ·by_cases h0:X / 2 ^ 16 = 0
   ·have HM:=hid (zfe.miss (K:=16) 8 HB.out hN h0 (fun Y h => by unfold zpm;omega) hXs)
    have hT:((X:Int) / 65536 != 0) = false:=by rw [bne_eq_false_iff_eq];omega
    clear h0
    go_wp2
    go_roundw
    case rel => exact ⟨HM.out,q,rfl⟩
    case measure => simp [intOf]
   ·have HM:=hid (zfe.hit (K:=16) 8 HB.out hx (by omega) h0 (fun Y h => by unfold zpm;omega) hXs)
    have hT:((X:Int) / 65536 != 0) = true:=by rw [bne_iff_ne];omega
    clear h0
    go_wp2
    go_quiet (fail)
    go_wp2
    go_roundw
    case rel => exact ⟨HM.out,_,rfl⟩
    case measure => simp [intOf]
  ·by_cases h0:X / 2 ^ 8 = 0
   ·have HM:=hid (zfe.miss (K:=8) 4 HB.out hN h0 (fun Y h => by unfold zpm;omega) hXs)
    have hT:((X:Int) / 256 != 0) = false:=by rw [bne_eq_false_iff_eq];omega
    clear h0
    go_wp2
    go_roundw
    case rel => exact ⟨HM.out,q,rfl⟩
    case measure => simp [intOf]
   ·have HM:=hid (zfe.hit (K:=8) 4 HB.out hx (by omega) h0 (fun Y h => by unfold zpm;omega) hXs)
    have hT:((X:Int) / 256 != 0) = true:=by rw [bne_iff_ne];omega
    clear h0
    go_wp2
    go_quiet (fail)
    go_wp2
    go_roundw
    case rel => exact ⟨HM.out,_,rfl⟩
    case measure => simp [intOf]
  ·by_cases h0:X / 2 ^ 4 = 0
   ·have HM:=hid (zfe.miss (K:=4) 2 HB.out hN h0 (fun Y h => by unfold zpm;omega) hXs)
    have hT:((X:Int) / 16 != 0) = false:=by rw [bne_eq_false_iff_eq];omega
    clear h0
    go_wp2
    go_roundw
    case rel => exact ⟨HM.out,q,rfl⟩
    case measure => simp [intOf]
   ·have HM:=hid (zfe.hit (K:=4) 2 HB.out hx (by omega) h0 (fun Y h => by unfold zpm;omega) hXs)
    have hT:((X:Int) / 16 != 0) = true:=by rw [bne_iff_ne];omega
    clear h0
    go_wp2
    go_quiet (fail)
    go_wp2
    go_roundw
    case rel => exact ⟨HM.out,_,rfl⟩
    case measure => simp [intOf]
  ·by_cases h0:X / 2 ^ 2 = 0
   ·have HM:=hid (zfe.miss (K:=2) 1 HB.out hN h0 (fun Y h => by unfold zpm;omega) hXs)
    have hT:((X:Int) / 4 != 0) = false:=by rw [bne_eq_false_iff_eq];omega
    clear h0
    go_wp2
    go_roundw
    case rel => exact ⟨HM.out,q,rfl⟩
    case measure => simp [intOf]
   ·have HM:=hid (zfe.hit (K:=2) 1 HB.out hx (by omega) h0 (fun Y h => by unfold zpm;omega) hXs)
    have hT:((X:Int) / 4 != 0) = true:=by rw [bne_iff_ne];omega
    clear h0
    go_wp2
    go_quiet (fail)
    go_wp2
    go_roundw
    case rel => exact ⟨HM.out,_,rfl⟩
    case measure => simp [intOf]
  ·by_cases h0:X / 2 ^ 1 = 0
   ·have HM:=hid (zfe.miss (K:=1) 0 HB.out hN h0 (fun Y h => by unfold zpm;omega) hXs)
    have hT:((X:Int) / 2 != 0) = false:=by rw [bne_eq_false_iff_eq];omega
    clear h0
    go_wp2
    go_roundw
    case rel => exact ⟨HM.out,q,rfl⟩
    case measure => simp [intOf]
   ·have HM:=hid (zfe.hit (K:=1) 0 HB.out hx (by omega) h0 (fun Y h => by unfold zpm;omega) hXs)
    have hT:((X:Int) / 2 != 0) = true:=by rw [bne_iff_ne];omega
    clear h0
    go_wp2
    go_quiet (fail)
    go_wp2
    go_roundw
    case rel => exact ⟨HM.out,_,rfl⟩
    case measure => simp [intOf]
  ·have hb:=HB.out
   rw [zr3 (x:=X) (by omega)] at hb
   have hX':X ≤ 1:=by omega
   have HB2:=hid hb
   clear hb
   go_wp2
   go_ret
   exact ⟨zst (by have:=HB2.out;omega),q,rfl⟩
theorem lead (x:Nat) (hx:x < 18446744073709551616) (w:World):Calls Tryz.prog 184 #[.int .u64 x] w fun e w' => e = .returned (.int .i64 ((64 - blen x:Nat):Int)) ∧ ∃ n,w' = w.drewN n:=by
 have hb:=zmT hx
 go_enter Tryz.func184,Tryz.ntmps184
 go_wp2_with fail
 refine (len x hx _).mono ?_
 rintro e w' ⟨rfl,n,rfl⟩
 go_wp2
 go_ret
 exact ⟨zst (by omega),n,rfl⟩

def zFR (u next y1 y0:Nat) (q r:Value):Prop := ∃ Q R:Nat,q = .int .u64 Q ∧ r = .int .u64 R ∧ R < 4294967296 ∧ DigInv u next y1 y0 Q R
def zz8 (u next y:Nat):Nat:=(u * 4294967296 + next) / y
def zpW (u next y:Nat):Nat:=(u * 4294967296 + next) % y
theorem zpX {u next y Q:Nat} (hy:9223372036854775808 ≤ y) (hyB:y < 18446744073709551616) (hQ:Q = zz8 u next y) (hle:Q * y ≤ u * 4294967296 + next) :
  IntKind.u64.wrap (IntKind.u64.wrap (IntKind.u64.wrap (↑u * 4294967296) + ↑next) - IntKind.u64.wrap (↑Q * ↑y)) = ((zpW u next y:Nat):Int):=by
 have hr:zpW u next y < y:=Nat.mod_lt _ (by omega)
 have hdm:=Nat.div_add_mod (u * 4294967296 + next) y
 have e:Q * y + zpW u next y = u * 4294967296 + next:=by
  rw [hQ];unfold zz8 zpW;rw [Nat.mul_comm];exact hdm
 have e2:(Q:Int) * (y:Int) = ((Q * y:Nat):Int):=(Int.natCast_mul Q y).symm
 rw [e2,IntKind.wrap_u64,IntKind.wrap_u64,IntKind.wrap_u64,IntKind.wrap_u64]
 generalize Q * y = p at *
 omega
theorem digit (u next y:Nat) (hy:9223372036854775808 ≤ y) (hyB:y < 18446744073709551616) (hu:u < y) (hn:next < 4294967296) (w:World) :
  Calls Tryz.prog 192 #[.int .u64 u, .int .u64 next, .int .u64 y] w fun e w' => e = .returned (.tuple #[.int .u64 (zz8 u next y:Nat), .int .u64 (zpW u next y:Nat)]) ∧ ∃ n,w' = w.drewN n:=by
 obtain ⟨y1,e1⟩:∃ y1,y1 = y / 4294967296:=⟨_,rfl⟩
 obtain ⟨y0,e0⟩:∃ y0,y0 = y % 4294967296:=⟨_,rfl⟩
 have h1:2147483648 ≤ y1:=by omega
 have h1':y1 < 4294967296:=by omega
 have h0:y0 < 4294967296:=by omega
 have hyy:y1 * 4294967296 + y0 = y:=by omega
 have hus:u < 18446744073709551616:=by omega
 obtain ⟨q0,eq0⟩:∃ q0,q0 = u / y1:=⟨_,rfl⟩
 obtain ⟨r0,er0⟩:∃ r0,r0 = u % y1:=⟨_,rfl⟩
 have hst:DigInv u next y1 y0 q0 r0:=by rw [eq0,er0];exact DigInv.start u next y1 y0 h1 h0 hn (by omega)
 have hr0:r0 < 4294967296:=by have : u % y1 < y1:=Nat.mod_lt _ (by omega);omega
 have hq0:=hst.le
 have E1:(y:Int) / 4294967296 = (y1:Int):=by omega
 have E0:bits BinOp.and IntKind.u64 (↑y) 4294967295 = (y0:Int):=by
  rw [show (4294967295:Int) = ((4294967295:Nat):Int) from rfl,u64_and_nat y _ hyB (by decide),zj9,e0]
 have EQ:IntKind.u64.wrap ((u:Int) / (y1:Int)) = (q0:Int):=by
  rw [← Int.natCast_ediv, ← eq0];exact zb7 _ (by omega)
 have ER:(u:Int) % (y1:Int) = (r0:Int):=by rw [← Int.natCast_emod, ← er0]
 have HY:=hid hyy
 have ER':=hid ER
 have ST:=hid hst
 clear hyy hst e1 e0 eq0 er0
 go_enter Tryz.func192,Tryz.ntmps192
 go_wp2
 go_quiet (fail)
 go_wp2
 clear E1 E0 EQ ER
 go_loopw [10,11] (fun q r wr => zFR u next y1 y0 q r ∧ ∃ n,wr = w.drewN n) (fun q _ _ => (intOf q).toNat)
 case atStart => exact ⟨⟨q0,r0,rfl,congrArg _ ER'.out,hr0,ST.out⟩,_,rfl⟩
 case round =>
  obtain ⟨⟨Q,R,rfl,rfl,hR,hD⟩,n,rfl⟩:=hrel
  have hQ:=hD.le
  have HD:=hid hD
  clear hD ST
  have key:(4294967295 < Q ∨ R * 4294967296 + next < Q * y0) → DigInv u next y1 y0 (Q - 1) (R + y1) :=
   fun hc => (HD.out.down (by rw [HY.out];exact hu) hn hc).1
  have KEY:=hid key
  clear key
  by_cases hA:4294967295 < Q
  ·have HN:=hid (KEY.out (.inl hA))
   have eQ:((Q - 1:Nat):Int) = (Q:Int) - 1:=by omega
   have EQ:=hid eQ
   by_cases hB:4294967295 < R + y1
   ·have hd:=HN.out.done h0 (.inr ⟨by omega,by have:=HN.out.le;omega⟩)
    rw [HY.out] at hd
    have hF:=zpX (next:=next) hy hyB hd.1 hd.2
    rw [eQ] at hF
    have HQ:=hid hd.1
    clear hd eQ
    go_wp2
    go_ret2
    exact ⟨zqv (EQ.out.symm.trans (congrArg Int.ofNat HQ.out)) rfl,n,rfl⟩
   ·clear eQ
    go_wp2
    go_roundw
    case rel => exact ⟨⟨Q - 1,R + y1,congrArg _ EQ.out.symm,by simp,by omega,HN.out⟩,n,rfl⟩
    case measure => simp [intOf];omega
  ·obtain ⟨p,ep⟩:∃ p,p = Q * y0:=⟨_,rfl⟩
   have hp:p ≤ 18446744065119617025:=by rw [ep];exact zhS (by omega) h0
   have EP:(Q:Int) * (y0:Int) = (p:Int):=by rw [ep];exact (Int.natCast_mul _ _).symm
   by_cases hC:R * 4294967296 + next < p
   ·have hQ0:0 < Q:=by
     rcases Nat.eq_zero_or_pos Q with rfl | h
     ·simp at ep;omega
     ·exact h
    have HN:=hid (KEY.out (.inr (by rw [← ep];exact hC)))
    have eQ:((Q - 1:Nat):Int) = (Q:Int) - 1:=by omega
    have EQ:=hid eQ
    clear ep
    by_cases hB:4294967295 < R + y1
    ·have hd:=HN.out.done h0 (.inr ⟨by omega,by have:=HN.out.le;omega⟩)
     rw [HY.out] at hd
     have hF:=zpX (next:=next) hy hyB hd.1 hd.2
     rw [eQ] at hF
     have HQ:=hid hd.1
     clear hd eQ
     go_wp2
     go_ret2
     exact ⟨zqv (EQ.out.symm.trans (congrArg Int.ofNat HQ.out)) rfl,n,rfl⟩
    ·clear eQ
     go_wp2
     go_roundw
     case rel => exact ⟨⟨Q - 1,R + y1,congrArg _ EQ.out.symm,by simp,by omega,HN.out⟩,n,rfl⟩
     case measure => simp [intOf];omega
   ·have hd:=HD.out.done h0 (.inl (by rw [← ep];omega))
    rw [HY.out] at hd
    have hF:=zpX (next:=next) hy hyB hd.1 hd.2
    have HQ:=hid hd.1
    clear hd ep
    go_wp2
    go_ret2
    exact ⟨zqv (congrArg Int.ofNat HQ.out) rfl,n,rfl⟩
end Word
end Go.Proofs.YtdbgbaiekpbaoaaGreatDoor
