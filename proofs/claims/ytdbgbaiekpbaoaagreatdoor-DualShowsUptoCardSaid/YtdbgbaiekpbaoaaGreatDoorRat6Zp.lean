/- rat.Cmp by the order,rat.Same. Conditions: as each says. rat.Inv,Div,Abs by their contracts. Conditions: as each says. Conditions: as they say. -/
import Derived.Test.YtdbgbaiekpbaoaaGreatDoorRat5Zp
import Derived.Test.YtdbgbaiekpbaoaaGreatDoorNat3Zp
set_option linter.all false
namespace Go.Proofs.YtdbgbaiekpbaoaaGreatDoor
open Go.RowKit Am
open Lib (hid)
attribute [local go_sem ↓] Go.wp_at_zero Go.wp_at_succ
set_option maxHeartbeats 2000000
set_option maxRecDepth 100000
def zlX (a b:Rat):Int:=if a < b then -1 else if b < a then 1 else 0
theorem zz6 (a b:Rat):ze9 (a.num * (b.den:Int)) (b.num * (a.den:Int)) = zlX a b:=by
 unfold ze9 zlX
 simp only [← Rat.lt_iff]
theorem zkD (a b:Rat):zlX a b = 0 ↔ a = b:=by
 unfold zlX
 split
 ·constructor
  ·intro h;omega
  ·rintro rfl;exact absurd ‹_› Rat.lt_irrefl
 ·split
  ·constructor
   ·intro h;omega
   ·rintro rfl;exact absurd ‹_› Rat.lt_irrefl
  ·constructor
   ·intro _;grind
   ·intro _;rfl
def zA9 (a b:Rat):Bool:=decide (a = b)
namespace Rt
theorem cmpr (g:Bool) (A:Option Addr) (m c:Nat) (D:Option Addr) (md cd:Nat) (a:Rat) (g':Bool) (A':Option Addr) (m' c':Nat) (D':Option Addr) (md' cd':Nat) (b:Rat) (w:World) (h:RatS w g (.slice A m c) (.slice D md cd) a) (h':RatS w g' (.slice A' m' c') (.slice D' md' cd') b) (hl:4 * (mw a + mw b) + 8 ≤ LIM) :
  Calls Tryz.prog 13 #[.agg #[.bool g, .slice A m c, .slice D md cd], .agg #[.bool g', .slice A' m' c', .slice D' md' cd']] w fun e w' => e = .returned (.int .i64 (zlX a b)) ∧ Below w.heap.size w w':=by
 rw [← zz6];exact cmp g A m c D md cd a g' A' m' c' D' md' cd' b w h h' hl
theorem same (g:Bool) (A:Option Addr) (m c:Nat) (D:Option Addr) (md cd:Nat) (a:Rat) (g':Bool) (A':Option Addr) (m' c':Nat) (D':Option Addr) (md' cd':Nat) (b:Rat) (w:World) (h:RatS w g (.slice A m c) (.slice D md cd) a) (h':RatS w g' (.slice A' m' c') (.slice D' md' cd') b) (hl:4 * (mw a + mw b) + 8 ≤ LIM) :
  Calls Tryz.prog 46 #[.agg #[.bool g, .slice A m c, .slice D md cd], .agg #[.bool g', .slice A' m' c', .slice D' md' cd']] w fun e w' => e = .returned (.bool (zA9 a b)) ∧ Below w.heap.size w w':=by
 have HL:=hid hl
 have HS:=hid (show (zlX a b == 0) = zA9 a b from decide_eq_decide.2 (zkD a b))
 generalize zA9 a b = bs at *
 clear hl
 obtain ⟨W,hW⟩:∃ W,((w.alloc (.cells #[.bool g, .slice A m c, .slice D md cd] 35)).alloc (.cells #[.bool g', .slice A' m' c', .slice D' md' cd'] 35)) = W:=⟨_,rfl⟩
 have KB0:=hid (show W.heap[w.heap.size]? = some (.cells #[.bool g, .slice A m c, .slice D md cd] 35 (0,0)) by rw [← hW];exact zak (zam (by simp)))
 have KB1:=hid (show W.heap[w.heap.size + 1]? = some (.cells #[.bool g', .slice A' m' c', .slice D' md' cd'] 35 (0,0)) by rw [← hW];exact zam (by simp))
 have BB:=hid (show Below w.heap.size w W by rw [← hW];exact (zae w _).alloc (by simp) _)
 have HX:=hid (show RatS W g (.slice A m c) (.slice D md cd) a by rw [← hW];exact ((h).alloc _).alloc _)
 have HY:=hid (show RatS W g' (.slice A' m' c') (.slice D' md' cd') b by rw [← hW];exact ((h').alloc _).alloc _)
 obtain ⟨zaK,_,zaL,_,zbO,_⟩:=bc3 KB0.out
 obtain ⟨zbr,_,zbP,_,zcJ,_⟩:=bc3 KB1.out
 clear h h'
 go_enter Tryz.func46,Tryz.ntmps46
 go_wp2_with fail
 clear hW
 with_reducible refine (cmpr g A m c D md cd a g' A' m' c' D' md' cd' b _ HX.out HY.out HL.out).mono ?_
 rintro e w1 ⟨rfl,hb⟩
 have zaQ:=hid (BB.out.trans ((hb).mono BB.out.size))
 clear hb
 have hs:=HS.out
 go_wp2
 go_ret
 exact ⟨by rw [← HS.out];rfl,zaQ.out⟩
end Rt
end Go.Proofs.YtdbgbaiekpbaoaaGreatDoor
namespace Go.Proofs.YtdbgbaiekpbaoaaGreatDoor
open Go.RowKit Am
open Lib (hid)
attribute [local go_sem ↓] Go.wp_at_zero Go.wp_at_succ
set_option maxHeartbeats 4000000
set_option maxRecDepth 100000
theorem zyx {q:Rat} (h:q ≠ 0):q.num ≠ 0:=fun e => h (Rat.num_eq_zero.1 e)
theorem zuX (q:Rat):Rat.divInt (q.den:Int) q.num = q⁻¹:=(Rat.inv_def q).symm
theorem zva (q:Rat):mw q⁻¹ ≤ mw q:=by
 by_cases h:q = 0
 ·subst h;rw [Rat.inv_zero];exact Nat.le_refl _
 ·rw [← zuX]
  have:=zhX (q.den:Int) q.num (zyx h)
  rw [Int.natAbs_natCast] at this
  have:=zd2 q;have:=zds q;omega
theorem mw0:mw 0 ≤ 1:=by decide
theorem mw1:mw 1 ≤ 1:=by decide
theorem zo5:SzLaw mw:=⟨zrI,zdI,zhY,zva,mw0,mw1⟩
namespace Rt
theorem inv (g:Bool) (A:Option Addr) (m c:Nat) (D:Option Addr) (md cd:Nat) (q:Rat) (w:World) (h:RatS w g (.slice A m c) (.slice D md cd) q) (hq:q ≠ 0) (hl:mw q + 1 ≤ LIM) :
  Calls Tryz.prog 110 #[.agg #[.bool g, .slice A m c, .slice D md cd]] w (zii w q⁻¹ true):=by
 have HV:=hid (zuX q)
 have HQ:=hid (zyx hq)
 have L1:=hid (show wlen (q.den:Int).natAbs + 1 ≤ LIM by rw [Int.natAbs_natCast];have:=zds q;omega)
 have L2:=hid (show wlen q.num.natAbs + 1 ≤ LIM by have:=zd2 q;omega)
 clear hq hl
 obtain ⟨W,hW⟩:∃ W,((w.alloc (.cells #[.bool g, .slice A m c, .slice D md cd] 35)).alloc (.cells #[.bool false, .slice none 0 0, .slice none 0 0] 35)) = W:=⟨_,rfl⟩
 have KB0:=hid (show W.heap[w.heap.size]? = some (.cells #[.bool g, .slice A m c, .slice D md cd] 35 (0,0)) by rw [← hW];exact zak (zam (by simp)))
 have KB1:=hid (show W.heap[w.heap.size + 1]? = some (.cells #[.bool false, .slice none 0 0, .slice none 0 0] 35 (0,0)) by rw [← hW];exact zam (by simp))
 have BB:=hid (show Below w.heap.size w W by rw [← hW];exact (zae w _).alloc (by simp) _)
 have HX:=hid (show RatS W g (.slice A m c) (.slice D md cd) q by rw [← hW];exact ((h).alloc _).alloc _)
 obtain ⟨zaK,_,zaL,_,zbO,_⟩:=bc3 KB0.out
 clear h
 go_enter Tryz.func110,Tryz.ntmps110
 go_wp2_with fail
 clear hW
 go_region_held3 (fun w' => w'.cell? ⟨w.heap.size,0,none⟩ = some (.bool g) ∧ w'.cell? ⟨w.heap.size,1,none⟩ = some (.slice A m c) ∧ w'.cell? ⟨w.heap.size,2,none⟩ = some (.slice D md cd))
  (((try go_split_ands);(try simp only [World.cell?_drew]);(repeat' apply And.intro) <;> (repeat (first | with_reducible assumption | with_reducible refine cell_set (by omega) ?_ | with_reducible refine cell_al ?_))))
  (first
   | (go_at_call 55;(with_reducible refine (below g A m c D md cd q _ HX.out.drew).mono ?_);rintro e v1 ⟨g1,A1,m1,c1,rfl,hn,hb⟩;have zaq:=hid (zad hb KB0.out);have za0:=hid (zad hb KB1.out);have zif:=hid (HX.out.drew.below hb);have HN:=hid (show IntS v1 g1 (.slice A1 m1 c1) (q.den:Int) from hn);have zaQ:=hid (BB.out.trans ((It.bdrew0' hb).mono BB.out.size));obtain ⟨zaI,_,zaJ,_,zbC,_⟩:=bc3 zaq.out;clear hn hb)
   | (go_at_call 56;(with_reducible refine (newd g1 A1 m1 c1 (q.den:Int) g A m c q.num _ HN.out (by have h:=zif.out;exact h.num) HQ.out L1.out L2.out).mono ?_);rintro e v2 ⟨g2,A2,m2,c2,D2,md2,cd2,rfl,hn,hb⟩;have zaD:=hid (zad hb zaq.out);have zbb:=hid (zad hb za0.out);have HR:=hid (show RatS v2 g2 (.slice A2 m2 c2) (.slice D2 md2 cd2) (Rat.divInt (q.den:Int) q.num) from hn);have zbj:=hid (zaQ.out.trans ((hb).mono zaQ.out.size));obtain ⟨zaU,_,zaV,_,zdr,_⟩:=bc3 zaD.out;obtain ⟨zbi,zaX,zb2,_,zbp,za3,zcg,_,zc2,zbL,zef,_⟩:=bf3 zbb.out;clear hn hb)
   | fail)
 all_goals
  go_wp2
  refine bodyPost_ret (v := .tuple #[.agg #[.bool g2, .slice A2 m2 c2, .slice D2 md2 cd2], .bool true]) (by simp [results,Tryz.results110,go_sem,zbi,zaX,zbp,za3,zc2,zbL]) rfl ?_
  have hi:=HR.out
  rw [HV.out] at hi
  exact ⟨g2,A2,m2,c2,D2,md2,cd2,rfl,hi.set3 zbb.out (by decide) _ _ _,Below.setCell (Below.setCell (Below.setCell (zbj.out) (p:=⟨w.heap.size + 1,0,none⟩) (by show w.heap.size ≤ w.heap.size + 1;omega) _) (p:=⟨w.heap.size + 1,1,none⟩) (by show w.heap.size ≤ w.heap.size + 1;omega) _) (p:=⟨w.heap.size + 1,2,none⟩) (by show w.heap.size ≤ w.heap.size + 1;omega) _⟩
theorem div (g:Bool) (A:Option Addr) (m c:Nat) (D:Option Addr) (md cd:Nat) (a:Rat) (g':Bool) (A':Option Addr) (m' c':Nat) (D':Option Addr) (md' cd':Nat) (b:Rat) (w:World) (h:RatS w g (.slice A m c) (.slice D md cd) a) (h':RatS w g' (.slice A' m' c') (.slice D' md' cd') b) (hb:b ≠ 0) (hl:4 * (mw a + mw b) + 8 ≤ LIM) :
  Calls Tryz.prog 51 #[.agg #[.bool g, .slice A m c, .slice D md cd], .agg #[.bool g', .slice A' m' c', .slice D' md' cd']] w (zii w (a / b) true):=by
 have HV:=hid (Rat.div_def a b)
 have HB:=hid hb
 have L1:=hid (show mw b + 1 ≤ LIM by omega)
 have L2:=hid (show 4 * (mw a + mw b⁻¹) + 8 ≤ LIM by have:=zva b;omega)
 clear hb hl
 obtain ⟨W,hW⟩:∃ W,(((w.alloc (.cells #[.bool g, .slice A m c, .slice D md cd] 35)).alloc (.cells #[.bool g', .slice A' m' c', .slice D' md' cd'] 35)).alloc (.cells #[.bool false, .slice none 0 0, .slice none 0 0] 35)) = W:=⟨_,rfl⟩
 have KB0:=hid (show W.heap[w.heap.size]? = some (.cells #[.bool g, .slice A m c, .slice D md cd] 35 (0,0)) by rw [← hW];exact zak (zak (zam (by simp))))
 have KB1:=hid (show W.heap[w.heap.size + 1]? = some (.cells #[.bool g', .slice A' m' c', .slice D' md' cd'] 35 (0,0)) by rw [← hW];exact zak (zam (by simp)))
 have KB2:=hid (show W.heap[w.heap.size + 1 + 1]? = some (.cells #[.bool false, .slice none 0 0, .slice none 0 0] 35 (0,0)) by rw [← hW];exact zam (by simp))
 have BB:=hid (show Below w.heap.size w W by rw [← hW];exact ((zae w _).alloc (by simp) _).alloc (by simp;omega) _)
 have HX:=hid (show RatS W g (.slice A m c) (.slice D md cd) a by rw [← hW];exact (((h).alloc _).alloc _).alloc _)
 have HY:=hid (show RatS W g' (.slice A' m' c') (.slice D' md' cd') b by rw [← hW];exact (((h').alloc _).alloc _).alloc _)
 obtain ⟨zbr,_,zbP,_,zcJ,_⟩:=bc3 KB1.out
 clear h h'
 go_enter Tryz.func51,Tryz.ntmps51
 go_wp2_with fail
 clear hW
 with_reducible refine (inv g' A' m' c' D' md' cd' b _ HY.out HB.out L1.out).mono ?_
 rintro e w1 ⟨g1,A1,m1,c1,D1,md1,cd1,rfl,hn,hb⟩
 have zaq:=hid (show (w1.alloc (.cells #[.bool g1, .slice A1 m1 c1, .slice D1 md1 cd1] 35)).heap[w.heap.size]? = some (.cells #[.bool g, .slice A m c, .slice D md cd] 35 (0,0)) from zak (zad hb KB0.out))
 have zcu:=hid (show (w1.alloc (.cells #[.bool g1, .slice A1 m1 c1, .slice D1 md1 cd1] 35)).heap[w.heap.size + 1 + 1]? = some (.cells #[.bool false, .slice none 0 0, .slice none 0 0] 35 (0,0)) from zak (zad hb KB2.out))
 have zif:=hid (show RatS (w1.alloc (.cells #[.bool g1, .slice A1 m1 c1, .slice D1 md1 cd1] 35)) g (.slice A m c) (.slice D md cd) a from (HX.out.below hb).alloc _)
 have HI:=hid (show RatS (w1.alloc (.cells #[.bool g1, .slice A1 m1 c1, .slice D1 md1 cd1] 35)) g1 (.slice A1 m1 c1) (.slice D1 md1 cd1) b⁻¹ from (hn).alloc _)
 have zaQ:=hid (show Below w.heap.size w (w1.alloc (.cells #[.bool g1, .slice A1 m1 c1, .slice D1 md1 cd1] 35)) from ((BB.out.trans ((hb).mono BB.out.size))).alloc ((BB.out.trans ((hb).mono BB.out.size))).size _)
 have zCo:=hid (show (w1.alloc (.cells #[.bool g1, .slice A1 m1 c1, .slice D1 md1 cd1] 35)).heap[w1.heap.size]? = some (.cells #[.bool g1, .slice A1 m1 c1, .slice D1 md1 cd1] 35 (0,0)) from zam (by simp))
 obtain ⟨zaI,_,zaJ,_,zbC,_⟩:=bc3 zaq.out
 obtain ⟨zJt,_,zJw,_,zJz,_⟩:=bc3 zCo.out
 clear hn hb
 go_wp2_with fail
 with_reducible refine (mul g A m c D md cd a g1 A1 m1 c1 D1 md1 cd1 b⁻¹ _ zif.out HI.out L2.out).mono ?_
 rintro e w2 ⟨g2,A2,m2,c2,D2,md2,cd2,rfl,hn,hb⟩
 have zih:=hid (zad hb zcu.out)
 have HM:=hid (show RatS w2 g2 (.slice A2 m2 c2) (.slice D2 md2 cd2) (a * b⁻¹) from hn)
 have zbj:=hid (zaQ.out.trans ((hb).mono zaQ.out.size))
 obtain ⟨ze6,zdm,zp9,_,ze7,zdn,zqa,_,zfv,zdB,zqb,_⟩:=bf3 zih.out
 clear hn hb
 go_wp2
 refine bodyPost_ret (v := .tuple #[.agg #[.bool g2, .slice A2 m2 c2, .slice D2 md2 cd2], .bool true]) (by simp [results,Tryz.results51,go_sem,ze6,zdm,ze7,zdn,zfv,zdB]) rfl ?_
 have hi:=HM.out
 rw [← HV.out] at hi
 exact ⟨g2,A2,m2,c2,D2,md2,cd2,rfl,hi.set3 zih.out (by decide) _ _ _,Below.setCell (Below.setCell (Below.setCell (zbj.out) (p:=⟨w.heap.size + 1 + 1,0,none⟩) (by show w.heap.size ≤ w.heap.size + 1 + 1;omega) _) (p:=⟨w.heap.size + 1 + 1,1,none⟩) (by show w.heap.size ≤ w.heap.size + 1 + 1;omega) _) (p:=⟨w.heap.size + 1 + 1,2,none⟩) (by show w.heap.size ≤ w.heap.size + 1 + 1;omega) _⟩
end Rt
end Go.Proofs.YtdbgbaiekpbaoaaGreatDoor
