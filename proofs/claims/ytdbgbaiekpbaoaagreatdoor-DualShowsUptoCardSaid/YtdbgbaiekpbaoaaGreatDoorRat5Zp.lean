/- rat.Of,Add,Sub,Mul,Cmp by their contracts. Conditions: as each says. -/
import Derived.Test.YtdbgbaiekpbaoaaGreatDoorRat3Zp
import Derived.Test.YtdbgbaiekpbaoaaGreatDoorVec1Zp
set_option linter.all false
namespace Go.Proofs.YtdbgbaiekpbaoaaGreatDoor
open Go.RowKit Am
open Lib (hid)
attribute [local go_sem ↓] Go.wp_at_zero Go.wp_at_succ
set_option maxHeartbeats 8000000
set_option maxRecDepth 100000
theorem ziR.al {B u:World} {g:Bool} {A:Option Addr} {m c:Nat} {z:Int} (hb:Below B.heap.size B (u.alloc (.cells #[.bool g, .slice A m c] 33))) (hn:B.heap.size ≤ u.heap.size) (hi:IntS u g (.slice A m c) z) :
  ziR B (.pointer (some ⟨u.heap.size,0,none⟩)) (u.alloc (.cells #[.bool g, .slice A m c] 33)) z:=⟨_,g,A,m,c,rfl,hb,hn,zal _ _ _,hi.alloc _⟩
theorem zcD.al {B u:World} {g:Bool} {A:Option Addr} {m c:Nat} {D:Option Addr} {md cd:Nat} {q:Rat} (hb:Below B.heap.size B (u.alloc (.cells #[.bool g, .slice A m c, .slice D md cd] 35))) (hn:B.heap.size ≤ u.heap.size) (hi:RatS u g (.slice A m c) (.slice D md cd) q) :
  zcD B (.pointer (some ⟨u.heap.size,0,none⟩)) (u.alloc (.cells #[.bool g, .slice A m c, .slice D md cd] 35)) q:=⟨_,g,A,m,c,D,md,cd,rfl,hb,hn,zal _ _ _,hi.alloc _⟩
namespace Rt
theorem mul (g:Bool) (A:Option Addr) (m c:Nat) (D:Option Addr) (md cd:Nat) (a:Rat) (g':Bool) (A':Option Addr) (m' c':Nat) (D':Option Addr) (md' cd':Nat) (b:Rat) (w:World) (h:RatS w g (.slice A m c) (.slice D md cd) a) (h':RatS w g' (.slice A' m' c') (.slice D' md' cd') b) (hl:4 * (mw a + mw b) + 8 ≤ LIM) :
  Calls Tryz.prog 14 #[.agg #[.bool g, .slice A m c, .slice D md cd], .agg #[.bool g', .slice A' m' c', .slice D' md' cd']] w (ze4 w (a * b)):=by
 have L1:=hid (show 4 * wlen a.num.natAbs ≤ LIM by have:=zd2 a;omega)
 have L3:=hid (show 4 * wlen b.num.natAbs ≤ LIM by have:=zd2 b;omega)
 have L5:=hid (show 4 * wlen a.den ≤ LIM by have:=zds a;omega)
 have L6:=hid (show 4 * wlen b.den ≤ LIM by have:=zds b;omega)
 have L7:=hid (show wlen (((a.den * b.den:Nat):Int)).natAbs + 1 ≤ LIM by have:=zic a b;omega)
 have L8:=hid (show wlen (a.num * b.num).natAbs + 1 ≤ LIM by have:=zpd a b;omega)
 have HV:=hid (zu5 a b)
 have HD0:=hid (zrl a b)
 clear hl
 obtain ⟨W,hW⟩:∃ W,(((w.alloc (.cells #[.bool g, .slice A m c, .slice D md cd] 35)).alloc (.cells #[.bool g', .slice A' m' c', .slice D' md' cd'] 35)).alloc (.cells #[.bool false, .slice none 0 0, .slice none 0 0] 35)) = W:=⟨_,rfl⟩
 have KB0:=hid (show W.heap[w.heap.size]? = some (.cells #[.bool g, .slice A m c, .slice D md cd] 35 (0,0)) by rw [← hW];exact zak (zak (zam (by simp))))
 have KB1:=hid (show W.heap[w.heap.size + 1]? = some (.cells #[.bool g', .slice A' m' c', .slice D' md' cd'] 35 (0,0)) by rw [← hW];exact zak (zam (by simp)))
 have KB2:=hid (show W.heap[w.heap.size + 1 + 1]? = some (.cells #[.bool false, .slice none 0 0, .slice none 0 0] 35 (0,0)) by rw [← hW];exact zam (by simp))
 have BB:=hid (show Below w.heap.size w W by rw [← hW];exact ((zae w _).alloc (by simp) _).alloc (by simp;omega) _)
 have HX:=hid (show RatS W g (.slice A m c) (.slice D md cd) a by rw [← hW];exact (((h).alloc _).alloc _).alloc _)
 have HY:=hid (show RatS W g' (.slice A' m' c') (.slice D' md' cd') b by rw [← hW];exact (((h').alloc _).alloc _).alloc _)
 obtain ⟨zaK,_,zaL,_,zbO,_⟩:=bc3 KB0.out
 obtain ⟨zbr,_,zbP,_,zcJ,_⟩:=bc3 KB1.out
 clear h h'
 go_enter Tryz.func14,Tryz.ntmps14
 go_wp2_with fail
 clear hW
 have HS:=hid (show ∀ w',Below W.heap.size W w' → ((w'.cell? ⟨w.heap.size,0,none⟩ = some (.bool g) ∧ w'.cell? ⟨w.heap.size,1,none⟩ = some (.slice A m c) ∧ w'.cell? ⟨w.heap.size,2,none⟩ = some (.slice D md cd) ∧ w'.cell? ⟨w.heap.size + 1,0,none⟩ = some (.bool g') ∧ w'.cell? ⟨w.heap.size + 1,1,none⟩ = some (.slice A' m' c') ∧ w'.cell? ⟨w.heap.size + 1,2,none⟩ = some (.slice D' md' cd')) ∧ Below W.heap.size W w') from fun w' h => ⟨⟨zab h zaK,zab h zaL,zab h zbO,zab h zbr,zab h zbP,zab h zcJ⟩,h⟩)
 go_cut [5] (fun s5 wr => zcD W s5 wr (a * b))
 case first =>
  go_region_held3 (fun w' => ((w'.cell? ⟨w.heap.size,0,none⟩ = some (.bool g) ∧ w'.cell? ⟨w.heap.size,1,none⟩ = some (.slice A m c) ∧ w'.cell? ⟨w.heap.size,2,none⟩ = some (.slice D md cd) ∧ w'.cell? ⟨w.heap.size + 1,0,none⟩ = some (.bool g') ∧ w'.cell? ⟨w.heap.size + 1,1,none⟩ = some (.slice A' m' c') ∧ w'.cell? ⟨w.heap.size + 1,2,none⟩ = some (.slice D' md' cd')) ∧ Below W.heap.size W w'))
   ((refine HS.out _ ?_;repeat (first | exact Below.refl _ _ | exact (by assumption:_ ∧ Below _ _ _).2 | with_reducible refine bdrew ?_ | with_reducible refine al2 ?_ _ | with_reducible refine set2 ?_ (by omega) | with_reducible refine zc1 ?_ (by assumption))))
   (first
    | (go_at_call 54;(with_reducible refine (It.mul g A m c a.num g' A' m' c' b.num _ (by have h:=(HX.out.below (by assumption:_ ∧ Below _ _ _).2);exact h.num) (by have h:=(HY.out.below (by assumption:_ ∧ Below _ _ _).2);exact h.num) L1.out L3.out).mono ?_);rintro e u1 ⟨g2,A2,m2,c2,rfl,hn,hb1⟩;have hz1:=hb1.size;(try simp at hz1);have hze1:W.heap.size ≤ u1.heap.size:=(by omega);(try ((first | (have XB:=hid (zbc (cs := #[.bool false, .slice none 0 0, .slice none 0 0]) (t:=35) hb1 XB.out)) | (have XB:=hid (zbc (cs := #[.bool false, .slice none 0 0, .slice none 0 0]) (t:=35) hb1 (zal _ _ _))));have XBc0:=zac XB.out 0;have XBf0:=zag XB.out 0;have XBc1:=zac XB.out 1;have XBf1:=zag XB.out 1;have XBc2:=zac XB.out 2;have XBf2:=zag XB.out 2));have N2:=hid hn;clear hn)
    | (go_at_call 59;(with_reducible refine (den g A m c D md cd a _ (HX.out.below (by assumption:_ ∧ Below _ _ _).2)).mono ?_);rintro e u2 ⟨A3,m3,c3,rfl,hn,hb2⟩;have hz2:=hb2.size;(try simp at hz2);have hze2:W.heap.size ≤ u2.heap.size:=(by omega);(try ((first | (have XB:=hid (zbc (cs := #[.bool false, .slice none 0 0, .slice none 0 0]) (t:=35) hb2 XB.out)) | (have XB:=hid (zbc (cs := #[.bool false, .slice none 0 0, .slice none 0 0]) (t:=35) hb2 (zal _ _ _))));have XBc0:=zac XB.out 0;have XBf0:=zag XB.out 0;have XBc1:=zac XB.out 1;have XBf1:=zag XB.out 1;have XBc2:=zac XB.out 2;have XBf2:=zag XB.out 2));have N3:=hid hn;clear hn)
    | (go_at_call 59;(with_reducible refine (den g' A' m' c' D' md' cd' b _ (HY.out.below (by assumption:_ ∧ Below _ _ _).2)).mono ?_);rintro e u3 ⟨A4,m4,c4,rfl,hn,hb3⟩;have hz3:=hb3.size;(try simp at hz3);have hze3:W.heap.size ≤ u3.heap.size:=(by omega);(try ((first | (have XB:=hid (zbc (cs := #[.bool false, .slice none 0 0, .slice none 0 0]) (t:=35) hb3 XB.out)) | (have XB:=hid (zbc (cs := #[.bool false, .slice none 0 0, .slice none 0 0]) (t:=35) hb3 (zal _ _ _))));have XBc0:=zac XB.out 0;have XBf0:=zag XB.out 0;have XBc1:=zac XB.out 1;have XBf1:=zag XB.out 1;have XBc2:=zac XB.out 2;have XBf2:=zag XB.out 2));have N4:=hid hn;clear hn)
    | (go_at_call 58;(with_reducible refine (Pr.mul A3 A4 m3 c3 m4 c4 a.den b.den _ (by repeat (first | exact N3.out | with_reducible refine zas.alloc ?_ _ | with_reducible refine zas.drew ?_ | refine zas.below ?_ hb3)) (by repeat (first | exact N4.out | with_reducible refine zas.alloc ?_ _ | with_reducible refine zas.drew ?_)) L5.out L6.out).mono ?_);rintro e u4 ⟨A5,m5,c5,rfl,hn,hb4⟩;have hz4:=hb4.size;(try simp at hz4);have hze4:W.heap.size ≤ u4.heap.size:=(by omega);(try ((first | (have XB:=hid (zbc (cs := #[.bool false, .slice none 0 0, .slice none 0 0]) (t:=35) hb4 XB.out)) | (have XB:=hid (zbc (cs := #[.bool false, .slice none 0 0, .slice none 0 0]) (t:=35) hb4 (zal _ _ _))));have XBc0:=zac XB.out 0;have XBf0:=zag XB.out 0;have XBc1:=zac XB.out 1;have XBf1:=zag XB.out 1;have XBc2:=zac XB.out 2;have XBf2:=zag XB.out 2));have N5:=hid hn;clear hn)
    | (go_at_call 57;(with_reducible refine (It.new false A5 m5 c5 (a.den * b.den) _ (by repeat (first | exact N5.out | with_reducible refine zas.alloc ?_ _ | with_reducible refine zas.drew ?_))).mono ?_);rintro e u5 ⟨g6,A6,m6,c6,rfl,hn,hb5⟩;have hz5:=hb5.size;(try simp at hz5);have hze5:W.heap.size ≤ u5.heap.size:=(by omega);(try ((first | (have XB:=hid (zbc (cs := #[.bool false, .slice none 0 0, .slice none 0 0]) (t:=35) hb5 XB.out)) | (have XB:=hid (zbc (cs := #[.bool false, .slice none 0 0, .slice none 0 0]) (t:=35) hb5 (zal _ _ _))));have XBc0:=zac XB.out 0;have XBf0:=zag XB.out 0;have XBc1:=zac XB.out 1;have XBf1:=zag XB.out 1;have XBc2:=zac XB.out 2;have XBf2:=zag XB.out 2));have N6:=hid (show IntS u5 g6 (.slice A6 m6 c6) ((a.den * b.den:Nat):Int) from (by rw [if_neg (by decide)] at hn;exact hn));clear hn)
    | (go_at_call 56;(with_reducible refine (newd g2 A2 m2 c2 (a.num * b.num) g6 A6 m6 c6 ((a.den * b.den:Nat):Int) _ (by repeat (first | exact N2.out | with_reducible refine IntS.alloc ?_ _ | with_reducible refine IntS.drew ?_ | refine IntS.below ?_ hb5 | refine IntS.below ?_ hb4 | refine IntS.below ?_ hb3 | refine IntS.below ?_ hb2)) (by repeat (first | exact N6.out | with_reducible refine IntS.alloc ?_ _ | with_reducible refine IntS.drew ?_)) HD0.out L8.out L7.out).mono ?_);rintro e u6 ⟨g7,A7,m7,c7,D7,md7,cd7,rfl,hn,hb6⟩;have hz6:=hb6.size;(try simp at hz6);have hze6:W.heap.size ≤ u6.heap.size:=(by omega);(try ((first | (have XB:=hid (zbc (cs := #[.bool false, .slice none 0 0, .slice none 0 0]) (t:=35) hb6 XB.out)) | (have XB:=hid (zbc (cs := #[.bool false, .slice none 0 0, .slice none 0 0]) (t:=35) hb6 (zal _ _ _))));have XBc0:=zac XB.out 0;have XBf0:=zag XB.out 0;have XBc1:=zac XB.out 1;have XBf1:=zag XB.out 1;have XBc2:=zac XB.out 2;have XBf2:=zag XB.out 2));have N7:=hid (show RatS u6 g7 (.slice A7 m7 c7) (.slice D7 md7 cd7) (a * b) from (by rw [HV.out] at hn;exact hn));clear hn)
    | fail)
  all_goals
   go_wp2
   go_meet
   case rel => (have hbe:=(by assumption:_ ∧ Below W.heap.size W _).2;(first | (with_reducible refine zcD.of hbe ?_ XB.out N7.out;omega) | (with_reducible refine zcD.al hbe ?_ N7.out;omega) | (with_reducible refine zcD.of hbe ?_ (zal _ _ _) (N7.out.alloc _);omega)))
 case rest =>
  obtain ⟨nz,g9,A9,m9,c9,D9,md9,cd9,rfl,hbX,hnb,hkb,hi⟩:=hcut
  rename World => wz
  have zcu:=hid (zad hbX KB2.out)
  have HR:=hid (show RatS wz g9 (.slice A9 m9 c9) (.slice D9 md9 cd9) (a * b) from hi)
  have zaQ:=hid (BB.out.trans ((hbX).mono BB.out.size))
  obtain ⟨zdT,zcK,zgX,_,zdU,zcL,zg0,_,zem,zc5,zg3,_⟩:=bf3 zcu.out
  have zbJ:wz.cell? ⟨nz,0,none⟩ = some (.bool g9):=zac hkb 0
  have zbY:wz.cell? ⟨nz,1,none⟩ = some (.slice A9 m9 c9):=zac hkb 1
  have zcb:wz.cell? ⟨nz,2,none⟩ = some (.slice D9 md9 cd9):=zac hkb 2
  clear hbX HS
  clear hi hkb
  go_wp2
  refine bodyPost_ret (v := .agg #[.bool g9, .slice A9 m9 c9, .slice D9 md9 cd9]) (by simp [results,Tryz.results14,go_sem,zdT,zcK,zdU,zcL,zem,zc5]) rfl ?_
  exact ⟨g9,A9,m9,c9,D9,md9,cd9,rfl,HR.out.set3 zcu.out (by decide) _ _ _,Below.setCell (Below.setCell (Below.setCell (zaQ.out) (p:=⟨w.heap.size + 1 + 1,0,none⟩) (by show w.heap.size ≤ w.heap.size + 1 + 1;omega) _) (p:=⟨w.heap.size + 1 + 1,1,none⟩) (by show w.heap.size ≤ w.heap.size + 1 + 1;omega) _) (p:=⟨w.heap.size + 1 + 1,2,none⟩) (by show w.heap.size ≤ w.heap.size + 1 + 1;omega) _⟩
theorem add (g:Bool) (A:Option Addr) (m c:Nat) (D:Option Addr) (md cd:Nat) (a:Rat) (g':Bool) (A':Option Addr) (m' c':Nat) (D':Option Addr) (md' cd':Nat) (b:Rat) (w:World) (h:RatS w g (.slice A m c) (.slice D md cd) a) (h':RatS w g' (.slice A' m' c') (.slice D' md' cd') b) (hl:4 * (mw a + mw b) + 8 ≤ LIM) :
  Calls Tryz.prog 41 #[.agg #[.bool g, .slice A m c, .slice D md cd], .agg #[.bool g', .slice A' m' c', .slice D' md' cd']] w (ze4 w (a + b)):=by
 have L1:=hid (show 4 * wlen a.num.natAbs ≤ LIM by have:=zd2 a;omega)
 have L2:=hid (show 4 * wlen (b.den:Int).natAbs ≤ LIM by rw [Int.natAbs_natCast];have:=zds b;omega)
 have L3:=hid (show 4 * wlen b.num.natAbs ≤ LIM by have:=zd2 b;omega)
 have L4:=hid (show 4 * wlen (a.den:Int).natAbs ≤ LIM by rw [Int.natAbs_natCast];have:=zds a;omega)
 have L5:=hid (show 4 * wlen a.den ≤ LIM by have:=zds a;omega)
 have L6:=hid (show 4 * wlen b.den ≤ LIM by have:=zds b;omega)
 have L7:=hid (show wlen (((a.den * b.den:Nat):Int)).natAbs + 1 ≤ LIM by have:=zic a b;omega)
 have M1:=hid (show wlen (a.num * (b.den:Int)).natAbs ≤ LIM by have h2:=zfO a.num (b.den:Int);rw [Int.natAbs_natCast] at h2;have:=zd2 a;have:=zds b;omega)
 have M2:=hid (show wlen (b.num * (a.den:Int)).natAbs ≤ LIM by have h2:=zfO b.num (a.den:Int);rw [Int.natAbs_natCast] at h2;have:=zd2 b;have:=zds a;omega)
 have L8:=hid (show wlen (a.num * (b.den:Int) + b.num * (a.den:Int)).natAbs + 1 ≤ LIM by have:=zpc a b;omega)
 have HV:=hid (ztR a b)
 have HD0:=hid (zrl a b)
 clear hl
 obtain ⟨W,hW⟩:∃ W,(((w.alloc (.cells #[.bool g, .slice A m c, .slice D md cd] 35)).alloc (.cells #[.bool g', .slice A' m' c', .slice D' md' cd'] 35)).alloc (.cells #[.bool false, .slice none 0 0, .slice none 0 0] 35)) = W:=⟨_,rfl⟩
 have KB0:=hid (show W.heap[w.heap.size]? = some (.cells #[.bool g, .slice A m c, .slice D md cd] 35 (0,0)) by rw [← hW];exact zak (zak (zam (by simp))))
 have KB1:=hid (show W.heap[w.heap.size + 1]? = some (.cells #[.bool g', .slice A' m' c', .slice D' md' cd'] 35 (0,0)) by rw [← hW];exact zak (zam (by simp)))
 have KB2:=hid (show W.heap[w.heap.size + 1 + 1]? = some (.cells #[.bool false, .slice none 0 0, .slice none 0 0] 35 (0,0)) by rw [← hW];exact zam (by simp))
 have BB:=hid (show Below w.heap.size w W by rw [← hW];exact ((zae w _).alloc (by simp) _).alloc (by simp;omega) _)
 have HX:=hid (show RatS W g (.slice A m c) (.slice D md cd) a by rw [← hW];exact (((h).alloc _).alloc _).alloc _)
 have HY:=hid (show RatS W g' (.slice A' m' c') (.slice D' md' cd') b by rw [← hW];exact (((h').alloc _).alloc _).alloc _)
 obtain ⟨zaK,_,zaL,_,zbO,_⟩:=bc3 KB0.out
 obtain ⟨zbr,_,zbP,_,zcJ,_⟩:=bc3 KB1.out
 clear h h'
 go_enter Tryz.func41,Tryz.ntmps41
 go_wp2_with fail
 clear hW
 have HS:=hid (show ∀ w',Below W.heap.size W w' → ((w'.cell? ⟨w.heap.size,0,none⟩ = some (.bool g) ∧ w'.cell? ⟨w.heap.size,1,none⟩ = some (.slice A m c) ∧ w'.cell? ⟨w.heap.size,2,none⟩ = some (.slice D md cd) ∧ w'.cell? ⟨w.heap.size + 1,0,none⟩ = some (.bool g') ∧ w'.cell? ⟨w.heap.size + 1,1,none⟩ = some (.slice A' m' c') ∧ w'.cell? ⟨w.heap.size + 1,2,none⟩ = some (.slice D' md' cd')) ∧ Below W.heap.size W w') from fun w' h => ⟨⟨zab h zaK,zab h zaL,zab h zbO,zab h zbr,zab h zbP,zab h zcJ⟩,h⟩)
 go_cut [5] (fun s5 wr => ziR W s5 wr (a.num * (b.den:Int) + b.num * (a.den:Int)))
 case first =>
  go_region_held3 (fun w' => ((w'.cell? ⟨w.heap.size,0,none⟩ = some (.bool g) ∧ w'.cell? ⟨w.heap.size,1,none⟩ = some (.slice A m c) ∧ w'.cell? ⟨w.heap.size,2,none⟩ = some (.slice D md cd) ∧ w'.cell? ⟨w.heap.size + 1,0,none⟩ = some (.bool g') ∧ w'.cell? ⟨w.heap.size + 1,1,none⟩ = some (.slice A' m' c') ∧ w'.cell? ⟨w.heap.size + 1,2,none⟩ = some (.slice D' md' cd')) ∧ Below W.heap.size W w'))
   ((refine HS.out _ ?_;repeat (first | exact Below.refl _ _ | exact (by assumption:_ ∧ Below _ _ _).2 | with_reducible refine bdrew ?_ | with_reducible refine al2 ?_ _ | with_reducible refine set2 ?_ (by omega) | with_reducible refine zc1 ?_ (by assumption))))
   (first
    | (go_at_call 55;(with_reducible refine (below g' A' m' c' D' md' cd' b _ (HY.out.below (by assumption:_ ∧ Below _ _ _).2)).mono ?_);rintro e u1 ⟨g1,A1,m1,c1,rfl,hn,hb1⟩;have hz1:=hb1.size;(try simp at hz1);have hze1:W.heap.size ≤ u1.heap.size:=(by omega);(try ((first | (have XB:=hid (zbc (cs := #[.bool false, .slice none 0 0]) (t:=33) hb1 XB.out)) | (have XB:=hid (zbc (cs := #[.bool false, .slice none 0 0]) (t:=33) hb1 (zal _ _ _))));have XBc0:=zac XB.out 0;have XBf0:=zag XB.out 0;have XBc1:=zac XB.out 1;have XBf1:=zag XB.out 1));have N1:=hid hn;clear hn)
    | (go_at_call 54;(with_reducible refine (It.mul g A m c a.num g1 A1 m1 c1 (b.den:Int) _ (by have h:=(HX.out.below (by assumption:_ ∧ Below _ _ _).2);exact h.num) (by repeat (first | exact N1.out | with_reducible refine IntS.alloc ?_ _ | with_reducible refine IntS.drew ?_)) L1.out L2.out).mono ?_);rintro e u2 ⟨g2,A2,m2,c2,rfl,hn,hb2⟩;have hz2:=hb2.size;(try simp at hz2);have hze2:W.heap.size ≤ u2.heap.size:=(by omega);(try ((first | (have XB:=hid (zbc (cs := #[.bool false, .slice none 0 0]) (t:=33) hb2 XB.out)) | (have XB:=hid (zbc (cs := #[.bool false, .slice none 0 0]) (t:=33) hb2 (zal _ _ _))));have XBc0:=zac XB.out 0;have XBf0:=zag XB.out 0;have XBc1:=zac XB.out 1;have XBf1:=zag XB.out 1));have N2:=hid hn;clear hn)
    | (go_at_call 55;(with_reducible refine (below g A m c D md cd a _ (HX.out.below (by assumption:_ ∧ Below _ _ _).2)).mono ?_);rintro e u3 ⟨g3,A3,m3,c3,rfl,hn,hb3⟩;have hz3:=hb3.size;(try simp at hz3);have hze3:W.heap.size ≤ u3.heap.size:=(by omega);(try ((first | (have XB:=hid (zbc (cs := #[.bool false, .slice none 0 0]) (t:=33) hb3 XB.out)) | (have XB:=hid (zbc (cs := #[.bool false, .slice none 0 0]) (t:=33) hb3 (zal _ _ _))));have XBc0:=zac XB.out 0;have XBf0:=zag XB.out 0;have XBc1:=zac XB.out 1;have XBf1:=zag XB.out 1));have N3:=hid hn;clear hn)
    | (go_at_call 54;(with_reducible refine (It.mul g' A' m' c' b.num g3 A3 m3 c3 (a.den:Int) _ (by have h:=(HY.out.below (by assumption:_ ∧ Below _ _ _).2);exact h.num) (by repeat (first | exact N3.out | with_reducible refine IntS.alloc ?_ _ | with_reducible refine IntS.drew ?_)) L3.out L4.out).mono ?_);rintro e u4 ⟨g4,A4,m4,c4,rfl,hn,hb4⟩;have hz4:=hb4.size;(try simp at hz4);have hze4:W.heap.size ≤ u4.heap.size:=(by omega);(try ((first | (have XB:=hid (zbc (cs := #[.bool false, .slice none 0 0]) (t:=33) hb4 XB.out)) | (have XB:=hid (zbc (cs := #[.bool false, .slice none 0 0]) (t:=33) hb4 (zal _ _ _))));have XBc0:=zac XB.out 0;have XBf0:=zag XB.out 0;have XBc1:=zac XB.out 1;have XBf1:=zag XB.out 1));have N4:=hid hn;clear hn)
    | (go_at_call 100;(with_reducible refine (It.add g2 g4 A2 m2 c2 (a.num * (b.den:Int)) A4 m4 c4 (b.num * (a.den:Int)) _ (by repeat (first | exact N2.out | with_reducible refine IntS.alloc ?_ _ | with_reducible refine IntS.drew ?_ | refine IntS.below ?_ hb4 | refine IntS.below ?_ hb3)) (by repeat (first | exact N4.out | with_reducible refine IntS.alloc ?_ _ | with_reducible refine IntS.drew ?_)) M1.out M2.out).mono ?_);rintro e u5 ⟨g5,A5,m5,c5,rfl,hn,hb5⟩;have hz5:=hb5.size;(try simp at hz5);have hze5:W.heap.size ≤ u5.heap.size:=(by omega);(try ((first | (have XB:=hid (zbc (cs := #[.bool false, .slice none 0 0]) (t:=33) hb5 XB.out)) | (have XB:=hid (zbc (cs := #[.bool false, .slice none 0 0]) (t:=33) hb5 (zal _ _ _))));have XBc0:=zac XB.out 0;have XBf0:=zag XB.out 0;have XBc1:=zac XB.out 1;have XBf1:=zag XB.out 1));have N5:=hid hn;clear hn)
    | fail)
  all_goals
   go_wp2
   go_meet
   case rel => (have hbe:=(by assumption:_ ∧ Below W.heap.size W _).2;(first | (with_reducible refine ziR.of hbe ?_ XB.out N5.out;omega) | (with_reducible refine ziR.al hbe ?_ N5.out;omega) | (with_reducible refine ziR.of hbe ?_ (zal _ _ _) (N5.out.alloc _);omega)))
 case rest =>
  obtain ⟨nb,g2,A2,m2,c2,rfl,hbX,hnb,hkb,hi⟩:=hcut
  rename World => wb
  have zaq:=hid (zad hbX KB0.out)
  have za0:=hid (zad hbX KB1.out)
  have zcu:=hid (zad hbX KB2.out)
  have zif:=hid (HX.out.below hbX)
  have zx2:=hid (HY.out.below hbX)
  have HN:=hid (show IntS wb g2 (.slice A2 m2 c2) (a.num * (b.den:Int) + b.num * (a.den:Int)) from hi)
  have zaQ:=hid (BB.out.trans ((hbX).mono BB.out.size))
  obtain ⟨zaI,_,zaJ,_,zbC,_⟩:=bc3 zaq.out
  obtain ⟨zbe,_,zbs,_,zb9,_⟩:=bc3 za0.out
  have zbJ:wb.cell? ⟨nb,0,none⟩ = some (.bool g2):=zac hkb 0
  have zbY:wb.cell? ⟨nb,1,none⟩ = some (.slice A2 m2 c2):=zac hkb 1
  clear hbX HS
  clear hi hkb
  go_wp2_with fail
  have HS:=hid (show ∀ w',Below wb.heap.size wb w' → ((w'.cell? ⟨w.heap.size,0,none⟩ = some (.bool g) ∧ w'.cell? ⟨w.heap.size,1,none⟩ = some (.slice A m c) ∧ w'.cell? ⟨w.heap.size,2,none⟩ = some (.slice D md cd) ∧ w'.cell? ⟨w.heap.size + 1,0,none⟩ = some (.bool g') ∧ w'.cell? ⟨w.heap.size + 1,1,none⟩ = some (.slice A' m' c') ∧ w'.cell? ⟨w.heap.size + 1,2,none⟩ = some (.slice D' md' cd') ∧ w'.cell? ⟨nb,0,none⟩ = some (.bool g2) ∧ w'.cell? ⟨nb,1,none⟩ = some (.slice A2 m2 c2)) ∧ Below wb.heap.size wb w') from fun w' h => ⟨⟨zab h zaI,zab h zaJ,zab h zbC,zab h zbe,zab h zbs,zab h zb9,zab h zbJ,zab h zbY⟩,h⟩)
  go_cut [6] (fun s6 wr => zcD wb s6 wr (a + b))
  case first =>
   go_region_held3 (fun w' => ((w'.cell? ⟨w.heap.size,0,none⟩ = some (.bool g) ∧ w'.cell? ⟨w.heap.size,1,none⟩ = some (.slice A m c) ∧ w'.cell? ⟨w.heap.size,2,none⟩ = some (.slice D md cd) ∧ w'.cell? ⟨w.heap.size + 1,0,none⟩ = some (.bool g') ∧ w'.cell? ⟨w.heap.size + 1,1,none⟩ = some (.slice A' m' c') ∧ w'.cell? ⟨w.heap.size + 1,2,none⟩ = some (.slice D' md' cd') ∧ w'.cell? ⟨nb,0,none⟩ = some (.bool g2) ∧ w'.cell? ⟨nb,1,none⟩ = some (.slice A2 m2 c2)) ∧ Below wb.heap.size wb w'))
    ((refine HS.out _ ?_;repeat (first | exact Below.refl _ _ | exact (by assumption:_ ∧ Below _ _ _).2 | with_reducible refine bdrew ?_ | with_reducible refine al2 ?_ _ | with_reducible refine set2 ?_ (by omega) | with_reducible refine zc1 ?_ (by assumption))))
    (first
     | (go_at_call 59;(with_reducible refine (den g A m c D md cd a _ (zif.out.below (by assumption:_ ∧ Below _ _ _).2)).mono ?_);rintro e u1 ⟨A3,m3,c3,rfl,hn,hb1⟩;have hz1:=hb1.size;(try simp at hz1);have hze1:wb.heap.size ≤ u1.heap.size:=(by omega);(try ((first | (have XB:=hid (zbc (cs := #[.bool false, .slice none 0 0, .slice none 0 0]) (t:=35) hb1 XB.out)) | (have XB:=hid (zbc (cs := #[.bool false, .slice none 0 0, .slice none 0 0]) (t:=35) hb1 (zal _ _ _))));have XBc0:=zac XB.out 0;have XBf0:=zag XB.out 0;have XBc1:=zac XB.out 1;have XBf1:=zag XB.out 1;have XBc2:=zac XB.out 2;have XBf2:=zag XB.out 2));have N3:=hid hn;clear hn)
     | (go_at_call 59;(with_reducible refine (den g' A' m' c' D' md' cd' b _ (zx2.out.below (by assumption:_ ∧ Below _ _ _).2)).mono ?_);rintro e u2 ⟨A4,m4,c4,rfl,hn,hb2⟩;have hz2:=hb2.size;(try simp at hz2);have hze2:wb.heap.size ≤ u2.heap.size:=(by omega);(try ((first | (have XB:=hid (zbc (cs := #[.bool false, .slice none 0 0, .slice none 0 0]) (t:=35) hb2 XB.out)) | (have XB:=hid (zbc (cs := #[.bool false, .slice none 0 0, .slice none 0 0]) (t:=35) hb2 (zal _ _ _))));have XBc0:=zac XB.out 0;have XBf0:=zag XB.out 0;have XBc1:=zac XB.out 1;have XBf1:=zag XB.out 1;have XBc2:=zac XB.out 2;have XBf2:=zag XB.out 2));have N4:=hid hn;clear hn)
     | (go_at_call 58;(with_reducible refine (Pr.mul A3 A4 m3 c3 m4 c4 a.den b.den _ (by repeat (first | exact N3.out | with_reducible refine zas.alloc ?_ _ | with_reducible refine zas.drew ?_ | refine zas.below ?_ hb2)) (by repeat (first | exact N4.out | with_reducible refine zas.alloc ?_ _ | with_reducible refine zas.drew ?_)) L5.out L6.out).mono ?_);rintro e u3 ⟨A5,m5,c5,rfl,hn,hb3⟩;have hz3:=hb3.size;(try simp at hz3);have hze3:wb.heap.size ≤ u3.heap.size:=(by omega);(try ((first | (have XB:=hid (zbc (cs := #[.bool false, .slice none 0 0, .slice none 0 0]) (t:=35) hb3 XB.out)) | (have XB:=hid (zbc (cs := #[.bool false, .slice none 0 0, .slice none 0 0]) (t:=35) hb3 (zal _ _ _))));have XBc0:=zac XB.out 0;have XBf0:=zag XB.out 0;have XBc1:=zac XB.out 1;have XBf1:=zag XB.out 1;have XBc2:=zac XB.out 2;have XBf2:=zag XB.out 2));have N5:=hid hn;clear hn)
     | (go_at_call 57;(with_reducible refine (It.new false A5 m5 c5 (a.den * b.den) _ (by repeat (first | exact N5.out | with_reducible refine zas.alloc ?_ _ | with_reducible refine zas.drew ?_))).mono ?_);rintro e u4 ⟨g6,A6,m6,c6,rfl,hn,hb4⟩;have hz4:=hb4.size;(try simp at hz4);have hze4:wb.heap.size ≤ u4.heap.size:=(by omega);(try ((first | (have XB:=hid (zbc (cs := #[.bool false, .slice none 0 0, .slice none 0 0]) (t:=35) hb4 XB.out)) | (have XB:=hid (zbc (cs := #[.bool false, .slice none 0 0, .slice none 0 0]) (t:=35) hb4 (zal _ _ _))));have XBc0:=zac XB.out 0;have XBf0:=zag XB.out 0;have XBc1:=zac XB.out 1;have XBf1:=zag XB.out 1;have XBc2:=zac XB.out 2;have XBf2:=zag XB.out 2));have N6:=hid (show IntS u4 g6 (.slice A6 m6 c6) ((a.den * b.den:Nat):Int) from (by rw [if_neg (by decide)] at hn;exact hn));clear hn)
     | (go_at_call 56;(with_reducible refine (newd g2 A2 m2 c2 (a.num * (b.den:Int) + b.num * (a.den:Int)) g6 A6 m6 c6 ((a.den * b.den:Nat):Int) _ (HN.out.below (by assumption:_ ∧ Below _ _ _).2) (by repeat (first | exact N6.out | with_reducible refine IntS.alloc ?_ _ | with_reducible refine IntS.drew ?_)) HD0.out L8.out L7.out).mono ?_);rintro e u5 ⟨g7,A7,m7,c7,D7,md7,cd7,rfl,hn,hb5⟩;have hz5:=hb5.size;(try simp at hz5);have hze5:wb.heap.size ≤ u5.heap.size:=(by omega);(try ((first | (have XB:=hid (zbc (cs := #[.bool false, .slice none 0 0, .slice none 0 0]) (t:=35) hb5 XB.out)) | (have XB:=hid (zbc (cs := #[.bool false, .slice none 0 0, .slice none 0 0]) (t:=35) hb5 (zal _ _ _))));have XBc0:=zac XB.out 0;have XBf0:=zag XB.out 0;have XBc1:=zac XB.out 1;have XBf1:=zag XB.out 1;have XBc2:=zac XB.out 2;have XBf2:=zag XB.out 2));have N7:=hid (show RatS u5 g7 (.slice A7 m7 c7) (.slice D7 md7 cd7) (a + b) from (by rw [HV.out] at hn;exact hn));clear hn)
     | fail)
   all_goals
    go_wp2
    go_meet
    case rel => (have hbe:=(by assumption:_ ∧ Below wb.heap.size wb _).2;(first | (with_reducible refine zcD.of hbe ?_ XB.out N7.out;omega) | (with_reducible refine zcD.al hbe ?_ N7.out;omega) | (with_reducible refine zcD.of hbe ?_ (zal _ _ _) (N7.out.alloc _);omega)))
  case rest =>
   obtain ⟨nz,g9,A9,m9,c9,D9,md9,cd9,rfl,hbX,hnb,hkb,hi⟩:=hcut
   rename World => wz
   have zih:=hid (zad hbX zcu.out)
   have HR:=hid (show RatS wz g9 (.slice A9 m9 c9) (.slice D9 md9 cd9) (a + b) from hi)
   have zbj:=hid (zaQ.out.trans ((hbX).mono zaQ.out.size))
   obtain ⟨ze6,zdm,zp9,_,ze7,zdn,zqa,_,zfv,zdB,zqb,_⟩:=bf3 zih.out
   have zej:wz.cell? ⟨nz,0,none⟩ = some (.bool g9):=zac hkb 0
   have zfa:wz.cell? ⟨nz,1,none⟩ = some (.slice A9 m9 c9):=zac hkb 1
   have zgt:wz.cell? ⟨nz,2,none⟩ = some (.slice D9 md9 cd9):=zac hkb 2
   clear hbX HS
   clear hi hkb
   go_wp2
   refine bodyPost_ret (v := .agg #[.bool g9, .slice A9 m9 c9, .slice D9 md9 cd9]) (by simp [results,Tryz.results41,go_sem,ze6,zdm,ze7,zdn,zfv,zdB]) rfl ?_
   exact ⟨g9,A9,m9,c9,D9,md9,cd9,rfl,HR.out.set3 zih.out (by decide) _ _ _,Below.setCell (Below.setCell (Below.setCell (zbj.out) (p:=⟨w.heap.size + 1 + 1,0,none⟩) (by show w.heap.size ≤ w.heap.size + 1 + 1;omega) _) (p:=⟨w.heap.size + 1 + 1,1,none⟩) (by show w.heap.size ≤ w.heap.size + 1 + 1;omega) _) (p:=⟨w.heap.size + 1 + 1,2,none⟩) (by show w.heap.size ≤ w.heap.size + 1 + 1;omega) _⟩
theorem cmp (g:Bool) (A:Option Addr) (m c:Nat) (D:Option Addr) (md cd:Nat) (a:Rat) (g':Bool) (A':Option Addr) (m' c':Nat) (D':Option Addr) (md' cd':Nat) (b:Rat) (w:World) (h:RatS w g (.slice A m c) (.slice D md cd) a) (h':RatS w g' (.slice A' m' c') (.slice D' md' cd') b) (hl:4 * (mw a + mw b) + 8 ≤ LIM) :
  Calls Tryz.prog 13 #[.agg #[.bool g, .slice A m c, .slice D md cd], .agg #[.bool g', .slice A' m' c', .slice D' md' cd']] w fun e w' => e = .returned (.int .i64 (ze9 (a.num * (b.den:Int)) (b.num * (a.den:Int)))) ∧ Below w.heap.size w w':=by
 have L1:=hid (show 4 * wlen a.num.natAbs ≤ LIM by have:=zd2 a;omega)
 have L2:=hid (show 4 * wlen (b.den:Int).natAbs ≤ LIM by rw [Int.natAbs_natCast];have:=zds b;omega)
 have L3:=hid (show 4 * wlen b.num.natAbs ≤ LIM by have:=zd2 b;omega)
 have L4:=hid (show 4 * wlen (a.den:Int).natAbs ≤ LIM by rw [Int.natAbs_natCast];have:=zds a;omega)
 clear hl
 obtain ⟨W,hW⟩:∃ W,((w.alloc (.cells #[.bool g, .slice A m c, .slice D md cd] 35)).alloc (.cells #[.bool g', .slice A' m' c', .slice D' md' cd'] 35)) = W:=⟨_,rfl⟩
 have KB0:=hid (show W.heap[w.heap.size]? = some (.cells #[.bool g, .slice A m c, .slice D md cd] 35 (0,0)) by rw [← hW];exact zak (zam (by simp)))
 have KB1:=hid (show W.heap[w.heap.size + 1]? = some (.cells #[.bool g', .slice A' m' c', .slice D' md' cd'] 35 (0,0)) by rw [← hW];exact zam (by simp))
 have BB:=hid (show Below w.heap.size w W by rw [← hW];exact (zae w _).alloc (by simp) _)
 have HX:=hid (show RatS W g (.slice A m c) (.slice D md cd) a by rw [← hW];exact ((h).alloc _).alloc _)
 have HY:=hid (show RatS W g' (.slice A' m' c') (.slice D' md' cd') b by rw [← hW];exact ((h').alloc _).alloc _)
 obtain ⟨zaK,_,zaL,_,zbO,_⟩:=bc3 KB0.out
 obtain ⟨zbr,_,zbP,_,zcJ,_⟩:=bc3 KB1.out
 clear h h'
 go_enter Tryz.func13,Tryz.ntmps13
 go_wp2_with fail
 clear hW
 have HS:=hid (show ∀ w',Below W.heap.size W w' → ((w'.cell? ⟨w.heap.size,0,none⟩ = some (.bool g) ∧ w'.cell? ⟨w.heap.size,1,none⟩ = some (.slice A m c) ∧ w'.cell? ⟨w.heap.size,2,none⟩ = some (.slice D md cd) ∧ w'.cell? ⟨w.heap.size + 1,0,none⟩ = some (.bool g') ∧ w'.cell? ⟨w.heap.size + 1,1,none⟩ = some (.slice A' m' c') ∧ w'.cell? ⟨w.heap.size + 1,2,none⟩ = some (.slice D' md' cd')) ∧ Below W.heap.size W w') from fun w' h => ⟨⟨zab h zaK,zab h zaL,zab h zbO,zab h zbr,zab h zbP,zab h zcJ⟩,h⟩)
 go_region_held3 (fun w' => ((w'.cell? ⟨w.heap.size,0,none⟩ = some (.bool g) ∧ w'.cell? ⟨w.heap.size,1,none⟩ = some (.slice A m c) ∧ w'.cell? ⟨w.heap.size,2,none⟩ = some (.slice D md cd) ∧ w'.cell? ⟨w.heap.size + 1,0,none⟩ = some (.bool g') ∧ w'.cell? ⟨w.heap.size + 1,1,none⟩ = some (.slice A' m' c') ∧ w'.cell? ⟨w.heap.size + 1,2,none⟩ = some (.slice D' md' cd')) ∧ Below W.heap.size W w'))
  ((refine HS.out _ ?_;repeat (first | exact Below.refl _ _ | exact (by assumption:_ ∧ Below _ _ _).2 | with_reducible refine bdrew ?_ | with_reducible refine al2 ?_ _ | with_reducible refine set2 ?_ (by omega) | with_reducible refine zc1 ?_ (by assumption))))
  (first
   | (go_at_call 55;(with_reducible refine (below g' A' m' c' D' md' cd' b _ (HY.out.below (by assumption:_ ∧ Below _ _ _).2)).mono ?_);rintro e u1 ⟨g1,A1,m1,c1,rfl,hn,hb1⟩;have hz1:=hb1.size;(try simp at hz1);(try ((first | (have XB:=hid (zbc (cs := #[.bool false, .slice none 0 0]) (t:=33) hb1 XB.out)) | (have XB:=hid (zbc (cs := #[.bool false, .slice none 0 0]) (t:=33) hb1 (zal _ _ _))));have XBc0:=zac XB.out 0;have XBf0:=zag XB.out 0;have XBc1:=zac XB.out 1;have XBf1:=zag XB.out 1));have N1:=hid hn;clear hn)
   | (go_at_call 54;(with_reducible refine (It.mul g A m c a.num g1 A1 m1 c1 (b.den:Int) _ (by have h:=(HX.out.below (by assumption:_ ∧ Below _ _ _).2);exact h.num) (by repeat (first | exact N1.out | with_reducible refine IntS.alloc ?_ _ | with_reducible refine IntS.drew ?_)) L1.out L2.out).mono ?_);rintro e u2 ⟨g2,A2,m2,c2,rfl,hn,hb2⟩;have hz2:=hb2.size;(try simp at hz2);(try ((first | (have XB:=hid (zbc (cs := #[.bool false, .slice none 0 0]) (t:=33) hb2 XB.out)) | (have XB:=hid (zbc (cs := #[.bool false, .slice none 0 0]) (t:=33) hb2 (zal _ _ _))));have XBc0:=zac XB.out 0;have XBf0:=zag XB.out 0;have XBc1:=zac XB.out 1;have XBf1:=zag XB.out 1));have N2:=hid hn;clear hn)
   | (go_at_call 55;(with_reducible refine (below g A m c D md cd a _ (HX.out.below (by assumption:_ ∧ Below _ _ _).2)).mono ?_);rintro e u3 ⟨g3,A3,m3,c3,rfl,hn,hb3⟩;have hz3:=hb3.size;(try simp at hz3);(try ((first | (have XB:=hid (zbc (cs := #[.bool false, .slice none 0 0]) (t:=33) hb3 XB.out)) | (have XB:=hid (zbc (cs := #[.bool false, .slice none 0 0]) (t:=33) hb3 (zal _ _ _))));have XBc0:=zac XB.out 0;have XBf0:=zag XB.out 0;have XBc1:=zac XB.out 1;have XBf1:=zag XB.out 1));have N3:=hid hn;clear hn)
   | (go_at_call 54;(with_reducible refine (It.mul g' A' m' c' b.num g3 A3 m3 c3 (a.den:Int) _ (by have h:=(HY.out.below (by assumption:_ ∧ Below _ _ _).2);exact h.num) (by repeat (first | exact N3.out | with_reducible refine IntS.alloc ?_ _ | with_reducible refine IntS.drew ?_)) L3.out L4.out).mono ?_);rintro e u4 ⟨g4,A4,m4,c4,rfl,hn,hb4⟩;have hz4:=hb4.size;(try simp at hz4);(try ((first | (have XB:=hid (zbc (cs := #[.bool false, .slice none 0 0]) (t:=33) hb4 XB.out)) | (have XB:=hid (zbc (cs := #[.bool false, .slice none 0 0]) (t:=33) hb4 (zal _ _ _))));have XBc0:=zac XB.out 0;have XBf0:=zag XB.out 0;have XBc1:=zac XB.out 1;have XBf1:=zag XB.out 1));have N4:=hid hn;clear hn)
   | (go_at_call 53;(with_reducible refine (It.cmp g2 A2 m2 c2 (a.num * (b.den:Int)) g4 A4 m4 c4 (b.num * (a.den:Int)) _ (by repeat (first | exact N2.out | with_reducible refine IntS.alloc ?_ _ | with_reducible refine IntS.drew ?_ | refine IntS.below ?_ hb4 | refine IntS.below ?_ hb3)) (by repeat (first | exact N4.out | with_reducible refine IntS.alloc ?_ _ | with_reducible refine IntS.drew ?_))).mono ?_);rintro e u5 ⟨rfl,hb5⟩;have hz5:=hb5.size;(try simp at hz5);(try ((first | (have XB:=hid (zbc (cs := #[.bool false, .slice none 0 0]) (t:=33) hb5 XB.out)) | (have XB:=hid (zbc (cs := #[.bool false, .slice none 0 0]) (t:=33) hb5 (zal _ _ _))));have XBc0:=zac XB.out 0;have XBf0:=zag XB.out 0;have XBc1:=zac XB.out 1;have XBf1:=zag XB.out 1)))
   | fail)
 go_wp2
 go_ret
 exact ⟨rfl,BB.out.trans (((by assumption:_ ∧ Below W.heap.size W _).2).mono BB.out.size)⟩
theorem sub (g:Bool) (A:Option Addr) (m c:Nat) (D:Option Addr) (md cd:Nat) (a:Rat) (g':Bool) (A':Option Addr) (m' c':Nat) (D':Option Addr) (md' cd':Nat) (b:Rat) (w:World) (h:RatS w g (.slice A m c) (.slice D md cd) a) (h':RatS w g' (.slice A' m' c') (.slice D' md' cd') b) (hl:4 * (mw a + mw b) + 8 ≤ LIM) :
  Calls Tryz.prog 131 #[.agg #[.bool g, .slice A m c, .slice D md cd], .agg #[.bool g', .slice A' m' c', .slice D' md' cd']] w (ze4 w (a - b)):=by
 have HL:=hid (show 4 * (mw a + mw (-b)) + 8 ≤ LIM by rw [zhY];exact hl)
 have HV:=hid (Rat.sub_eq_add_neg a b)
 clear hl
 obtain ⟨W,hW⟩:∃ W,(((w.alloc (.cells #[.bool g, .slice A m c, .slice D md cd] 35)).alloc (.cells #[.bool g', .slice A' m' c', .slice D' md' cd'] 35)).alloc (.cells #[.bool false, .slice none 0 0, .slice none 0 0] 35)) = W:=⟨_,rfl⟩
 have KB0:=hid (show W.heap[w.heap.size]? = some (.cells #[.bool g, .slice A m c, .slice D md cd] 35 (0,0)) by rw [← hW];exact zak (zak (zam (by simp))))
 have KB1:=hid (show W.heap[w.heap.size + 1]? = some (.cells #[.bool g', .slice A' m' c', .slice D' md' cd'] 35 (0,0)) by rw [← hW];exact zak (zam (by simp)))
 have KB2:=hid (show W.heap[w.heap.size + 1 + 1]? = some (.cells #[.bool false, .slice none 0 0, .slice none 0 0] 35 (0,0)) by rw [← hW];exact zam (by simp))
 have BB:=hid (show Below w.heap.size w W by rw [← hW];exact ((zae w _).alloc (by simp) _).alloc (by simp;omega) _)
 have HX:=hid (show RatS W g (.slice A m c) (.slice D md cd) a by rw [← hW];exact (((h).alloc _).alloc _).alloc _)
 have HY:=hid (show RatS W g' (.slice A' m' c') (.slice D' md' cd') b by rw [← hW];exact (((h').alloc _).alloc _).alloc _)
 obtain ⟨zaK,_,zaL,_,zbO,_⟩:=bc3 KB0.out
 obtain ⟨zbr,_,zbP,_,zcJ,_⟩:=bc3 KB1.out
 clear h h'
 go_enter Tryz.func131,Tryz.ntmps131
 go_wp2_with fail
 clear hW
 go_region_held3 (fun w' => w'.cell? ⟨w.heap.size,0,none⟩ = some (.bool g) ∧ w'.cell? ⟨w.heap.size,1,none⟩ = some (.slice A m c) ∧ w'.cell? ⟨w.heap.size,2,none⟩ = some (.slice D md cd) ∧ w'.cell? ⟨w.heap.size + 1,0,none⟩ = some (.bool g') ∧ w'.cell? ⟨w.heap.size + 1,1,none⟩ = some (.slice A' m' c') ∧ w'.cell? ⟨w.heap.size + 1,2,none⟩ = some (.slice D' md' cd'))
  (((try go_split_ands);(try simp only [World.cell?_drew]);(repeat' apply And.intro) <;> (repeat (first | with_reducible assumption | with_reducible refine cell_set (by omega) ?_ | with_reducible refine cell_al ?_))))
  (first
   | (go_at_call 15;(with_reducible refine (neg g' A' m' c' D' md' cd' b _ HY.out.drew).mono ?_);rintro e v1 ⟨g1,A1,m1,c1,D1,md1,cd1,rfl,hn,hb⟩;have zaq:=hid (zad hb KB0.out);have za0:=hid (zad hb KB1.out);have zcu:=hid (zad hb KB2.out);have zif:=hid (HX.out.drew.below hb);have HN:=hid (show RatS v1 g1 (.slice A1 m1 c1) (.slice D1 md1 cd1) (-b) from hn);have zaQ:=hid (BB.out.trans ((It.bdrew0' hb).mono BB.out.size));obtain ⟨zaI,_,zaJ,_,zbC,_⟩:=bc3 zaq.out;obtain ⟨zbe,_,zbs,_,zb9,_⟩:=bc3 za0.out;clear hn hb)
   | (go_at_call 41;(with_reducible refine (add g A m c D md cd a g1 A1 m1 c1 D1 md1 cd1 (-b) _ zif.out HN.out HL.out).mono ?_);rintro e v2 ⟨g2,A2,m2,c2,D2,md2,cd2,rfl,hn,hb⟩;have zaD:=hid (zad hb zaq.out);have zbb:=hid (zad hb za0.out);have zih:=hid (zad hb zcu.out);have HR:=hid (show RatS v2 g2 (.slice A2 m2 c2) (.slice D2 md2 cd2) (a + -b) from hn);have zbj:=hid (zaQ.out.trans ((hb).mono zaQ.out.size));obtain ⟨zaU,_,zaV,_,zdr,_⟩:=bc3 zaD.out;obtain ⟨zbi,_,zbp,_,zc2,_⟩:=bc3 zbb.out;obtain ⟨ze6,zdm,zp9,_,ze7,zdn,zqa,_,zfv,zdB,zqb,_⟩:=bf3 zih.out;clear hn hb)
   | fail)
 all_goals
  go_wp2
  refine bodyPost_ret (v := .agg #[.bool g2, .slice A2 m2 c2, .slice D2 md2 cd2]) (by simp [results,Tryz.results131,go_sem,ze6,zdm,ze7,zdn,zfv,zdB]) rfl ?_
  have hi:=HR.out
  rw [← HV.out] at hi
  exact ⟨g2,A2,m2,c2,D2,md2,cd2,rfl,hi.set3 zih.out (by decide) _ _ _,Below.setCell (Below.setCell (Below.setCell (zbj.out) (p:=⟨w.heap.size + 1 + 1,0,none⟩) (by show w.heap.size ≤ w.heap.size + 1 + 1;omega) _) (p:=⟨w.heap.size + 1 + 1,1,none⟩) (by show w.heap.size ≤ w.heap.size + 1 + 1;omega) _) (p:=⟨w.heap.size + 1 + 1,2,none⟩) (by show w.heap.size ≤ w.heap.size + 1 + 1;omega) _⟩
theorem of (p q:Int) (hq:q ≠ 0) (hp0 : -9223372036854775808 ≤ p) (hp1:p ≤ 9223372036854775807) (hq0 : -9223372036854775808 ≤ q) (hq1:q ≤ 9223372036854775807) (w:World) :
  Calls Tryz.prog 109 #[.int .i64 p, .int .i64 q] w (zii w (Rat.divInt p q) true):=by
 have L1:=hid (show wlen p.natAbs + 1 ≤ LIM by have:=zdl (n:=p.natAbs) (by unfold B64;omega);have:=zaP;omega)
 have L2:=hid (show wlen q.natAbs + 1 ≤ LIM by have:=zdl (n:=q.natAbs) (by unfold B64;omega);have:=zaP;omega)
 have HQ:=hid hq
 have HP0:=hid hp0
 have HP1:=hid hp1
 have HQ0:=hid hq0
 have HQ1:=hid hq1
 clear hq hp0 hp1 hq0 hq1
 obtain ⟨W,hW⟩:∃ W,(w.alloc (.cells #[.bool false, .slice none 0 0, .slice none 0 0] 35)) = W:=⟨_,rfl⟩
 have KB0:=hid (show W.heap[w.heap.size]? = some (.cells #[.bool false, .slice none 0 0, .slice none 0 0] 35 (0,0)) by rw [← hW];exact zam (by simp))
 have BB:=hid (show Below w.heap.size w W by rw [← hW];exact zae w _)
 go_enter Tryz.func109,Tryz.ntmps109
 go_wp2_with fail
 clear hW
 with_reducible refine (It.of p HP0.out HP1.out _).mono ?_
 rintro e w1 ⟨g1,A1,m1,c1,rfl,hn,hb⟩
 have zaq:=hid (zad hb KB0.out)
 have HI:=hid (show IntS w1 g1 (.slice A1 m1 c1) p from hn)
 have zaQ:=hid (BB.out.trans ((hb).mono BB.out.size))
 clear hn hb
 go_wp2_with fail
 with_reducible refine (It.of q HQ0.out HQ1.out _).mono ?_
 rintro e w2 ⟨g2,A2,m2,c2,rfl,hn,hb⟩
 have zaD:=hid (zad hb zaq.out)
 have zvR:=hid (HI.out.below hb)
 have HJ:=hid (show IntS w2 g2 (.slice A2 m2 c2) q from hn)
 have zbj:=hid (zaQ.out.trans ((hb).mono zaQ.out.size))
 clear hn hb
 go_wp2_with fail
 with_reducible refine (newd g1 A1 m1 c1 p g2 A2 m2 c2 q _ zvR.out HJ.out HQ.out L1.out L2.out).mono ?_
 rintro e w3 ⟨g3,A3,m3,c3,D3,md3,cd3,rfl,hn,hb⟩
 have zbn:=hid (zad hb zaD.out)
 have HR:=hid (show RatS w3 g3 (.slice A3 m3 c3) (.slice D3 md3 cd3) (Rat.divInt p q) from hn)
 have zcc:=hid (zbj.out.trans ((hb).mono zbj.out.size))
 obtain ⟨zdg,zb0,zfy,_,zdh,zb1,zfz,_,zlM,zim,zuQ,_⟩:=bf3 zbn.out
 clear hn hb
 go_wp2
 refine bodyPost_ret (v := .tuple #[.agg #[.bool g3, .slice A3 m3 c3, .slice D3 md3 cd3], .bool true]) (by simp [results,Tryz.results109,go_sem,zdg,zb0,zdh,zb1,zlM,zim]) rfl ?_
 exact ⟨g3,A3,m3,c3,D3,md3,cd3,rfl,HR.out.set3 zbn.out (by decide) _ _ _,Below.setCell (Below.setCell (Below.setCell (zcc.out) (p:=⟨w.heap.size,0,none⟩) (by show w.heap.size ≤ w.heap.size;omega) _) (p:=⟨w.heap.size,1,none⟩) (by show w.heap.size ≤ w.heap.size;omega) _) (p:=⟨w.heap.size,2,none⟩) (by show w.heap.size ≤ w.heap.size;omega) _⟩
end Rt
end Go.Proofs.YtdbgbaiekpbaoaaGreatDoor
