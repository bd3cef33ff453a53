/- rat.bare,New,Of by their contracts. Conditions: as each says. -/
import Derived.Test.YtdbgbaiekpbaoaaGreatDoorRat1Zp
set_option linter.all false
namespace Go.Proofs.YtdbgbaiekpbaoaaGreatDoor
open Go.RowKit Am
open Lib (hid)
attribute [local go_sem ↓] Go.wp_at_zero Go.wp_at_succ
set_option maxHeartbeats 1000000
set_option maxRecDepth 100000
namespace Rt
theorem zwe (g:Bool) (A:Option Addr) (m c:Nat) (D:Option Addr) (md cd:Nat) (q:Rat) (w:World) (h:IntS w g (.slice A m c) q.num) (h':zas w (.slice D md cd) q.den) (hd:q.den = 1) :
  Calls Tryz.prog 115 #[.agg #[.bool g, .slice A m c], .agg #[.slice D md cd]] w (ze4 w q):=by
 have HD:=hid hd
 have hlt:q.den < 18446744073709551616:=by rw [hd];decide
 have HLT:=hid hlt
 have h1:((q.den:Int) == 1) = true:=by rw [hd];rfl
 clear hd hlt
 obtain ⟨W,hW⟩:∃ W,(((w.alloc (.cells #[.bool g, .slice A m c] 33)).alloc (.cells #[.slice D md cd] 31)).alloc (.cells #[.bool false, .slice none 0 0, .slice none 0 0] 35)) = W:=⟨_,rfl⟩
 have KB0:=hid (show W.heap[w.heap.size]? = some (.cells #[.bool g, .slice A m c] 33 (0,0)) by rw [← hW];exact zak (zak (zam (by simp))))
 have KB1:=hid (show W.heap[w.heap.size + 1]? = some (.cells #[.slice D md cd] 31 (0,0)) by rw [← hW];exact zak (zam (by simp)))
 have KB2:=hid (show W.heap[w.heap.size + 1 + 1]? = some (.cells #[.bool false, .slice none 0 0, .slice none 0 0] 35 (0,0)) by rw [← hW];exact zam (by simp))
 have BB:=hid (show Below w.heap.size w W by rw [← hW];exact ((zae w _).alloc (by simp) _).alloc (by simp;omega) _)
 have HX:=hid (show IntS W g (.slice A m c) q.num by rw [← hW];exact (((h).alloc _).alloc _).alloc _)
 have HY:=hid (show zas W (.slice D md cd) q.den by rw [← hW];exact (((h').alloc _).alloc _).alloc _)
 obtain ⟨zbr,_⟩:=bc1 KB1.out
 clear h h'
 go_enter Tryz.func115,Tryz.ntmps115
 go_wp2_with fail
 clear hW
 with_reducible refine (Nt.uint_one (.slice D md cd) q.den HLT.out _ HY.out).mono ?_
 rintro e w1 ⟨rfl,hb⟩
 have zaq:=hid (zad hb KB0.out)
 have zcu:=hid (zad hb KB2.out)
 have zif:=hid (HX.out.below hb)
 have zaQ:=hid (BB.out.trans ((hb).mono BB.out.size))
 obtain ⟨zaI,_,zaJ,_⟩:=bc2 zaq.out
 obtain ⟨zdT,zcK,zgX,_,zdU,zcL,zg0,_,zem,zc5,zg3,_⟩:=bf3 zcu.out
 clear hb
 go_wp2
 refine bodyPost_ret (v := .agg #[.bool g, .slice A m c, .slice none 0 0]) (by simp [results,Tryz.results115,go_sem,zdT,zcK,zdU,zcL,zem,zc5]) rfl ?_
 have hi:RatS w1 g (.slice A m c) (.slice none 0 0) q:=⟨zif.out,by rw [zyk HD.out];exact zas.zero _⟩
 exact ⟨g,A,m,c,none,0,0,rfl,hi.set3 zcu.out (by decide) _ _ _,Below.setCell (Below.setCell (Below.setCell (zaQ.out) (p:=⟨w.heap.size + 1 + 1,0,none⟩) (by show w.heap.size ≤ w.heap.size + 1 + 1;omega) _) (p:=⟨w.heap.size + 1 + 1,1,none⟩) (by show w.heap.size ≤ w.heap.size + 1 + 1;omega) _) (p:=⟨w.heap.size + 1 + 1,2,none⟩) (by show w.heap.size ≤ w.heap.size + 1 + 1;omega) _⟩
theorem ztY (g:Bool) (A:Option Addr) (m c:Nat) (D:Option Addr) (md cd:Nat) (q:Rat) (w:World) (h:IntS w g (.slice A m c) q.num) (h':zas w (.slice D md cd) q.den) (hd:q.den ≠ 1) (hlt:q.den < 18446744073709551616) :
  Calls Tryz.prog 115 #[.agg #[.bool g, .slice A m c], .agg #[.slice D md cd]] w (ze4 w q):=by
 have HD:=hid hd
 have HLT:=hid hlt
 have h1:((q.den:Int) == 1) = false:=by rw [show ((q.den:Int) == 1) = decide ((q.den:Int) = 1) from rfl,decide_eq_false];omega
 clear hd hlt
 obtain ⟨W,hW⟩:∃ W,(((w.alloc (.cells #[.bool g, .slice A m c] 33)).alloc (.cells #[.slice D md cd] 31)).alloc (.cells #[.bool false, .slice none 0 0, .slice none 0 0] 35)) = W:=⟨_,rfl⟩
 have KB0:=hid (show W.heap[w.heap.size]? = some (.cells #[.bool g, .slice A m c] 33 (0,0)) by rw [← hW];exact zak (zak (zam (by simp))))
 have KB1:=hid (show W.heap[w.heap.size + 1]? = some (.cells #[.slice D md cd] 31 (0,0)) by rw [← hW];exact zak (zam (by simp)))
 have KB2:=hid (show W.heap[w.heap.size + 1 + 1]? = some (.cells #[.bool false, .slice none 0 0, .slice none 0 0] 35 (0,0)) by rw [← hW];exact zam (by simp))
 have BB:=hid (show Below w.heap.size w W by rw [← hW];exact ((zae w _).alloc (by simp) _).alloc (by simp;omega) _)
 have HX:=hid (show IntS W g (.slice A m c) q.num by rw [← hW];exact (((h).alloc _).alloc _).alloc _)
 have HY:=hid (show zas W (.slice D md cd) q.den by rw [← hW];exact (((h').alloc _).alloc _).alloc _)
 obtain ⟨zbr,_⟩:=bc1 KB1.out
 clear h h'
 go_enter Tryz.func115,Tryz.ntmps115
 go_wp2_with fail
 clear hW
 with_reducible refine (Nt.uint_one (.slice D md cd) q.den HLT.out _ HY.out).mono ?_
 rintro e w1 ⟨rfl,hb⟩
 have zaq:=hid (zad hb KB0.out)
 have za0:=hid (zad hb KB1.out)
 have zcu:=hid (zad hb KB2.out)
 have zif:=hid (HX.out.below hb)
 have zx2:=hid (HY.out.below hb)
 have zaQ:=hid (BB.out.trans ((hb).mono BB.out.size))
 obtain ⟨zaI,_,zaJ,_⟩:=bc2 zaq.out
 obtain ⟨zbe,_⟩:=bc1 za0.out
 obtain ⟨zdT,zcK,zgX,_,zdU,zcL,zg0,_,zem,zc5,zg3,_⟩:=bf3 zcu.out
 clear hb
 go_wp2
 refine bodyPost_ret (v := .agg #[.bool g, .slice A m c, .slice D md cd]) (by simp [results,Tryz.results115,go_sem,zdT,zcK,zdU,zcL,zem,zc5]) rfl ?_
 have hi:RatS w1 g (.slice A m c) (.slice D md cd) q:=⟨zif.out,by rw [zp0 HD.out];exact zx2.out⟩
 exact ⟨g,A,m,c,D,md,cd,rfl,hi.set3 zcu.out (by decide) _ _ _,Below.setCell (Below.setCell (Below.setCell (zaQ.out) (p:=⟨w.heap.size + 1 + 1,0,none⟩) (by show w.heap.size ≤ w.heap.size + 1 + 1;omega) _) (p:=⟨w.heap.size + 1 + 1,1,none⟩) (by show w.heap.size ≤ w.heap.size + 1 + 1;omega) _) (p:=⟨w.heap.size + 1 + 1,2,none⟩) (by show w.heap.size ≤ w.heap.size + 1 + 1;omega) _⟩
theorem zwd (g:Bool) (A:Option Addr) (m c:Nat) (D:Option Addr) (md cd:Nat) (q:Rat) (w:World) (h:IntS w g (.slice A m c) q.num) (h':zas w (.slice D md cd) q.den) (hlt:18446744073709551616 ≤ q.den) :
  Calls Tryz.prog 115 #[.agg #[.bool g, .slice A m c], .agg #[.slice D md cd]] w (ze4 w q):=by
 have HD:=hid (show q.den ≠ 1 by omega)
 have HLT:=hid hlt
 clear hlt
 obtain ⟨W,hW⟩:∃ W,(((w.alloc (.cells #[.bool g, .slice A m c] 33)).alloc (.cells #[.slice D md cd] 31)).alloc (.cells #[.bool false, .slice none 0 0, .slice none 0 0] 35)) = W:=⟨_,rfl⟩
 have KB0:=hid (show W.heap[w.heap.size]? = some (.cells #[.bool g, .slice A m c] 33 (0,0)) by rw [← hW];exact zak (zak (zam (by simp))))
 have KB1:=hid (show W.heap[w.heap.size + 1]? = some (.cells #[.slice D md cd] 31 (0,0)) by rw [← hW];exact zak (zam (by simp)))
 have KB2:=hid (show W.heap[w.heap.size + 1 + 1]? = some (.cells #[.bool false, .slice none 0 0, .slice none 0 0] 35 (0,0)) by rw [← hW];exact zam (by simp))
 have BB:=hid (show Below w.heap.size w W by rw [← hW];exact ((zae w _).alloc (by simp) _).alloc (by simp;omega) _)
 have HX:=hid (show IntS W g (.slice A m c) q.num by rw [← hW];exact (((h).alloc _).alloc _).alloc _)
 have HY:=hid (show zas W (.slice D md cd) q.den by rw [← hW];exact (((h').alloc _).alloc _).alloc _)
 obtain ⟨zbr,_⟩:=bc1 KB1.out
 clear h h'
 go_enter Tryz.func115,Tryz.ntmps115
 go_wp2_with fail
 clear hW
 with_reducible refine (Nt.uint_more (.slice D md cd) q.den HLT.out _ HY.out).mono ?_
 rintro e w1 ⟨rfl,hb⟩
 have zaq:=hid (zad hb KB0.out)
 have za0:=hid (zad hb KB1.out)
 have zcu:=hid (zad hb KB2.out)
 have zif:=hid (HX.out.below hb)
 have zx2:=hid (HY.out.below hb)
 have zaQ:=hid (BB.out.trans ((hb).mono BB.out.size))
 obtain ⟨zaI,_,zaJ,_⟩:=bc2 zaq.out
 obtain ⟨zbe,_⟩:=bc1 za0.out
 obtain ⟨zdT,zcK,zgX,_,zdU,zcL,zg0,_,zem,zc5,zg3,_⟩:=bf3 zcu.out
 clear hb
 go_wp2
 refine bodyPost_ret (v := .agg #[.bool g, .slice A m c, .slice D md cd]) (by simp [results,Tryz.results115,go_sem,zdT,zcK,zdU,zcL,zem,zc5]) rfl ?_
 have hi:RatS w1 g (.slice A m c) (.slice D md cd) q:=⟨zif.out,by rw [zp0 HD.out];exact zx2.out⟩
 exact ⟨g,A,m,c,D,md,cd,rfl,hi.set3 zcu.out (by decide) _ _ _,Below.setCell (Below.setCell (Below.setCell (zaQ.out) (p:=⟨w.heap.size + 1 + 1,0,none⟩) (by show w.heap.size ≤ w.heap.size + 1 + 1;omega) _) (p:=⟨w.heap.size + 1 + 1,1,none⟩) (by show w.heap.size ≤ w.heap.size + 1 + 1;omega) _) (p:=⟨w.heap.size + 1 + 1,2,none⟩) (by show w.heap.size ≤ w.heap.size + 1 + 1;omega) _⟩
theorem bare (g:Bool) (A:Option Addr) (m c:Nat) (D:Option Addr) (md cd:Nat) (q:Rat) (w:World) (h:IntS w g (.slice A m c) q.num) (h':zas w (.slice D md cd) q.den)  :
  Calls Tryz.prog 115 #[.agg #[.bool g, .slice A m c], .agg #[.slice D md cd]] w (ze4 w q):=by
 by_cases hd:q.den = 1
 ·exact zwe g A m c D md cd q w h h' hd
 ·by_cases hlt:q.den < 18446744073709551616
  ·exact ztY g A m c D md cd q w h h' hd hlt
  ·exact zwd g A m c D md cd q w h h' (by omega)
theorem div_num (x y:Int) (hy:y ≠ 0):(if (!(decide (x < 0) == decide (y < 0))) = true then -((x.natAbs / Nat.gcd x.natAbs y.natAbs:Nat):Int) else ((x.natAbs / Nat.gcd x.natAbs y.natAbs:Nat):Int)) = (Rat.divInt x y).num:=by
 rw [Rat.num_divInt]
 have hg:y.gcd x = Nat.gcd x.natAbs y.natAbs:=by rw [Int.gcd_comm];rfl
 rw [hg]
 have hd:(Nat.gcd x.natAbs y.natAbs) ∣ x.natAbs:=Nat.gcd_dvd_left _ _
 generalize Nat.gcd x.natAbs y.natAbs = k at *
 have e:((x.natAbs / k:Nat):Int) = (x.natAbs:Int) / (k:Int):=Int.natCast_ediv _ _
 rw [e]
 have en:(-(x.natAbs:Int)) / (k:Int) = -((x.natAbs:Int) / (k:Int)):=Int.neg_ediv_of_dvd (Int.natCast_dvd_natCast.2 hd)
 rcases Int.lt_trichotomy y 0 with h | h | h
 ·rw [Int.sign_eq_neg_one_of_neg h,decide_eq_true h]
  by_cases hx0:x < 0
  ·rw [decide_eq_true hx0]
   have : (x.natAbs:Int) = -1 * x:=by omega
   simp [this]
  ·rw [decide_eq_false hx0, ← en]
   have : -(x.natAbs:Int) = -1 * x:=by omega
   rw [this];simp
 ·exact absurd h hy
 ·rw [Int.sign_eq_one_of_pos h,decide_eq_false (show ¬ y < 0 by omega)]
  by_cases hx0:x < 0
  ·rw [decide_eq_true hx0, ← en]
   have : -(x.natAbs:Int) = 1 * x:=by omega
   rw [this];simp
  ·rw [decide_eq_false hx0]
   have : (x.natAbs:Int) = 1 * x:=by omega
   rw [this];simp
theorem div_den (x y:Int) (hy:y ≠ 0):y.natAbs / Nat.gcd x.natAbs y.natAbs = (Rat.divInt x y).den:=by
 rw [Rat.den_divInt,if_neg hy,Int.gcd_comm];rfl
end Rt
end Go.Proofs.YtdbgbaiekpbaoaaGreatDoor
