/- integer.Of,and fractions: what lies in memory;rat.Num,Den,below,Sign,Zero,Neg by their contracts. Conditions: as each says. -/
import Derived.Test.YtdbgbaiekpbaoaaGreatDoorInt5Zp
set_option linter.all false
namespace Go.Proofs.YtdbgbaiekpbaoaaGreatDoor
open Go.RowKit Am
open Lib (hid)
attribute [local go_sem ↓] Go.wp_at_zero Go.wp_at_succ
set_option maxHeartbeats 1000000
set_option maxRecDepth 100000
def dn (q:Rat):Nat:=if q.den = 1 then 0 else q.den
structure RatS (w:World) (g:Bool) (s d:Value) (q:Rat):Prop where
  num:IntS w g s q.num
  den:zas w d (dn q)
theorem IntS.drew {w:World} {g:Bool} {s:Value} {z:Int} (h:IntS w g s z):IntS w.drew g s z:=⟨h.abs.drew,h.neg⟩
theorem RatS.below {w w':World} {g:Bool} {s d:Value} {q:Rat} (h:RatS w g s d q) (hb:Below w.heap.size w w'):RatS w' g s d q:=⟨h.num.below hb,h.den.below hb⟩
theorem RatS.alloc {w:World} {g:Bool} {s d:Value} {q:Rat} (h:RatS w g s d q) (o:Obj):RatS (w.alloc o) g s d q:=⟨h.num.alloc o,h.den.alloc o⟩
theorem RatS.drew {w:World} {g:Bool} {s d:Value} {q:Rat} (h:RatS w g s d q):RatS w.drew g s d q:=⟨h.num.drew,h.den.drew⟩
def zr (q:Rat):Bool:=decide (q = 0)
theorem zIY (q:Rat):(q.num.sign == 0) = zr q:=by
 unfold zr
 rw [show (q.num.sign == 0) = decide (q.num.sign = 0) from rfl]
 congr 1
 rw [Int.sign_eq_zero_iff_zero,Rat.num_eq_zero]
def ze4 (w:World) (q:Rat) (e:Ending) (w':World):Prop := ∃ (g:Bool) (A:Option Addr) (m c:Nat) (D:Option Addr) (md cd:Nat),e = .returned (.agg #[.bool g, .slice A m c, .slice D md cd]) ∧ RatS w' g (.slice A m c) (.slice D md cd) q ∧ Below w.heap.size w w'
def zii (w:World) (q:Rat) (b:Bool) (e:Ending) (w':World):Prop := ∃ (g:Bool) (A:Option Addr) (m c:Nat) (D:Option Addr) (md cd:Nat),e = .returned (.tuple #[.agg #[.bool g, .slice A m c, .slice D md cd], .bool b]) ∧ RatS w' g (.slice A m c) (.slice D md cd) q ∧ Below w.heap.size w w'
theorem zyk {q:Rat} (h:q.den = 1):dn q = 0:=by unfold dn;rw [if_pos h]
theorem zp0 {q:Rat} (h:q.den ≠ 1):dn q = q.den:=by unfold dn;rw [if_neg h]
theorem zas.setIn {w:World} {b o:Nat} {cs:Array Value} {t:TypeId} {s:Value} {n:Nat} (h:zas w s n) (hb:w.heap[b]? = some (.cells cs t (0,0))) (ht:193 ≠ t) (u:Value):zas (w.setCell ⟨b,o,none⟩ u) s n:=h.setCell (p:=⟨b,o,none⟩) hb ht u
theorem zar {w:World} {b o:Nat} {cs:Array Value} {t:TypeId} (u:Value) (hb:w.heap[b]? = some (.cells cs t (0,0))):(w.setCell ⟨b,o,none⟩ u).heap[b]? = some (.cells (cs.setIfInBounds o u) t (0,0)):=heap_setCell_same w b o cs t u hb
theorem RatS.set3 {w:World} {b:Nat} {cs:Array Value} {t:TypeId} {g:Bool} {s d:Value} {q:Rat} (h:RatS w g s d q) (hb:w.heap[b]? = some (.cells cs t (0,0))) (ht:193 ≠ t) (u v x:Value) :
  RatS (((w.setCell ⟨b,0,none⟩ u).setCell ⟨b,1,none⟩ v).setCell ⟨b,2,none⟩ x) g s d q :=
 ⟨⟨((h.num.abs.setIn hb ht u).setIn (zar u hb) ht v).setIn (zar v (zar u hb)) ht x,h.num.neg⟩,((h.den.setIn hb ht u).setIn (zar u hb) ht v).setIn (zar v (zar u hb)) ht x⟩
theorem IntS.set2 {w:World} {b:Nat} {cs:Array Value} {t:TypeId} {g:Bool} {s:Value} {z:Int} (h:IntS w g s z) (hb:w.heap[b]? = some (.cells cs t (0,0))) (ht:193 ≠ t) (u v:Value) :
  IntS ((w.setCell ⟨b,0,none⟩ u).setCell ⟨b,1,none⟩ v) g s z :=
 ⟨(h.abs.setIn hb ht u).setIn (zar u hb) ht v,h.neg⟩
theorem Nt.zero' (s:Value) (n:Nat) (w:World) (hs:zas w s n):Calls Tryz.prog 111 #[.agg #[s]] w fun e w' => e = .returned (.bool (isZ n)) ∧ Below w.heap.size w w' :=
 (Nt.zero s n w hs).mono (by rintro e w' ⟨rfl,rfl⟩;exact ⟨rfl,zae w _⟩)
theorem Nt.of1 (x:Nat) (K:Int) (hK:K = (x:Int)) (hx:x < B64) (w:World):Calls Tryz.prog 123 #[.slice (some ⟨w.heap.size,0,none⟩) 1 1] (w.alloc (.cells #[.int .u64 K] 193)) (zc0 w x):=by
 subst hK
 have h:SR (w.alloc (.cells #[.int .u64 (x:Int)] 193)) (.slice (some ⟨w.heap.size,0,none⟩) 1 1) [x]:=by
  refine ⟨some ⟨w.heap.size,0,none⟩,1,rfl,Nat.le_refl _,by decide,?_,(fun h => by cases h),?_⟩
  ·intro y hy;rw [List.mem_singleton] at hy;subst hy;exact hx
  ·intro ad he j u hu
   obtain rfl:=Option.some.inj he
   cases j with
   | zero => simp only [wcells,List.map,List.getElem?_cons_zero] at hu;rw [← hu];exact zax rfl rfl
   | succ j => simp [wcells] at hu
 refine (Nt.of _ _ _ h (by rw [zaP];simp)).mono ?_
 rintro e w' ⟨A,m,c,rfl,hn,hb⟩
 have e1:nval [x] = x:=by simp [nval]
 rw [e1] at hn
 exact ⟨A,m,c,rfl,hn,(zae w _).trans (hb.mono (by simp))⟩
namespace It
theorem zBs (x:Int) (h0:x < 0) (h1 : -9223372036854775808 ≤ x):IntKind.u64.wrap (-IntKind.u64.wrap x) = (x.natAbs:Int):=by
 unfold IntKind.wrap IntKind.signed IntKind.bits
 simp
 omega
theorem zIb (x:Int) (h0:0 ≤ x) (h1:x ≤ 9223372036854775807) (w:World):Calls Tryz.prog 101 #[.int .i64 x] w (zfg w x):=by
 have hlt:decide (x < 0) = false:=decide_eq_false (by omega)
 have HX:=hid (show x = (x.natAbs:Int) by omega)
 have HB:=hid (show x.natAbs < B64 by unfold B64;omega)
 obtain ⟨W,hW⟩:∃ W,(w.alloc (.cells #[.bool false, .slice none 0 0] 33)) = W:=⟨_,rfl⟩
 have KB0:=hid (show W.heap[w.heap.size]? = some (.cells #[.bool false, .slice none 0 0] 33 (0,0)) by rw [← hW];exact zam (by simp))
 have BB:=hid (show Below w.heap.size w W by rw [← hW];exact zae w _)
 go_enter Tryz.func101,Tryz.ntmps101
 go_wp2_with fail
 clear hW
 with_reducible refine (Nt.of1 x.natAbs x HX.out HB.out _).mono ?_
 rintro e w1 ⟨A2,m2,c2,rfl,hn,hb⟩
 have zaq:=hid (zad hb KB0.out)
 have HN:=hid (show zas w1 (.slice A2 m2 c2) x.natAbs from hn)
 have zaQ:=hid (BB.out.trans ((hb).mono BB.out.size))
 clear hn hb
 go_wp2_with fail
 with_reducible refine (new false A2 m2 c2 x.natAbs _ HN.out).mono ?_
 rintro e w2 ⟨g3,A3,m3,c3,rfl,hn,hb⟩
 have zaD:=hid (zad hb zaq.out)
 have HI:=hid (show IntS w2 g3 (.slice A3 m3 c3) (if false then -(x.natAbs:Int) else (x.natAbs:Int)) from hn)
 have zbj:=hid (zaQ.out.trans ((hb).mono zaQ.out.size))
 obtain ⟨zaU,zaE,zcN,_,zaV,zaF,zcP,_⟩:=bf2 zaD.out
 clear hn hb
 go_wp2
 refine bodyPost_ret (v := .agg #[.bool g3, .slice A3 m3 c3]) (by simp [results,Tryz.results101,go_sem,zaU,zaE,zaV,zaF]) rfl ?_
 have hi:IntS w2 g3 (.slice A3 m3 c3) x:=by have h:=HI.out;rwa [if_neg (by decide), ← HX.out] at h
 exact ⟨g3,A3,m3,c3,rfl,hi.set2 zaD.out (by decide) _ _,Below.setCell (Below.setCell (zbj.out) (p:=⟨w.heap.size,0,none⟩) (by show w.heap.size ≤ w.heap.size;omega) _) (p:=⟨w.heap.size,1,none⟩) (by show w.heap.size ≤ w.heap.size;omega) _⟩
theorem zH9 (x:Int) (h0:x < 0) (h1 : -9223372036854775808 ≤ x) (w:World):Calls Tryz.prog 101 #[.int .i64 x] w (zfg w x):=by
 have HX:=hid (zBs x h0 h1)
 have HX2:=hid (show -(x.natAbs:Int) = x by omega)
 have HB:=hid (show x.natAbs < B64 by unfold B64;omega)
 obtain ⟨W,hW⟩:∃ W,(w.alloc (.cells #[.bool false, .slice none 0 0] 33)) = W:=⟨_,rfl⟩
 have KB0:=hid (show W.heap[w.heap.size]? = some (.cells #[.bool false, .slice none 0 0] 33 (0,0)) by rw [← hW];exact zam (by simp))
 have BB:=hid (show Below w.heap.size w W by rw [← hW];exact zae w _)
 go_enter Tryz.func101,Tryz.ntmps101
 go_wp2_with fail
 clear hW
 with_reducible refine (Nt.of1 x.natAbs _ HX.out HB.out _).mono ?_
 rintro e w1 ⟨A2,m2,c2,rfl,hn,hb⟩
 have zaq:=hid (zad hb KB0.out)
 have HN:=hid (show zas w1 (.slice A2 m2 c2) x.natAbs from hn)
 have zaQ:=hid (BB.out.trans ((hb).mono BB.out.size))
 clear hn hb
 go_wp2_with fail
 with_reducible refine (new true A2 m2 c2 x.natAbs _ HN.out).mono ?_
 rintro e w2 ⟨g3,A3,m3,c3,rfl,hn,hb⟩
 have zaD:=hid (zad hb zaq.out)
 have HI:=hid (show IntS w2 g3 (.slice A3 m3 c3) (if true then -(x.natAbs:Int) else (x.natAbs:Int)) from hn)
 have zbj:=hid (zaQ.out.trans ((hb).mono zaQ.out.size))
 obtain ⟨zaU,zaE,zcN,_,zaV,zaF,zcP,_⟩:=bf2 zaD.out
 clear hn hb
 go_wp2
 refine bodyPost_ret (v := .agg #[.bool g3, .slice A3 m3 c3]) (by simp [results,Tryz.results101,go_sem,zaU,zaE,zaV,zaF]) rfl ?_
 have hi:IntS w2 g3 (.slice A3 m3 c3) x:=by have h:=HI.out;rwa [if_pos trivial,HX2.out] at h
 exact ⟨g3,A3,m3,c3,rfl,hi.set2 zaD.out (by decide) _ _,Below.setCell (Below.setCell (zbj.out) (p:=⟨w.heap.size,0,none⟩) (by show w.heap.size ≤ w.heap.size;omega) _) (p:=⟨w.heap.size,1,none⟩) (by show w.heap.size ≤ w.heap.size;omega) _⟩
theorem of (x:Int) (h0 : -9223372036854775808 ≤ x) (h1:x ≤ 9223372036854775807) (w:World):Calls Tryz.prog 101 #[.int .i64 x] w (zfg w x):=by
 by_cases h:x < 0
 ·exact zH9 x h h0 w
 ·exact zIb x (by omega) h1 w
end It
namespace Rt
theorem num (g:Bool) (A:Option Addr) (m c:Nat) (D:Option Addr) (md cd:Nat) (q:Rat) (w:World) (h:RatS w g (.slice A m c) (.slice D md cd) q) :
  Calls Tryz.prog 144 #[.agg #[.bool g, .slice A m c, .slice D md cd]] w fun e w' => e = .returned (.agg #[.bool g, .slice A m c]) ∧ Below w.heap.size w w':=by
 obtain ⟨W,hW⟩:∃ W,((w.alloc (.cells #[.bool g, .slice A m c, .slice D md cd] 35)).alloc (.cells #[.bool false, .slice none 0 0] 33)) = W:=⟨_,rfl⟩
 have KB0:=hid (show W.heap[w.heap.size]? = some (.cells #[.bool g, .slice A m c, .slice D md cd] 35 (0,0)) by rw [← hW];exact zak (zam (by simp)))
 have KB1:=hid (show W.heap[w.heap.size + 1]? = some (.cells #[.bool false, .slice none 0 0] 33 (0,0)) by rw [← hW];exact zam (by simp))
 have BB:=hid (show Below w.heap.size w W by rw [← hW];exact (zae w _).alloc (by simp) _)
 obtain ⟨zaK,_,zaL,_⟩:=bc3 KB0.out
 obtain ⟨zbr,zbd,zcw,_,zbP,zby,zc6,_⟩:=bf2 KB1.out
 clear h KB0 KB1
 go_enter Tryz.func144,Tryz.ntmps144
 go_wp2_with fail
 clear hW
 go_wp2
 refine bodyPost_ret (v := .agg #[.bool g, .slice A m c]) (by simp [results,Tryz.results144,go_sem,zbr,zbd,zbP,zby]) rfl ?_
 exact ⟨rfl,Below.setCell (Below.setCell (BB.out) (p:=⟨w.heap.size + 1,0,none⟩) (by show w.heap.size ≤ w.heap.size + 1;omega) _) (p:=⟨w.heap.size + 1,1,none⟩) (by show w.heap.size ≤ w.heap.size + 1;omega) _⟩
theorem zz7 (g:Bool) (A:Option Addr) (m c:Nat) (D:Option Addr) (md cd:Nat) (q:Rat) (w:World) (h:RatS w g (.slice A m c) (.slice D md cd) q) (hd:q.den = 1) :
  Calls Tryz.prog 59 #[.agg #[.bool g, .slice A m c, .slice D md cd]] w (zc0 w q.den):=by
 rw [hd]
 have h2:zas w (.slice D md cd) 0:=by have:=h.den;rwa [zyk hd] at this
 have hz:isZ 0 = true:=rfl
 clear h hd
 obtain ⟨W,hW⟩:∃ W,((w.alloc (.cells #[.bool g, .slice A m c, .slice D md cd] 35)).alloc (.cells #[.slice none 0 0] 31)) = W:=⟨_,rfl⟩
 have KB0:=hid (show W.heap[w.heap.size]? = some (.cells #[.bool g, .slice A m c, .slice D md cd] 35 (0,0)) by rw [← hW];exact zak (zam (by simp)))
 have KB1:=hid (show W.heap[w.heap.size + 1]? = some (.cells #[.slice none 0 0] 31 (0,0)) by rw [← hW];exact zam (by simp))
 have BB:=hid (show Below w.heap.size w W by rw [← hW];exact (zae w _).alloc (by simp) _)
 have HX:=hid (show zas W (.slice D md cd) 0 by rw [← hW];exact ((h2).alloc _).alloc _)
 obtain ⟨_,_,_,_,zbO,_⟩:=bc3 KB0.out
 clear h2
 go_enter Tryz.func59,Tryz.ntmps59
 go_wp2_with fail
 clear hW
 with_reducible refine (Nt.zero' (.slice D md cd) 0 _ HX.out).mono ?_
 rintro e w1 ⟨rfl,hb⟩
 have za0:=hid (zad hb KB1.out)
 have zaQ:=hid (BB.out.trans ((hb).mono BB.out.size))
 clear hb
 rw [hz]
 go_wp2_with fail
 with_reducible refine (Nt.of1 1 1 rfl (by decide) _).mono ?_
 rintro e w2 ⟨A2,m2,c2,rfl,hn,hb⟩
 have zbb:=hid (zad hb za0.out)
 have HN:=hid (show zas w2 (.slice A2 m2 c2) 1 from hn)
 have zbj:=hid (zaQ.out.trans ((hb).mono zaQ.out.size))
 obtain ⟨zbi,zaX,zb2,_⟩:=bf1 zbb.out
 clear hn hb
 go_wp2
 refine bodyPost_ret (v := .agg #[.slice A2 m2 c2]) (by simp [results,Tryz.results59,go_sem,zbi,zaX]) rfl ?_
 exact ⟨A2,m2,c2,rfl,zas.setIn HN.out zbb.out (by decide) _,Below.setCell (zbj.out) (p:=⟨w.heap.size + 1,0,none⟩) (by show w.heap.size ≤ w.heap.size + 1;omega) _⟩
theorem zwF (g:Bool) (A:Option Addr) (m c:Nat) (D:Option Addr) (md cd:Nat) (q:Rat) (w:World) (h:RatS w g (.slice A m c) (.slice D md cd) q) (hd:q.den ≠ 1) :
  Calls Tryz.prog 59 #[.agg #[.bool g, .slice A m c, .slice D md cd]] w (zc0 w q.den):=by
 have h2:zas w (.slice D md cd) q.den:=by have:=h.den;rwa [zp0 hd] at this
 have hz:isZ q.den = false:=zk4 q.den_pos
 clear h hd
 obtain ⟨W,hW⟩:∃ W,((w.alloc (.cells #[.bool g, .slice A m c, .slice D md cd] 35)).alloc (.cells #[.slice none 0 0] 31)) = W:=⟨_,rfl⟩
 have KB0:=hid (show W.heap[w.heap.size]? = some (.cells #[.bool g, .slice A m c, .slice D md cd] 35 (0,0)) by rw [← hW];exact zak (zam (by simp)))
 have KB1:=hid (show W.heap[w.heap.size + 1]? = some (.cells #[.slice none 0 0] 31 (0,0)) by rw [← hW];exact zam (by simp))
 have BB:=hid (show Below w.heap.size w W by rw [← hW];exact (zae w _).alloc (by simp) _)
 have HX:=hid (show zas W (.slice D md cd) q.den by rw [← hW];exact ((h2).alloc _).alloc _)
 obtain ⟨_,_,_,_,zbO,_⟩:=bc3 KB0.out
 clear h2
 go_enter Tryz.func59,Tryz.ntmps59
 go_wp2_with fail
 clear hW
 with_reducible refine (Nt.zero' (.slice D md cd) q.den _ HX.out).mono ?_
 rintro e w1 ⟨rfl,hb⟩
 have zaq:=hid (zad hb KB0.out)
 have za0:=hid (zad hb KB1.out)
 have zif:=hid (HX.out.below hb)
 have zaQ:=hid (BB.out.trans ((hb).mono BB.out.size))
 obtain ⟨_,_,_,_,zbC,_⟩:=bc3 zaq.out
 obtain ⟨zbe,zaW,zcf,_⟩:=bf1 za0.out
 clear hb
 rw [hz]
 go_wp2
 refine bodyPost_ret (v := .agg #[.slice D md cd]) (by simp [results,Tryz.results59,go_sem,zbe,zaW]) rfl ?_
 exact ⟨D,md,cd,rfl,zas.setIn zif.out za0.out (by decide) _,Below.setCell (zaQ.out) (p:=⟨w.heap.size + 1,0,none⟩) (by show w.heap.size ≤ w.heap.size + 1;omega) _⟩
theorem den (g:Bool) (A:Option Addr) (m c:Nat) (D:Option Addr) (md cd:Nat) (q:Rat) (w:World) (h:RatS w g (.slice A m c) (.slice D md cd) q):Calls Tryz.prog 59 #[.agg #[.bool g, .slice A m c, .slice D md cd]] w (zc0 w q.den):=by
 by_cases hd:q.den = 1
 ·exact zz7 g A m c D md cd q w h hd
 ·exact zwF g A m c D md cd q w h hd
theorem below (g:Bool) (A:Option Addr) (m c:Nat) (D:Option Addr) (md cd:Nat) (q:Rat) (w:World) (h:RatS w g (.slice A m c) (.slice D md cd) q):Calls Tryz.prog 55 #[.agg #[.bool g, .slice A m c, .slice D md cd]] w (zfg w (q.den:Int)):=by
 obtain ⟨W,hW⟩:∃ W,((w.alloc (.cells #[.bool g, .slice A m c, .slice D md cd] 35)).alloc (.cells #[.bool false, .slice none 0 0] 33)) = W:=⟨_,rfl⟩
 have KB0:=hid (show W.heap[w.heap.size]? = some (.cells #[.bool g, .slice A m c, .slice D md cd] 35 (0,0)) by rw [← hW];exact zak (zam (by simp)))
 have KB1:=hid (show W.heap[w.heap.size + 1]? = some (.cells #[.bool false, .slice none 0 0] 33 (0,0)) by rw [← hW];exact zam (by simp))
 have BB:=hid (show Below w.heap.size w W by rw [← hW];exact (zae w _).alloc (by simp) _)
 have HX:=hid (show RatS W g (.slice A m c) (.slice D md cd) q by rw [← hW];exact ((h).alloc _).alloc _)
 obtain ⟨zaK,_,zaL,_,zbO,_⟩:=bc3 KB0.out
 clear h
 go_enter Tryz.func55,Tryz.ntmps55
 go_wp2_with fail
 clear hW
 with_reducible refine (den g A m c D md cd q _ HX.out).mono ?_
 rintro e w1 ⟨A2,m2,c2,rfl,hn,hb⟩
 have za0:=hid (zad hb KB1.out)
 have HN:=hid (show zas w1 (.slice A2 m2 c2) q.den from hn)
 have zaQ:=hid (BB.out.trans ((hb).mono BB.out.size))
 clear hn hb
 go_wp2_with fail
 with_reducible refine (It.new false A2 m2 c2 q.den _ HN.out).mono ?_
 rintro e w2 ⟨g3,A3,m3,c3,rfl,hn,hb⟩
 have zbb:=hid (zad hb za0.out)
 have HI:=hid (show IntS w2 g3 (.slice A3 m3 c3) (if false then -(q.den:Int) else (q.den:Int)) from hn)
 have zbj:=hid (zaQ.out.trans ((hb).mono zaQ.out.size))
 obtain ⟨zbi,zaX,zb2,_,zbp,za3,zcg,_⟩:=bf2 zbb.out
 clear hn hb
 go_wp2
 refine bodyPost_ret (v := .agg #[.bool g3, .slice A3 m3 c3]) (by simp [results,Tryz.results55,go_sem,zbi,zaX,zbp,za3]) rfl ?_
 have hi:IntS w2 g3 (.slice A3 m3 c3) (q.den:Int):=by have h:=HI.out;rwa [if_neg (by decide)] at h
 exact ⟨g3,A3,m3,c3,rfl,hi.set2 zbb.out (by decide) _ _,Below.setCell (Below.setCell (zbj.out) (p:=⟨w.heap.size + 1,0,none⟩) (by show w.heap.size ≤ w.heap.size + 1;omega) _) (p:=⟨w.heap.size + 1,1,none⟩) (by show w.heap.size ≤ w.heap.size + 1;omega) _⟩
theorem sign (g:Bool) (A:Option Addr) (m c:Nat) (D:Option Addr) (md cd:Nat) (q:Rat) (w:World) (h:RatS w g (.slice A m c) (.slice D md cd) q):Calls Tryz.prog 12 #[.agg #[.bool g, .slice A m c, .slice D md cd]] w fun e w' => e = .returned (.int .i64 q.num.sign) ∧ Below w.heap.size w w':=by
 obtain ⟨W,hW⟩:∃ W,(w.alloc (.cells #[.bool g, .slice A m c, .slice D md cd] 35)) = W:=⟨_,rfl⟩
 have KB0:=hid (show W.heap[w.heap.size]? = some (.cells #[.bool g, .slice A m c, .slice D md cd] 35 (0,0)) by rw [← hW];exact zam (by simp))
 have BB:=hid (show Below w.heap.size w W by rw [← hW];exact zae w _)
 have HX:=hid (show RatS W g (.slice A m c) (.slice D md cd) q by rw [← hW];exact (h).alloc _)
 obtain ⟨zaK,_,zaL,_⟩:=bc3 KB0.out
 clear h
 go_enter Tryz.func12,Tryz.ntmps12
 go_wp2_with fail
 clear hW
 with_reducible refine (It.sign g A m c q.num _ HX.out.num).mono ?_
 rintro e w1 ⟨rfl,hb⟩
 have zaQ:=hid (BB.out.trans ((hb).mono BB.out.size))
 clear hb
 go_wp2
 go_ret
 exact ⟨rfl,zaQ.out⟩
theorem zero (g:Bool) (A:Option Addr) (m c:Nat) (D:Option Addr) (md cd:Nat) (q:Rat) (w:World) (h:RatS w g (.slice A m c) (.slice D md cd) q):Calls Tryz.prog 143 #[.agg #[.bool g, .slice A m c, .slice D md cd]] w fun e w' => e = .returned (.bool (zr q)) ∧ Below w.heap.size w w':=by
 obtain ⟨W,hW⟩:∃ W,(w.alloc (.cells #[.bool g, .slice A m c, .slice D md cd] 35)) = W:=⟨_,rfl⟩
 have KB0:=hid (show W.heap[w.heap.size]? = some (.cells #[.bool g, .slice A m c, .slice D md cd] 35 (0,0)) by rw [← hW];exact zam (by simp))
 have BB:=hid (show Below w.heap.size w W by rw [← hW];exact zae w _)
 have HX:=hid (show RatS W g (.slice A m c) (.slice D md cd) q by rw [← hW];exact (h).alloc _)
 obtain ⟨zaK,_,zaL,_⟩:=bc3 KB0.out
 clear h
 go_enter Tryz.func143,Tryz.ntmps143
 go_wp2_with fail
 clear hW
 with_reducible refine (It.sign g A m c q.num _ HX.out.num).mono ?_
 rintro e w1 ⟨rfl,hb⟩
 have zaQ:=hid (BB.out.trans ((hb).mono BB.out.size))
 clear hb
 go_wp2
 go_ret
 exact ⟨by show Ending.returned (.bool (q.num.sign == 0)) = .returned (.bool (zr q));rw [zIY],zaQ.out⟩
theorem neg (g:Bool) (A:Option Addr) (m c:Nat) (D:Option Addr) (md cd:Nat) (q:Rat) (w:World) (h:RatS w g (.slice A m c) (.slice D md cd) q):Calls Tryz.prog 15 #[.agg #[.bool g, .slice A m c, .slice D md cd]] w (ze4 w (-q)):=by
 obtain ⟨W,hW⟩:∃ W,((w.alloc (.cells #[.bool g, .slice A m c, .slice D md cd] 35)).alloc (.cells #[.bool false, .slice none 0 0, .slice none 0 0] 35)) = W:=⟨_,rfl⟩
 have KB0:=hid (show W.heap[w.heap.size]? = some (.cells #[.bool g, .slice A m c, .slice D md cd] 35 (0,0)) by rw [← hW];exact zak (zam (by simp)))
 have KB1:=hid (show W.heap[w.heap.size + 1]? = some (.cells #[.bool false, .slice none 0 0, .slice none 0 0] 35 (0,0)) by rw [← hW];exact zam (by simp))
 have BB:=hid (show Below w.heap.size w W by rw [← hW];exact (zae w _).alloc (by simp) _)
 have HX:=hid (show RatS W g (.slice A m c) (.slice D md cd) q by rw [← hW];exact ((h).alloc _).alloc _)
 obtain ⟨_,zaz,_,zaA,_,zbx⟩:=bc3 KB0.out
 clear h
 go_enter Tryz.func15,Tryz.ntmps15
 go_wp2_with fail
 clear hW
 go_region_with (first
  | (go_at_call 60;(with_reducible refine (It.neg g A m c q.num _ HX.out.drew.num).mono ?_);rintro e w1 ⟨g3,A3,m3,c3,rfl,hn,hb⟩;have zaq:=hid (zad hb KB0.out);have za0:=hid (zad hb KB1.out);have zif:=hid (HX.out.drew.below hb);have HI:=hid (show IntS w1 g3 (.slice A3 m3 c3) (-q.num) from hn);have zaQ:=hid (BB.out.trans ((It.bdrew0' hb).mono BB.out.size));obtain ⟨_,_,_,_,zbC,_⟩:=bc3 zaq.out;obtain ⟨zbe,zaW,zcf,_,zbs,za9,zcR,_,zb9,zbz,zdG,_⟩:=bf3 za0.out;clear hn hb))
 all_goals
  go_wp2
  refine bodyPost_ret (v := .agg #[.bool g3, .slice A3 m3 c3, .slice D md cd]) (by simp [results,Tryz.results15,go_sem,zbe,zaW,zbs,za9,zb9,zbz]) rfl ?_
  have hi:RatS w1 g3 (.slice A3 m3 c3) (.slice D md cd) (-q):=⟨HI.out,zif.out.den⟩
  exact ⟨g3,A3,m3,c3,D,md,cd,rfl,hi.set3 za0.out (by decide) _ _ _,Below.setCell (Below.setCell (Below.setCell (zaQ.out) (p:=⟨w.heap.size + 1,0,none⟩) (by show w.heap.size ≤ w.heap.size + 1;omega) _) (p:=⟨w.heap.size + 1,1,none⟩) (by show w.heap.size ≤ w.heap.size + 1;omega) _) (p:=⟨w.heap.size + 1,2,none⟩) (by show w.heap.size ≤ w.heap.size + 1;omega) _⟩
theorem int (x:Int) (h0 : -9223372036854775808 ≤ x) (h1:x ≤ 9223372036854775807) (w:World):Calls Tryz.prog 43 #[.int .i64 x] w (ze4 w (x:Rat)):=by
 obtain ⟨W,hW⟩:∃ W,(w.alloc (.cells #[.bool false, .slice none 0 0, .slice none 0 0] 35)) = W:=⟨_,rfl⟩
 have KB0:=hid (show W.heap[w.heap.size]? = some (.cells #[.bool false, .slice none 0 0, .slice none 0 0] 35 (0,0)) by rw [← hW];exact zam (by simp))
 have BB:=hid (show Below w.heap.size w W by rw [← hW];exact zae w _)
 go_enter Tryz.func43,Tryz.ntmps43
 go_wp2_with fail
 clear hW
 with_reducible refine (It.of x h0 h1 _).mono ?_
 rintro e w1 ⟨g3,A3,m3,c3,rfl,hn,hb⟩
 have zaq:=hid (zad hb KB0.out)
 have HI:=hid (show IntS w1 g3 (.slice A3 m3 c3) x from hn)
 have zaQ:=hid (BB.out.trans ((hb).mono BB.out.size))
 obtain ⟨zaI,zat,zbM,_,zaJ,zau,zbN,_,zbC,zbg,ziy,_⟩:=bf3 zaq.out
 clear hn hb
 go_wp2
 refine bodyPost_ret (v := .agg #[.bool g3, .slice A3 m3 c3, .slice none 0 0]) (by simp [results,Tryz.results43,go_sem,zaI,zat,zaJ,zau,zbC,zbg]) rfl ?_
 have hi:RatS w1 g3 (.slice A3 m3 c3) (.slice none 0 0) (x:Rat):=⟨HI.out,zas.zero _⟩
 exact ⟨g3,A3,m3,c3,none,0,0,rfl,hi.set3 zaq.out (by decide) _ _ _,Below.setCell (Below.setCell (Below.setCell (zaQ.out) (p:=⟨w.heap.size,0,none⟩) (by show w.heap.size ≤ w.heap.size;omega) _) (p:=⟨w.heap.size,1,none⟩) (by show w.heap.size ≤ w.heap.size;omega) _) (p:=⟨w.heap.size,2,none⟩) (by show w.heap.size ≤ w.heap.size;omega) _⟩
end Rt
end Go.Proofs.YtdbgbaiekpbaoaaGreatDoor
