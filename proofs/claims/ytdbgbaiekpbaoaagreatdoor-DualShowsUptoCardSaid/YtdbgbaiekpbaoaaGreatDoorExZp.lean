/- The example of chapter 19,as lists: what a solve comes to. Conditions: as each says. actuarylaw19.example by its contract. actuarylaw16.Right by its contract: what it lays,and how short its numbers are. Conditions: as it says. actuarylaw19.cheap by its contract: a small problem whose costs are not below 0 and whose rows leave something each,and the columns of what they leave. Conditions: as it says. Conditions: as they say. -/
import Derived.Test.YtdbgbaiekpbaoaaGreatDoorStdZp
import Derived.Test.YtdbgbaiekpbaoaaGreatDoorVec7Zp
import Derived.Test.YtdbgbaiekpbaoaaGreatDoorOpenZp
set_option linter.all false
namespace Go.Proofs.YtdbgbaiekpbaoaaGreatDoor
open Go.RowKit Am
open Lib (hid)
set_option maxRecDepth 100000
def zhx (x:Int):List Rat:=rats [x,1]
def zcY:List PRow:=[⟨rats [1,2],2,((4:Int):Rat)⟩,⟨rats [3,1],1,((9:Int):Rat)⟩]
theorem zAg:(zdi (zaC 4 (zc3 zcY) [2,3] (zjD (zhx 1) zcY)) (List.replicate 4 true)).isNone = true:=by decide +kernel
theorem zAh:(zdi (zaC 4 (zc3 zcY) [2,3] (zjD (zhx (-1)) zcY)) (List.replicate 4 true)).isNone = false:=by decide +kernel
def zBW:RunOut:=pivs (zbE 4 (zc3 zcY) (zg8 zcY) (zjD (zhx 1) zcY) (List.replicate 4 true)) 9 [2,3]
theorem zHy:zBW.err = false:=by decide +kernel
theorem zJ8:zBW.at_ = none:=by decide +kernel
theorem e_n:zBW.n = 1:=by decide +kernel
theorem zJ9:(zh1 4 zBW.cols (za5 (zc3 zcY) (zg8 zcY) zBW.cols)).take 2 = rats [0,2]:=by decide +kernel
end Go.Proofs.YtdbgbaiekpbaoaaGreatDoor
namespace Go.Proofs.YtdbgbaiekpbaoaaGreatDoor
open Go.RowKit Am
open Lib (hid)
attribute [local go_sem ↓] Go.wp_at_zero Go.wp_at_succ
set_option maxHeartbeats 2000000
set_option maxRecDepth 100000
theorem RowsS.setX {w:World} {H:Nat} {v:Value} {ps:List PRow} (h:RowsS w H v ps) {a:Addr} {t:TypeId} {cs:Array Value} (hg:w.heap[a.block]? = some (.cells cs t (0,0))) (h1:193 ≠ t) (h2:35 ≠ t) (h3:110 ≠ t) (u:Value):RowsS (w.setCell a u) H v ps:=by
 obtain ⟨l,e1,e2,e3⟩:=h.row
 exact (RowsL.setT (l:=l) ⟨e1,e2,e3⟩ hg h1 h2 h3 u).toS
namespace Lw
theorem zuN (w:World):Calls Tryz.prog 48 #[.int .i64 1] w fun e w' => ∃ (C:Option Addr) (cC:Nat) (R:Option Addr) (cR:Nat),e = .returned (.agg #[.slice C 2 cC, .slice R 2 cR]) ∧ VecS w' 0 (.slice C 2 cC) (zhx (1)) ∧ RowsS w' 0 (.slice R 2 cR) zcY ∧ Below w.heap.size w w':=by
 obtain ⟨W,hW⟩:∃ W,(w.alloc (.cells #[.slice none 0 0, .slice none 0 0] 47)) = W:=⟨_,rfl⟩
 have KB0:=hid (show W.heap[w.heap.size]? = some (.cells #[.slice none 0 0, .slice none 0 0] 47 (0,0)) by rw [← hW];exact zam (by simp))
 have BB:=hid (show Below w.heap.size w W by rw [← hW];exact zae w _)
 go_enter Tryz.func48,Tryz.ntmps48
 go_wp2_with fail
 clear hW
 have hb1z:=zae W (.cells #[.int .i64 1, .int .i64 1] 3)
 have zaq:=hid (zad hb1z KB0.out)
 have zaQ:=hid (BB.out.trans ((hb1z).mono BB.out.size))
 with_reducible refine (Vc.of W.heap.size 2 2 [1,1] _ rfl (zqg W (1) (1)) (by decide) (by decide) (by decide)).mono ?_
 rintro e w1 ⟨S1,ns1,cs1,rfl,hv,hb⟩
 have zaD:=hid (show (w1.alloc (.cells #[.int .i64 1, .int .i64 2] 3)).heap[w.heap.size]? = some (.cells #[.slice none 0 0, .slice none 0 0] 47 (0,0)) from zak (zad hb zaq.out))
 have HV1:=hid (show VecS (w1.alloc (.cells #[.int .i64 1, .int .i64 2] 3)) 0 (.slice S1 ns1 cs1) (rats [1,1]) from ((hv.base (Nat.zero_le _))).alloc _)
 have zbj:=hid (show Below w.heap.size w (w1.alloc (.cells #[.int .i64 1, .int .i64 2] 3)) from ((zaQ.out.trans ((hb).mono zaQ.out.size))).alloc ((zaQ.out.trans ((hb).mono zaQ.out.size))).size _)
 clear hv hb
 go_wp2_with fail
 with_reducible refine (Vc.of w1.heap.size 2 2 [1,2] _ rfl (zqg w1 (1) (2)) (by decide) (by decide) (by decide)).mono ?_
 rintro e w2 ⟨S2,ns2,cs2,rfl,hv,hb⟩
 have zbn:=hid (zad hb zaD.out)
 have zyW:=hid (HV1.out.below hb)
 have HV2:=hid (show VecS w2 0 (.slice S2 ns2 cs2) (rats [1,2]) from (hv.base (Nat.zero_le _)))
 have zcc:=hid (zbj.out.trans ((hb).mono zbj.out.size))
 clear hv hb
 go_wp2_with fail
 with_reducible refine (Rt.int 4 (by decide) (by decide) _).mono ?_
 rintro e w3 ⟨g3,A3,m3,c3,D3,md3,cd3,rfl,hn,hb⟩
 have zbo:=hid (show (w3.alloc (.cells #[.int .i64 3, .int .i64 1] 3)).heap[w.heap.size]? = some (.cells #[.slice none 0 0, .slice none 0 0] 47 (0,0)) from zak (zad hb zbn.out))
 have zyX:=hid (show VecS (w3.alloc (.cells #[.int .i64 3, .int .i64 1] 3)) 0 (.slice S1 ns1 cs1) (rats [1,1]) from (zyW.out.below hb).alloc _)
 have zy0:=hid (show VecS (w3.alloc (.cells #[.int .i64 3, .int .i64 1] 3)) 0 (.slice S2 ns2 cs2) (rats [1,2]) from (HV2.out.below hb).alloc _)
 have HR3:=hid (show RatS (w3.alloc (.cells #[.int .i64 3, .int .i64 1] 3)) g3 (.slice A3 m3 c3) (.slice D3 md3 cd3) ((4:Int):Rat) from (hn).alloc _)
 have zdf:=hid (show Below w.heap.size w (w3.alloc (.cells #[.int .i64 3, .int .i64 1] 3)) from ((zcc.out.trans ((hb).mono zcc.out.size))).alloc ((zcc.out.trans ((hb).mono zcc.out.size))).size _)
 clear hn hb
 go_wp2_with fail
 with_reducible refine (Vc.of w3.heap.size 2 2 [3,1] _ rfl (zqg w3 (3) (1)) (by decide) (by decide) (by decide)).mono ?_
 rintro e w4 ⟨S4,ns4,cs4,rfl,hv,hb⟩
 have zct:=hid (zad hb zbo.out)
 have zyY:=hid (zyX.out.below hb)
 have zy1:=hid (zy0.out.below hb)
 have zyP:=hid (HR3.out.below hb)
 have HV4:=hid (show VecS w4 0 (.slice S4 ns4 cs4) (rats [3,1]) from (hv.base (Nat.zero_le _)))
 have ze3:=hid (zdf.out.trans ((hb).mono zdf.out.size))
 clear hv hb
 go_wp2_with fail
 with_reducible refine (Rt.int 9 (by decide) (by decide) _).mono ?_
 rintro e w5 ⟨g5,A5,m5,c5,D5,md5,cd5,rfl,hn,hb⟩
 have zd8:=hid (zad hb zct.out)
 have zsK:=hid (zyY.out.below hb)
 have zy2:=hid (zy1.out.below hb)
 have zyQ:=hid (zyP.out.below hb)
 have zy3:=hid (HV4.out.below hb)
 have HR5:=hid (show RatS w5 g5 (.slice A5 m5 c5) (.slice D5 md5 cd5) ((9:Int):Rat) from hn)
 have zlw:=hid (ze3.out.trans ((hb).mono ze3.out.size))
 clear hn hb
 obtain rfl:2 = ns1:=zsK.out.len.symm
 have hb7z:=zae w5 (.cells #[.slice S2 ns2 cs2, .int .i64 2, .bool g3, .slice A3 m3 c3, .slice D3 md3 cd3, .slice S4 ns4 cs4, .int .i64 1, .bool g5, .slice A5 m5 c5, .slice D5 md5 cd5] 110)
 have zew:=hid (zad hb7z zd8.out)
 have zyZ:=hid (zsK.out.below hb7z)
 have HRW:=hid (show RowsS (w5.alloc (.cells #[.slice S2 ns2 cs2, .int .i64 2, .bool g3, .slice A3 m3 c3, .slice D3 md3 cd3, .slice S4 ns4 cs4, .int .i64 1, .bool g5, .slice A5 m5 c5, .slice D5 md5 cd5] 110)) 0 (.slice (some ⟨w5.heap.size,0,none⟩) 2 2) zcY from (zoX rfl (r:=⟨.slice S2 ns2 cs2,2,g3, .slice A3 m3 c3, .slice D3 md3 cd3⟩) (r':=⟨.slice S4 ns4 cs4,1,g5, .slice A5 m5 c5, .slice D5 md5 cd5⟩) (p:=⟨rats [1,2],2,((4:Int):Rat)⟩) (p':=⟨rats [3,1],1,((9:Int):Rat)⟩) ⟨zy2.out,rfl,zyQ.out⟩ ⟨zy3.out,rfl,HR5.out⟩))
 have zxW:=hid (zlw.out.trans ((hb7z).mono zlw.out.size))
 obtain ⟨zkc,zgw,zp5,_,zkd,zgx,zp6,_⟩:=bf2 zew.out
 go_wp2
 refine bodyPost_ret (v := .agg #[.slice S1 2 cs1, .slice (some ⟨w5.heap.size,0,none⟩) 2 2]) (by simp [results,Tryz.results48,go_sem,zkc,zgw,zkd,zgx]) rfl ?_
 have h1:=(zyZ.out.setT (p:=⟨w.heap.size,0,none⟩) zew.out (by decide) (by decide) (.slice S1 2 cs1)).setT (p:=⟨w.heap.size,1,none⟩) (zar _ zew.out) (by decide) (by decide) (.slice (some ⟨w5.heap.size,0,none⟩) 2 2)
 have h2:=(HRW.out.setX (a:=⟨w.heap.size,0,none⟩) zew.out (by decide) (by decide) (by decide) (.slice S1 2 cs1)).setX (a:=⟨w.heap.size,1,none⟩) (zar _ zew.out) (by decide) (by decide) (by decide) (.slice (some ⟨w5.heap.size,0,none⟩) 2 2)
 exact ⟨S1,cs1,some ⟨w5.heap.size,0,none⟩,2,rfl,h1,h2,Below.setCell (Below.setCell (zxW.out) (p:=⟨w.heap.size,0,none⟩) (by show w.heap.size ≤ w.heap.size;omega) _) (p:=⟨w.heap.size,1,none⟩) (by show w.heap.size ≤ w.heap.size;omega) _⟩
theorem zuM (w:World):Calls Tryz.prog 48 #[.int .i64 (-1)] w fun e w' => ∃ (C:Option Addr) (cC:Nat) (R:Option Addr) (cR:Nat),e = .returned (.agg #[.slice C 2 cC, .slice R 2 cR]) ∧ VecS w' 0 (.slice C 2 cC) (zhx (-1)) ∧ RowsS w' 0 (.slice R 2 cR) zcY ∧ Below w.heap.size w w':=by
 obtain ⟨W,hW⟩:∃ W,(w.alloc (.cells #[.slice none 0 0, .slice none 0 0] 47)) = W:=⟨_,rfl⟩
 have KB0:=hid (show W.heap[w.heap.size]? = some (.cells #[.slice none 0 0, .slice none 0 0] 47 (0,0)) by rw [← hW];exact zam (by simp))
 have BB:=hid (show Below w.heap.size w W by rw [← hW];exact zae w _)
 go_enter Tryz.func48,Tryz.ntmps48
 go_wp2_with fail
 clear hW
 have hb1z:=zae W (.cells #[.int .i64 (-1), .int .i64 1] 3)
 have zaq:=hid (zad hb1z KB0.out)
 have zaQ:=hid (BB.out.trans ((hb1z).mono BB.out.size))
 with_reducible refine (Vc.of W.heap.size 2 2 [-1,1] _ rfl (zqg W (-1) (1)) (by decide) (by decide) (by decide)).mono ?_
 rintro e w1 ⟨S1,ns1,cs1,rfl,hv,hb⟩
 have zaD:=hid (show (w1.alloc (.cells #[.int .i64 1, .int .i64 2] 3)).heap[w.heap.size]? = some (.cells #[.slice none 0 0, .slice none 0 0] 47 (0,0)) from zak (zad hb zaq.out))
 have HV1:=hid (show VecS (w1.alloc (.cells #[.int .i64 1, .int .i64 2] 3)) 0 (.slice S1 ns1 cs1) (rats [-1,1]) from ((hv.base (Nat.zero_le _))).alloc _)
 have zbj:=hid (show Below w.heap.size w (w1.alloc (.cells #[.int .i64 1, .int .i64 2] 3)) from ((zaQ.out.trans ((hb).mono zaQ.out.size))).alloc ((zaQ.out.trans ((hb).mono zaQ.out.size))).size _)
 clear hv hb
 go_wp2_with fail
 with_reducible refine (Vc.of w1.heap.size 2 2 [1,2] _ rfl (zqg w1 (1) (2)) (by decide) (by decide) (by decide)).mono ?_
 rintro e w2 ⟨S2,ns2,cs2,rfl,hv,hb⟩
 have zbn:=hid (zad hb zaD.out)
 have zyW:=hid (HV1.out.below hb)
 have HV2:=hid (show VecS w2 0 (.slice S2 ns2 cs2) (rats [1,2]) from (hv.base (Nat.zero_le _)))
 have zcc:=hid (zbj.out.trans ((hb).mono zbj.out.size))
 clear hv hb
 go_wp2_with fail
 with_reducible refine (Rt.int 4 (by decide) (by decide) _).mono ?_
 rintro e w3 ⟨g3,A3,m3,c3,D3,md3,cd3,rfl,hn,hb⟩
 have zbo:=hid (show (w3.alloc (.cells #[.int .i64 3, .int .i64 1] 3)).heap[w.heap.size]? = some (.cells #[.slice none 0 0, .slice none 0 0] 47 (0,0)) from zak (zad hb zbn.out))
 have zyX:=hid (show VecS (w3.alloc (.cells #[.int .i64 3, .int .i64 1] 3)) 0 (.slice S1 ns1 cs1) (rats [-1,1]) from (zyW.out.below hb).alloc _)
 have zy0:=hid (show VecS (w3.alloc (.cells #[.int .i64 3, .int .i64 1] 3)) 0 (.slice S2 ns2 cs2) (rats [1,2]) from (HV2.out.below hb).alloc _)
 have HR3:=hid (show RatS (w3.alloc (.cells #[.int .i64 3, .int .i64 1] 3)) g3 (.slice A3 m3 c3) (.slice D3 md3 cd3) ((4:Int):Rat) from (hn).alloc _)
 have zdf:=hid (show Below w.heap.size w (w3.alloc (.cells #[.int .i64 3, .int .i64 1] 3)) from ((zcc.out.trans ((hb).mono zcc.out.size))).alloc ((zcc.out.trans ((hb).mono zcc.out.size))).size _)
 clear hn hb
 go_wp2_with fail
 with_reducible refine (Vc.of w3.heap.size 2 2 [3,1] _ rfl (zqg w3 (3) (1)) (by decide) (by decide) (by decide)).mono ?_
 rintro e w4 ⟨S4,ns4,cs4,rfl,hv,hb⟩
 have zct:=hid (zad hb zbo.out)
 have zyY:=hid (zyX.out.below hb)
 have zy1:=hid (zy0.out.below hb)
 have zyP:=hid (HR3.out.below hb)
 have HV4:=hid (show VecS w4 0 (.slice S4 ns4 cs4) (rats [3,1]) from (hv.base (Nat.zero_le _)))
 have ze3:=hid (zdf.out.trans ((hb).mono zdf.out.size))
 clear hv hb
 go_wp2_with fail
 with_reducible refine (Rt.int 9 (by decide) (by decide) _).mono ?_
 rintro e w5 ⟨g5,A5,m5,c5,D5,md5,cd5,rfl,hn,hb⟩
 have zd8:=hid (zad hb zct.out)
 have zsK:=hid (zyY.out.below hb)
 have zy2:=hid (zy1.out.below hb)
 have zyQ:=hid (zyP.out.below hb)
 have zy3:=hid (HV4.out.below hb)
 have HR5:=hid (show RatS w5 g5 (.slice A5 m5 c5) (.slice D5 md5 cd5) ((9:Int):Rat) from hn)
 have zlw:=hid (ze3.out.trans ((hb).mono ze3.out.size))
 clear hn hb
 obtain rfl:2 = ns1:=zsK.out.len.symm
 have hb7z:=zae w5 (.cells #[.slice S2 ns2 cs2, .int .i64 2, .bool g3, .slice A3 m3 c3, .slice D3 md3 cd3, .slice S4 ns4 cs4, .int .i64 1, .bool g5, .slice A5 m5 c5, .slice D5 md5 cd5] 110)
 have zew:=hid (zad hb7z zd8.out)
 have zyZ:=hid (zsK.out.below hb7z)
 have HRW:=hid (show RowsS (w5.alloc (.cells #[.slice S2 ns2 cs2, .int .i64 2, .bool g3, .slice A3 m3 c3, .slice D3 md3 cd3, .slice S4 ns4 cs4, .int .i64 1, .bool g5, .slice A5 m5 c5, .slice D5 md5 cd5] 110)) 0 (.slice (some ⟨w5.heap.size,0,none⟩) 2 2) zcY from (zoX rfl (r:=⟨.slice S2 ns2 cs2,2,g3, .slice A3 m3 c3, .slice D3 md3 cd3⟩) (r':=⟨.slice S4 ns4 cs4,1,g5, .slice A5 m5 c5, .slice D5 md5 cd5⟩) (p:=⟨rats [1,2],2,((4:Int):Rat)⟩) (p':=⟨rats [3,1],1,((9:Int):Rat)⟩) ⟨zy2.out,rfl,zyQ.out⟩ ⟨zy3.out,rfl,HR5.out⟩))
 have zxW:=hid (zlw.out.trans ((hb7z).mono zlw.out.size))
 obtain ⟨zkc,zgw,zp5,_,zkd,zgx,zp6,_⟩:=bf2 zew.out
 go_wp2
 refine bodyPost_ret (v := .agg #[.slice S1 2 cs1, .slice (some ⟨w5.heap.size,0,none⟩) 2 2]) (by simp [results,Tryz.results48,go_sem,zkc,zgw,zkd,zgx]) rfl ?_
 have h1:=(zyZ.out.setT (p:=⟨w.heap.size,0,none⟩) zew.out (by decide) (by decide) (.slice S1 2 cs1)).setT (p:=⟨w.heap.size,1,none⟩) (zar _ zew.out) (by decide) (by decide) (.slice (some ⟨w5.heap.size,0,none⟩) 2 2)
 have h2:=(HRW.out.setX (a:=⟨w.heap.size,0,none⟩) zew.out (by decide) (by decide) (by decide) (.slice S1 2 cs1)).setX (a:=⟨w.heap.size,1,none⟩) (zar _ zew.out) (by decide) (by decide) (by decide) (.slice (some ⟨w5.heap.size,0,none⟩) 2 2)
 exact ⟨S1,cs1,some ⟨w5.heap.size,0,none⟩,2,rfl,h1,h2,Below.setCell (Below.setCell (zxW.out) (p:=⟨w.heap.size,0,none⟩) (by show w.heap.size ≤ w.heap.size;omega) _) (p:=⟨w.heap.size,1,none⟩) (by show w.heap.size ≤ w.heap.size;omega) _⟩
end Lw
end Go.Proofs.YtdbgbaiekpbaoaaGreatDoor
namespace Go.Proofs.YtdbgbaiekpbaoaaGreatDoor
open Go.RowKit Am
open Lib (hid)
attribute [local go_sem ↓] Go.wp_at_zero Go.wp_at_succ
set_option maxHeartbeats 4000000
set_option maxRecDepth 100000
theorem zcs.take {w:World} {A:Option Addr} {ps:List (Int × Int)} (h:zcs w A ps) (n:Nat):zcs w A (ps.take n):=by
 intro k x hx
 rw [List.getElem?_take] at hx
 split at hx
 ·exact h k x hx
 ·cases hx
theorem zex.take {w:World} {A:Option Addr} {ls:List LineV} (h:zex w A ls) (n:Nat):zex w A (ls.take n):=by
 intro k x hx
 rw [List.getElem?_take] at hx
 split at hx
 ·exact h k x hx
 ·cases hx
theorem zcs.below' {w w':World} {A:Option Addr} {ps:List (Int × Int)} (h:zcs w A ps) (hb:Below w.heap.size w w'):zcs w' A ps:=h.below hb
theorem zex.below' {w w':World} {A:Option Addr} {ls:List LineV} (h:zex w A ls) (hb:Below w.heap.size w w'):zex w' A ls:=h.below hb
theorem zKA {w:World} {b o b':Nat} {x:Obj} (u:Value) (hne:b' ≠ b) (h:w.heap[b']? = some x):(w.setCell ⟨b,o,none⟩ u).heap[b']? = some x:=(Below.heap_setCell w ⟨b,o,none⟩ u b' hne).trans h
abbrev S1 (xs:List Rat):Prop := ∀ q ∈ xs,mw q ≤ 1
structure Good1 (nc nr:Nat) (cost:List Rat) (rows:List PRow):Prop where
  hc:nc ≤ 5
  hr:nr ≤ 4
  sc:S1 cost
  rw_:∀ p ∈ rows,p.coef.length = nc ∧ S1 p.coef ∧ mw p.rhs ≤ 1
  kd:Kinds rows
def PR (nC k:Nat) (ps:List PRow):Prop := ∀ (i:Nat) (p:PRow),ps[i]? = some p → S1 p.coef ∧ mw p.rhs ≤ 1 ∧ (i < k → p.coef.length = nC ∧ 1 ≤ p.kind ∧ p.kind ≤ 3)
theorem zLC {w:World} {A:Option Addr} {ls:List LineV} (h:zex w A ls) (nC:Nat):PR nC 0 (zJI ls):=by
 intro i p hp
 unfold zJI at hp
 rw [List.getElem?_map] at hp
 cases e:ls[i]? with
 | none => rw [e] at hp;simp at hp
 | some x =>
  rw [e] at hp;simp at hp;subst hp
  obtain ⟨_,h1,h2,b,o,C,cc,_,h3,_⟩:=h i x e
  exact ⟨zyq h3,zH7 h1 h2,fun h => by omega⟩
theorem zLZ {nC k:Nat} {ps:List PRow} (h:PR nC k ps) {qs:List Rat} (hs:S1 qs) (hl:nC ≤ qs.length) {z:Int} (hz:1 ≤ z ∧ z ≤ 3):PR nC (k + 1) ((ps.modify k fun p => { p with coef:=qs.take nC }).modify k fun p => { p with kind:=z }):=by
 intro i p hp
 rw [List.getElem?_modify,List.getElem?_modify] at hp
 cases e:ps[i]? with
 | none => rw [e] at hp;simp at hp
 | some p0 =>
  rw [e] at hp
  have h0:=h i p0 e
  by_cases hk:k = i
  ·subst hk
   simp at hp
   subst hp
   exact ⟨fun q hq => hs q (List.mem_of_mem_take hq),h0.2.1,fun _ => ⟨by rw [List.length_take];omega,hz.1,hz.2⟩⟩
  ·simp [hk] at hp
   subst hp
   exact ⟨h0.1,h0.2.1,fun hi => h0.2.2 (by omega)⟩
theorem zLX (x:Int):1 ≤ wrap64 (IntKind.u64.wrap (1 + (IntKind.u64.wrap x).tmod 3)) ∧ wrap64 (IntKind.u64.wrap (1 + (IntKind.u64.wrap x).tmod 3)) ≤ 3:=by
 have h0:0 ≤ IntKind.u64.wrap x:=by unfold IntKind.wrap IntKind.signed IntKind.bits;simp;omega
 generalize IntKind.u64.wrap x = y at *
 have h1:0 ≤ y.tmod 3 ∧ y.tmod 3 < 3:=by rw [Int.tmod_eq_emod_of_nonneg h0];omega
 generalize y.tmod 3 = m at *
 have h2:IntKind.u64.wrap (1 + m) = 1 + m:=by unfold IntKind.wrap IntKind.signed IntKind.bits;simp;omega
 rw [h2]
 unfold wrap64
 omega
theorem RowsS.setT {w:World} {H:Nat} {v:Value} {ps:List PRow} (h:RowsS w H v ps) {a:Addr} {t:TypeId} {cs:Array Value} (hg:w.heap[a.block]? = some (.cells cs t (0,0))) (h1:193 ≠ t) (h2:35 ≠ t) (h3:110 ≠ t) (u:Value):RowsS (w.setCell a u) H v ps:=by
 obtain ⟨l,e1,e2,e3⟩:=h.row
 exact (RowsL.setT (l:=l) ⟨e1,e2,e3⟩ hg h1 h2 h3 u).toS
def zKx:Value → Nat
  | .slice _ n _ => n
  | _ => 0
def zLo (w:World) (e:Ending) (w':World):Prop := ∃ (C:Option Addr) (nC cC:Nat) (R:Option Addr) (nR cR:Nat) (l:List RR) (cost:List Rat) (rows:List PRow),e = .returned (.agg #[.slice C nC cC, .slice R nR cR]) ∧
  VecS w' w.heap.size (.slice C nC cC) cost ∧ RowsL w' w.heap.size (.slice R nR cR) l rows ∧ Apart (.slice C nC cC) l ∧ From w.heap.size l ∧ Good1 nC nR cost rows ∧ Below w.heap.size w w'
namespace Lw
theorem zLD (A:Option Addr) (nA cA:Nat) (L:Option Addr) (nL cL:Nat) (cs:List (Int × Int)) (ls:List LineV) (w:World) (hf:zcs w A cs) (hlines:zex w L ls) (hn:nA = cs.length) (hm:nL = ls.length) (hb:nA ≤ cA) (hb2:nL ≤ cL) (hc:cA ≤ 9223372036854775807) (hc2:cL ≤ 9223372036854775807) :
  Calls Tryz.prog 61 #[.agg #[.slice A nA cA, .slice L nL cL]] w (zLo w):=by
 have HN:=hid hn
 have HM:=hid hm
 have HF:=hid hf
 have HL:=hid hlines
 clear hn hm hf hlines
 obtain ⟨W,hW⟩:∃ W,((w.alloc (.cells #[.slice A nA cA, .slice L nL cL] 44)).alloc (.cells #[.slice none 0 0, .slice none 0 0] 47)) = W:=⟨_,rfl⟩
 have KB0:=hid (show W.heap[w.heap.size]? = some (.cells #[.slice A nA cA, .slice L nL cL] 44 (0,0)) by rw [← hW];exact zak (zam (by simp)))
 have KB1:=hid (show W.heap[w.heap.size + 1]? = some (.cells #[.slice none 0 0, .slice none 0 0] 47 (0,0)) by rw [← hW];exact zam (by simp))
 have BB:=hid (show Below w.heap.size w W by rw [← hW];exact (zae w _).alloc (by simp) _)
 obtain ⟨zaK,_,zdC,_⟩:=bf2 KB0.out
 obtain ⟨n5,hn5⟩:∃ n5,n5 = min nA 5:=⟨_,rfl⟩
 have HN5:=hid hn5
 clear hn5
 obtain ⟨n4,hn4⟩:∃ n4,n4 = min nL 4:=⟨_,rfl⟩
 have HN4:=hid hn4
 clear hn4
 go_enter Tryz.func61,Tryz.ntmps61
 go_upto_if 9 with fail
 clear hW
 go_cut [] (fun wr => wr.heap[w.heap.size]? = some (.cells #[.slice A n5 cA, .slice L nL cL] 44 (0,0)) ∧ wr.heap[w.heap.size + 1]? = some (.cells #[.slice none 0 0, .slice none 0 0] 47 (0,0)) ∧ Below w.heap.size w wr)
 case first =>
  by_cases h9:5 < nA
  ·have h9':(5:Int) < (nA:Int):=by omega
   obtain rfl:n5 = 5:=by have:=HN5.out;have:=HN4.out;omega
   go_wp2
   go_meet
   case rel => exact ⟨zar _ KB0.out,zKA _ (by omega) KB1.out,Below.setCell BB.out (by show w.heap.size ≤ w.heap.size;omega) _⟩
  ·have h9':¬ ((5:Int) < (nA:Int)):=by omega
   have hnn:n5 = nA:=by have:=HN5.out;have:=HN4.out;omega
   clear hb hb2
   go_wp2
   go_meet
   case rel => exact ⟨by rw [hnn];exact KB0.out,KB1.out,BB.out⟩
 case rest =>
  obtain ⟨k0,k1,hB⟩:=hcut
  rename World => wa
  have KA0:=hid k0
  have KA1:=hid k1
  have KAB:=hid hB
  clear k0 k1 hB
  obtain ⟨_,_,_,_,zaJ,_,zbN,_⟩:=bf2 KA0.out
  go_upto_if 17 with fail
  go_cut [] (fun wr => wr.heap[w.heap.size]? = some (.cells #[.slice A n5 cA, .slice L n4 cL] 44 (0,0)) ∧ wr.heap[w.heap.size + 1]? = some (.cells #[.slice none 0 0, .slice none 0 0] 47 (0,0)) ∧ Below w.heap.size w wr)
  case first =>
   by_cases h9:4 < nL
   ·have h9':(4:Int) < (nL:Int):=by omega
    obtain rfl:n4 = 4:=by have:=HN5.out;have:=HN4.out;omega
    go_wp2
    go_meet
    case rel => exact ⟨zar _ KA0.out,zKA _ (by omega) KA1.out,Below.setCell KAB.out (by show w.heap.size ≤ w.heap.size;omega) _⟩
   ·have h9':¬ ((4:Int) < (nL:Int)):=by omega
    have hnn:n4 = nL:=by have:=HN5.out;have:=HN4.out;omega
    clear hb hb2
    go_wp2
    go_meet
    case rel => exact ⟨by rw [hnn];exact KA0.out,KA1.out,KAB.out⟩
  case rest =>
   obtain ⟨k0,k1,hB⟩:=hcut
   rename World => wb
   have KC0:=hid k0
   have KC1:=hid k1
   have KCB:=hid hB
   clear k0 k1 hB
   obtain ⟨zaU,_,_,_,zaV,_⟩:=bf2 KC0.out
   go_wp2_with fail
   with_reducible refine (zMg A n5 cA L n4 cL (cs.take 5) (ls.take 4) _ ((HF.out.below' KCB.out).take 5) ((HL.out.below' KCB.out).take 4) (by rw [List.length_take, ← HN.out,HN5.out];omega) (by rw [List.length_take, ← HM.out,HN4.out];omega) (by rw [HN5.out];omega) (by rw [HN4.out];omega)).mono ?_
   rintro e w1 ⟨C,nC,cC,R,nR,cR,l,rfl,hv,hl,ha,hfm,hb⟩
   have zek:=hid (zad hb KC1.out)
   have HSZ:=hid (show w.heap.size ≤ wb.heap.size from KCB.out.size)
   have HSZ1:=hid (show wb.heap.size ≤ w1.heap.size from hb.size)
   obtain ⟨cost,hcost⟩:∃ cost,frs (cs.take 5) = cost:=⟨_,rfl⟩
   obtain ⟨ps0,hps0⟩:∃ ps0,zJI (ls.take 4) = ps0:=⟨_,rfl⟩
   have HPR0:=hid (show PR nC 0 ps0 by rw [← hps0];exact zLC (HL.out.take 4) nC)
   have HCS:=hid (show S1 cost by rw [← hcost];exact zyq (HF.out.take 5))
   have HC5:=hid (show nC ≤ 5 by rw [hv.len];simp [frs];omega)
   have HR4:=hid (show nR ≤ 4 ∧ ps0.length = nR by rw [hl.toS.len, ← hps0];simp [zJI];omega)
   rw [hcost] at hv
   rw [hps0] at hl
   have HO:=hid (show ROut w (w1.alloc (.cells #[.slice C nC cC, .slice R nR cR] 47)) w1.heap.size (.slice C nC cC) cost (.slice R nR cR) l ps0 from ⟨zak zek.out,zal _ _ _,(hv.base HSZ.out).alloc _,(hl.base' HSZ.out).alloc _,ha,fun i ri b hi hb => Nat.le_trans HSZ.out (hfm i ri b hi hb),(KCB.out.trans (hb.mono HSZ.out)).alloc (Nat.le_trans HSZ.out HSZ1.out) _⟩)
   clear hv hl ha hfm hb hcost hps0
   go_wp2
   go_loopw [4] (fun i wr => ∃ (k:Nat) (l:List RR) (ps:List PRow),i = .int .i64 k ∧ k ≤ nR ∧ ps.length = nR ∧ ROut w wr w1.heap.size (.slice C nC cC) cost (.slice R nR cR) l ps ∧ PR nC k ps)
    (fun i _ => nR - (intOf i).toNat)
   case atStart => exact ⟨0,l,ps0,rfl,Nat.zero_le _,HR4.out.2,HO.out,HPR0.out⟩
   case round =>
    obtain ⟨k,l,ps,rfl,hk,hpl,hO,hP⟩:=hrel
    have HO:=hid hO
    have HP:=hid hP
    have HPL:=hid hpl
    clear hP hpl
    have p0:=zac hO.pbx 0
    have p1:=zac hO.pbx 1
    simp only [List.getElem?_toArray,List.getElem?_cons_zero,List.getElem?_cons_succ] at p0 p1
    have hnR:nR ≤ 9223372036854775807:=by have:=HR4.out.1;omega
    have hnC:nC ≤ 9223372036854775807:=by have:=HC5.out;omega
    by_cases hlt:k < nR
    ·obtain ⟨p,hp⟩:∃ p,ps[k]? = some p:=⟨ps[k]'(by rw [HPL.out];exact hlt),List.getElem?_eq_getElem _⟩
     obtain ⟨bR,rfl,hbR0,hbR1⟩:=HO.out.rows.toS.has (by omega)
     obtain ⟨r,hr⟩:∃ r,l[k]? = some r:=⟨l[k]'(by rw [HO.out.rows.len,HPL.out];exact hlt),List.getElem?_eq_getElem _⟩
     obtain ⟨Q,nq,cq,hrc⟩:=(HO.out.rows.each k r p hr hp).coef.slice
     have q0:wr.cell? ⟨bR,k * 5,none⟩ = some (.slice Q nq cq):=by have ho:=HO.out.rows.own;have e:=HPL.out;rw [← hrc];rw [e] at ho;rw [ho.cellAt (k * 5) (by omega)];exact (zqG l k r hr).1
     have HS:=hid (show RSt w wr w1.heap.size (.slice C nC cC) cost (.slice (some ⟨bR,0,none⟩) nR cR) l ps k (.slice Q nq cq) p.coef by rw [← hrc];exact RSt.start HO.out hr hp)
     have HSM:=hid (HP.out k p hp).1
     have HLK:=hid (show k < l.length from (List.getElem?_eq_some_iff.1 hr).1)
     have HRK:=hid hr
     have hi1:(0:Int) ≤ (k:Int):=Int.natCast_nonneg _
     have hi2:(k:Int) < (nR:Int):=by omega
     clear hO hp hr hrc
     go_wp2
     go_loopw [5] (fun cv wz => ∃ (A':Option Addr) (n' c':Nat) (qs:List Rat),cv = .slice A' n' c' ∧ RSt w wz w1.heap.size (.slice C nC cC) cost (.slice (some ⟨bR,0,none⟩) nR cR) l ps k (.slice A' n' c') qs ∧ S1 qs)
      (fun cv _ => nC - zKx cv)
     case atStart => exact ⟨Q,nq,cq,_,rfl,HS.out,HSM.out⟩
     case round =>
      rename World => wz
      obtain ⟨A',n',c',qs,rfl,hSt,hSm⟩:=hrel
      have HST:=hid hSt
      have HSQ:=hid hSm
      have z0:=zac hSt.pbx 0
      have z1:=zac hSt.pbx 1
      simp only [List.getElem?_toArray,List.getElem?_cons_zero,List.getElem?_cons_succ] at z0 z1
      have HN:=hid hSt.cur.len
      have HCP:=hid hSt.cur.form.2
      clear hSt hSm
      by_cases hin:n' < nC
      ·have hin1:(n':Int) < (nC:Int):=by omega
       go_wp2_with fail
       refine (Rt.int (n':Int) (by omega) (by omega) _).mono ?_
       rintro e w2 ⟨g,A2,m2,c2,D2,md2,cd2,rfl,hq,hb⟩
       have HS2:=hid (HST.out.below hb)
       have HQ2:=hid hq
       clear hq hb
       go_wp2_with (at_builtin;go_loud (refine zKm rfl _ _ rfl rfl (HS2.out.cur.alloc _) rfl (zal _ _ _) (HQ2.out.alloc _) (by have:=HN.out;have:=HC5.out;omega) (Nat.le_trans HS2.out.bel.size (by simp)) ?_;intro A3 n3 c3 w3 hv3 hk3 hg3 ho3 hn3;have HS3:=hid ((HS2.out.alloc _).append HLK.out hv3 hk3 hg3 ho3);clear hv3 hk3 hg3 ho3))
       subst hn3
       exact ⟨⟨A3,_,c3,_,rfl,HS3.out,fun q hq => by rcases List.mem_append.1 hq with h | h;exact HSQ.out q h;rw [List.mem_singleton.1 h];exact zu9 _ (by constructor <;> omega)⟩,by have:=HN.out;simp [zKx];omega⟩
      ·have hin1:¬ ((n':Int) < (nC:Int)):=by omega
       have HLQ:=hid (show nC ≤ qs.length by have:=HN.out;omega)
       have hcp1:nC ≤ c':=Nat.le_trans (by omega) HCP.out.1
       have hcp2:c' ≤ 9223372036854775807:=by have:=HCP.out.2.1;unfold maxLen at this;omega
       have hcp3:(nC:Int) ≤ (c':Int):=by omega
       have hcp4:(0:Int) ≤ (nC:Int):=Int.natCast_nonneg _
       have own:=HST.out.own
       rw [HPL.out] at own
       have y0:wz.cell? ⟨bR,k * 5,none⟩ = some r.c:=by rw [own.cellAt (k * 5) (by omega)];exact (zqG l k r HRK.out).1
       have y0f:=own.frozenAt (k * 5)
       clear own
       go_wp2_with fail
       have z0d:wz.drew.cell? ⟨w1.heap.size,0,none⟩ = some (.slice C nC cC):=z0
       have z1d:wz.drew.cell? ⟨w1.heap.size,1,none⟩ = some (.slice (some ⟨bR,0,none⟩) nR cR):=z1
       have y0d:wz.drew.cell? ⟨bR,k * 5,none⟩ = some r.c:=y0
       have y0fd:wz.drew.frozen? ⟨bR,k * 5,none⟩ = false:=y0f
       go_cut [] (fun wy => ROut w wy w1.heap.size (.slice C nC cC) cost (.slice (some ⟨bR,0,none⟩) nR cR) (zei l k (.slice A' nC c')) (ps.modify k fun p => { p with coef:=qs.take nC }))
       case first =>
        go_region
        all_goals
         go_wp2
         go_meet
         case rel => exact (HST.out.put HPL.out.symm nC (by omega)).drew
       case rest =>
        have HY:=hid hcut
        have hl2:(zei l k (.slice A' nC c'))[k]? = some { r with c := .slice A' nC c' }:=by unfold zei;rw [List.getElem?_modify,HRK.out];simp
        have own:=hcut.rows.own
        rw [List.length_modify,HPL.out] at own
        have v1:=zac hcut.pbx 1
        simp only [List.getElem?_toArray,List.getElem?_cons_zero,List.getElem?_cons_succ] at v1
        have y1:wc.cell? ⟨bR,k * 5 + 1,none⟩ = some (.int .i64 r.k):=by rw [own.cellAt (k * 5 + 1) (by omega)];exact (zqG _ k _ hl2).2.1
        have y1f:=own.frozenAt (k * 5 + 1)
        clear own hcut hl2 z0 z1 y0 y0f z0d z1d y0d y0fd
        have v1d:wc.drew.cell? ⟨w1.heap.size,1,none⟩ = some (.slice (some ⟨bR,0,none⟩) nR cR):=v1
        have y1d:wc.drew.cell? ⟨bR,k * 5 + 1,none⟩ = some (.int .i64 r.k):=y1
        have y1fd:wc.drew.frozen? ⟨bR,k * 5 + 1,none⟩ = false:=y1f
        go_wp2_with fail
        go_region
        all_goals
         go_wp2
         exact ⟨⟨k + 1,_,_,by simp,by omega,by rw [List.length_modify,List.length_modify,HPL.out],(HY.out.putK (by rw [List.length_modify,HPL.out]) k _).drew,zLZ HP.out HSQ.out HLQ.out (zLX r.k)⟩,by simp [intOf];omega⟩
    ·obtain rfl:nR = k:=by omega
     have KR:=hid hO.res
     have s0:=zac hO.res 0
     have s1:=zac hO.res 1
     have sf0:=zag hO.res 0
     have sf1:=zag hO.res 1
     simp only [List.getElem?_toArray,List.getElem?_cons_zero,List.getElem?_cons_succ] at s0 s1
     clear hO
     go_wp2
     refine bodyPost_ret (v := .agg #[.slice C nC cC, .slice R nR cR]) (by simp [results,Tryz.results61,go_sem,s0,s1]) rfl ?_
     have hg:Good1 nC nR cost ps:=⟨HC5.out,HR4.out.1,HCS.out,fun p hp => by obtain ⟨i,hi⟩:=List.mem_iff_getElem?.1 hp;have hx:=HP.out i p hi;exact ⟨(hx.2.2 (by have:=(List.getElem?_eq_some_iff.1 hi).1;have:=HPL.out;omega)).1,hx.1,hx.2.1⟩,fun p hp => by obtain ⟨i,hi⟩:=List.mem_iff_getElem?.1 hp;have hx:=HP.out i p hi;exact (hx.2.2 (by have:=(List.getElem?_eq_some_iff.1 hi).1;have:=HPL.out;omega)).2⟩
     exact ⟨_,_,_,_,_,_,_,cost,ps,rfl,(HO.out.cost.setT (p:=⟨w.heap.size + 1,0,none⟩) KR.out (by decide) (by decide) _).setT (p:=⟨w.heap.size + 1,1,none⟩) (zar _ KR.out) (by decide) (by decide) _,(HO.out.rows.setT (a:=⟨w.heap.size + 1,0,none⟩) KR.out (by decide) (by decide) (by decide) _).setT (a:=⟨w.heap.size + 1,1,none⟩) (zar _ KR.out) (by decide) (by decide) (by decide) _,HO.out.ap,HO.out.fr,hg,Below.setCell (Below.setCell HO.out.bel (p:=⟨w.heap.size + 1,0,none⟩) (by show w.heap.size ≤ w.heap.size + 1;omega) _) (p:=⟨w.heap.size + 1,1,none⟩) (by show w.heap.size ≤ w.heap.size + 1;omega) _⟩
end Lw
def mxL {α:Type} (f:α → α) (l:List α) (k:Nat):List α:=(l.take k).map f ++ l.drop k
theorem zK0 {α:Type} (f:α → α) (l:List α):mxL f l 0 = l:=by simp [mxL]
theorem zLh {α:Type} (f:α → α) {l:List α} {n:Nat} (h:l.length = n):mxL f l n = l.map f:=by subst h;simp [mxL]
theorem zLY {α:Type} (f:α → α) (l:List α) (k:Nat):(mxL f l k).length = l.length:=by simp [mxL];omega
theorem zLi {α:Type} (f:α → α) {l:List α} {k:Nat} {x:α} (h:l[k]? = some x):mxL f l k = (l.take k).map f ++ x :: l.drop (k + 1):=by
 obtain ⟨hk,e⟩:=List.getElem?_eq_some_iff.1 h
 unfold mxL;rw [List.drop_eq_getElem_cons hk,e]
theorem zKu {α:Type} (f:α → α) {l:List α} {k:Nat} {x:α} (h:l[k]? = some x):(mxL f l k)[k]? = some x:=by
 have hk:=(List.getElem?_eq_some_iff.1 h).1
 rw [zLi f h,List.getElem?_append_right (by simp;omega)]
 simp [Nat.min_eq_left (Nat.le_of_lt hk)]
theorem zKQ {α:Type} (f:α → α) {l:List α} {k:Nat} {x:α} (h:l[k]? = some x):(mxL f l k).set k (f x) = mxL f l (k + 1):=by
 have hk:=(List.getElem?_eq_some_iff.1 h).1
 rw [zLi f h,List.set_append,if_neg (by simp;omega)]
 unfold mxL
 rw [List.take_add_one,h]
 simp [Nat.min_eq_left (Nat.le_of_lt hk)]
theorem zLA {α:Type} (f:α → α) {l:List α} {k:Nat} {x:α} (h:l[k]? = some x) (e:f x = x):mxL f l k = mxL f l (k + 1):=by
 rw [← zKQ f h,e]
 apply List.ext_getElem?
 intro i
 rw [List.getElem?_set]
 split
 ·rename_i hi;subst hi;have:=zKu f h;rw [this];split
  ·rfl
  ·rename_i hn;rw [List.getElem?_eq_none (by omega)] at this;cases this
 ·rfl
theorem zK5 {α:Type} (g:α → α) {l:List α} {k:Nat} {x:α} (h:l[k]? = some x):l.modify k g = l.set k (g x):=by
 apply List.ext_getElem?
 intro i
 rw [List.getElem?_modify,List.getElem?_set]
 by_cases e:k = i
 ·subst e;rw [if_pos rfl,if_pos (List.getElem?_eq_some_iff.1 h).1,h];simp
 ·rw [if_neg e];cases l[i]? <;> simp [e]
def geR (p:PRow):PRow:=if p.kind = 3 then { p with kind:=2 } else p
theorem zLx (p:PRow):(geR p).coef = p.coef:=by unfold geR;split <;> rfl
theorem zLW (p:PRow):(geR p).rhs = p.rhs:=by unfold geR;split <;> rfl
theorem zKZ {p:PRow} (h:1 ≤ p.kind ∧ p.kind ≤ 3):1 ≤ (geR p).kind ∧ (geR p).kind ≤ 2:=by
 unfold geR;split
 ·exact ⟨show (1:Int) ≤ 2 by decide,show (2:Int) ≤ 2 by decide⟩
 ·omega
structure Cheap (nc nr:Nat) (cost:List Rat) (rows:List PRow):Prop where
  g:Good1 nc nr cost rows
  lc:cost.length = nc
  lr:rows.length = nr
  nn:∀ q ∈ cost,0 ≤ q
  k3:∀ p ∈ rows,p.kind ≠ 3
theorem Good1.cheap {nc nr:Nat} {cost:List Rat} {rows:List PRow} (h:Good1 nc nr cost rows) (hc:cost.length = nc) (hr:rows.length = nr):Cheap nc nr (cost.map zKt) (rows.map geR):=by
 refine ⟨⟨h.hc,h.hr,fun q hq => ?_,fun p hp => ?_,fun p hp => ?_⟩,by simpa using hc,by simpa using hr,fun q hq => ?_,fun p hp => ?_⟩
 ·obtain ⟨x,hx,rfl⟩:=List.mem_map.1 hq;rw [zLJ];exact h.sc x hx
 ·obtain ⟨x,hx,rfl⟩:=List.mem_map.1 hp;rw [zLx,zLW];exact h.rw_ x hx
 ·obtain ⟨x,hx,rfl⟩:=List.mem_map.1 hp;have:=zKZ (h.kd x hx);omega
 ·obtain ⟨x,hx,rfl⟩:=List.mem_map.1 hq;exact zLK x
 ·obtain ⟨x,hx,rfl⟩:=List.mem_map.1 hp;have:=zKZ (h.kd x hx);omega
theorem ROut.putC {w0 w:World} {pb bC nC cC:Nat} {cost:List Rat} {R:Value} {l:List RR} {ps:List PRow} (h:ROut w0 w pb (.slice (some ⟨bC,0,none⟩) nC cC) cost R l ps) (k:Nat) {g:Bool} {s d:Value} {q:Rat} (hq:RatS w g s d q) :
  ROut w0 (((w.setCell ⟨bC,k * 3,none⟩ (.bool g)).setCell ⟨bC,k * 3 + 1,none⟩ s).setCell ⟨bC,k * 3 + 2,none⟩ d) pb (.slice (some ⟨bC,0,none⟩) nC cC) (cost.set k q) R l ps:=by
 obtain ⟨cs,hg⟩:=h.cost.ratBlk
 have keep:∀ j,j ≠ bC → (((w.setCell ⟨bC,k * 3,none⟩ (.bool g)).setCell ⟨bC,k * 3 + 1,none⟩ s).setCell ⟨bC,k * 3 + 2,none⟩ d).heap[j]? = w.heap[j]?:=fun j hj => by
  rw [Below.heap_setCell _ _ _ _ (by exact hj),Below.heap_setCell _ _ _ _ (by exact hj),Below.heap_setCell _ _ _ _ (by exact hj)]
 have hk:TKeep 35 w (((w.setCell ⟨bC,k * 3,none⟩ (.bool g)).setCell ⟨bC,k * 3 + 1,none⟩ s).setCell ⟨bC,k * 3 + 2,none⟩ d):=fun j _ hne => keep j (by rintro rfl;exact hne _ hg)
 have hH:w0.heap.size ≤ bC:=(h.cost.lt rfl).1
 refine ⟨hk.blk h.res (by decide),hk.blk h.pbx (by decide),h.cost.store k hq,⟨h.rows.len,fun i r p a b => ?_,zc9 h.rows.own fun j hj => ?_⟩,h.ap,h.fr,((h.bel.setCell hH _).setCell hH _).setCell hH _⟩
 ·have e:=h.rows.each i r p a b
  exact ⟨e.coef.keepAll (fun j hj => keep j fun ej => h.ap.2 i r j a hj (by rw [ej];rfl)) fun _ _ _ _ x => x.keepT hk,e.kind,e.rhs.keepT hk⟩
 ·exact hk j (h.rows.own.lt j hj).2 fun cs' e => za6 h.rows.own e (by decide) hj
theorem ROut.tkI {w0 w w':World} {pb:Nat} {C R:Value} {cost:List Rat} {l:List RR} {ps:List PRow} (h:ROut w0 w pb C cost R l ps) (hk:TKeep 3 w w') (hb:Below w0.heap.size w w'):ROut w0 w' pb C cost R l ps :=
 ⟨hk.blk h.res (by decide),hk.blk h.pbx (by decide),h.cost.tk hk (by decide) (by decide),⟨h.rows.len,fun i r p a b => have e:=h.rows.each i r p a b;⟨e.coef.tk hk (by decide) (by decide),e.kind,e.rhs.tk hk (by decide)⟩,zc9 h.rows.own fun j hj => hk j (h.rows.own.lt j hj).2 fun cs' e => za6 h.rows.own e (by decide) hj⟩,h.ap,h.fr,h.bel.trans hb⟩
theorem zKU (n k:Nat):zli n (k + 1) = zli n k ++ [n + k]:=by unfold zli;rw [List.range_succ,List.map_append];rfl
def zLn (w:World) (e:Ending) (w':World):Prop := ∃ (C:Option Addr) (nC cC:Nat) (R:Option Addr) (nR cR:Nat) (T:Option Addr) (tc:Nat) (cost:List Rat) (rows:List PRow),e = .returned (.tuple #[.agg #[.slice C nC cC, .slice R nR cR], .slice T nR tc]) ∧
  VecS w' w.heap.size (.slice C nC cC) cost ∧ RowsS w' w.heap.size (.slice R nR cR) rows ∧ IntsS w' w.heap.size (.slice T nR tc) (zli nC nR) ∧ Cheap nC nR cost rows ∧ Below w.heap.size w w'
namespace Lw
theorem zLV (A:Option Addr) (nA cA:Nat) (L:Option Addr) (nL cL:Nat) (cs:List (Int × Int)) (ls:List LineV) (w:World) (hf:zcs w A cs) (hlines:zex w L ls) (hn:nA = cs.length) (hm:nL = ls.length) (hb:nA ≤ cA) (hb2:nL ≤ cL) (hc:cA ≤ 9223372036854775807) (hc2:cL ≤ 9223372036854775807) :
  Calls Tryz.prog 17 #[.agg #[.slice A nA cA, .slice L nL cL]] w (zLn w):=by
 have HN:=hid hn
 have HM:=hid hm
 have HB1:=hid hb
 have HB2:=hid hb2
 have HB3:=hid hc
 have HB4:=hid hc2
 clear hn hm hb hb2 hc hc2
 obtain ⟨W,hW⟩:∃ W,((w.alloc (.cells #[.slice A nA cA, .slice L nL cL] 44)).alloc (.cells #[.slice none 0 0, .slice none 0 0] 47)) = W:=⟨_,rfl⟩
 have KB0:=hid (show W.heap[w.heap.size]? = some (.cells #[.slice A nA cA, .slice L nL cL] 44 (0,0)) by rw [← hW];exact zak (zam (by simp)))
 have KB1:=hid (show W.heap[w.heap.size + 1]? = some (.cells #[.slice none 0 0, .slice none 0 0] 47 (0,0)) by rw [← hW];exact zam (by simp))
 have BB:=hid (show Below w.heap.size w W by rw [← hW];exact (zae w _).alloc (by simp) _)
 have HZ:=hid (show w.heap.size + 2 ≤ W.heap.size by rw [← hW];simp)
 have HF:=hid (show zcs W A cs by rw [← hW];exact ((hf).alloc _).alloc _)
 have HL:=hid (show zex W L ls by rw [← hW];exact ((hlines).alloc _).alloc _)
 obtain ⟨zaK,_,zaL,_⟩:=bc2 KB0.out
 clear hf hlines
 go_enter Tryz.func17,Tryz.ntmps17
 go_wp2_with fail
 clear hW
 with_reducible refine (zLD A nA cA L nL cL cs ls _ HF.out HL.out HN.out HM.out HB1.out HB2.out HB3.out HB4.out).mono ?_
 rintro e w1 ⟨C,nC,cC,R,nR,cR,l,cost,rows,rfl,hv,hl,hap,hfr,hg,hb⟩
 have za0:=hid (zad hb KB1.out)
 have zaQ:=hid (BB.out.trans ((hb).mono BB.out.size))
 have HSZ:=hid (show w.heap.size ≤ W.heap.size by have:=HZ.out;omega)
 have HO:=hid (show ROut w (w1.alloc (.cells #[.slice C nC cC, .slice R nR cR] 47)) w1.heap.size (.slice C nC cC) cost (.slice R nR cR) l rows from ⟨zak za0.out,zal _ _ _,(hv.base HSZ.out).alloc _,(hl.base' HSZ.out).alloc _,hap,fun i ri b hi hb' => Nat.le_trans HSZ.out (hfr i ri b hi hb'),zaQ.out.alloc zaQ.out.size _⟩)
 have HG:=hid hg
 have HLC:=hid (show cost.length = nC from hv.len.symm)
 have HLR:=hid (show rows.length = nR from hl.toS.len.symm)
 have hnC:nC ≤ 9223372036854775807:=by have:=hg.hc;omega
 have hnR:nR ≤ 9223372036854775807:=by have:=hg.hr;omega
 clear hv hl hap hfr hg hb
 go_wp2
 go_loopw [5] (fun i wr => ∃ k:Nat,i = .int .i64 k ∧ k ≤ nC ∧ ROut w wr w1.heap.size (.slice C nC cC) (mxL zKt cost k) (.slice R nR cR) l rows)
  (fun i _ => nC - (intOf i).toNat)
 case atStart => exact ⟨0,rfl,Nat.zero_le _,by rw [zK0];exact HO.out⟩
 case round =>
  obtain ⟨k,rfl,hk,hO⟩:=hrel
  have HR:=hid hO
  have p0:=zac hO.pbx 0
  have p1:=zac hO.pbx 1
  simp only [List.getElem?_toArray,List.getElem?_cons_zero,List.getElem?_cons_succ] at p0 p1
  by_cases hlt:k < nC
  ·have hck:=zaH (xs:=cost) (j:=k) (by rw [HLC.out];exact hlt)
   obtain ⟨bC,rfl,hbC0,hbC1⟩:=hO.cost.has (by omega)
   obtain ⟨ga,Aa,ma,ca,Da,mda,cda,y0,y1,y2,hRa⟩:=hO.cost.at_ (zKu zKt hck)
   have HCK:=hid hck
   have HRa:=hid hRa
   have hi1:(0:Int) ≤ (k:Int):=Int.natCast_nonneg _
   have hi2:(k:Int) < (nC:Int):=by omega
   clear hO hck hRa
   go_wp2_with fail
   refine za2 (S:=fun w' => w'.cell? ⟨w1.heap.size,0,none⟩ = some (.slice (some ⟨bC,0,none⟩) nC cC) ∧ w'.cell? ⟨bC,k * 3,none⟩ = some (.bool ga) ∧ w'.cell? ⟨bC,k * 3 + 1,none⟩ = some (.slice Aa ma ca) ∧ w'.cell? ⟨bC,k * 3 + 2,none⟩ = some (.slice Da mda cda)) 10 (h:=fun hHeld => ?_)
   refine zaw [0,1,2,3,4,5,6,7] ?_
   repeat refine tkE (hS:=hHeld) (h:=?_)
   refine zao ?_
   refine zaN 8 (h:=fun K hK => ?_)
   go_simp
   (go_at_call 62;(with_reducible refine (Rt.abs ga Aa ma ca Da mda cda (el cost k) _ HRa.out.drew).mono ?_);rintro e u1 ⟨g3,A3,m3,c3,D3,md3,cd3,rfl,hn,hb⟩;have HN3:=hid hn;have HR1:=hid (HR.out.drew.below hb);have hbw:Below wr.heap.size wr u1:=It.bdrew0' hb;have p0a:=zab hbw p0;have z0:=zab hbw y0;have z1:=zab hbw y1;have z2:=zab hbw y2;have zf0:=HR1.out.cost.fro (k * 3);have zf1:=HR1.out.cost.fro (k * 3 + 1);have zf2:=HR1.out.cost.fro (k * 3 + 2);clear hn hb hbw)
   (try go_wp2_with fail)
   refine hK.out _ _ kp fun hHeld => ?_
   clear hK K
   try simp only [Act.put,pu1,pu2,pu3,pu4,pu5,pu6]
   refine zaw [9] ?_
   repeat refine tkE (hS:=hHeld) (h:=?_)
   refine zao ?_
   refine zba (h:=fun K hK => ?_)
   go_simp
   refine hK.out _ _ ?_
   clear hK K
   try simp only [Act.put,pu1,pu2,pu3,pu4,pu5,pu6]
   refine za1 (h:=?_)
   go_wp2
   go_roundw
   case rel => exact ⟨k + 1,by go_num,by omega,by rw [← zKQ zKt HCK.out];exact HR1.out.putC k HN3.out⟩
   case measure => simp [intOf];omega
  ·obtain rfl:nC = k:=by omega
   have HQ:=hid (show ROut w wr w1.heap.size (.slice C nC cC) (cost.map zKt) (.slice R nR cR) l rows by have h:=HR.out;rw [zLh zKt HLC.out] at h;exact h)
   clear hO
   go_wp2
   go_loopw [6,7] (fun cv kv wz => ∃ (k:Nat) (T:Option Addr) (tc:Nat) (l':List RR),kv = .int .i64 k ∧ cv = .slice T k tc ∧ k ≤ nR ∧ ROut w wz w1.heap.size (.slice C nC cC) (cost.map zKt) (.slice R nR cR) l' (mxL geR rows k) ∧ IntsS wz w.heap.size (.slice T k tc) (zli nC k))
    (fun _ kv _ => nR - (intOf kv).toNat)
   case atStart => exact ⟨0,none,0,l,rfl,rfl,Nat.zero_le _,by rw [zK0];exact HQ.out,IntsS.nil _ _⟩
   case round =>
    rename World => wz
    obtain ⟨k,T,tc,l',rfl,rfl,hk,hO,hI⟩:=hrel
    have HR2:=hid hO
    have HI:=hid hI
    have p0:=zac hO.pbx 0
    have p1:=zac hO.pbx 1
    simp only [List.getElem?_toArray,List.getElem?_cons_zero,List.getElem?_cons_succ] at p0 p1
    by_cases hlt:k < nR
    ·obtain ⟨p,hp⟩:∃ p,rows[k]? = some p:=⟨rows[k]'(by rw [HLR.out];exact hlt),List.getElem?_eq_getElem _⟩
     have hml:(mxL geR rows k).length = nR:=by rw [zLY];exact HLR.out
     have HML:=hid hml
     obtain ⟨bR,rfl,hbR0,hbR1⟩:=hO.rows.toS.has (by omega)
     obtain ⟨r,hr⟩:∃ r,l'[k]? = some r:=⟨l'[k]'(by rw [hO.rows.len,hml];exact hlt),List.getElem?_eq_getElem _⟩
     have hrk:r.k = p.kind:=(hO.rows.each k r p hr (zKu geR hp)).kind
     have own:=hO.rows.own
     rw [hml] at own
     have y1:wz.cell? ⟨bR,k * 5 + 1,none⟩ = some (.int .i64 p.kind):=by rw [own.cellAt (k * 5 + 1) (by omega), ← hrk];exact (zqG _ k _ hr).2.1
     have y1f:=own.frozenAt (k * 5 + 1)
     have HP:=hid hp
     have hi1:(0:Int) ≤ (k:Int):=Int.natCast_nonneg _
     have hi2:(k:Int) < (nR:Int):=by omega
     clear own hO hI hr hrk hp hml
     go_upto_if 40 with fail
     go_cut [] (fun wy => ∃ l2:List RR,ROut w wy w1.heap.size (.slice C nC cC) (cost.map zKt) (.slice (some ⟨bR,0,none⟩) nR cR) l2 (mxL geR rows (k + 1)) ∧ IntsS wy w.heap.size (.slice T k tc) (zli nC k))
     case first =>
      by_cases h3:p.kind = 3
      ·have hx:=zK5 (fun p:PRow => { p with kind:=2 }) (zKu geR HP.out)
       have hg3:geR p = { p with kind:=2 }:=by unfold geR;rw [if_pos h3]
       have HX:=hid (show (mxL geR rows k).modify k (fun p => { p with kind:=2 }) = mxL geR rows (k + 1) by rw [hx, ← hg3];exact zKQ geR HP.out)
       clear hx hg3
       go_wp2
       go_meet
       case rel => exact ⟨_,by rw [← HX.out];exact HR2.out.putK HML.out.symm k 2,HI.out.tk (TKeep.set (zA4 (by have h:=HR2.out.rows.own;rw [HML.out] at h;exact h)).choose_spec.1 _) (by decide)⟩
      ·have hg3:geR p = p:=by unfold geR;rw [if_neg h3]
       have HX:=hid (zLA geR HP.out hg3)
       clear hg3
       go_wp2
       go_meet
       case rel => exact ⟨_,by rw [← HX.out];exact HR2.out,HI.out⟩
     case rest =>
      obtain ⟨l2,hO2,hI2⟩:=hcut
      rename World => wc
      have HO2:=hid hO2
      have HI2:=hid hI2
      have q0:=zac hO2.pbx 0
      simp only [List.getElem?_toArray,List.getElem?_cons_zero,List.getElem?_cons_succ] at q0
      have hnC5:nC ≤ 5:=HG.out.hc
      have hk4:k ≤ 4:=by have:=HG.out.hr;omega
      clear hO2 hI2 p0 p1 y1 y1f
      go_wp2_with (at_builtin;go_loud (refine ziP rfl _ _ rfl rfl (HI2.out.alloc _) rfl (z:=nC + k) (zal _ _ _) (n:=k) (by simp [zli]) (by have:=HG.out.hr;omega) (by simp;have:=HO2.out.bel.size;omega) ?_;intro A6 c6 w6 hP6 hk6 hb6;have HP6:=hid hP6;have HO6:=hid ((HO2.out.below (zae wc _)).tkI hk6 hb6);clear hP6 hk6 hb6))
      go_roundw
      case rel => exact ⟨k + 1,A6,c6,l2,by go_num,rfl,by omega,HO6.out,by rw [zKU];exact HP6.out⟩
      case measure => simp [intOf];omega
    ·obtain rfl:nR = k:=by omega
     have KR:=hid hO.res
     have s0:=zac hO.res 0
     have s1:=zac hO.res 1
     have sf0:=zag hO.res 0
     have sf1:=zag hO.res 1
     simp only [List.getElem?_toArray,List.getElem?_cons_zero,List.getElem?_cons_succ] at s0 s1
     clear hO hI
     go_wp2
     refine bodyPost_ret (v := .tuple #[.agg #[.slice C nC cC, .slice R nR cR], .slice T nR tc]) (by simp [results,Tryz.results17,go_sem,s0,s1]) rfl ?_
     have k1:=TKeep.set (o:=0) KR.out (.slice C nC cC)
     have k2:=TKeep.set (o:=1) (zar (o:=0) (.slice C nC cC) KR.out) (.slice R nR cR)
     exact ⟨_,_,_,_,_,_,T,tc,cost.map zKt,mxL geR rows nR,rfl,(HR2.out.cost.tk k1 (by decide) (by decide)).tk k2 (by decide) (by decide),(HR2.out.rows.toS.setT (a:=⟨w.heap.size + 1,0,none⟩) KR.out (by decide) (by decide) (by decide) _).setT (a:=⟨w.heap.size + 1,1,none⟩) (zar _ KR.out) (by decide) (by decide) (by decide) _,(HI.out.tk k1 (by decide)).tk k2 (by decide),by rw [zLh geR HLR.out];exact HG.out.cheap HLC.out HLR.out,Below.setCell (Below.setCell HR2.out.bel (p:=⟨w.heap.size + 1,0,none⟩) (by show w.heap.size ≤ w.heap.size + 1;omega) _) (p:=⟨w.heap.size + 1,1,none⟩) (by show w.heap.size ≤ w.heap.size + 1;omega) _⟩
end Lw
end Go.Proofs.YtdbgbaiekpbaoaaGreatDoor
