/- The example of chapter 19,as lists: what a solve comes to. Conditions: as each says. actuarylaw19.example by its contract. tab.Point,Feasible by their contracts. Conditions: as each says. Conditions: as they say. -/
import Derived.Test.YtdbgbaiekpbaoaaGreatDoorProb1Zq
import Derived.Test.YtdbgbaiekpbaoaaGreatDoorRat6Zq
import Derived.Test.YtdbgbaiekpbaoaaGreatDoorBasMemZq
import Derived.Test.YtdbgbaiekpbaoaaGreatDoorVec7Zq
import Derived.Test.YtdbgbaiekpbaoaaGreatDoorBoolsZq
import Derived.Test.YtdbgbaiekpbaoaaGreatDoorOpenZq
import Derived.Test.YtdbgbaiekpbaoaaGreatDoorBasTZq
import Derived.Test.YtdbgbaiekpbaoaaGreatDoorMat5Zq
set_option linter.all false
namespace Go.Proofs.YtdbgbaiekpbaoaaGreatDoor
open Go.RowKit Am
open Lib (hid)
set_option maxRecDepth 100000
def zhx (x:Int):List Rat:=rats [x,1]
def zcY:List PRow:=[⟨rats [1,2],2,((4:Int):Rat)⟩,⟨rats [3,1],1,((9:Int):Rat)⟩]
theorem zAg:(zdi (zaC 4 (zc3 zcY) [2,3] (zjD (zhx 1) zcY)) (List.replicate 4 true)).isNone = true:=by decide +kernel
theorem zAh:(zdi (zaC 4 (zc3 zcY) [2,3] (zjD (zhx (-1)) zcY)) (List.replicate 4 true)).isNone = false:=by decide +kernel
def zBW:RunOut:=pivs (zbE 4 (zc3 zcY) (zg8 zcY) (zjD (zhx 1) zcY) (List.replicate 4 true)) 9 [2,3]
theorem zHy:zBW.err = false:=by decide +kernel
theorem zJ8:zBW.at_ = none:=by decide +kernel
theorem e_n:zBW.n = 1:=by decide +kernel
theorem zJ9:(zh1 4 zBW.cols (za5 (zc3 zcY) (zg8 zcY) zBW.cols)).take 2 = rats [0,2]:=by decide +kernel
end Go.Proofs.YtdbgbaiekpbaoaaGreatDoor
namespace Go.Proofs.YtdbgbaiekpbaoaaGreatDoor
open Go.RowKit Am
open Lib (hid)
attribute [local go_sem ↓] Go.wp_at_zero Go.wp_at_succ
set_option maxHeartbeats 2000000
set_option maxRecDepth 100000
theorem RowsS.setX {w:World} {H:Nat} {v:Value} {ps:List PRow} (h:RowsS w H v ps) {a:Addr} {t:TypeId} {cs:Array Value} (hg:w.heap[a.block]? = some (.cells cs t (0,0))) (h1:193 ≠ t) (h2:35 ≠ t) (h3:110 ≠ t) (u:Value):RowsS (w.setCell a u) H v ps:=by
 obtain ⟨l,e1,e2,e3⟩:=h.row
 exact (RowsL.setT (l:=l) ⟨e1,e2,e3⟩ hg h1 h2 h3 u).toS
namespace Lw
theorem zuN (w:World):Calls Tryz.prog 48 #[.int .i64 1] w fun e w' => ∃ (C:Option Addr) (cC:Nat) (R:Option Addr) (cR:Nat),e = .returned (.agg #[.slice C 2 cC, .slice R 2 cR]) ∧ VecS w' 0 (.slice C 2 cC) (zhx (1)) ∧ RowsS w' 0 (.slice R 2 cR) zcY ∧ Below w.heap.size w w':=by
 obtain ⟨W,hW⟩:∃ W,(w.alloc (.cells #[.slice none 0 0, .slice none 0 0] 47)) = W:=⟨_,rfl⟩
 have KB0:=hid (show W.heap[w.heap.size]? = some (.cells #[.slice none 0 0, .slice none 0 0] 47 (0,0)) by rw [← hW];exact zam (by simp))
 have BB:=hid (show Below w.heap.size w W by rw [← hW];exact zae w _)
 have HZ:=hid (show w.heap.size + 1 ≤ W.heap.size by rw [← hW];simp)
 obtain ⟨zaK,zaz,zdC,zcM,zaL,zaA,zdD,zcO⟩:=bf2 KB0.out
 go_enter Tryz.func48,Tryz.ntmps48
 go_wp2_with fail
 clear hW
 have hz0:=HZ.out
 have hb1z:=zae W (.cells #[.int .i64 1, .int .i64 1] 3)
 have zaq:=hid (zad hb1z KB0.out)
 have zaQ:=hid (BB.out.trans ((hb1z).mono BB.out.size))
 obtain ⟨zaI,zat,zbM,zbl,zaJ,zau,zbN,zbm⟩:=bf2 zaq.out
 with_reducible refine (Vc.of W.heap.size 2 2 [1,1] _ rfl (zqg W (1) (1)) (by decide) (by decide) (by decide)).mono ?_
 rintro e w1 ⟨S1,ns1,cs1,rfl,hv,hb⟩
 have zaD:=hid (show (w1.alloc (.cells #[.int .i64 1, .int .i64 2] 3)).heap[w.heap.size]? = some (.cells #[.slice none 0 0, .slice none 0 0] 47 (0,0)) from zak (zad hb zaq.out))
 have HV1:=hid (show VecS (w1.alloc (.cells #[.int .i64 1, .int .i64 2] 3)) 0 (.slice S1 ns1 cs1) (rats [1,1]) from ((hv.base (Nat.zero_le _))).alloc _)
 have zbj:=hid (show Below w.heap.size w (w1.alloc (.cells #[.int .i64 1, .int .i64 2] 3)) from ((zaQ.out.trans ((hb).mono zaQ.out.size))).alloc ((zaQ.out.trans ((hb).mono zaQ.out.size))).size _)
 have zbb:=hid (show (w1.alloc (.cells #[.int .i64 1, .int .i64 2] 3)).heap[w1.heap.size]? = some (.cells #[.int .i64 1, .int .i64 2] 3 (0,0)) from zam (by simp))
 obtain ⟨zaU,zaE,zcN,zbQ,zaV,zaF,zcP,zbR⟩:=bf2 zaD.out
 obtain ⟨zbi,zaX,zbp,za3⟩:=bc2 zbb.out
 clear hv hb
 go_wp2_with fail
 with_reducible refine (Vc.of w1.heap.size 2 2 [1,2] _ rfl (zqg w1 (1) (2)) (by decide) (by decide) (by decide)).mono ?_
 rintro e w2 ⟨S2,ns2,cs2,rfl,hv,hb⟩
 have zbn:=hid (zad hb zaD.out)
 have zyW:=hid (HV1.out.below hb)
 have HV2:=hid (show VecS w2 0 (.slice S2 ns2 cs2) (rats [1,2]) from (hv.base (Nat.zero_le _)))
 have zcc:=hid (zbj.out.trans ((hb).mono zbj.out.size))
 obtain ⟨zdg,zb0,zfy,zdX,zdh,zb1,zfz,zdY⟩:=bf2 zbn.out
 clear hv hb
 go_wp2_with fail
 with_reducible refine (Rt.int 4 (by decide) (by decide) _).mono ?_
 rintro e w3 ⟨g3,A3,m3,c3,D3,md3,cd3,rfl,hn,hb⟩
 have zbo:=hid (show (w3.alloc (.cells #[.int .i64 3, .int .i64 1] 3)).heap[w.heap.size]? = some (.cells #[.slice none 0 0, .slice none 0 0] 47 (0,0)) from zak (zad hb zbn.out))
 have zyX:=hid (show VecS (w3.alloc (.cells #[.int .i64 3, .int .i64 1] 3)) 0 (.slice S1 ns1 cs1) (rats [1,1]) from (zyW.out.below hb).alloc _)
 have zy0:=hid (show VecS (w3.alloc (.cells #[.int .i64 3, .int .i64 1] 3)) 0 (.slice S2 ns2 cs2) (rats [1,2]) from (HV2.out.below hb).alloc _)
 have HR3:=hid (show RatS (w3.alloc (.cells #[.int .i64 3, .int .i64 1] 3)) g3 (.slice A3 m3 c3) (.slice D3 md3 cd3) ((4:Int):Rat) from (hn).alloc _)
 have zdf:=hid (show Below w.heap.size w (w3.alloc (.cells #[.int .i64 3, .int .i64 1] 3)) from ((zcc.out.trans ((hb).mono zcc.out.size))).alloc ((zcc.out.trans ((hb).mono zcc.out.size))).size _)
 have zcE:=hid (show (w3.alloc (.cells #[.int .i64 3, .int .i64 1] 3)).heap[w3.heap.size]? = some (.cells #[.int .i64 3, .int .i64 1] 3 (0,0)) from zam (by simp))
 obtain ⟨zcj,zbv,zec,zdb,zck,zbw,zed,zdc⟩:=bf2 zbo.out
 obtain ⟨zdR,zcH,zdS,zcI⟩:=bc2 zcE.out
 clear hn hb
 go_wp2_with fail
 with_reducible refine (Vc.of w3.heap.size 2 2 [3,1] _ rfl (zqg w3 (3) (1)) (by decide) (by decide) (by decide)).mono ?_
 rintro e w4 ⟨S4,ns4,cs4,rfl,hv,hb⟩
 have zct:=hid (zad hb zbo.out)
 have zyY:=hid (zyX.out.below hb)
 have zy1:=hid (zy0.out.below hb)
 have zyP:=hid (HR3.out.below hb)
 have HV4:=hid (show VecS w4 0 (.slice S4 ns4 cs4) (rats [3,1]) from (hv.base (Nat.zero_le _)))
 have ze3:=hid (zdf.out.trans ((hb).mono zdf.out.size))
 obtain ⟨zdP,zcF,zgP,zeK,zdQ,zcG,zgQ,zeL⟩:=bf2 zct.out
 clear hv hb
 go_wp2_with fail
 with_reducible refine (Rt.int 9 (by decide) (by decide) _).mono ?_
 rintro e w5 ⟨g5,A5,m5,c5,D5,md5,cd5,rfl,hn,hb⟩
 have zd8:=hid (zad hb zct.out)
 have zsK:=hid (zyY.out.below hb)
 have zy2:=hid (zy1.out.below hb)
 have zyQ:=hid (zyP.out.below hb)
 have zy3:=hid (HV4.out.below hb)
 have HR5:=hid (show RatS w5 g5 (.slice A5 m5 c5) (.slice D5 md5 cd5) ((9:Int):Rat) from hn)
 have zlw:=hid (ze3.out.trans ((hb).mono ze3.out.size))
 obtain ⟨zhn,zez,zkL,zhC,zho,zeA,zkM,zhD⟩:=bf2 zd8.out
 clear hn hb
 obtain rfl:2 = ns1:=zsK.out.len.symm
 have hb7z:=zae w5 (.cells #[.slice S2 ns2 cs2, .int .i64 2, .bool g3, .slice A3 m3 c3, .slice D3 md3 cd3, .slice S4 ns4 cs4, .int .i64 1, .bool g5, .slice A5 m5 c5, .slice D5 md5 cd5] 110)
 have zew:=hid (zad hb7z zd8.out)
 have zyZ:=hid (zsK.out.below hb7z)
 have HRW:=hid (show RowsS (w5.alloc (.cells #[.slice S2 ns2 cs2, .int .i64 2, .bool g3, .slice A3 m3 c3, .slice D3 md3 cd3, .slice S4 ns4 cs4, .int .i64 1, .bool g5, .slice A5 m5 c5, .slice D5 md5 cd5] 110)) 0 (.slice (some ⟨w5.heap.size,0,none⟩) 2 2) zcY from (zoX rfl (r:=⟨.slice S2 ns2 cs2,2,g3, .slice A3 m3 c3, .slice D3 md3 cd3⟩) (r':=⟨.slice S4 ns4 cs4,1,g5, .slice A5 m5 c5, .slice D5 md5 cd5⟩) (p:=⟨rats [1,2],2,((4:Int):Rat)⟩) (p':=⟨rats [3,1],1,((9:Int):Rat)⟩) ⟨zy2.out,rfl,zyQ.out⟩ ⟨zy3.out,rfl,HR5.out⟩))
 have zxW:=hid (zlw.out.trans ((hb7z).mono zlw.out.size))
 obtain ⟨zkc,zgw,zp5,znh,zkd,zgx,zp6,zni⟩:=bf2 zew.out
 go_wp2
 refine bodyPost_ret (v := .agg #[.slice S1 2 cs1, .slice (some ⟨w5.heap.size,0,none⟩) 2 2]) (by simp [results,Tryz.results48,go_sem,zkc,zgw,zkd,zgx]) rfl ?_
 have h1:=(zyZ.out.setT (p:=⟨w.heap.size,0,none⟩) zew.out (by decide) (by decide) (.slice S1 2 cs1)).setT (p:=⟨w.heap.size,1,none⟩) (zar _ zew.out) (by decide) (by decide) (.slice (some ⟨w5.heap.size,0,none⟩) 2 2)
 have h2:=(HRW.out.setX (a:=⟨w.heap.size,0,none⟩) zew.out (by decide) (by decide) (by decide) (.slice S1 2 cs1)).setX (a:=⟨w.heap.size,1,none⟩) (zar _ zew.out) (by decide) (by decide) (by decide) (.slice (some ⟨w5.heap.size,0,none⟩) 2 2)
 exact ⟨S1,cs1,some ⟨w5.heap.size,0,none⟩,2,rfl,h1,h2,Below.setCell (Below.setCell (zxW.out) (p:=⟨w.heap.size,0,none⟩) (by show w.heap.size ≤ w.heap.size;omega) _) (p:=⟨w.heap.size,1,none⟩) (by show w.heap.size ≤ w.heap.size;omega) _⟩
theorem zuM (w:World):Calls Tryz.prog 48 #[.int .i64 (-1)] w fun e w' => ∃ (C:Option Addr) (cC:Nat) (R:Option Addr) (cR:Nat),e = .returned (.agg #[.slice C 2 cC, .slice R 2 cR]) ∧ VecS w' 0 (.slice C 2 cC) (zhx (-1)) ∧ RowsS w' 0 (.slice R 2 cR) zcY ∧ Below w.heap.size w w':=by
 obtain ⟨W,hW⟩:∃ W,(w.alloc (.cells #[.slice none 0 0, .slice none 0 0] 47)) = W:=⟨_,rfl⟩
 have KB0:=hid (show W.heap[w.heap.size]? = some (.cells #[.slice none 0 0, .slice none 0 0] 47 (0,0)) by rw [← hW];exact zam (by simp))
 have BB:=hid (show Below w.heap.size w W by rw [← hW];exact zae w _)
 have HZ:=hid (show w.heap.size + 1 ≤ W.heap.size by rw [← hW];simp)
 obtain ⟨zaK,zaz,zdC,zcM,zaL,zaA,zdD,zcO⟩:=bf2 KB0.out
 go_enter Tryz.func48,Tryz.ntmps48
 go_wp2_with fail
 clear hW
 have hz0:=HZ.out
 have hb1z:=zae W (.cells #[.int .i64 (-1), .int .i64 1] 3)
 have zaq:=hid (zad hb1z KB0.out)
 have zaQ:=hid (BB.out.trans ((hb1z).mono BB.out.size))
 obtain ⟨zaI,zat,zbM,zbl,zaJ,zau,zbN,zbm⟩:=bf2 zaq.out
 with_reducible refine (Vc.of W.heap.size 2 2 [-1,1] _ rfl (zqg W (-1) (1)) (by decide) (by decide) (by decide)).mono ?_
 rintro e w1 ⟨S1,ns1,cs1,rfl,hv,hb⟩
 have zaD:=hid (show (w1.alloc (.cells #[.int .i64 1, .int .i64 2] 3)).heap[w.heap.size]? = some (.cells #[.slice none 0 0, .slice none 0 0] 47 (0,0)) from zak (zad hb zaq.out))
 have HV1:=hid (show VecS (w1.alloc (.cells #[.int .i64 1, .int .i64 2] 3)) 0 (.slice S1 ns1 cs1) (rats [-1,1]) from ((hv.base (Nat.zero_le _))).alloc _)
 have zbj:=hid (show Below w.heap.size w (w1.alloc (.cells #[.int .i64 1, .int .i64 2] 3)) from ((zaQ.out.trans ((hb).mono zaQ.out.size))).alloc ((zaQ.out.trans ((hb).mono zaQ.out.size))).size _)
 have zbb:=hid (show (w1.alloc (.cells #[.int .i64 1, .int .i64 2] 3)).heap[w1.heap.size]? = some (.cells #[.int .i64 1, .int .i64 2] 3 (0,0)) from zam (by simp))
 obtain ⟨zaU,zaE,zcN,zbQ,zaV,zaF,zcP,zbR⟩:=bf2 zaD.out
 obtain ⟨zbi,zaX,zbp,za3⟩:=bc2 zbb.out
 clear hv hb
 go_wp2_with fail
 with_reducible refine (Vc.of w1.heap.size 2 2 [1,2] _ rfl (zqg w1 (1) (2)) (by decide) (by decide) (by decide)).mono ?_
 rintro e w2 ⟨S2,ns2,cs2,rfl,hv,hb⟩
 have zbn:=hid (zad hb zaD.out)
 have zyW:=hid (HV1.out.below hb)
 have HV2:=hid (show VecS w2 0 (.slice S2 ns2 cs2) (rats [1,2]) from (hv.base (Nat.zero_le _)))
 have zcc:=hid (zbj.out.trans ((hb).mono zbj.out.size))
 obtain ⟨zdg,zb0,zfy,zdX,zdh,zb1,zfz,zdY⟩:=bf2 zbn.out
 clear hv hb
 go_wp2_with fail
 with_reducible refine (Rt.int 4 (by decide) (by decide) _).mono ?_
 rintro e w3 ⟨g3,A3,m3,c3,D3,md3,cd3,rfl,hn,hb⟩
 have zbo:=hid (show (w3.alloc (.cells #[.int .i64 3, .int .i64 1] 3)).heap[w.heap.size]? = some (.cells #[.slice none 0 0, .slice none 0 0] 47 (0,0)) from zak (zad hb zbn.out))
 have zyX:=hid (show VecS (w3.alloc (.cells #[.int .i64 3, .int .i64 1] 3)) 0 (.slice S1 ns1 cs1) (rats [-1,1]) from (zyW.out.below hb).alloc _)
 have zy0:=hid (show VecS (w3.alloc (.cells #[.int .i64 3, .int .i64 1] 3)) 0 (.slice S2 ns2 cs2) (rats [1,2]) from (HV2.out.below hb).alloc _)
 have HR3:=hid (show RatS (w3.alloc (.cells #[.int .i64 3, .int .i64 1] 3)) g3 (.slice A3 m3 c3) (.slice D3 md3 cd3) ((4:Int):Rat) from (hn).alloc _)
 have zdf:=hid (show Below w.heap.size w (w3.alloc (.cells #[.int .i64 3, .int .i64 1] 3)) from ((zcc.out.trans ((hb).mono zcc.out.size))).alloc ((zcc.out.trans ((hb).mono zcc.out.size))).size _)
 have zcE:=hid (show (w3.alloc (.cells #[.int .i64 3, .int .i64 1] 3)).heap[w3.heap.size]? = some (.cells #[.int .i64 3, .int .i64 1] 3 (0,0)) from zam (by simp))
 obtain ⟨zcj,zbv,zec,zdb,zck,zbw,zed,zdc⟩:=bf2 zbo.out
 obtain ⟨zdR,zcH,zdS,zcI⟩:=bc2 zcE.out
 clear hn hb
 go_wp2_with fail
 with_reducible refine (Vc.of w3.heap.size 2 2 [3,1] _ rfl (zqg w3 (3) (1)) (by decide) (by decide) (by decide)).mono ?_
 rintro e w4 ⟨S4,ns4,cs4,rfl,hv,hb⟩
 have zct:=hid (zad hb zbo.out)
 have zyY:=hid (zyX.out.below hb)
 have zy1:=hid (zy0.out.below hb)
 have zyP:=hid (HR3.out.below hb)
 have HV4:=hid (show VecS w4 0 (.slice S4 ns4 cs4) (rats [3,1]) from (hv.base (Nat.zero_le _)))
 have ze3:=hid (zdf.out.trans ((hb).mono zdf.out.size))
 obtain ⟨zdP,zcF,zgP,zeK,zdQ,zcG,zgQ,zeL⟩:=bf2 zct.out
 clear hv hb
 go_wp2_with fail
 with_reducible refine (Rt.int 9 (by decide) (by decide) _).mono ?_
 rintro e w5 ⟨g5,A5,m5,c5,D5,md5,cd5,rfl,hn,hb⟩
 have zd8:=hid (zad hb zct.out)
 have zsK:=hid (zyY.out.below hb)
 have zy2:=hid (zy1.out.below hb)
 have zyQ:=hid (zyP.out.below hb)
 have zy3:=hid (HV4.out.below hb)
 have HR5:=hid (show RatS w5 g5 (.slice A5 m5 c5) (.slice D5 md5 cd5) ((9:Int):Rat) from hn)
 have zlw:=hid (ze3.out.trans ((hb).mono ze3.out.size))
 obtain ⟨zhn,zez,zkL,zhC,zho,zeA,zkM,zhD⟩:=bf2 zd8.out
 clear hn hb
 obtain rfl:2 = ns1:=zsK.out.len.symm
 have hb7z:=zae w5 (.cells #[.slice S2 ns2 cs2, .int .i64 2, .bool g3, .slice A3 m3 c3, .slice D3 md3 cd3, .slice S4 ns4 cs4, .int .i64 1, .bool g5, .slice A5 m5 c5, .slice D5 md5 cd5] 110)
 have zew:=hid (zad hb7z zd8.out)
 have zyZ:=hid (zsK.out.below hb7z)
 have HRW:=hid (show RowsS (w5.alloc (.cells #[.slice S2 ns2 cs2, .int .i64 2, .bool g3, .slice A3 m3 c3, .slice D3 md3 cd3, .slice S4 ns4 cs4, .int .i64 1, .bool g5, .slice A5 m5 c5, .slice D5 md5 cd5] 110)) 0 (.slice (some ⟨w5.heap.size,0,none⟩) 2 2) zcY from (zoX rfl (r:=⟨.slice S2 ns2 cs2,2,g3, .slice A3 m3 c3, .slice D3 md3 cd3⟩) (r':=⟨.slice S4 ns4 cs4,1,g5, .slice A5 m5 c5, .slice D5 md5 cd5⟩) (p:=⟨rats [1,2],2,((4:Int):Rat)⟩) (p':=⟨rats [3,1],1,((9:Int):Rat)⟩) ⟨zy2.out,rfl,zyQ.out⟩ ⟨zy3.out,rfl,HR5.out⟩))
 have zxW:=hid (zlw.out.trans ((hb7z).mono zlw.out.size))
 obtain ⟨zkc,zgw,zp5,znh,zkd,zgx,zp6,zni⟩:=bf2 zew.out
 go_wp2
 refine bodyPost_ret (v := .agg #[.slice S1 2 cs1, .slice (some ⟨w5.heap.size,0,none⟩) 2 2]) (by simp [results,Tryz.results48,go_sem,zkc,zgw,zkd,zgx]) rfl ?_
 have h1:=(zyZ.out.setT (p:=⟨w.heap.size,0,none⟩) zew.out (by decide) (by decide) (.slice S1 2 cs1)).setT (p:=⟨w.heap.size,1,none⟩) (zar _ zew.out) (by decide) (by decide) (.slice (some ⟨w5.heap.size,0,none⟩) 2 2)
 have h2:=(HRW.out.setX (a:=⟨w.heap.size,0,none⟩) zew.out (by decide) (by decide) (by decide) (.slice S1 2 cs1)).setX (a:=⟨w.heap.size,1,none⟩) (zar _ zew.out) (by decide) (by decide) (by decide) (.slice (some ⟨w5.heap.size,0,none⟩) 2 2)
 exact ⟨S1,cs1,some ⟨w5.heap.size,0,none⟩,2,rfl,h1,h2,Below.setCell (Below.setCell (zxW.out) (p:=⟨w.heap.size,0,none⟩) (by show w.heap.size ≤ w.heap.size;omega) _) (p:=⟨w.heap.size,1,none⟩) (by show w.heap.size ≤ w.heap.size;omega) _⟩
end Lw
end Go.Proofs.YtdbgbaiekpbaoaaGreatDoor
namespace Go.Proofs.YtdbgbaiekpbaoaaGreatDoor
open Go.RowKit Am
open Lib (hid)
attribute [local go_sem ↓] Go.wp_at_zero Go.wp_at_succ
set_option maxHeartbeats 4000000
set_option maxRecDepth 100000
def zsF (N:Nat) (cols:List Nat) (xs:List Rat):Nat → List Rat
  | 0 => List.replicate N 0
  | k + 1 => (zsF N cols xs k).set (cols.getD k 0) (el xs k)
theorem zh2 (N:Nat) (cols:List Nat) (xs:List Rat):∀ k,(zsF N cols xs k).length = N
 | 0 => by simp [zsF]
 | k + 1 => by rw [zsF,List.length_set];exact zh2 N cols xs k
theorem zvi {m N:Nat} {A:List (List Rat)} {cols:List Nat} (hB:Basis m N A cols) (xs:List Rat):∀ k,k ≤ m → ∀ j,j < N → el (zsF N cols xs k) j = pt k (fun k => cols.getD k 0) (el xs) j
 | 0,_,j,hj => by rw [zsF,zrm];rfl
 | k + 1,hk,j,hj => by
  have ih:=zvi hB xs k (by omega) j hj
  have hl:=hB.lt k (by omega)
  rw [zsF,ziZ (by rw [zh2];exact hl),ih]
  by_cases e:cols.getD k 0 = j
  ·rw [if_pos e]
   subst e
   exact (zA7 (m:=k + 1) (β:=fun k => cols.getD k 0) (fun a b ha hb => hB.inj a b (by omega) (by omega)) (el xs) (k:=k) (by omega)).symm
  ·rw [if_neg e]
   show _ = pt (k + 1) _ _ j
   unfold pt
   rw [zai,if_neg e];grind
theorem zxy {m N:Nat} {A:List (List Rat)} {cols:List Nat} (hB:Basis m N A cols) (xs:List Rat):zsF N cols xs m = zh1 N cols xs:=by
 apply List.ext_getElem?
 intro j
 by_cases hj:j < N
 ·rw [zaH (by rw [zh2];exact hj),zaH (by rw [zl8];exact hj),zvi hB xs m (Nat.le_refl _) j hj,zvg hj,hB.len]
 ·rw [List.getElem?_eq_none (by rw [zh2];omega),List.getElem?_eq_none (by rw [zl8];omega)]
section
variable {W0 w:World} {H q:Nat} {rA:Option Addr} {rc:Nat} {lA:List Value} {bA:Option Addr} {bc_:Nat} {kA:Option Addr} {kc:Nat} {eA:Option Addr} {ec m N S own:Nat} {A:List (List Rat)} {b c:List Rat} {left:List Int}
  {tA:Option Addr} {tc:Nat} {cols:List Nat}
namespace Tb
theorem point (h:zhi W0 w H q rA rc lA bA bc_ kA kc eA ec m N S own A b c left tA tc cols) :
  Calls Tryz.prog 65 #[.pointer (some ⟨q,0,none⟩)] w fun e w' => ∃ (A':Option Addr) (c':Nat),e = .returned (.slice A' N c') ∧ VecS w' w.heap.size (.slice A' N c') (zh1 N cols (za5 A b cols)) ∧ Below w.heap.size w w':=by
 obtain ⟨qb,xA,xc,hP⟩:=h
 have HP:=hid hP
 have hm64:=hP.std.hm
 have hN64:=hP.std.hN
 have BB:=hid (Below.refl w.heap.size w)
 obtain ⟨k0,k0d,k1,k1d,k2,k2d,k3,k3d,k4,k4d,k5,k5d,k6,k6d,k7,k7d,k8,k8d⟩:=bc9 hP.blk
 clear hP
 go_enter Tryz.func65,Tryz.ntmps65
 go_wp2_with fail
 with_reducible refine (Mt.cols N m rc rA _).mono ?_
 rintro e w1 ⟨rfl,hb⟩
 have zjH:=hid (HP.out.below hb)
 have zaQ:=hid (BB.out.trans ((hb).mono BB.out.size))
 have zbJ:=zab hb k0
 have x0_1d:=zaa zbJ
 have zbY:=zab hb k1
 have x1_1d:=zaa zbY
 have zcb:=zab hb k2
 have x2_1d:=zaa zcb
 have zd7:=zab hb k3
 have x3_1d:=zaa zd7
 have zfb:=zab hb k4
 have x4_1d:=zaa zfb
 have zfc:=zab hb k5
 have x5_1d:=zaa zfc
 have zhe:=zab hb k6
 have x6_1d:=zaa zhe
 have zlv:=zab hb k7
 have x7_1d:=zaa zlv
 have zn2:=zab hb k8
 have x8_1d:=zaa zn2
 clear hb
 have HZ1:=hid (show w.heap.size ≤ w1.heap.size from zaQ.out.size)
 have hmb:m ≤ 9223372036854775807:=by omega
 have hNb:N ≤ 9223372036854775807:=by omega
 have HXL:=hid (HP.out.basis.vals_ok b).2
 go_wp2_with (at_make;go_must (refine zdv rfl _ _ rfl N _ rfl rfl rfl (by omega) w1.heap.size rfl ?_;intro w2 ho hb1;have HO:=hid ho;have HB1:=hid hb1;have m6:=zab hb1 zhe;have m8:=zab hb1 zn2;clear ho hb1))
 go_loopw [18] (fun i wr => ∃ k:Nat,i = .int .i64 k ∧ k ≤ m ∧ VecS wr w1.heap.size (.slice (some ⟨w1.heap.size,0,none⟩) N N) (zsF N cols (za5 A b cols) k) ∧ Below w1.heap.size w1 wr)
  (fun i _ => m - (intOf i).toNat)
 case atStart => exact ⟨0,rfl,Nat.zero_le _,HO.out,HB1.out⟩
 case round =>
  obtain ⟨k,rfl,hk,hv,hB⟩:=hrel
  by_cases hlt:k < m
  ·have hj:cols[k]? = some (cols.getD k 0):=zaO (by rw [HP.out.basis.len];exact hlt)
   have hjN:=HP.out.basis.lt k hlt
   have HST:=hid (show zsF N cols (za5 A b cols) (k + 1) = (zsF N cols (za5 A b cols) k).set (cols.getD k 0) (el (za5 A b cols) k) from rfl)
   have hmx:=zaH (xs:=zsF N cols (za5 A b cols) k) (j:=cols.getD k 0) (by rw [zh2];exact hjN)
   generalize cols.getD k 0 = j at hj hjN hmx HST
   have hq:=zaH (xs:=za5 A b cols) (j:=k) (by rw [HXL.out];exact hlt)
   have hPk:=(zjH.out.below hB).blk
   obtain ⟨t0,t0d,t1,t1d,t2,t2d,t3,t3d,t4,t4d,t5,t5d,t6,t6d,t7,t7d,t8,t8d⟩:=bc9 hPk
   obtain ⟨bt,hbt,_,_⟩:=HP.out.colsI.has (by omega)
   subst hbt
   obtain ⟨bs,hbs,_,_⟩:=HP.out.x.has (by omega)
   subst hbs
   have p0:=(zjH.out.colsI.below hB).at_ hj
   obtain ⟨ga,Aa,ma,ca,Da,mda,cda,a0,a1,a2,hRa⟩:=(zjH.out.x.below hB).at_ hq
   obtain ⟨go,Ao,mo,co,Do,mdo,cdo,o0,o1,o2,_⟩:=hv.at_ hmx
   have of0:=hv.fro (j * 3)
   have of1:=hv.fro (j * 3 + 1)
   have of2:=hv.fro (j * 3 + 2)
   have HV:=hid hv
   have HBw:=hid (Bel.mk hB)
   have HRa:=hid hRa
   clear hv hB hRa hmx hq hPk hj
   have hi1:(0:Int) ≤ (k:Int):=Int.natCast_nonneg _
   have hi2:(k:Int) < (m:Int):=by omega
   have hi3:(0:Int) ≤ (j:Int):=Int.natCast_nonneg _
   have hi4:(j:Int) < (N:Int):=by omega
   go_wp2
   go_roundw
   case rel => exact ⟨k + 1,by go_num,by omega,by rw [HST.out];exact HV.out.store j HRa.out,(Bel.set3 HBw.out (Nat.le_refl _) _ _ _).b⟩
   case measure => simp [intOf];omega
  ·obtain rfl:m = k:=by omega
   have HV:=hid hv
   have HB:=hid hB
   have HPA:=hid (zxy HP.out.basis (za5 A b cols))
   clear hv hB
   go_wp2
   go_ret
   exact ⟨_,_,rfl,by have h:=HV.out.base HZ1.out;rw [HPA.out] at h;exact h,zaQ.out.trans (HB.out.mono HZ1.out)⟩
end Tb
end
end Go.Proofs.YtdbgbaiekpbaoaaGreatDoor
