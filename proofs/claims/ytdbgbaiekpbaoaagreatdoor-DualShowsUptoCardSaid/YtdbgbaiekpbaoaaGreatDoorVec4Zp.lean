/- actuarylaw10.One,Make by their contracts. Conditions: as each says. -/
import Derived.Test.YtdbgbaiekpbaoaaGreatDoorVec1Zp
import Derived.Test.YtdbgbaiekpbaoaaGreatDoorRat5Zp
set_option linter.all false
namespace Go.Proofs.YtdbgbaiekpbaoaaGreatDoor
open Go.RowKit Am
open Lib (hid)
attribute [local go_sem ↓] Go.wp_at_zero Go.wp_at_succ
set_option maxHeartbeats 2000000
set_option maxRecDepth 100000
abbrev I64 (x:Int):Prop := -9223372036854775808 ≤ x ∧ x ≤ 9223372036854775807
def zcs (w:World) (A:Option Addr) (ps:List (Int × Int)):Prop := ∀ (k:Nat) (x:Int × Int),ps[k]? = some x → I64 x.1 ∧ I64 x.2 ∧ ∃ b o,A = some ⟨b,o,none⟩ ∧ w.cell? ⟨b,o + k * 2,none⟩ = some (.int .i64 x.1) ∧ w.cell? ⟨b,o + k * 2 + 1,none⟩ = some (.int .i64 x.2)
theorem zcs.below {w w':World} {A:Option Addr} {ps:List (Int × Int)} (h:zcs w A ps) (hb:Below w.heap.size w w'):zcs w' A ps:=by
 intro k x hx
 obtain ⟨h1,h2,b,o,h3,h4,h5⟩:=h k x hx
 exact ⟨h1,h2,b,o,h3,zab hb h4,zab hb h5⟩
def frs (ps:List (Int × Int)):List Rat:=ps.map fun x => fr x.1 x.2
theorem zw8 {ps:List (Int × Int)} {k:Nat} {x:Int × Int} (h:ps[k]? = some x):frs (ps.take (k + 1)) = frs (ps.take k) ++ [fr x.1 x.2]:=by
 unfold frs;rw [List.take_add_one,h];simp
namespace Lw
theorem zA3 (p d:Int) (hd:d ≠ 0) (hp:I64 p) (hd2:I64 d) (w:World):Calls Tryz.prog 50 #[.agg #[.int .i64 p, .int .i64 d]] w (ze4 w (fr p d)):=by
 have HF:=hid (zDB (p:=p) hd)
 have hz:(d == 0) = false:=by simpa using hd
 have HP:=hid hp
 have HD:=hid hd2
 have HD0:=hid hd
 clear hp hd hd2
 obtain ⟨W,hW⟩:∃ W,((w.alloc (.cells #[.int .i64 p, .int .i64 d] 121)).alloc (.cells #[.bool false, .slice none 0 0, .slice none 0 0] 35)) = W:=⟨_,rfl⟩
 have KB0:=hid (show W.heap[w.heap.size]? = some (.cells #[.int .i64 p, .int .i64 d] 121 (0,0)) by rw [← hW];exact zak (zam (by simp)))
 have KB1:=hid (show W.heap[w.heap.size + 1]? = some (.cells #[.bool false, .slice none 0 0, .slice none 0 0] 35 (0,0)) by rw [← hW];exact zam (by simp))
 have BB:=hid (show Below w.heap.size w W by rw [← hW];exact (zae w _).alloc (by simp) _)
 obtain ⟨zaK,_,zaL,_⟩:=bc2 KB0.out
 go_enter Tryz.func50,Tryz.ntmps50
 go_wp2_with fail
 clear hW
 with_reducible refine (Rt.of p d HD0.out HP.out.1 HP.out.2 HD.out.1 HD.out.2 _).mono ?_
 rintro e w1 ⟨g3,A3,m3,c3,D3,md3,cd3,rfl,hn,hb⟩
 have za0:=hid (show (w1.alloc (.cells #[.bool g3, .slice A3 m3 c3, .slice D3 md3 cd3] 35)).heap[w.heap.size + 1]? = some (.cells #[.bool false, .slice none 0 0, .slice none 0 0] 35 (0,0)) from zak (zad hb KB1.out))
 have HI:=hid (show RatS (w1.alloc (.cells #[.bool g3, .slice A3 m3 c3, .slice D3 md3 cd3] 35)) g3 (.slice A3 m3 c3) (.slice D3 md3 cd3) (Rat.divInt p d) from (hn).alloc _)
 have zaQ:=hid (show Below w.heap.size w (w1.alloc (.cells #[.bool g3, .slice A3 m3 c3, .slice D3 md3 cd3] 35)) from ((BB.out.trans ((hb).mono BB.out.size))).alloc ((BB.out.trans ((hb).mono BB.out.size))).size _)
 have zcu:=hid (show (w1.alloc (.cells #[.bool g3, .slice A3 m3 c3, .slice D3 md3 cd3] 35)).heap[w1.heap.size]? = some (.cells #[.bool g3, .slice A3 m3 c3, .slice D3 md3 cd3] 35 (0,0)) from zam (by simp))
 obtain ⟨zbe,zaW,zcf,_,zbs,za9,zcR,_,zb9,zbz,zdG,_⟩:=bf3 za0.out
 obtain ⟨zdT,_,zdU,_,zem,_⟩:=bc3 zcu.out
 clear hn hb
 go_wp2
 refine bodyPost_ret (v := .agg #[.bool g3, .slice A3 m3 c3, .slice D3 md3 cd3]) (by simp [results,Tryz.results50,go_sem,zbe,zaW,zbs,za9,zb9,zbz]) rfl ?_
 rw [HF.out]
 exact ⟨g3,A3,m3,c3,D3,md3,cd3,rfl,HI.out.set3 za0.out (by decide) _ _ _,Below.setCell (Below.setCell (Below.setCell (zaQ.out) (p:=⟨w.heap.size + 1,0,none⟩) (by show w.heap.size ≤ w.heap.size + 1;omega) _) (p:=⟨w.heap.size + 1,1,none⟩) (by show w.heap.size ≤ w.heap.size + 1;omega) _) (p:=⟨w.heap.size + 1,2,none⟩) (by show w.heap.size ≤ w.heap.size + 1;omega) _⟩
theorem one (p d:Int) (hp:I64 p) (hd:I64 d) (w:World):Calls Tryz.prog 50 #[.agg #[.int .i64 p, .int .i64 d]] w (ze4 w (fr p d)):=by
 by_cases h:d = 0
 ·exact zxr p d h hp.1 hp.2 w
 ·exact zA3 p d h hp hd w
theorem make (A:Option Addr) (n c:Nat) (ps:List (Int × Int)) (w:World) (hn:n = ps.length) (hf:zcs w A ps) (hl:n ≤ 1048576) :
  Calls Tryz.prog 10 #[.slice A n c] w (zq5 w (frs ps)):=by
 have HN:=hid hn
 have HX:=hid hf
 have hnb:n ≤ 9223372036854775807:=by omega
 have HL:=hid hl
 clear hn hf hl
 go_enter Tryz.func10,Tryz.ntmps10
 go_wp2
 go_loopw [3,4] (fun ov i wr => ∃ (k:Nat) (A':Option Addr) (n' c':Nat),i = .int .i64 k ∧ ov = .slice A' n' c' ∧ k ≤ n ∧ VecS wr w.heap.size (.slice A' n' c') (frs (ps.take k)) ∧ Below w.heap.size w wr)
  (fun _ i _ => n - (intOf i).toNat)
 case atStart => exact ⟨0,none,0,0,rfl,rfl,Nat.zero_le _,VecS.nil _ _,Below.refl _ _⟩
 case round =>
  obtain ⟨k,A',n',c',rfl,rfl,hk,hv,hB⟩:=hrel
  have HV:=hid hv
  have HB:=hid hB
  by_cases hlt:k < n
  ·obtain ⟨x,hx⟩:∃ x,ps[k]? = some x:=⟨ps[k]'(by rw [← HN.out];exact hlt),List.getElem?_eq_getElem _⟩
   have HQ:=hid hx
   obtain ⟨x1,x2⟩:=x
   obtain ⟨hp,hd,b,o,rfl,h0,h1⟩:=(HX.out.below HB.out) k _ hx
   have HP:=hid hp
   have HD:=hid hd
   have hi1:(0:Int) ≤ (k:Int):=Int.natCast_nonneg _
   have hi2:(k:Int) < (n:Int):=by omega
   clear hB hv hx hp hd
   simp only at h0 h1
   go_wp2_with fail
   refine (one x1 x2 HP.out HD.out _).mono ?_
   rintro e w2 ⟨g,A,m,c2,D,md,cd,rfl,hq,hb⟩
   have HS2:=hid (show w.heap.size ≤ w2.heap.size from Nat.le_trans HB.out.size hb.size)
   have HB2:=hid (HB.out.trans (hb.mono HB.out.size))
   have HV2:=hid (HV.out.below hb)
   have HR2:=hid hq
   clear hb hq
   go_wp2_with (at_builtin;go_loud (refine zev rfl _ _ rfl rfl (HV2.out.alloc _) rfl (zal _ _ _) (HR2.out.alloc _) (by unfold frs;rw [List.length_map,List.length_take];have:=HL.out;omega) (by have:=HS2.out;simp;omega) ?_;intro A3 n3 c3 w3 hv3 hb3 hn3;have HV3:=hid hv3;have HB3:=hid hb3;clear hv3 hb3))
   subst hn3
   exact ⟨⟨k + 1,A3,_,c3,by simp,rfl,by omega,by rw [zw8 HQ.out];exact HV3.out,(HB2.out.alloc HS2.out _).trans HB3.out⟩,by simp [intOf];omega⟩
  ·obtain rfl:k = n:=by omega
   have HF:=hid hv
   clear hB hv
   go_wp2
   go_ret
   refine ⟨_,_,_,rfl,?_,HB.out⟩
   have h:=HF.out
   rw [HN.out,List.take_length] at h
   exact h
end Lw
end Go.Proofs.YtdbgbaiekpbaoaaGreatDoor
