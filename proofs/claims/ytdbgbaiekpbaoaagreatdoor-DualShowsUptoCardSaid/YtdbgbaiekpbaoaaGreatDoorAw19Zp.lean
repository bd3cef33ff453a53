/- actuarylaw19.awake by its contract. Conditions: errors.errorType holds its handle. -/
import Derived.Test.YtdbgbaiekpbaoaaGreatDoorExZp
import Derived.Test.YtdbgbaiekpbaoaaGreatDoorDuNZp
import Derived.Test.YtdbgbaiekpbaoaaGreatDoorOpenZp
set_option linter.all false
namespace Go.Proofs.YtdbgbaiekpbaoaaGreatDoor
open Go.RowKit Am
open Lib (hid)
attribute [local go_sem ↓] Go.wp_at_zero Go.wp_at_succ
set_option maxHeartbeats 2000000
set_option maxRecDepth 100000
theorem zoI {u:World} {b:Nat} (hb:u.heap.size = b) (x y:Nat):IntsS (u.alloc (.cells #[.int .i64 (x:Int), .int .i64 (y:Int)] 3)) 0 (.slice (some ⟨b,0,none⟩) 2 2) [x,y]:=by
 subst hb
 exact ⟨World.ownsRow_lit (e:=3) (size:=1) (base:=0) u #[.int .i64 (x:Int), .int .i64 (y:Int)] 2 (Nat.zero_le _) (by decide) rfl⟩
theorem zDa:2 + cnt zcY 2 = 4:=by decide
theorem zyl:Rows 2 zcY:=by unfold Rows Sm;decide +kernel
theorem zuC:Kinds zcY:=by unfold Kinds;decide +kernel
theorem zym:∀ p ∈ zcY,(∀ q ∈ p.coef,mw q ≤ 1) ∧ mw p.rhs ≤ 1:=by decide +kernel
theorem zAe:∀ q ∈ zhx 1,mw q ≤ 1:=by decide +kernel
theorem zAf:∀ q ∈ zhx (-1),mw q ≤ 1:=by decide +kernel
theorem zC9:zor 2 1 ≤ LIM:=by rw [zaP];decide +kernel
theorem zuB:Basis 2 4 (zc3 zcY) [2,3]:=by
 have h:=zqz (n:=2) (rows:=zcY) (by decide +kernel) (by decide +kernel)
 exact h
theorem zJF:∀ q ∈ rats [0,2],mw q ≤ 1:=by decide +kernel
theorem zqh {α:Type} {o:Option α} (h:o.isNone = true):o = none:=by cases o;rfl;cases h
theorem zqi {α:Type} {o:Option α} (h:o.isNone = false):o ≠ none:=by intro e;rw [e] at h;cases h
theorem zDQ (w:World) (hg:w.cell? ⟨0,0,none⟩ = some Err.HandleV):Calls Tryz.prog 19 #[.iface 59 (.int .i64 190), .int .i64 190, .string { data := #[] }, .int .i64 0] w fun ev w' => ev = .returned (.bool true) ∧ Below w.heap.size w w':=Err.told_Errno 190 w hg
theorem zGG (w:World):Calls Tryz.prog 16 #[.int .i64 3] w fun e w' => ∃ A,e = .returned (.slice A 3 3) ∧ Below w.heap.size w w' :=
 (Du.all 3 (by decide) w).mono fun _ _ ⟨A,h1,_,h2⟩ => ⟨A,h1,h2⟩
theorem zDN (A:Option Addr) (c:Nat) (B:Option Addr) (n' c':Nat) (w:World) (hx:VecS w 0 (.slice A 2 c) (rats [0,2])) (hy:VecS w 0 (.slice B n' c') (rats [0,2])) :
  Calls Tryz.prog 20 #[.slice A 2 c, .slice B n' c'] w fun e w' => e = .returned (.bool true) ∧ Below w.heap.size w w':=by
 refine (Vc.same 1 (by rw [zaP];decide) A 2 c (rats [0,2]) 0 B n' c' (rats [0,2]) 0 w hx hy zJF zJF).mono ?_
 rintro e w' ⟨rfl,hb⟩
 exact ⟨by rw [decide_eq_true rfl],hb⟩
namespace Lw
theorem zBl (C:Option Addr) (cc:Nat) (R:Option Addr) (cr:Nat) (tA:Option Addr) (tc:Nat) (w:World) (hc:VecS w 0 (.slice C 2 cc) (zhx 1)) (hr:RowsS w 0 (.slice R 2 cr) zcY) (hi:IntsS w 0 (.slice tA 2 tc) [2,3]) :
  Calls Tryz.prog 18 #[.agg #[.slice C 2 cc, .slice R 2 cr], .slice tA 2 tc, .int .i64 9] w fun e w' => ∃ (P:Option Addr) (cP:Nat) (D:Option Addr) (cD:Nat),e = .returned (.tuple #[.agg #[.int .i64 1, .slice P 2 cP, .slice D 2 cD, .slice none 0 0, .int .i64 1], .nilIface]) ∧ VecS w' w.heap.size (.slice P 2 cP) (rats [0,2]) ∧ Below w.heap.size w w':=by
 refine (Du.solve 1 (Nat.le_refl _) C 2 cc R 2 cr (zhx 1) zcY 4 zDa tA tc 0 [2,3] 9 w hc hr (by decide) (by decide) zyl zuC zAe zym hi zuB zC9 (by decide) (zqh zAg)).mono ?_
 intro e w' h
 have he:pivs (zbE 4 (zc3 zcY) (zg8 zcY) (zjD (zhx 1) zcY) (List.replicate 4 true)) (Int.toNat 9) [2,3] = zBW:=rfl
 rw [he] at h
 obtain ⟨hb,h | h | h⟩:=h
 ·rw [zHy] at h;cases h.1
 ·obtain ⟨_,k,_,_,h2,_⟩:=h;rw [zJ8] at h2;cases h2
 ·obtain ⟨_,_,P,cP,D,cD,h1,h2,_⟩:=h
  rw [e_n] at h1
  rw [zJ9] at h2
  exact ⟨P,cP,D,cD,h1,h2,hb⟩
theorem zBk (C:Option Addr) (cc:Nat) (R:Option Addr) (cr:Nat) (tA:Option Addr) (tc:Nat) (w:World) (hc:VecS w 0 (.slice C 2 cc) (zhx (-1))) (hr:RowsS w 0 (.slice R 2 cr) zcY) (hi:IntsS w 0 (.slice tA 2 tc) [2,3]) :
  Calls Tryz.prog 18 #[.agg #[.slice C 2 cc, .slice R 2 cr], .slice tA 2 tc, .int .i64 9] w fun e w' => e = .returned (.tuple #[.agg #[.int .i64 0, .slice none 0 0, .slice none 0 0, .slice none 0 0, .int .i64 0], .iface 59 (.int .i64 190)]) ∧ Below w.heap.size w w' :=
 Du.solve_no 1 (Nat.le_refl _) C 2 cc R 2 cr (zhx (-1)) zcY 4 zDa tA tc 0 [2,3] 9 w hc hr (by decide) (by decide) zyl zuC zAf zym hi zuB zC9 (by decide) (zqi zAh)
theorem zzh (w:World) (hg:w.cell? ⟨0,0,none⟩ = some Err.HandleV):Calls Tryz.prog 9 #[] w fun e w' => e = .returned (.bool true) ∧ Below w.heap.size w w':=by
 have HG0:=hid hg
 clear hg
 have BB:=hid (Below.refl w.heap.size w)
 go_enter Tryz.func9,Tryz.ntmps9
 go_wp2_with fail
 with_reducible refine (zuN _).mono ?_
 rintro e w1 ⟨C1,cC1,R1,cR1,rfl,hc,hr,hb⟩
 have HC1:=hid (show VecS w1 0 (.slice C1 2 cC1) (zhx (1)) from hc)
 have HR1:=hid (show RowsS w1 0 (.slice R1 2 cR1) zcY from hr)
 have zaQ:=hid (BB.out.trans ((hb).mono BB.out.size))
 have zbJ:=zab hb HG0.out
 clear hc hr hb
 have hb2z:=zae w1 (.cells #[.int .i64 2, .int .i64 3] 3)
 have zFV:=hid (HC1.out.below hb2z)
 have zGb:=hid (HR1.out.below hb2z)
 have zbj:=hid (zaQ.out.trans ((hb2z).mono zaQ.out.size))
 have zcX:=zab hb2z zbJ
 have HI1:=hid (show IntsS (w1.alloc (.cells #[.int .i64 2, .int .i64 3] 3)) 0 (.slice (some ⟨w1.heap.size,0,none⟩) 2 2) [2,3] from zoI rfl 2 3)
 go_wp2_with fail
 with_reducible refine (zBl C1 cC1 R1 cR1 (some ⟨w1.heap.size,0,none⟩) 2 _ zFV.out zGb.out HI1.out).mono ?_
 rintro e v1 ⟨P1,cP1,D1,cD1,rfl,hv,hb⟩
 have HP1:=hid (show VecS v1 0 (.slice P1 2 cP1) (rats [0,2]) from (hv.base (Nat.zero_le _)))
 have zcc:=hid (zbj.out.trans ((hb).mono zbj.out.size))
 have zdO:=zab hb zcX
 clear hb hv
 have hb4z:=zae v1 (.cells #[.int .i64 1, .slice P1 2 cP1, .slice D1 2 cD1, .slice none 0 0, .int .i64 1] 53)
 have zF3:=hid (HP1.out.below hb4z)
 have zdf:=hid (zcc.out.trans ((hb4z).mono zcc.out.size))
 have zd6:=zab hb4z zdO
 have KR1:=hid (zal v1 #[.int .i64 1, .slice P1 2 cP1, .slice D1 2 cD1, .slice none 0 0, .int .i64 1] 53)
 have zd6:=zab hb4z zdO
 go_wp2_with fail
 with_reducible refine (zuM _).mono ?_
 rintro e w2 ⟨C2,cC2,R2,cR2,rfl,hc,hr,hb⟩
 have zct:=hid (zad hb KR1.out)
 have zF4:=hid (zF3.out.below hb)
 have HC2:=hid (show VecS w2 0 (.slice C2 2 cC2) (zhx (-1)) from hc)
 have HR2:=hid (show RowsS w2 0 (.slice R2 2 cR2) zcY from hr)
 have ze3:=hid (zdf.out.trans ((hb).mono zdf.out.size))
 have zid:=zab hb zd6
 clear hc hr hb
 have hb6z:=zae w2 (.cells #[.int .i64 2, .int .i64 3] 3)
 have zd8:=hid (zad hb6z zct.out)
 have zF5:=hid (zF4.out.below hb6z)
 have zFW:=hid (HC2.out.below hb6z)
 have zGc:=hid (HR2.out.below hb6z)
 have zlw:=hid (ze3.out.trans ((hb6z).mono ze3.out.size))
 have zqL:=zab hb6z zid
 have HI2:=hid (show IntsS (w2.alloc (.cells #[.int .i64 2, .int .i64 3] 3)) 0 (.slice (some ⟨w2.heap.size,0,none⟩) 2 2) [2,3] from zoI rfl 2 3)
 go_wp2_with fail
 with_reducible refine (zBk C2 cC2 R2 cR2 (some ⟨w2.heap.size,0,none⟩) 2 _ zFW.out zGc.out HI2.out).mono ?_
 rintro e v2 ⟨rfl,hb⟩
 have zew:=hid (zad hb zd8.out)
 have zF6:=hid (zF5.out.below hb)
 have zxW:=hid (zlw.out.trans ((hb).mono zlw.out.size))
 have zsG:=zab hb zqL
 clear hb
 have hb8z:=zae v2 (.cells #[.int .i64 0, .slice none 0 0, .slice none 0 0, .slice none 0 0, .int .i64 0] 53)
 have zsO:=hid (zad hb8z zew.out)
 have zF7:=hid (zF6.out.below hb8z)
 have zIZ:=hid (zxW.out.trans ((hb8z).mono zxW.out.size))
 obtain ⟨zt6,_,zt8,_,zya,_,zyd,_,zyg,_⟩:=bc5 zsO.out
 have zvD:=zab hb8z zsG
 have KR2:=hid (zal v2 #[.int .i64 0, .slice none 0 0, .slice none 0 0, .slice none 0 0, .int .i64 0] 53)
 obtain ⟨zt6,_,zt8,_,zya,_,zyd,_,zyg,_⟩:=bc5 zsO.out
 obtain ⟨zCJ,_,zCL,_,zCN,_,zCP,_,zCR,_⟩:=bc5 KR2.out
 have zvD:=zab hb8z zsG
 clear zbJ zcX zdO zd6 zid zqL zsG
 go_wp2_with fail
 generalize hwa:(v2.alloc (.cells #[.int .i64 0, .slice none 0 0, .slice none 0 0, .slice none 0 0, .int .i64 0] 53)) = wa at *
 clear hwa
 have HS:=hid (show ∀ w',Below wa.heap.size wa w' → ((w'.cell? ⟨v1.heap.size,0,none⟩ = some (.int .i64 1) ∧ w'.cell? ⟨v1.heap.size,1,none⟩ = some (.slice P1 2 cP1) ∧ w'.cell? ⟨v1.heap.size,2,none⟩ = some (.slice D1 2 cD1) ∧ w'.cell? ⟨v1.heap.size,3,none⟩ = some (.slice none 0 0) ∧ w'.cell? ⟨v1.heap.size,4,none⟩ = some (.int .i64 1) ∧ w'.cell? ⟨0,0,none⟩ = some (Err.HandleV)) ∧ Below wa.heap.size wa w') from fun w' h => ⟨⟨zab h zt6,zab h zt8,zab h zya,zab h zyd,zab h zyg,zab h zvD⟩,h⟩)
 go_region_held3 (fun w' => ((w'.cell? ⟨v1.heap.size,0,none⟩ = some (.int .i64 1) ∧ w'.cell? ⟨v1.heap.size,1,none⟩ = some (.slice P1 2 cP1) ∧ w'.cell? ⟨v1.heap.size,2,none⟩ = some (.slice D1 2 cD1) ∧ w'.cell? ⟨v1.heap.size,3,none⟩ = some (.slice none 0 0) ∧ w'.cell? ⟨v1.heap.size,4,none⟩ = some (.int .i64 1) ∧ w'.cell? ⟨0,0,none⟩ = some (Err.HandleV)) ∧ Below wa.heap.size wa w'))
  ((refine HS.out _ ?_;repeat (first | exact Below.refl _ _ | exact (by assumption:_ ∧ Below _ _ _).2 | with_reducible refine bdrew ?_ | with_reducible refine al2 ?_ _ | with_reducible refine set2 ?_ (by omega) | with_reducible refine zc1 ?_ (by assumption))))
  (first
   | (go_at_call 49;(with_reducible refine (Vc.of _ 2 2 [0,2] _ rfl (by repeat (first | with_reducible exact zyt (by simp) 0 2 | with_reducible exact zyt rfl 0 2 | with_reducible refine zuW ?_ | with_reducible refine zAV ?_)) (by decide) (by decide) (by decide)).mono ?_);rintro e u1 ⟨S5,ns5,cs5,rfl,hv,hb1⟩;have hz1:=hb1.size;(try simp at hz1);(try ((first | (have XB:=hid (zbc (cs := #[.bool false, .slice none 0 0, .slice none 0 0]) (t:=35) hb1 XB.out)) | (have XB:=hid (zbc (cs := #[.bool false, .slice none 0 0, .slice none 0 0]) (t:=35) hb1 (zal _ _ _))));have XBc0:=zac XB.out 0;have XBf0:=zag XB.out 0;have XBc1:=zac XB.out 1;have XBf1:=zag XB.out 1;have XBc2:=zac XB.out 2;have XBf2:=zag XB.out 2));have N5:=hid (hv.base (Nat.zero_le _));clear hv)
   | (go_at_call 20;(with_reducible refine (zDN P1 cP1 S5 ns5 cs5 _ (zF7.out.below (by assumption:_ ∧ Below _ _ _).2) (by repeat (first | exact N5.out | with_reducible refine VecS.alloc ?_ _ | with_reducible refine VecS.drew ?_))).mono ?_);rintro e u2 ⟨rfl,hb2⟩;have hz2:=hb2.size;(try simp at hz2);(try ((first | (have XB:=hid (zbc (cs := #[.bool false, .slice none 0 0, .slice none 0 0]) (t:=35) hb2 XB.out)) | (have XB:=hid (zbc (cs := #[.bool false, .slice none 0 0, .slice none 0 0]) (t:=35) hb2 (zal _ _ _))));have XBc0:=zac XB.out 0;have XBf0:=zag XB.out 0;have XBc1:=zac XB.out 1;have XBf1:=zag XB.out 1;have XBc2:=zac XB.out 2;have XBf2:=zag XB.out 2)))
   | (go_at_call 19;(with_reducible refine (zDQ _ (zab ((by assumption:_ ∧ Below wa.heap.size wa _).2) zvD)).mono ?_);rintro e u3 ⟨rfl,hb3⟩;have hz3:=hb3.size;(try simp at hz3);(try ((first | (have XB:=hid (zbc (cs := #[.bool false, .slice none 0 0, .slice none 0 0]) (t:=35) hb3 XB.out)) | (have XB:=hid (zbc (cs := #[.bool false, .slice none 0 0, .slice none 0 0]) (t:=35) hb3 (zal _ _ _))));have XBc0:=zac XB.out 0;have XBf0:=zag XB.out 0;have XBc1:=zac XB.out 1;have XBf1:=zag XB.out 1;have XBc2:=zac XB.out 2;have XBf2:=zag XB.out 2)))
   | (go_at_call 16;(with_reducible refine (zGG _).mono ?_);rintro e u4 ⟨A6,rfl,hb4⟩;have hz4:=hb4.size;(try simp at hz4);(try ((first | (have XB:=hid (zbc (cs := #[.bool false, .slice none 0 0, .slice none 0 0]) (t:=35) hb4 XB.out)) | (have XB:=hid (zbc (cs := #[.bool false, .slice none 0 0, .slice none 0 0]) (t:=35) hb4 (zal _ _ _))));have XBc0:=zac XB.out 0;have XBf0:=zag XB.out 0;have XBc1:=zac XB.out 1;have XBf1:=zag XB.out 1;have XBc2:=zac XB.out 2;have XBf2:=zag XB.out 2)))
   | fail)
 all_goals
  go_wp2
  go_ret
  exact ⟨rfl,zIZ.out.trans (((by assumption:_ ∧ Below wa.heap.size wa _).2).mono zIZ.out.size)⟩
end Lw
end Go.Proofs.YtdbgbaiekpbaoaaGreatDoor
