/- vec.Dot by its contract. Conditions: as it says. prob.Row.Over,Holds,prob.Cost,Fits by their contracts. Conditions: as each says. prob.Fits,certify.signed,prob.May by their contracts. Conditions: as each says. prob.May by its contract,where nothing is wrong. Conditions: as it says. Conditions: as they say. -/
import Derived.Test.YtdbgbaiekpbaoaaGreatDoorBasMemZp
import Derived.Test.YtdbgbaiekpbaoaaGreatDoorLp2Zp
import Derived.Test.YtdbgbaiekpbaoaaGreatDoorVec1Zp
set_option linter.all false
namespace Go.Proofs.YtdbgbaiekpbaoaaGreatDoor
open Go.RowKit Am
open Lib (hid)
attribute [local go_sem ↓] Go.wp_at_zero Go.wp_at_succ
set_option maxHeartbeats 4000000
set_option maxRecDepth 100000
theorem zvQ {q:Rat} (h:zr q = true):q = 0:=of_decide_eq_true h
namespace Vc
theorem dot_ok (A:Option Addr) (n c:Nat) (xs:List Rat) (B:Option Addr) (n' c':Nat) (ys:List Rat) (H H':Nat) (w:World) (hx:VecS w H (.slice A n c) xs) (hy:VecS w H' (.slice B n' c') ys) (hl:xs.length = ys.length) (hb:n ≤ 1000) (zx:∀ q ∈ xs,mw q ≤ 1000000) (zy:∀ q ∈ ys,mw q ≤ 1000000) :
  Calls Tryz.prog 98 #[.slice A n c, .slice B n' c'] w (zii w (dot xs ys) true):=by
 have hn:=hx.len
 have hn':=hy.len
 have en:n' = n:=by omega
 subst en
 have HN:=hid hn
 have HL:=hid hl
 have HBN:=hid hb
 have ZX:=hid zx
 have ZY:=hid zy
 have hnb:n' ≤ 9223372036854775807:=by omega
 clear hn hn' hl hb zx zy
 obtain ⟨W,hW⟩:∃ W,(w.alloc (.cells #[.bool false, .slice none 0 0, .slice none 0 0] 35)) = W:=⟨_,rfl⟩
 have KB0:=hid (show W.heap[w.heap.size]? = some (.cells #[.bool false, .slice none 0 0, .slice none 0 0] 35 (0,0)) by rw [← hW];exact zam (by simp))
 have BB:=hid (show Below w.heap.size w W by rw [← hW];exact zae w _)
 have HA:=hid (show VecS W H (.slice A n' c) xs by rw [← hW];exact (hx).alloc _)
 have HB:=hid (show VecS W H' (.slice B n' c') ys by rw [← hW];exact (hy).alloc _)
 clear hx hy
 go_enter Tryz.func98,Tryz.ntmps98
 go_wp2
 clear hW
 go_loopw [16] (fun i wr => ∃ (k:Nat) (g:Bool) (P:Option Addr) (m cp:Nat) (D:Option Addr) (md cd:Nat),i = .int .i64 k ∧ k ≤ n' ∧ wr.heap[W.heap.size]? = some (.cells #[.bool g, .slice P m cp, .slice D md cd] 35 (0,0)) ∧ RatS wr g (.slice P m cp) (.slice D md cd) (ziw xs ys k) ∧ Below W.heap.size W wr)
  (fun i _ => n' - (intOf i).toNat)
 case atStart => exact ⟨0,_,_,_,_,_,_,_,rfl,Nat.zero_le _,zal _ _ _,RatS.zero _,zae W _⟩
 case round =>
  obtain ⟨k,g,P,m,cp,D,md,cd,rfl,hk,hbox,hP,hB⟩:=hrel
  by_cases hlt:k < n'
  ·obtain ⟨a,ha⟩:∃ a,xs[k]? = some a:=⟨xs[k]'(by rw [← HN.out];exact hlt),List.getElem?_eq_getElem _⟩
   obtain ⟨b,hb⟩:∃ b,ys[k]? = some b:=⟨ys[k]'(by rw [← HL.out, ← HN.out];exact hlt),List.getElem?_eq_getElem _⟩
   obtain ⟨bx,rfl,hbx0,hbx1⟩:=HA.out.has (by omega)
   obtain ⟨by_,rfl,hby0,hby1⟩:=HB.out.has (by omega)
   obtain ⟨ga,Aa,ma,ca,Da,mda,cda,k0,k1,k2,hRa⟩:=(HA.out.below hB).at_ ha
   obtain ⟨gb,Ab,mb,cb,Db,mdb,cdb,l0,l1,l2,hRb⟩:=(HB.out.below hB).at_ hb
   have zaq:=hid (zad hB KB0.out)
   have zFS:=hid (HA.out.below hB)
   have zFU:=hid (HB.out.below hB)
   have HRa:=hid (show RatS wr ga (.slice Aa ma ca) (.slice Da mda cda) a from hRa)
   have HRb:=hid (show RatS wr gb (.slice Ab mb cb) (.slice Db mdb cdb) b from hRb)
   have HP:=hid (show RatS wr g (.slice P m cp) (.slice D md cd) (ziw xs ys k) from hP)
   have HW:=hid (show Bel W wr from Bel.mk hB)
   have zaQ:=hid (BB.out.trans ((hB).mono BB.out.size))
   obtain ⟨zaI,zat,zbM,_,zaJ,zau,zbN,_,zbC,zbg,ziy,_⟩:=bf3 zaq.out
   have zbJ:wr.cell? ⟨bx,k * 3,none⟩ = some (.bool ga):=k0
   have zbY:wr.cell? ⟨bx,k * 3 + 1,none⟩ = some (.slice Aa ma ca):=k1
   have zcb:wr.cell? ⟨bx,k * 3 + 2,none⟩ = some (.slice Da mda cda):=k2
   have zd7:wr.cell? ⟨by_,k * 3,none⟩ = some (.bool gb):=l0
   have zfb:wr.cell? ⟨by_,k * 3 + 1,none⟩ = some (.slice Ab mb cb):=l1
   have zfc:wr.cell? ⟨by_,k * 3 + 2,none⟩ = some (.slice Db mdb cdb):=l2
   have KBO:=hid hbox
   obtain ⟨zaI,zat,zbM,_,zaJ,zau,zbN,_,zbC,zbg,ziy,_⟩:=bf3 zaq.out
   obtain ⟨zbe,_,_,_,zbs,_,_,_,zb9,_⟩:=bf3 KBO.out
   have zbJ:=k0
   have zbY:=k1
   have zcb:=k2
   have zd7:=l0
   have zfb:=l1
   have zfc:=l2
   have HGA:=hid ha
   have HGB:=hid hb
   have L1:=hid (show 4 * (mw a + mw b) + 8 ≤ LIM by have:=ZX.out a (List.mem_of_getElem? ha);have:=ZY.out b (List.mem_of_getElem? hb);have:=zaP;omega)
   have L2:=hid (show 4 * (mw (ziw xs ys k) + mw (a * b)) + 8 ≤ LIM by have:=ZX.out a (List.mem_of_getElem? ha);have:=ZY.out b (List.mem_of_getElem? hb);have h1:=zrJ ZX.out ZY.out k;have:=zdI a b;have:=zaP;have h2:k * 2000001 ≤ 1000 * 2000001:=Nat.mul_le_mul_right _ (by have:=HBN.out;omega);omega)
   have hi1:(0:Int) ≤ (k:Int):=Int.natCast_nonneg _
   have hi2:(k:Int) < (n':Int):=by omega
   clear hbox hP hB ha hb k0 k1 k2 l0 l1 l2 hRa hRb
   go_wp2_with fail
   with_reducible refine (Rt.zero ga Aa ma ca Da mda cda a _ HRa.out).mono ?_
   rintro e v1 ⟨rfl,hb⟩
   have zbb:=hid (zad hb KBO.out)
   have zsI:=hid (HRa.out.below hb)
   have zvX:=hid (HRb.out.below hb)
   have zjI:=hid (HP.out.below hb)
   have zn7:=hid (HW.out.below hb)
   have zcX:=zab hb zbJ
   have zdq:=zab hb zbY
   have zej:=zab hb zcb
   have zfa:=zab hb zd7
   have zgt:=zab hb zfb
   have zhd:=zab hb zfc
   clear hb
   cases hza:zr a
   ·go_wp2_with fail
    with_reducible refine (Rt.zero gb Ab mb cb Db mdb cdb b _ zvX.out).mono ?_
    rintro e v2 ⟨rfl,hb⟩
    have zek:=hid (zad hb zbb.out)
    have zyR:=hid (zsI.out.below hb)
    have zyS:=hid (zvX.out.below hb)
    have zI2:=hid (zjI.out.below hb)
    have zrZ:=hid (zn7.out.below hb)
    obtain ⟨zhp,_,_,_,zhr,_,_,_,ziT,_⟩:=bf3 zek.out
    have zdO:=zab hb zcX
    have x0_3d:=zaa zdO
    have zfd:=zab hb zdq
    have x1_3d:=zaa zfd
    have zgl:=zab hb zej
    have x2_3d:=zaa zgl
    have zg9:=zab hb zfa
    have x3_3d:=zaa zg9
    have zhb:=zab hb zgt
    have x4_3d:=zaa zhb
    have zje:=zab hb zhd
    have x5_3d:=zaa zje
    clear hb
    cases hzb:zr b
    ·go_wp2_with fail
     refine za2 (S:=fun w' => w'.cell? ⟨W.heap.size,0,none⟩ = some (.bool g) ∧ w'.cell? ⟨W.heap.size,1,none⟩ = some (.slice P m cp) ∧ w'.cell? ⟨W.heap.size,2,none⟩ = some (.slice D md cd) ∧ w'.cell? ⟨bx,k * 3,none⟩ = some (.bool ga) ∧ w'.cell? ⟨bx,k * 3 + 1,none⟩ = some (.slice Aa ma ca) ∧ w'.cell? ⟨bx,k * 3 + 2,none⟩ = some (.slice Da mda cda) ∧ w'.cell? ⟨by_,k * 3,none⟩ = some (.bool gb) ∧ w'.cell? ⟨by_,k * 3 + 1,none⟩ = some (.slice Ab mb cb) ∧ w'.cell? ⟨by_,k * 3 + 2,none⟩ = some (.slice Db mdb cdb)) 11 (h:=fun hHeld => ?_)
     refine zaw [0,1,2,3,4,5,6,7,8] ?_
     repeat refine tkE (hS:=hHeld) (h:=?_)
     refine zao ?_
     refine zaN 9 (h:=fun K hK => ?_)
     go_simp
     (go_at_call 14;(with_reducible refine (Rt.mul ga Aa ma ca Da mda cda a gb Ab mb cb Db mdb cdb b _ zyR.out.drew zyS.out.drew L1.out).mono ?_);rintro e u1 ⟨g1,A1,m1,c1,D1,md1,cd1,rfl,hn,hb⟩;have zcE:=hid (zad hb zek.out);have zJW:=hid (zI2.out.drew.below hb);have zhh:=hid (zrZ.out.drew.below hb);have HM:=hid (show RatS u1 g1 (.slice A1 m1 c1) (.slice D1 md1 cd1) (a * b) from hn);obtain ⟨zdR,_,_,_,zdS,_,_,_,zht,_⟩:=bf3 zcE.out;have zd6:=zab hb x0_3d;have zfT:=zab hb x1_3d;have zgs:=zab hb x2_3d;have zha:=zab hb x3_3d;have zhc:=zab hb x4_3d;have zlB:=zab hb x5_3d;clear hn hb)
     (try go_wp2_with fail)
     refine hK.out _ _ kp fun hHeld => ?_
     clear hK K
     try simp only [Act.put,pu1,pu2,pu3,pu4,pu5,pu6]
     refine zaN 10 (h:=fun K hK => ?_)
     go_simp
     (go_at_call 41;(with_reducible refine (Rt.add g P m cp D md cd (ziw xs ys k) g1 A1 m1 c1 D1 md1 cd1 (a * b) _ zJW.out HM.out L2.out).mono ?_);rintro e u2 ⟨g2,A2,m2,c2,D2,md2,cd2,rfl,hn,hb⟩;have zd9:=hid (zad hb zcE.out);have zsB:=hid (zhh.out.below hb);have HS:=hid (show RatS u2 g2 (.slice A2 m2 c2) (.slice D2 md2 cd2) (ziw xs ys k + a * b) from hn);obtain ⟨zhq,_,zgR,_,zhs,_,zgS,_,ziU,_,zgT,_⟩:=bf3 zd9.out;have zid:=zab hb zd6;have zlu:=zab hb zfT;have zmh:=zab hb zgs;have zmi:=zab hb zha;have zmj:=zab hb zhc;have zmk:=zab hb zlB;clear hn hb)
     (try go_wp2_with fail)
     refine hK.out _ _ kp fun hHeld => ?_
     clear hK K
     try simp only [Act.put,pu1,pu2,pu3,pu4,pu5,pu6]
     refine zba (h:=fun K hK => ?_)
     go_simp
     refine hK.out _ _ ?_
     clear hK K
     try simp only [Act.put,pu1,pu2,pu3,pu4,pu5,pu6]
     refine za1 (h:=?_)
     all_goals
      go_wp2
      go_roundw
      case rel => exact ⟨k + 1,g2,A2,m2,c2,D2,md2,cd2,by go_num,by omega,zar _ (zar _ (zar _ zd9.out)),by rw [zlZ xs ys k HGA.out HGB.out];exact HS.out.set3 zd9.out (by decide) _ _ _,(Bel.set3 zsB.out (Nat.le_refl _) _ _ _).b⟩
      case measure => simp [intOf];omega
    ·skip
     go_wp2
     go_roundw
     case rel => exact ⟨k + 1,g,P,m,cp,D,md,cd,by go_num,by omega,zek.out,by rw [zlY xs ys k HGA.out HGB.out (Or.inr (zvQ hzb))];exact zI2.out,zrZ.out.b⟩
     case measure => simp [intOf];omega
   ·skip
    go_wp2
    go_roundw
    case rel => exact ⟨k + 1,g,P,m,cp,D,md,cd,by go_num,by omega,zbb.out,by rw [zlY xs ys k HGA.out HGB.out (Or.inl (zvQ hza))];exact zjI.out,zn7.out.b⟩
    case measure => simp [intOf];omega
  ·have hkn:k = n':=by omega
   have zaq:=hid (zad hB KB0.out)
   have zFS:=hid (HA.out.below hB)
   have zFU:=hid (HB.out.below hB)
   have HP:=hid (show RatS wr g (.slice P m cp) (.slice D md cd) (ziw xs ys k) from hP)
   have zaQ:=hid (BB.out.trans ((hB).mono BB.out.size))
   obtain ⟨zaI,zat,zbM,_,zaJ,zau,zbN,_,zbC,zbg,ziy,_⟩:=bf3 zaq.out
   have KBO:=hid hbox
   obtain ⟨zaI,zat,zbM,_,zaJ,zau,zbN,_,zbC,zbg,ziy,_⟩:=bf3 zaq.out
   obtain ⟨zbe,_,zbs,_,zb9,_⟩:=bc3 KBO.out
   clear hbox hP hB
   go_wp2
   refine bodyPost_ret (v := .tuple #[.agg #[.bool g, .slice P m cp, .slice D md cd], .bool true]) (by simp [results,Tryz.results98,go_sem,zaI,zat,zaJ,zau,zbC,zbg]) rfl ?_
   have h:=HP.out
   rw [hkn,HN.out] at h
   exact ⟨_,_,_,_,_,_,_,rfl,h.set3 zaq.out (by decide) _ _ _,Below.setCell (Below.setCell (Below.setCell (zaQ.out) (p:=⟨w.heap.size,0,none⟩) (by show w.heap.size ≤ w.heap.size;omega) _) (p:=⟨w.heap.size,1,none⟩) (by show w.heap.size ≤ w.heap.size;omega) _) (p:=⟨w.heap.size,2,none⟩) (by show w.heap.size ≤ w.heap.size;omega) _⟩
end Vc
abbrev Sm (xs:List Rat):Prop := ∀ q ∈ xs,mw q ≤ 1000000
def zdp (p:PRow) (x:List Rat):Rat:=dot p.coef x - p.rhs
def zdH (p:PRow) (x:List Rat):Bool:=if p.kind = 1 then decide (zdp p x ≤ 0) else if p.kind = 2 then decide (0 ≤ zdp p x) else decide (p.kind = 3) && decide (zdp p x = 0)
theorem zDI {xs ys:List Rat} (zx:Sm xs) (zy:Sm ys) (h:xs.length ≤ 1000):mw (dot xs ys) ≤ 2000002000:=by
 have h1:=zrJ zx zy xs.length
 unfold dot;omega
theorem zsp (q:Rat):q.num ≤ 0 ↔ q ≤ 0:=by
 have h:=Rat.num_nonneg (q := -q)
 rw [Rat.neg_num] at h
 constructor
 ·intro h1;have:=h.1 (by omega);grind
 ·intro h1;have:=h.2 (by grind);omega
theorem zxh {p:PRow} {x:List Rat} (h:p.kind = 1):decide ((zdp p x).num ≤ 0) = zdH p x:=by
 unfold zdH;rw [if_pos h];exact decide_eq_decide.2 (zsp _)
theorem zxg {p:PRow} {x:List Rat} (h:p.kind = 2):decide (0 ≤ zdp p x) = zdH p x:=by
 unfold zdH;rw [if_neg (by omega),if_pos h]
theorem zxf {p:PRow} {x:List Rat} (h:p.kind = 3):zr (zdp p x) = zdH p x:=by
 unfold zdH;rw [if_neg (by omega),if_neg (by omega),decide_eq_true h,Bool.true_and];rfl
theorem zxi {p:PRow} {x:List Rat} (h1:p.kind ≠ 1) (h2:p.kind ≠ 2) (h3:p.kind ≠ 3):false = zdH p x:=by
 unfold zdH;rw [if_neg h1,if_neg h2,decide_eq_false h3,Bool.false_and]
namespace Pb
theorem over (C:Option Addr) (nc cc:Nat) (g:Bool) (A:Option Addr) (m c:Nat) (D:Option Addr) (md cd:Nat) (kd:Int) (p:PRow) (hk:p.kind = kd) (X:Option Addr) (nx cx:Nat) (x:List Rat) (w:World) (hc:VecS w 0 (.slice C nc cc) p.coef) (hr:RatS w g (.slice A m c) (.slice D md cd) p.rhs) (hx:VecS w 0 (.slice X nx cx) x) (hl:p.coef.length = x.length) (hb:nc ≤ 1000) (zc:Sm p.coef) (zr:mw p.rhs ≤ 1000000) (zx:Sm x) :
  Calls Tryz.prog 145 #[.agg #[.slice C nc cc, .int .i64 kd, .bool g, .slice A m c, .slice D md cd], .slice X nx cx] w (zii w (zdp p x) true):=by
 have hn:=hc.len
 have HL:=hid hl
 have HB:=hid hb
 have ZC:=hid zc
 have ZX:=hid zx
 have L1:=hid (show 4 * (mw (dot p.coef x) + mw p.rhs) + 8 ≤ LIM by have:=zDI zc zx (by omega);have:=zaP;omega)
 clear hn hl hb zc zr zx
 obtain ⟨W,hW⟩:∃ W,((w.alloc (.cells #[.slice C nc cc, .int .i64 kd, .bool g, .slice A m c, .slice D md cd] 110)).alloc (.cells #[.bool false, .slice none 0 0, .slice none 0 0] 35)) = W:=⟨_,rfl⟩
 have KB0:=hid (show W.heap[w.heap.size]? = some (.cells #[.slice C nc cc, .int .i64 kd, .bool g, .slice A m c, .slice D md cd] 110 (0,0)) by rw [← hW];exact zak (zam (by simp)))
 have KB1:=hid (show W.heap[w.heap.size + 1]? = some (.cells #[.bool false, .slice none 0 0, .slice none 0 0] 35 (0,0)) by rw [← hW];exact zam (by simp))
 have BB:=hid (show Below w.heap.size w W by rw [← hW];exact (zae w _).alloc (by simp) _)
 have HC:=hid (show VecS W 0 (.slice C nc cc) p.coef by rw [← hW];exact ((hc).alloc _).alloc _)
 have HX:=hid (show VecS W 0 (.slice X nx cx) x by rw [← hW];exact ((hx).alloc _).alloc _)
 have HR:=hid (show RatS W g (.slice A m c) (.slice D md cd) p.rhs by rw [← hW];exact ((hr).alloc _).alloc _)
 obtain ⟨zaK,_⟩:=bc5 KB0.out
 clear hc hr hx
 go_enter Tryz.func145,Tryz.ntmps145
 go_wp2_with fail
 clear hW
 with_reducible refine (Vc.dot_ok C nc cc p.coef X nx cx x 0 0 _ HC.out HX.out HL.out HB.out ZC.out ZX.out).mono ?_
 rintro e w1 ⟨g2,A2,m2,c2,D2,md2,cd2,rfl,hn,hb⟩
 have zaq:=hid (show (w1.alloc (.cells #[.bool g2, .slice A2 m2 c2, .slice D2 md2 cd2] 35)).heap[w.heap.size]? = some (.cells #[.slice C nc cc, .int .i64 kd, .bool g, .slice A m c, .slice D md cd] 110 (0,0)) from zak (zad hb KB0.out))
 have za0:=hid (show (w1.alloc (.cells #[.bool g2, .slice A2 m2 c2, .slice D2 md2 cd2] 35)).heap[w.heap.size + 1]? = some (.cells #[.bool false, .slice none 0 0, .slice none 0 0] 35 (0,0)) from zak (zad hb KB1.out))
 have zn6:=hid (show RatS (w1.alloc (.cells #[.bool g2, .slice A2 m2 c2, .slice D2 md2 cd2] 35)) g (.slice A m c) (.slice D md cd) p.rhs from (HR.out.below hb).alloc _)
 have HS:=hid (show RatS (w1.alloc (.cells #[.bool g2, .slice A2 m2 c2, .slice D2 md2 cd2] 35)) g2 (.slice A2 m2 c2) (.slice D2 md2 cd2) (dot p.coef x) from (hn).alloc _)
 have zaQ:=hid (show Below w.heap.size w (w1.alloc (.cells #[.bool g2, .slice A2 m2 c2, .slice D2 md2 cd2] 35)) from ((BB.out.trans ((hb).mono BB.out.size))).alloc ((BB.out.trans ((hb).mono BB.out.size))).size _)
 have zcu:=hid (show (w1.alloc (.cells #[.bool g2, .slice A2 m2 c2, .slice D2 md2 cd2] 35)).heap[w1.heap.size]? = some (.cells #[.bool g2, .slice A2 m2 c2, .slice D2 md2 cd2] 35 (0,0)) from zam (by simp))
 obtain ⟨_,_,_,_,zbC,_,zyc,_,zyf,_⟩:=bc5 zaq.out
 obtain ⟨zdT,_,zdU,_,zem,_⟩:=bc3 zcu.out
 clear hn hb
 go_wp2_with fail
 with_reducible refine (Rt.sub g2 A2 m2 c2 D2 md2 cd2 (dot p.coef x) g A m c D md cd p.rhs _ HS.out zn6.out L1.out).mono ?_
 rintro e w2 ⟨g3,A3,m3,c3,D3,md3,cd3,rfl,hn,hb⟩
 have zbb:=hid (zad hb za0.out)
 have HT:=hid (show RatS w2 g3 (.slice A3 m3 c3) (.slice D3 md3 cd3) (zdp p x) from hn)
 have zbj:=hid (zaQ.out.trans ((hb).mono zaQ.out.size))
 obtain ⟨zbi,zaX,zb2,_,zbp,za3,zcg,_,zc2,zbL,zef,_⟩:=bf3 zbb.out
 clear hn hb
 go_wp2
 refine bodyPost_ret (v := .tuple #[.agg #[.bool g3, .slice A3 m3 c3, .slice D3 md3 cd3], .bool true]) (by simp [results,Tryz.results145,go_sem,zbi,zaX,zbp,za3,zc2,zbL]) rfl ?_
 exact ⟨_,_,_,_,_,_,_,rfl,HT.out.set3 zbb.out (by decide) _ _ _,Below.setCell (Below.setCell (Below.setCell (zbj.out) (p:=⟨w.heap.size + 1,0,none⟩) (by show w.heap.size ≤ w.heap.size + 1;omega) _) (p:=⟨w.heap.size + 1,1,none⟩) (by show w.heap.size ≤ w.heap.size + 1;omega) _) (p:=⟨w.heap.size + 1,2,none⟩) (by show w.heap.size ≤ w.heap.size + 1;omega) _⟩
theorem holds (C:Option Addr) (nc cc:Nat) (g:Bool) (A:Option Addr) (m c:Nat) (D:Option Addr) (md cd:Nat) (kd:Int) (p:PRow) (hk:p.kind = kd) (X:Option Addr) (nx cx:Nat) (x:List Rat) (w:World) (hc:VecS w 0 (.slice C nc cc) p.coef) (hr:RatS w g (.slice A m c) (.slice D md cd) p.rhs) (hx:VecS w 0 (.slice X nx cx) x) (hl:p.coef.length = x.length) (hb:nc ≤ 1000) (zc:Sm p.coef) (zr:mw p.rhs ≤ 1000000) (zx:Sm x) :
  Calls Tryz.prog 102 #[.agg #[.slice C nc cc, .int .i64 kd, .bool g, .slice A m c, .slice D md cd], .slice X nx cx] w fun e w' => e = .returned (.bool (zdH p x)) ∧ Below w.heap.size w w':=by
 have hn:=hc.len
 have HL:=hid hl
 have HB:=hid hb
 have ZC:=hid zc
 have ZR:=hid zr
 have ZX:=hid zx
 have HK:=hid hk
 clear hk hn hl hb zc zr zx
 obtain ⟨W,hW⟩:∃ W,(w.alloc (.cells #[.slice C nc cc, .int .i64 kd, .bool g, .slice A m c, .slice D md cd] 110)) = W:=⟨_,rfl⟩
 have KB0:=hid (show W.heap[w.heap.size]? = some (.cells #[.slice C nc cc, .int .i64 kd, .bool g, .slice A m c, .slice D md cd] 110 (0,0)) by rw [← hW];exact zam (by simp))
 have BB:=hid (show Below w.heap.size w W by rw [← hW];exact zae w _)
 have HC:=hid (show VecS W 0 (.slice C nc cc) p.coef by rw [← hW];exact (hc).alloc _)
 have HX:=hid (show VecS W 0 (.slice X nx cx) x by rw [← hW];exact (hx).alloc _)
 have HR:=hid (show RatS W g (.slice A m c) (.slice D md cd) p.rhs by rw [← hW];exact (hr).alloc _)
 obtain ⟨zaK,_,zaL,_,zbO,_,zyb,_,zye,_⟩:=bc5 KB0.out
 clear hc hr hx
 go_enter Tryz.func102,Tryz.ntmps102
 go_wp2_with fail
 clear hW
 with_reducible refine (over C nc cc g A m c D md cd kd p HK.out X nx cx x _ HC.out HR.out HX.out HL.out HB.out ZC.out ZR.out ZX.out).mono ?_
 rintro e w1 ⟨g2,A2,m2,c2,D2,md2,cd2,rfl,hn,hb⟩
 have zaq:=hid (show (w1.alloc (.cells #[.bool g2, .slice A2 m2 c2, .slice D2 md2 cd2] 35)).heap[w.heap.size]? = some (.cells #[.slice C nc cc, .int .i64 kd, .bool g, .slice A m c, .slice D md cd] 110 (0,0)) from zak (zad hb KB0.out))
 have HS:=hid (show RatS (w1.alloc (.cells #[.bool g2, .slice A2 m2 c2, .slice D2 md2 cd2] 35)) g2 (.slice A2 m2 c2) (.slice D2 md2 cd2) (zdp p x) from (hn).alloc _)
 have zaQ:=hid (show Below w.heap.size w (w1.alloc (.cells #[.bool g2, .slice A2 m2 c2, .slice D2 md2 cd2] 35)) from ((BB.out.trans ((hb).mono BB.out.size))).alloc ((BB.out.trans ((hb).mono BB.out.size))).size _)
 have za0:=hid (show (w1.alloc (.cells #[.bool g2, .slice A2 m2 c2, .slice D2 md2 cd2] 35)).heap[w1.heap.size]? = some (.cells #[.bool g2, .slice A2 m2 c2, .slice D2 md2 cd2] 35 (0,0)) from zam (by simp))
 obtain ⟨_,_,zaJ,_⟩:=bc5 zaq.out
 obtain ⟨zbe,_,zbs,_,zb9,_⟩:=bc3 za0.out
 clear hn hb
 by_cases h1:kd = 1
 ·have hk1:(kd == 1) = true:=by simp [h1]
  go_wp2_with fail
  with_reducible refine (Rt.sign g2 A2 m2 c2 D2 md2 cd2 (zdp p x) _ HS.out).mono ?_
  rintro e w2 ⟨rfl,hb⟩
  have zbj:=hid (zaQ.out.trans ((hb).mono zaQ.out.size))
  clear hb
  go_wp2
  go_ret
  have hq:=zxh (p:=p) (x:=x) (HK.out.trans h1)
  exact ⟨by rw [← hq];rfl,zbj.out⟩
 ·have hk1:(kd == 1) = false:=by simp [h1]
  by_cases h2:kd = 2
  ·have hk2:(kd == 2) = true:=by simp [h2]
   go_wp2_with fail
   with_reducible refine (Rt.sign g2 A2 m2 c2 D2 md2 cd2 (zdp p x) _ HS.out).mono ?_
   rintro e w2 ⟨rfl,hb⟩
   have zbj:=hid (zaQ.out.trans ((hb).mono zaQ.out.size))
   clear hb
   go_wp2
   go_ret
   have hq:=zxg (p:=p) (x:=x) (HK.out.trans h2)
   exact ⟨by rw [← hq];rfl,zbj.out⟩
  ·have hk2:(kd == 2) = false:=by simp [h2]
   by_cases h3:kd = 3
   ·have hk3:(kd == 3) = true:=by simp [h3]
    go_wp2_with fail
    with_reducible refine (Rt.zero g2 A2 m2 c2 D2 md2 cd2 (zdp p x) _ HS.out).mono ?_
    rintro e w2 ⟨rfl,hb⟩
    have zbj:=hid (zaQ.out.trans ((hb).mono zaQ.out.size))
    clear hb
    go_wp2
    go_ret
    have hq:=zxf (p:=p) (x:=x) (HK.out.trans h3)
    exact ⟨by rw [← hq];rfl,zbj.out⟩
   ·have hk3:(kd == 3) = false:=by simp [h3]
    go_wp2
    go_ret
    have hq:=zxi (p:=p) (x:=x) (by rw [HK.out];exact h1) (by rw [HK.out];exact h2) (by rw [HK.out];exact h3)
    exact ⟨by rw [← hq];rfl,zaQ.out⟩
theorem zPu (C:Option Addr) (nc cc:Nat) (R:Option Addr) (nr cr:Nat) (cost:List Rat) (rows:List PRow) (X:Option Addr) (nx cx:Nat) (x:List Rat) (w:World) (hc:VecS w 0 (.slice C nc cc) cost) (hr:RowsS w 0 (.slice R nr cr) rows) (hx:VecS w 0 (.slice X nx cx) x) (hl:cost.length = x.length) (hb:nc ≤ 1000) (zc:Sm cost) (zx:Sm x) :
  Calls Tryz.prog 38 #[.agg #[.slice C nc cc, .slice R nr cr], .slice X nx cx] w (zii w (dot cost x) true):=by
 have HL:=hid hl
 have HB:=hid hb
 have ZC:=hid zc
 have ZX:=hid zx
 clear hl hb zc zx
 obtain ⟨W,hW⟩:∃ W,((w.alloc (.cells #[.slice C nc cc, .slice R nr cr] 47)).alloc (.cells #[.bool false, .slice none 0 0, .slice none 0 0] 35)) = W:=⟨_,rfl⟩
 have KB0:=hid (show W.heap[w.heap.size]? = some (.cells #[.slice C nc cc, .slice R nr cr] 47 (0,0)) by rw [← hW];exact zak (zam (by simp)))
 have KB1:=hid (show W.heap[w.heap.size + 1]? = some (.cells #[.bool false, .slice none 0 0, .slice none 0 0] 35 (0,0)) by rw [← hW];exact zam (by simp))
 have BB:=hid (show Below w.heap.size w W by rw [← hW];exact (zae w _).alloc (by simp) _)
 have HC:=hid (show VecS W 0 (.slice C nc cc) cost by rw [← hW];exact ((hc).alloc _).alloc _)
 have HX:=hid (show VecS W 0 (.slice X nx cx) x by rw [← hW];exact ((hx).alloc _).alloc _)
 obtain ⟨zaK,zaz,zaL,zaA⟩:=bc2 KB0.out
 obtain ⟨zbr,zbd,zcw,zbF,zbP,zby,zc6,zb5,zcJ,zce,zee,zdd⟩:=bf3 KB1.out
 clear hc hr hx
 go_enter Tryz.func38,Tryz.ntmps38
 go_wp2_with fail
 clear hW
 with_reducible refine (Vc.dot_ok C nc cc cost X nx cx x 0 0 _ HC.out HX.out HL.out HB.out ZC.out ZX.out).mono ?_
 rintro e w1 ⟨g2,A2,m2,c2,D2,md2,cd2,rfl,hn,hb⟩
 have zaq:=hid (zad hb KB0.out)
 have za0:=hid (zad hb KB1.out)
 have HS:=hid (show RatS w1 g2 (.slice A2 m2 c2) (.slice D2 md2 cd2) (dot cost x) from hn)
 have zaQ:=hid (BB.out.trans ((hb).mono BB.out.size))
 obtain ⟨zaI,zat,zaJ,zau⟩:=bc2 zaq.out
 obtain ⟨zbe,zaW,zcf,zbA,zbs,za9,zcR,zbS,zb9,zbz,zdG,zcT⟩:=bf3 za0.out
 clear hn hb
 go_wp2
 refine bodyPost_ret (v := .tuple #[.agg #[.bool g2, .slice A2 m2 c2, .slice D2 md2 cd2], .bool true]) (by simp [results,Tryz.results38,go_sem,zbe,zaW,zbs,za9,zb9,zbz]) rfl ?_
 exact ⟨_,_,_,_,_,_,_,rfl,HS.out.set3 za0.out (by decide) _ _ _,Below.setCell (Below.setCell (Below.setCell (zaQ.out) (p:=⟨w.heap.size + 1,0,none⟩) (by show w.heap.size ≤ w.heap.size + 1;omega) _) (p:=⟨w.heap.size + 1,1,none⟩) (by show w.heap.size ≤ w.heap.size + 1;omega) _) (p:=⟨w.heap.size + 1,2,none⟩) (by show w.heap.size ≤ w.heap.size + 1;omega) _⟩
end Pb
def znD (cost:List Rat) (rows:List PRow) (x:List Rat):Bool:=decide (x.length = cost.length) && !(x.any fun q => decide (q < 0)) && rows.all fun p => zdH p x
abbrev Rows (n:Nat) (rows:List PRow):Prop := ∀ p ∈ rows,p.coef.length = n ∧ Sm p.coef ∧ mw p.rhs ≤ 1000000
theorem zv9 {rows:List PRow} {k:Nat} {p:PRow} {f:PRow → Bool} (h:(rows.take k).all f = true) (hq:rows[k]? = some p) (hp:f p = true):(rows.take (k + 1)).all f = true:=by
 rw [List.take_add_one,List.all_append,h,hq];simp [hp]
theorem ztT {rows:List PRow} {k:Nat} {p:PRow} {f:PRow → Bool} (hq:rows[k]? = some p) (hp:f p = false):rows.all f = false:=by
 rw [List.all_eq_false];exact ⟨p,List.mem_of_getElem? hq,by simp [hp]⟩
theorem zw4 {cost x:List Rat} {rows:List PRow} (h:x.length ≠ cost.length):znD cost rows x = false:=by unfold znD;rw [decide_eq_false h];rfl
theorem zw5 {cost x:List Rat} {rows:List PRow} (h:(x.any fun q => decide (q < 0)) = true):znD cost rows x = false:=by unfold znD;rw [h];simp
theorem zoE {cost x:List Rat} {rows:List PRow} (hl:x.length = cost.length) (h:(x.any fun q => decide (q < 0)) = false):znD cost rows x = rows.all fun p => zdH p x:=by unfold znD;rw [h,decide_eq_true hl];simp
namespace Pb
theorem zAF (C:Option Addr) (nc cc:Nat) (R:Option Addr) (nr cr:Nat) (cost:List Rat) (rows:List PRow) (X:Option Addr) (nx cx:Nat) (x:List Rat) (w:World) (hc:VecS w 0 (.slice C nc cc) cost) (hr:RowsS w 0 (.slice R nr cr) rows) (hx:VecS w 0 (.slice X nx cx) x) (hl:x.length ≠ cost.length) :
  Calls Tryz.prog 45 #[.agg #[.slice C nc cc, .slice R nr cr], .slice X nx cx] w fun e w' => e = .returned (.bool (znD cost rows x)) ∧ Below w.heap.size w w':=by
 have h1:¬ ((nx:Int) = (nc:Int)):=by rw [hx.len,hc.len];omega
 have h2:¬ (nx = nc):=by rw [hx.len,hc.len];omega
 have HF:=hid (zw4 (rows:=rows) hl)
 obtain ⟨W,hW⟩:∃ W,(w.alloc (.cells #[.slice C nc cc, .slice R nr cr] 47)) = W:=⟨_,rfl⟩
 have KB0:=hid (show W.heap[w.heap.size]? = some (.cells #[.slice C nc cc, .slice R nr cr] 47 (0,0)) by rw [← hW];exact zam (by simp))
 have BB:=hid (show Below w.heap.size w W by rw [← hW];exact zae w _)
 obtain ⟨zaK,_⟩:=bc2 KB0.out
 clear hc hr hx hl
 go_enter Tryz.func45,Tryz.ntmps45
 go_wp2
 clear hW
 go_ret
 exact ⟨by rw [HF.out];rfl,BB.out⟩
theorem fits (C:Option Addr) (nc cc:Nat) (R:Option Addr) (nr cr:Nat) (cost:List Rat) (rows:List PRow) (X:Option Addr) (nx cx:Nat) (x:List Rat) (w:World) (hc:VecS w 0 (.slice C nc cc) cost) (hr:RowsS w 0 (.slice R nr cr) rows) (hx:VecS w 0 (.slice X nx cx) x) (hb:nc ≤ 1000) (hrr:Rows nc rows) (zx:Sm x) (hnr:nr ≤ 1000) :
  Calls Tryz.prog 45 #[.agg #[.slice C nc cc, .slice R nr cr], .slice X nx cx] w fun e w' => e = .returned (.bool (znD cost rows x)) ∧ Below w.heap.size w w':=by
 by_cases hl:x.length ≠ cost.length
 ·exact zAF C nc cc R nr cr cost rows X nx cx x w hc hr hx hl
 have hl:=Decidable.not_not.1 hl
 have hn1:=hx.len
 have hn2:=hc.len
 have hn3:=hr.len
 have en:nc = nx:=by omega
 subst en
 have HL:=hid hl
 have HN:=hid hn3
 have HNX:=hid hn1
 have HB:=hid hb
 have HRR:=hid hrr
 have ZX:=hid zx
 clear hl hb hrr zx hn1 hn2 hn3
 obtain ⟨W,hW⟩:∃ W,(w.alloc (.cells #[.slice C nc cc, .slice R nr cr] 47)) = W:=⟨_,rfl⟩
 have KB0:=hid (show W.heap[w.heap.size]? = some (.cells #[.slice C nc cc, .slice R nr cr] 47 (0,0)) by rw [← hW];exact zam (by simp))
 have BB:=hid (show Below w.heap.size w W by rw [← hW];exact zae w _)
 have HC:=hid (show VecS W 0 (.slice C nc cc) cost by rw [← hW];exact (hc).alloc _)
 have HX:=hid (show VecS W 0 (.slice X nc cx) x by rw [← hW];exact (hx).alloc _)
 have HR:=hid (show RowsS W 0 (.slice R nr cr) rows by rw [← hW];exact (hr).alloc _)
 obtain ⟨zaK,_,zaL,zaA⟩:=bc2 KB0.out
 clear hc hr hx
 go_enter Tryz.func45,Tryz.ntmps45
 go_wp2_with fail
 clear hW
 with_reducible refine (Vc.below X nc cx x 0 _ HX.out).mono ?_
 rintro e w1 ⟨rfl,hb⟩
 have zaq:=hid (zad hb KB0.out)
 have zxY:=hid (HC.out.below hb)
 have zif:=hid (HX.out.below hb)
 have zn6:=hid (HR.out.below hb)
 have zaQ:=hid (BB.out.trans ((hb).mono BB.out.size))
 obtain ⟨_,_,zaJ,zau⟩:=bc2 zaq.out
 clear hb
 cases hneg:(x.any fun q => decide (q < 0))
 ·skip
  go_wp2
  go_loopw [20] (fun i wr => ∃ k:Nat,i = .int .i64 k ∧ k ≤ nr ∧ Below w1.heap.size w1 wr ∧ (rows.take k).all (fun p => zdH p x) = true)
   (fun i _ => nr - (intOf i).toNat)
  case atStart => exact ⟨0,rfl,Nat.zero_le _,Below.refl _ _,rfl⟩
  case round =>
   obtain ⟨k,rfl,hk,hB,hT⟩:=hrel
   have HT:=hid hT
   by_cases hlt:k < nr
   ·obtain ⟨p,hp⟩:∃ p,rows[k]? = some p:=⟨rows[k]'(by rw [← HN.out];exact hlt),List.getElem?_eq_getElem _⟩
    obtain ⟨b,rfl,hb0,hb1⟩:=(zn6.out).has (by omega)
    obtain ⟨Q,nq,cq,g,A,m,c,D,md,cd,k0,k1,k2,k3,k4,hq,hrh⟩:=(zn6.out.below hB).at_ hp
    have HP:=hid hp
    have HPR:=hid (HRR.out p (List.mem_of_getElem? hp))
    obtain rfl:nc = nq:=by rw [hq.len,HPR.out.1]
    generalize hkd:p.kind = kd at k1
    have HKD:=hid hkd
    have zEv:=hid (zxY.out.below hB)
    have zza:=hid (zif.out.below hB)
    have zvS:=hid (zn6.out.below hB)
    have HQ:=hid (show VecS wr 0 (.slice Q nc cq) p.coef from hq)
    have HRH:=hid (show RatS wr g (.slice A m c) (.slice D md cd) p.rhs from hrh)
    have HW:=hid (show Bel w1 wr from Bel.mk hB)
    have zbj:=hid (zaQ.out.trans ((hB).mono zaQ.out.size))
    clear hB hT hp hq hrh hkd
    have hi1:(0:Int) ≤ (k:Int):=Int.natCast_nonneg _
    have hi2:(k:Int) < (nr:Int):=by omega
    go_wp2_with fail
    have hb3z:=zae wr (.cells #[.slice Q nc cq, .int .i64 kd, .bool g, .slice A m c, .slice D md cd] 110)
    have zJ6:=hid (zza.out.below hb3z)
    have zJX:=hid (HQ.out.below hb3z)
    have zGd:=hid (HRH.out.below hb3z)
    have zrZ:=hid (HW.out.below hb3z)
    have zcc:=hid (zbj.out.trans ((hb3z).mono zbj.out.size))
    with_reducible refine (holds Q nc cq g A m c D md cd kd p HKD.out X nc cx x _ zJX.out zGd.out zJ6.out (HPR.out.1.trans HNX.out) HB.out HPR.out.2.1 HPR.out.2.2 ZX.out).mono ?_
    rintro e v1 ⟨rfl,hb⟩
    have zhh:=hid (zrZ.out.below hb)
    have zdf:=hid (zcc.out.trans ((hb).mono zcc.out.size))
    clear hb
    cases hh:zdH p x
    ·have HF:=hid ((zoE HL.out hneg).trans (ztT (f:=fun p => zdH p x) HP.out hh))
     go_wp2
     go_ret
     exact ⟨by rw [HF.out];rfl,zdf.out⟩
    ·have HF:=hid (zv9 (f:=fun p => zdH p x) HT.out HP.out hh)
     go_wp2
     go_roundw
     case rel => exact ⟨k + 1,by go_num,by omega,zhh.out.b,HF.out⟩
     case measure => simp [intOf];omega
   ·have hkn:k = nr:=by omega
    have HF:=hid (show znD cost rows x = true by rw [zoE HL.out hneg];have h:=HT.out;rw [hkn,HN.out,List.take_length] at h;exact h)
    have zEv:=hid (zxY.out.below hB)
    have zza:=hid (zif.out.below hB)
    have zvS:=hid (zn6.out.below hB)
    have zbj:=hid (zaQ.out.trans ((hB).mono zaQ.out.size))
    clear hB hT
    go_wp2
    go_ret
    exact ⟨by rw [HF.out];rfl,zbj.out⟩
 ·have HF:=hid (zw5 (cost:=cost) (rows:=rows) hneg)
  go_wp2
  go_ret
  exact ⟨by rw [HF.out];rfl,zaQ.out⟩
end Pb
abbrev Kinds (rows:List PRow):Prop := ∀ p ∈ rows,1 ≤ p.kind ∧ p.kind ≤ 3
namespace Pb
theorem may (C:Option Addr) (nc cc:Nat) (R:Option Addr) (nr cr:Nat) (cost:List Rat) (rows:List PRow) (w:World) (hc:VecS w 0 (.slice C nc cc) cost) (hr:RowsS w 0 (.slice R nr cr) rows) (hb:nc ≤ 24) (hnr:nr ≤ 20) (hrr:Rows nc rows) (hkk:Kinds rows) :
  Calls Tryz.prog 69 #[.agg #[.slice C nc cc, .slice R nr cr]] w fun e w' => e = .returned .nilIface ∧ Below w.heap.size w w':=by
 have hn3:=hr.len
 have HN:=hid hn3
 have HRR:=hid hrr
 have HKK:=hid hkk
 have hb1:(nc:Int) ≤ 24:=by omega
 have hb2:¬ (24:Int) < (nc:Int):=by omega
 have hnr2:¬ (20:Int) < (nr:Int):=by omega
 clear hrr hkk hn3
 obtain ⟨W,hW⟩:∃ W,(w.alloc (.cells #[.slice C nc cc, .slice R nr cr] 47)) = W:=⟨_,rfl⟩
 have KB0:=hid (show W.heap[w.heap.size]? = some (.cells #[.slice C nc cc, .slice R nr cr] 47 (0,0)) by rw [← hW];exact zam (by simp))
 have BB:=hid (show Below w.heap.size w W by rw [← hW];exact zae w _)
 have HC:=hid (show VecS W 0 (.slice C nc cc) cost by rw [← hW];exact (hc).alloc _)
 have HR:=hid (show RowsS W 0 (.slice R nr cr) rows by rw [← hW];exact (hr).alloc _)
 obtain ⟨zaK,_,zaL,zaA⟩:=bc2 KB0.out
 clear hc hr
 go_enter Tryz.func69,Tryz.ntmps69
 go_wp2
 clear hW
 go_loopw [19] (fun i wr => ∃ k:Nat,i = .int .i64 k ∧ k ≤ nr ∧ Below W.heap.size W wr)
  (fun i _ => nr - (intOf i).toNat)
 case atStart => exact ⟨0,rfl,Nat.zero_le _,Below.refl _ _⟩
 case round =>
  obtain ⟨k,rfl,hk,hB⟩:=hrel
  by_cases hlt:k < nr
  ·obtain ⟨p,hp⟩:∃ p,rows[k]? = some p:=⟨rows[k]'(by rw [← HN.out];exact hlt),List.getElem?_eq_getElem _⟩
   obtain ⟨b,rfl,hb0,hb1⟩:=HR.out.has (by omega)
   obtain ⟨Q,nq,cq,g,A,m,c,D,md,cd,k0,k1,k2,k3,k4,hvq,_⟩:=(HR.out.below hB).at_ hp
   obtain rfl:nc = nq:=by rw [hvq.len,(HRR.out p (List.mem_of_getElem? hp)).1]
   have hkd1:=(HKK.out p (List.mem_of_getElem? hp)).1
   have hkd2:=(HKK.out p (List.mem_of_getElem? hp)).2
   have hkd3:¬ p.kind < 1:=by omega
   have hkd4:¬ 3 < p.kind:=by omega
   have zaq:=hid (zad hB KB0.out)
   have zxY:=hid (HC.out.below hB)
   have zn6:=hid (HR.out.below hB)
   have HW:=hid (show Bel W wr from Bel.mk hB)
   have zaQ:=hid (BB.out.trans ((hB).mono BB.out.size))
   clear hB hp hvq
   have hi1:(0:Int) ≤ (k:Int):=Int.natCast_nonneg _
   have hi2:(k:Int) < (nr:Int):=by omega
   have hb2z:=zae wr (.cells #[.slice Q nc cq, .int .i64 p.kind, .bool g, .slice A m c, .slice D md cd] 110)
   have zaD:=hid (zad hb2z zaq.out)
   have zn7:=hid (HW.out.below hb2z)
   obtain ⟨zaU,_⟩:=bc2 zaD.out
   have zcX:(wr.alloc (.cells #[.slice Q nc cq, .int .i64 p.kind, .bool g, .slice A m c, .slice D md cd] 110)).cell? ⟨wr.heap.size,0,none⟩ = some (.slice Q nc cq):=zax rfl rfl
   have zdq:(wr.alloc (.cells #[.slice Q nc cq, .int .i64 p.kind, .bool g, .slice A m c, .slice D md cd] 110)).cell? ⟨wr.heap.size,1,none⟩ = some (.int .i64 p.kind):=zax rfl rfl
   go_wp2
   go_roundw
   case rel => exact ⟨k + 1,by go_num,by omega,zn7.out.b⟩
   case measure => simp [intOf];omega
  ·have hkn:k = nr:=by omega
   have zaq:=hid (zad hB KB0.out)
   have zxY:=hid (HC.out.below hB)
   have zn6:=hid (HR.out.below hB)
   have zaQ:=hid (BB.out.trans ((hB).mono BB.out.size))
   clear hB
   go_wp2
   go_ret
   exact ⟨rfl,zaQ.out⟩
end Pb
end Go.Proofs.YtdbgbaiekpbaoaaGreatDoor
