/- lu.Factor by its contract. Conditions: as it says. -/
import Derived.Test.YtdbgbaiekpbaoaaGreatDoorLuStepZp
import Derived.Test.YtdbgbaiekpbaoaaGreatDoorStdZp
import Derived.Test.YtdbgbaiekpbaoaaGreatDoorMat5Zp
set_option linter.all false
namespace Go.Proofs.YtdbgbaiekpbaoaaGreatDoor
open Go.RowKit Am
open Lib (hid)
attribute [local go_sem ↓] Go.wp_at_zero Go.wp_at_succ
set_option maxHeartbeats 8000000
set_option maxRecDepth 100000
def zsQ (w:World) (n:Nat) (L:List (List Rat)) (e:Ending) (w':World):Prop :=
  (∃ (F:LUv) (q:Nat),zoN n L = some F ∧ e = .returned (.tuple #[.pointer (some ⟨q,0,none⟩), .bool true]) ∧ LuS w' w.heap.size q n F ∧ Below w.heap.size w w') ∨
  (zoN n L = none ∧ e = .returned (.tuple #[.pointer none, .bool false]) ∧ Below w.heap.size w w')
structure Going (n s:Nat) (L:List (List Rat)) (c:Nat) (F:LUv):Prop where
  sq:Sq n F
  sz:∃ u,1 ≤ u ∧ u + 1 ≤ 4 ^ c * (s + 2) ∧ LUsz mw n u F
  eq:zsD n (n - c) c F = zoN n L
theorem Going.start {n s:Nat} {L:List (List Rat)} (hl:L.length = n) (hr:∀ r ∈ L,r.length = n) (hs:∀ i,i < n → ∀ j,j < n → mw (en L i j) ≤ s):Going n s L 0 (zg4 n L) :=
 ⟨zl6 hl fun i hi => hr _ (List.mem_of_getElem? (zaO (by omega))),⟨s + 1,by omega,by omega,zi6 zo5 hs⟩,rfl⟩
theorem zIf {n c s u:Nat} (hc:c ≤ n) (h:u + 1 ≤ 4 ^ c * (s + 2)):u ≤ uB n s:=by
 unfold uB
 have : 4 ^ c ≤ 4 ^ n:=Nat.pow_le_pow_right (by omega) hc
 have:=Nat.mul_le_mul_right (s + 2) this
 omega
theorem Going.next {n s c:Nat} {L:List (List Rat)} {F:LUv} (h:Going n s L c F) (hc:c < n) (hk:zeg F.up c (n - c) c < n):Going n s L (c + 1) (F.step c (zeg F.up c (n - c) c)):=by
 obtain ⟨u,h1,h2,h3⟩:=h.sz
 refine ⟨zqB h.sq hc hk,⟨4 * u + 1,by omega,(by rw [Nat.pow_succ,Nat.mul_comm (4 ^ c) 4,Nat.mul_assoc];omega),h3.step zo5 h.sq h1 hc hk⟩,?_⟩
 obtain ⟨f,hf⟩:∃ f,n - c = f + 1:=⟨n - (c + 1),by omega⟩
 have e:zsD n (n - c) c F = zsD n f (c + 1) (F.step c (zeg F.up c (n - c) c)):=by
  conv => lhs;rw [hf];unfold zsD
  rw [if_neg (by omega)]
 rw [← h.eq,e,show n - (c + 1) = f by omega]
theorem Going.stuck {n s c:Nat} {L:List (List Rat)} {F:LUv} (h:Going n s L c F) (hc:c < n) (hk:zeg F.up c (n - c) c = n):zoN n L = none:=by
 rw [← h.eq,show n - c = (n - (c + 1)) + 1 by omega]
 unfold zsD
 rw [if_pos hk]
theorem Going.done {n s:Nat} {L:List (List Rat)} {F:LUv} (h:Going n s L n F):zoN n L = some F:=by
 rw [← h.eq,Nat.sub_self];rfl
theorem LuS.base {w:World} {H H' q n:Nat} {F:LUv} (h:LuS w H q n F) (hb:H' ≤ H):LuS w H' q n F:=by
 obtain ⟨⟨lA,lc,ll,uA,uc,ul,pA,pc,a1,a2,a3,a4,a5,a6,a7⟩,a8,a9⟩:=h
 exact ⟨⟨lA,lc,ll,uA,uc,ul,pA,pc,a1,a2.base hb,a3,a4.base hb,a5,a6,a7.base hb⟩,Nat.le_trans hb a8,a9⟩
namespace Lu
theorem factor (n cR:Nat) (R:Option Addr) (l0:List Value) (L:List (List Rat)) (H0 s:Nat) (w:World) (h:VecsL w H0 (.slice R n cR) l0 L) (hL:∀ r ∈ L,r.length = n) (hn:n ≤ 64) (zL:∀ i,i < n → ∀ j,j < n → mw (en L i j) ≤ s) (hcap:24 * uB n s + 8 ≤ LIM) :
  Calls Tryz.prog 167 #[.agg #[.slice R n cR, .int .i64 (n:Int)]] w (zsQ w n L):=by
 have HN:=hid hn
 have HLL:=hid hL
 have HNL:=hid h.nlen
 have HCAP:=hid hcap
 have HGO:=hid (Going.start h.nlen.symm hL zL)
 have hnb:n ≤ 9223372036854775807:=by omega
 clear hn hL zL hcap
 obtain ⟨W,hW⟩:∃ W,(w.alloc (.cells #[.slice R n cR, .int .i64 (n:Int)] 64)) = W:=⟨_,rfl⟩
 have KB0:=hid (show W.heap[w.heap.size]? = some (.cells #[.slice R n cR, .int .i64 (n:Int)] 64 (0,0)) by rw [← hW];exact zam (by simp))
 have BB:=hid (show Below w.heap.size w W by rw [← hW];exact zae w _)
 have HR:=hid (show VecsL W H0 (.slice R n cR) l0 L by rw [← hW];exact (h).alloc _)
 obtain ⟨zaK,zaz,zaL,zaA⟩:=bc2 KB0.out
 clear h
 go_enter Tryz.func167,Tryz.ntmps167
 go_wp2_with fail
 clear hW
 with_reducible refine (Mt.rows n n cR R _).mono ?_
 rintro e wa ⟨rfl,hb⟩
 have zaq:=hid (zad hb KB0.out)
 have zn6:=hid (HR.out.below hb)
 have zaQ:=hid (BB.out.trans ((hb).mono BB.out.size))
 obtain ⟨zaI,zat,zaJ,zau⟩:=bc2 zaq.out
 clear hb
 go_wp2_with fail
 with_reducible refine (Mt.cols n n cR R _).mono ?_
 rintro e wb ⟨rfl,hb⟩
 have zaD:=hid (zad hb zaq.out)
 have zvS:=hid (zn6.out.below hb)
 have zbj:=hid (zaQ.out.trans ((hb).mono zaQ.out.size))
 obtain ⟨zaU,zaE,zaV,zaF⟩:=bc2 zaD.out
 clear hb
 go_wp2
 have HSZ:=hid (show w.heap.size ≤ wb.heap.size from zbj.out.size)
 go_loopw [19] (fun i wr => ∃ (k:Nat) (lA:Option Addr) (lc:Nat) (ll:List Value) (uA:Option Addr) (uc:Nat) (ul:List Value) (pA:Option Addr) (pc:Nat),i = .int .i64 k ∧ k ≤ n ∧ LuG wr wb.heap.size wb.heap.size n k k k lA lc ll uA uc ul pA pc (laid n L k) ∧ Below wb.heap.size wb wr)
  (fun i _ => n - (intOf i).toNat)
 case atStart => exact ⟨0,none,0,[],none,0,[],none,0,rfl,Nat.zero_le _,LuG.start _ _ _,zae _ _⟩
 case round =>
  obtain ⟨k,lA,lc,ll,uA,uc,ul,pA,pc,rfl,hk,hG,hB⟩:=hrel
  by_cases hlt:k < n
  ·obtain ⟨r,hr⟩:∃ r,L[k]? = some r:=⟨L[k]'(by rw [← HNL.out];exact hlt),List.getElem?_eq_getElem _⟩
   have hrl:r.length = n:=HLL.out r (List.mem_of_getElem? hr)
   obtain ⟨_,_,_,_,q1,_⟩:=bf4 hG.blk
   have zbn:=hid (zad hB zaD.out)
   have zB7:=hid (zvS.out.below hB)
   have HG:=hid (show LuG wr wb.heap.size wb.heap.size n k k k lA lc ll uA uc ul pA pc (laid n L k) from hG)
   have HW:=hid (show Bel wb wr from Bel.mk hB)
   obtain ⟨zdg,_,zdh,_⟩:=bc2 zbn.out
   have zfd:wr.cell? ⟨wb.heap.size,1,none⟩ = some (.slice uA k uc):=q1
   have HRK:=hid hr
   have HRL:=hid hrl
   have HBZ:=hid (show wb.heap.size ≤ wr.heap.size from hB.size)
   clear hG hB hr hrl
   have hi2:(k:Int) < (n:Int):=by omega
   go_wp2_with fail
   with_reducible refine (Mt.row n n cR R l0 L H0 k r _ zB7.out HRK.out HRL.out HN.out HN.out).mono ?_
   rintro e w1 ⟨A2,c2,rfl,hv2,hb⟩
   have zFZ:=hid (HG.out.below hb)
   have zhh:=hid (HW.out.below hb)
   have HV2:=hid (show VecS w1 wr.heap.size (.slice A2 n c2) r from hv2)
   have zfT:=zab hb zfd
   clear hv2 hb
   have HFR:=hid (show ∀ g,(Value.slice A2 n c2).ownBlock = some g → (∀ a ∈ ll,a.ownBlock ≠ some g) ∧ ∀ a ∈ ul,a.ownBlock ≠ some g from fun g hg => ⟨fun a ha e => by have h1:=(HV2.out.lt hg).1;have h2:=(HG.out.lo.lt ha e).2;omega,fun a ha e => by have h1:=(HV2.out.lt hg).1;have h2:=(HG.out.up.lt ha e).2;omega⟩)
   go_upto_region 9 with fail
   go_cut [] (fun wy => ∃ (uA':Option Addr) (uc':Nat) (ul':List Value),LuG wy wb.heap.size wb.heap.size n k (k + 1) k lA lc ll uA' uc' ul' pA pc { laid n L k with up:=(laid n L k).up ++ [r] } ∧ Bel wb wy)
   case first => as_aux_lemma =>
    go_wp2_with (at_builtin;refine zbW rfl _ _ rfl rfl (zFZ.out.alloc (.cells #[.slice A2 n c2] 26)).up rfl (zal _ _ _) ((HV2.out.base HBZ.out).alloc _) (n:=k) (by simp [laid];have:=HNL.out;omega) (by have:=HN.out;omega) (by simp;have:=zhh.out.b.size;omega) ?_;intro A3 c3 w3 hL3 hk3 hb3 hf3;have HL3:=hid hL3;have HK3:=hid hk3;have HF3:=hid hf3;have HB3:=hid hb3;have KQ:=hid (hk3.blk (zFZ.out.alloc (.cells #[.slice A2 n c2] 26)).blk (by decide));have z1:=zac KQ.out 1;have zf:=zag KQ.out 1;simp only [List.getElem?_toArray,List.getElem?_cons_zero,List.getElem?_cons_succ] at z1;clear hL3 hk3 hb3 hf3)
    go_meet
    case rel => exact ⟨_,_,_,(zFZ.out.alloc (.cells #[.slice A2 n c2] 26)).pushU (by omega) HL3.out HK3.out HF3.out HRL.out HFR.out,⟨((zhh.out.alloc (.cells #[.slice A2 n c2] 26)).b.trans HB3.out).setCell (p:=⟨wb.heap.size,1,none⟩) (Nat.le_refl _) _⟩⟩
   case rest =>
    rename World => wy
    obtain ⟨uA',uc',ul',hG,hb⟩:=hcut
    have HG1:=hid hG
    have HW1:=hid hb
    obtain ⟨r0,r0d,_⟩:=bf4 hG.blk
    clear hG hb
    go_wp2_with fail
    go_cut [] (fun wy => ∃ (lA':Option Addr) (lc':Nat) (ll':List Value),LuG wy wb.heap.size wb.heap.size n (k + 1) (k + 1) k lA' lc' ll' uA' uc' ul' pA pc { laid n L k with up:=(laid n L k).up ++ [r],lo:=(laid n L k).lo ++ [List.replicate n 0] } ∧ Bel wb wy)
    case first => as_aux_lemma =>
     refine zaS (S:=fun w' => w'.cell? ⟨wb.heap.size,0,none⟩ = some (.slice lA k lc)) [11] (h:=fun hHeld => ?_)
     refine zaw [0,1,2,3,4,5] ?_
     repeat refine tkL (hS:=hHeld) (h:=?_)
     refine zao ?_
     refine zaB 6 (h:=fun K hK => ?_)
     (refine zh5 rfl _ _ rfl n _ rfl rfl rfl (by have:=HN.out;omega) ?_;intro w3 hv3 hb3;have HV3:=hid hv3;have HG3:=hid (HG1.out.below (show Below wy.heap.size wy w3 from It.bdrew0' hb3));have HW3:=hid (HW1.out.below (show Below wy.heap.size wy w3 from It.bdrew0' hb3));have s0:=zab hb3 r0d;have HZ3:=hid (show wb.heap.size ≤ wy.heap.size from HW1.out.b.size);clear hv3 hb3)
     refine hK.out _ _ kp fun hHeld => ?_
     clear hK K
     try simp only [Act.put,pu1,pu2,pu3,pu4,pu5,pu6]
     refine zaB 7 (h:=fun K hK => ?_)
     go_simp
     refine hK.out _ _ kp fun hHeld => ?_
     clear hK K
     try simp only [Act.put,pu1,pu2,pu3,pu4,pu5,pu6]
     refine zaB 8 (h:=fun K hK => ?_)
     (refine zet rfl _ _ rfl rfl (HG3.out.alloc _).lo rfl (zal _ _ _) ((HV3.out.base (show wb.heap.size ≤ wy.drew.heap.size from HZ3.out)).alloc _) (n:=k) (by simp [laid]) (by have:=HN.out;omega) (by simp;have:=HW3.out.b.size;omega) ?_;intro A5 c5 w5 hL5 hk5 hb5 hf5;have HL5:=hid hL5;have HK5:=hid hk5;have HF5:=hid hf5;have HB5:=hid hb5;have KQ:=hid (hk5.blk (HG3.out.alloc _).blk (by decide));have z0:=zac KQ.out 0;have zf:=zag KQ.out 0;simp only [List.getElem?_toArray,List.getElem?_cons_zero,List.getElem?_cons_succ] at z0;clear hL5 hk5 hb5 hf5)
     refine hK.out _ _ kp fun hHeld => ?_
     clear hK K
     try simp only [Act.put,pu1,pu2,pu3,pu4,pu5,pu6]
     refine zaw [9] ?_
     repeat refine tkX (h:=?_)
     refine zao ?_
     refine zaw [10] ?_
     repeat refine tkL (hS:=hHeld) (h:=?_)
     refine zao ?_
     refine zay 11 (h:=fun K hK => ?_)
     go_simp
     refine hK.out _ _ ?_
     clear hK K
     try simp only [Act.put,pu1,pu2,pu3,pu4,pu5,pu6]
     refine zaM (h:=?_)
     go_wp2
     go_meet
     have HFR2:=hid (show ∀ g,(Value.slice (some ⟨wy.heap.size,0,none⟩) n n).ownBlock = some g → (∀ a ∈ ll,a.ownBlock ≠ some g) ∧ ∀ a ∈ ul',a.ownBlock ≠ some g from fun g hg => ⟨fun a ha e => by have h0:wy.heap.size = g:=(by injection hg);have h2:=(HG1.out.lo.lt ha e).2;omega,fun a ha e => by have h0:wy.heap.size = g:=(by injection hg);have h2:=(HG1.out.up.lt ha e).2;omega⟩)
     case rel => exact ⟨_,_,_,(HG3.out.alloc (.cells #[.slice (some ⟨wy.heap.size,0,none⟩) n n] 26)).pushL (by omega) (by omega) HL5.out HK5.out HF5.out (by simp) HFR2.out,⟨((HW3.out.alloc (.cells #[.slice (some ⟨wy.heap.size,0,none⟩) n n] 26)).b.trans HB5.out).setCell (p:=⟨wb.heap.size,0,none⟩) (Nat.le_refl _) _⟩⟩
    case rest =>
     rename World => wx
     obtain ⟨lA',lc',ll',hG,hb⟩:=hcut
     have HG2:=hid hG
     have HW2:=hid hb
     obtain ⟨s0,_,_,_,_,_,_,_,s2,_⟩:=bf4 hG.blk
     clear hG hb s0
     go_wp2_with (at_builtin;refine ziP rfl _ _ rfl rfl (HG2.out.alloc (.cells #[.int .i64 (k:Int)] 3)).perm rfl (zal _ _ _) (n:=k) (by simp [laid]) (by have:=HN.out;omega) (by simp;have:=HW2.out.b.size;omega) ?_;intro A6 c6 w6 hP6 hk6 hb6;have HP6:=hid hP6;have HK6:=hid hk6;have HB6:=hid hb6;have KQ:=hid (hk6.blk (HG2.out.alloc (.cells #[.int .i64 (k:Int)] 3)).blk (by decide));have z2:=zac KQ.out 2;have zf:=zag KQ.out 2;simp only [List.getElem?_toArray,List.getElem?_cons_zero,List.getElem?_cons_succ] at z2;clear hP6 hk6 hb6)
     go_roundw
     case rel => exact ⟨k + 1,_,_,_,_,_,_,_,_,by go_num,by omega,by have hh:=(HG2.out.alloc (.cells #[.int .i64 (k:Int)] 3)).pushP HP6.out HK6.out;rw [← zuY HRK.out];exact hh,((HW2.out.alloc (.cells #[.int .i64 (k:Int)] 3)).b.trans HB6.out).setCell (p:=⟨wb.heap.size,2,none⟩) (Nat.le_refl _) _⟩
     case measure => simp [intOf];omega
  ·obtain rfl:k = n:=by omega
   have HQ:=hid (show LuW wr wb.heap.size wb.heap.size k (zg4 k L) from by rw [← zrB HNL.out.symm];exact hG.toW (by rw [zrB HNL.out.symm];exact HGO.out.sq))
   have HBr:=hid hB
   clear hG hB hk hlt
   go_wp2
   go_loopw [61] (fun i wr => ∃ (c:Nat) (F:LUv),i = .int .i64 c ∧ c ≤ k ∧ LuW wr wb.heap.size wb.heap.size k F ∧ Going k s L c F ∧ Below wb.heap.size wb wr)
    (fun i _ => k - (intOf i).toNat)
   case atStart => exact ⟨0,_,rfl,Nat.zero_le _,HQ.out,HGO.out,HBr.out⟩
   case round =>
    rename World => wz
    obtain ⟨c,F,rfl,hc,hq,hg,hB⟩:=hrel
    have HQz:=hid hq
    have HGz:=hid hg
    have HBz:=hid hB
    clear hq hg hB
    by_cases hlt:c < k
    ·obtain ⟨u,hu1,hu2,hu3⟩:=HGz.out.sz
     have HU:=hid (And.intro hu1 hu3)
     have HL:=hid (show 24 * u + 8 ≤ LIM by have h1:=zIf hc hu2;have h2:=HCAP.out;omega)
     clear hu1 hu2 hu3
     have hi2:(c:Int) < (k:Int):=by omega
     go_wp2_with fail
     refine (Lu.step wb.heap.size wb.heap.size k u c F _ (HQz.out.1 (by omega)) HGz.out.sq HN.out hlt HU.out.2 HU.out.1 HL.out).mono ?_
     rintro e w2 (⟨hk2,rfl,hq2,hb2⟩ | ⟨hk2,rfl,hb2⟩)
     ·have HG2:=hid (HGz.out.next hlt hk2)
      have HQ2:=hid hq2
      have HB2:=hid (HBz.out.trans hb2)
      clear hk2 hq2 hb2
      go_wp2
      go_roundw
      case rel => exact ⟨c + 1,_,by go_num,by omega,⟨fun _ => HQ2.out,fun h => absurd h (by omega)⟩,HG2.out,HB2.out⟩
      case measure => simp [intOf];omega
     ·have HG2:=hid (HGz.out.stuck hlt hk2)
      have HB2:=hid (HBz.out.trans hb2)
      clear hk2 hb2
      go_wp2
      go_ret2
      exact .inr ⟨HG2.out,rfl,zbj.out.trans (HB2.out.mono HSZ.out)⟩
    ·obtain rfl:c = k:=by omega
     go_wp2
     go_ret2
     exact .inl ⟨F,_,HGz.out.done,rfl,(HQz.out.toS HGz.out.sq).base HSZ.out,zbj.out.trans (HBz.out.mono HSZ.out)⟩
end Lu
end Go.Proofs.YtdbgbaiekpbaoaaGreatDoor
