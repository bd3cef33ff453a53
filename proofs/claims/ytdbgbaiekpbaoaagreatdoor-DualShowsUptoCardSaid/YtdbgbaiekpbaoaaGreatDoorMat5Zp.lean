/- mat.Of by its contract;a row copied into a table. Conditions: as each says. mat.By by its contract. Conditions: as each says. mat.Rows,Cols,Row,Col by their contracts. Conditions: as each says. mat.Turned by its contract. Conditions: as it says. basis.Matrix by its contract. Conditions: as it says. Conditions: as they say. -/
import Derived.Test.YtdbgbaiekpbaoaaGreatDoorBasMemZp
set_option linter.all false
namespace Go.Proofs.YtdbgbaiekpbaoaaGreatDoor
open Go.RowKit Am
open Lib (hid)
attribute [local go_sem ↓] Go.wp_at_zero Go.wp_at_succ
set_option maxHeartbeats 4000000
set_option maxRecDepth 100000
theorem znQ (P:Program) (w:World) (dT sT ty elem:TypeId) (sz:Nat) (d a:Option Addr) (dLen dCap zKx sCap:Nat) (hu:P.underlying dT = some (.slice elem)) (hs:(P.info? elem).map (·.size) = some sz) (hn:Nat.min zKx dLen = 0) :
  (Builtin.copy_ #[dT,sT] ty #[.slice d dLen dCap, .slice a zKx sCap]).run P w = .ok (goInt 0) w:=by
 cases hq:P.info? elem with
 | none => simp [hq] at hs
 | some i =>
  have hl:∀ (x:Addr),(loadCells x 0).run P w = .ok #[] w:=fun x => by simpa using run_loadCells_list (P:=P) w x [] (by simp)
  cases d <;> cases a <;> simp [Builtin.copy_,run_underlying hu,Builtin.lenOf,Builtin.firstCells,sizeOf,typeInfo,hq,hn,storeCells,hl]
theorem VecS.cells {w:World} {H:Nat} {A:Option Addr} {n c:Nat} {qs:List Rat} (hv:VecS w H (.slice A n c) qs):∃ l:List RV,l.length = qs.length ∧ (∀ (k:Nat) (r:RV) (q:Rat),l[k]? = some r → qs[k]? = some q → RatS w r.1 r.2.1 r.2.2 q) ∧ w.ownsRow H 35 3 (.slice A n c) qs.length (rcells l) ∧
  (∀ u ∈ rcells l,u.oneCell' = true) ∧ ∀ g,A = some ⟨g,0,none⟩ → ∀ j u,(rcells l)[j]? = some u → w.cell? ((⟨g,0,none⟩:Addr).add j) = some u:=by
 obtain rfl:=hv.len
 obtain ⟨l,e1,e2,e3⟩:=hv.row
 refine ⟨l,e1,e2,e3,ziJ l fun r hr => ?_,fun g hg j u hu => ?_⟩
 ·obtain ⟨k,hk,hkr⟩:=List.getElem_of_mem hr
  have hk2:l[k]? = some r:=by rw [List.getElem?_eq_getElem hk,hkr]
  obtain ⟨q,hq⟩:∃ q,qs[k]? = some q:=⟨qs[k]'(by omega),List.getElem?_eq_getElem _⟩
  obtain ⟨A,m,c,D,md,cd,h1,h2⟩:=(e2 k r q hk2 hq).shape
  rw [h1,h2];exact ⟨rfl,rfl⟩
 ·subst hg
  have hj:=(List.getElem?_eq_some_iff.1 hu).1
  rw [zcC,e1] at hj
  rw [show (⟨g,0,none⟩:Addr).add j = ⟨g,j,none⟩ by unfold Addr.add;split <;> simp_all,e3.cellAt j hj];exact hu
theorem zwE {w:World} {H:Nat} {v:Value} {l:List Value} {L:List (List Rat)} (hL:VecsL w H v l L) (ha:zbG l) {k:Nat} {A:Option Addr} {n c:Nat} {r0:List Rat} (hl:l[k]? = some (.slice A n c)) (hr0:L[k]? = some r0) {H':Nat} {A':Option Addr} {c':Nat} {r:List Rat} (hr:VecS w H' (.slice A' n c') r) (ty:TypeId) :
  ∃ w',(Builtin.copy_ #[26,26] ty #[.slice A n c, .slice A' n c']).run Tryz.prog w = .ok (goInt n) w' ∧ VecsL w' H v l (L.set k r) ∧ TKeep 35 w w' ∧ ∀ B,B ≤ H → Below B w w':=by
 obtain ⟨i0,hi,_,hz1,_⟩:=info_parts ze0
 have hsz:(Tryz.prog.info? 35).map (·.size) = some 3:=by rw [hi];simp [hz1]
 have h0:=hL.each k _ _ hl hr0
 have n0:=h0.len
 have n1:=hr.len
 by_cases hn:n = 0
 ·have hrun:=znQ Tryz.prog w 26 26 ty 35 3 A A' n c n c' Tryz.underlying26 hsz (by rw [hn];rfl)
  refine ⟨w,by rw [hrun,hn];rfl,?_,fun _ _ _ => rfl,fun B _ => Below.refl _ _⟩
  have e:r = r0:=by rw [List.length_eq_zero_iff.1 (show r.length = 0 by omega),List.length_eq_zero_iff.1 (show r0.length = 0 by omega)]
  have : L.set k r = L:=by
   rw [e];apply List.ext_getElem?;intro i;rw [List.getElem?_set];split
   ·rename_i h;subst h;rw [if_pos (List.getElem?_eq_some_iff.1 hr0).1,hr0]
   ·rfl
  rw [this];exact hL
 ·obtain ⟨g,rfl,hg1,hg2⟩:=h0.has (by omega)
  obtain ⟨g',rfl,hg1',hg2'⟩:=hr.has (by omega)
  obtain ⟨lr,e1,e2,e3,e4,e5⟩:=hr.cells
  obtain ⟨l0,d1,_,d3⟩:=h0.row
  rcases d3.2 with ⟨hv,_⟩ | ⟨gg,cap,cur,hv,hgg,hh,hnc,hm,hsize,htake⟩
  ·cases hv
  ·injection hv with e6 e7 e8
   injection e6 with e6;injection e6 with e6
   subst e6
   have hrun:=zqx Tryz.prog w 26 26 ty 35 3 g 0 n c ⟨g',0,none⟩ n c' cur 35 (rcells lr) Tryz.underlying26 hsz hh (by rw [zcC,e1, ← n1];simp) (e5 g' rfl) (by rw [zcC,e1,hsize];omega) e4
   rw [show Nat.min n n = n from Nat.min_self n] at hrun
   subst e8
   refine ⟨_,hrun,?_,?_,?_⟩
   all_goals
    generalize hcs:(cur.toList.take 0 ++ rcells lr ++ cur.toList.drop (0 + (rcells lr).length)).toArray = cs'
   ·have far:∀ j,j ≠ g → (w.setRow g cs').heap[j]? = w.heap[j]?:=fun j hj => setRow_other w g j cs' hj
    have at_:(w.setRow g cs').heap[g]? = some (.cells cs' 35 (0,0)):=setRow_heap w g cur _ 35 _ hh
    have kp:zff w (w.setRow g cs'):=fun j _ hne => far j (by rintro rfl;exact hne _ hh)
    have hlr:(rcells lr).length = n * 3:=by rw [zcC,e1, ← n1]
    refine ⟨by rw [List.length_set];exact hL.len,fun j s' r' h1 h2 => ?_,by rw [List.length_set];exact zc9 hL.own fun j hj => far j fun e => za6 hL.own (e ▸ hh) (by decide) (e ▸ hj)⟩
    by_cases e:k = j
    ·subst e
     rw [List.getElem?_set_self (List.getElem?_eq_some_iff.1 hr0).1] at h2
     injection h2 with h2;subst h2
     rw [hl] at h1;injection h1 with h1;subst h1
     refine ⟨lr,e1,fun i x q a b => (e2 i x q a b).keepT kp,by rw [hlr,n1], .inr ⟨g,c,cs',by rw [n1],hgg,at_,by omega,hm,?_,?_⟩⟩
     ·rw [← hcs];simp;omega
     ·rw [← hcs, ← n1, ← hlr];simp
    ·rw [List.getElem?_set_ne e] at h2
     exact (hL.each j s' r' h1 h2).keepAll (fun x hx => far x fun e3 => e (ha k j _ _ g hl h1 rfl (by rw [hx,e3]))) fun _ _ _ _ r => r.keepT kp
   ·exact fun j _ hne => setRow_other w g j cs' (by rintro rfl;exact hne _ hh)
   ·exact fun B hB => below_setRow (Below.refl _ _) (by omega) cs'
def zsE (L:List (List Rat)) (c k:Nat):List (List Rat):=L.take k ++ noughts (L.length - k) c
theorem zu2 (L:List (List Rat)) (c:Nat):zsE L c 0 = noughts L.length c:=by simp [zsE]
theorem zxm (L:List (List Rat)) (c:Nat):zsE L c L.length = L:=by simp [zsE,noughts]
theorem zrE {L:List (List Rat)} {c k:Nat} (h:k < L.length):(zsE L c k)[k]? = some (List.replicate c 0):=by
 unfold zsE noughts
 rw [List.getElem?_append_right (by rw [List.length_take];omega),List.length_take,Nat.min_eq_left (Nat.le_of_lt h),Nat.sub_self,List.getElem?_replicate,if_pos (by omega)]
theorem zu1 {L:List (List Rat)} {c k:Nat} {r:List Rat} (h:L[k]? = some r):(zsE L c k).set k r = zsE L c (k + 1):=by
 have hk:=(List.getElem?_eq_some_iff.1 h).1
 unfold zsE noughts
 rw [List.set_append,if_neg (by rw [List.length_take];omega),List.take_add_one,h,List.length_take,Nat.min_eq_left (Nat.le_of_lt hk),Nat.sub_self,show L.length - k = (L.length - (k + 1)) + 1 by omega,List.replicate_succ]
 simp
namespace Mt
theorem of (n c:Nat) (hn:n ≤ 64) (hc:c ≤ 64) (R:Option Addr) (cR:Nat) (l0:List Value) (L:List (List Rat)) (H0:Nat) (w:World) (h:VecsL w H0 (.slice R n cR) l0 L) (hL:∀ r ∈ L,r.length = c) :
  Calls Tryz.prog 72 #[.int .i64 (c:Int), .slice R n cR] w (zsR w n L c):=by
 have HN:=hid hn
 have HC:=hid hc
 have HLL:=hid hL
 have HNL:=hid h.nlen
 have hnb:n ≤ 9223372036854775807:=by omega
 clear hn hc hL
 obtain ⟨W,hW⟩:∃ W,(w.alloc (.cells #[.slice none 0 0, .int .i64 0] 64)) = W:=⟨_,rfl⟩
 have KB0:=hid (show W.heap[w.heap.size]? = some (.cells #[.slice none 0 0, .int .i64 0] 64 (0,0)) by rw [← hW];exact zam (by simp))
 have BB:=hid (show Below w.heap.size w W by rw [← hW];exact zae w _)
 have HZ:=hid (show w.heap.size + 1 ≤ W.heap.size by rw [← hW];simp)
 have HR:=hid (show VecsL W H0 (.slice R n cR) l0 L by rw [← hW];exact (h).alloc _)
 clear h
 go_enter Tryz.func72,Tryz.ntmps72
 go_wp2_with fail
 clear hW
 with_reducible refine (new n c HN.out HC.out _).mono ?_
 rintro e w1 ⟨A,cA,l1,rfl,hv,ha,hb⟩
 have zaq:=hid (show (w1.alloc (.cells #[.slice A n cA, .int .i64 (c:Int)] 64)).heap[w.heap.size]? = some (.cells #[.slice none 0 0, .int .i64 0] 64 (0,0)) from zak (zad hb KB0.out))
 have HM:=hid (show VecsL (w1.alloc (.cells #[.slice A n cA, .int .i64 (c:Int)] 64)) W.heap.size (.slice A n cA) l1 (noughts n c) from (hv).alloc _)
 have za0:=hid (show (w1.alloc (.cells #[.slice A n cA, .int .i64 (c:Int)] 64)).heap[w1.heap.size]? = some (.cells #[.slice A n cA, .int .i64 (c:Int)] 64 (0,0)) from zam (by simp))
 obtain ⟨zaI,zat,zbM,zbl,zaJ,zau,zbN,zbm⟩:=bf2 zaq.out
 obtain ⟨zbe,zaW,zbs,za9⟩:=bc2 za0.out
 have HA:=hid ha
 have HBW:=hid hb
 have hzw:W.heap.size ≤ w1.heap.size:=hb.size
 clear hv ha hb
 go_wp2
 go_loopw [22] (fun i wr => ∃ k:Nat,i = .int .i64 k ∧ k ≤ n ∧ wr.heap[w1.heap.size]? = some (.cells #[.slice A n cA, .int .i64 (c:Int)] 64 (0,0)) ∧ VecsL wr W.heap.size (.slice A n cA) l1 (zsE L c k) ∧ Below W.heap.size W wr)
  (fun i _ => n - (intOf i).toNat)
 case atStart => exact ⟨0,rfl,Nat.zero_le _,zal _ _ _,by rw [zu2, ← HNL.out];exact HM.out,HBW.out.alloc hzw _⟩
 case round =>
  obtain ⟨k,rfl,hk,hbox,hv,hB⟩:=hrel
  have hz0:=HZ.out
  by_cases hlt:k < n
  ·obtain ⟨r,hr⟩:∃ r,L[k]? = some r:=⟨L[k]'(by rw [← HNL.out];exact hlt),List.getElem?_eq_getElem _⟩
   have hrl:r.length = c:=HLL.out r (List.mem_of_getElem? hr)
   obtain ⟨bR,rfl,_,_⟩:=HR.out.has (by omega)
   obtain ⟨Ar,cr,_,k0,hVr⟩:=(HR.out.below hB).at_ hr
   rw [hrl] at k0 hVr
   obtain ⟨bA,rfl,_,_⟩:=hv.has (by omega)
   obtain ⟨Ak,ck,hlk,m0,_⟩:=hv.at_ (zrE (c:=c) (by rw [← HNL.out];exact hlt))
   rw [List.length_replicate] at hlk m0
   have zaD:=hid (zad hB KB0.out)
   have HVr:=hid (show VecS wr H0 (.slice Ar c cr) r from hVr)
   have HV:=hid (show VecsL wr W.heap.size (.slice (some ⟨bA,0,none⟩) n cA) l1 (zsE L c k) from hv)
   have HW:=hid (show Bel W wr from Bel.mk hB)
   have zbj:=hid (BB.out.trans ((hB).mono BB.out.size))
   obtain ⟨zaU,zaE,zcN,_,zaV,zaF,zcP,_⟩:=bf2 zaD.out
   have zcX:wr.cell? ⟨bR,k,none⟩ = some (.slice Ar c cr):=k0
   have zdq:wr.cell? ⟨bA,k,none⟩ = some (.slice Ak c ck):=m0
   have KBO:=hid hbox
   obtain ⟨zaU,zaE,zcN,_,zaV,zaF,zcP,_⟩:=bf2 zaD.out
   obtain ⟨zbi,_,_,_,zbp,_⟩:=bf2 KBO.out
   have zcX:=k0
   have zdq:=m0
   have HLK:=hid hlk
   have HGET:=hid hr
   have HMG:=hid (zrE (c:=c) (show k < L.length by rw [← HNL.out];exact hlt))
   clear hbox hv hB hVr hr hrl k0 m0 hlk
   have hi1:(0:Int) ≤ (k:Int):=Int.natCast_nonneg _
   have hi2:(k:Int) < (n:Int):=by omega
   obtain ⟨w3,hrun,hv3,hk3,hb3⟩:=zwE HV.out HA.out HLK.out HMG.out HVr.out 3
   have HV3:=hid hv3
   have KB3:=hid (hk3.blk KBO.out (by decide))
   have HW3:=hid (HW.out.b.trans (hb3 _ (Nat.le_refl _)))
   clear hv3 hk3 hb3
   go_wp2
   go_roundw
   case rel => exact ⟨k + 1,by go_num,by omega,KB3.out,by rw [← zu1 HGET.out];exact HV3.out,HW3.out⟩
   case measure => simp [intOf];omega
  ·obtain rfl:k = n:=by omega
   have zaD:=hid (zad hB KB0.out)
   have HV:=hid (show VecsL wr W.heap.size (.slice A k cA) l1 (zsE L c k) from hv)
   have zbj:=hid (BB.out.trans ((hB).mono BB.out.size))
   obtain ⟨zaU,zaE,zcN,_,zaV,zaF,zcP,_⟩:=bf2 zaD.out
   have KBO:=hid hbox
   obtain ⟨zaU,zaE,zcN,_,zaV,zaF,zcP,_⟩:=bf2 zaD.out
   obtain ⟨zbi,_,zbp,_⟩:=bc2 KBO.out
   clear hbox hv hB
   go_wp2
   refine bodyPost_ret (v := .tuple #[.agg #[.slice A k cA, .int .i64 (c:Int)], .bool true]) (by simp [results,Tryz.results72,go_sem,zaU,zaE,zaV,zaF]) rfl ?_
   have h0:=HV.out
   rw [HNL.out,zxm, ← HNL.out] at h0
   have h1:=((h0.base (show w.heap.size ≤ W.heap.size by omega)).tk (TKeep.set (o:=0) zaD.out (.slice A k cA)) (by decide) (by decide) (by decide)).tk (TKeep.set (o:=1) (zar _ zaD.out) (.int .i64 (c:Int))) (by decide) (by decide) (by decide)
   exact ⟨A,cA,l1,rfl,h1,HA.out,Below.setCell (Below.setCell (zbj.out) (p:=⟨w.heap.size,0,none⟩) (by show w.heap.size ≤ w.heap.size;omega) _) (p:=⟨w.heap.size,1,none⟩) (by show w.heap.size ≤ w.heap.size;omega) _⟩
end Mt
namespace Mt
theorem by_ (N n cR:Nat) (R:Option Addr) (l0:List Value) (L:List (List Rat)) (H0:Nat) (A:Option Addr) (ny cy:Nat) (y:List Rat) (H1:Nat) (S T:Nat) (w:World) (h:VecsL w H0 (.slice R n cR) l0 L) (hL:∀ r ∈ L,r.length = N) (hy:VecS w H1 (.slice A n cy) y) (hn:n ≤ 64) (hN:N ≤ 64) (zL:∀ r ∈ L, ∀ q ∈ r,mw q ≤ T) (zy:∀ q ∈ y,mw q ≤ S) (h1:1 ≤ S) (h2:1 ≤ T) (hB:12 * (64 * (S + T + 1) + 1) + 8 ≤ LIM) :
  Calls Tryz.prog 88 #[.agg #[.slice R n cR, .int .i64 (N:Int)], .slice A n cy] w (zcd w (byL N L y) true):=by
 have HN:=hid hn
 have HC:=hid hN
 have HLL:=hid hL
 have HNL:=hid h.nlen
 have HNY:=hid hy.len
 have ZL:=hid zL
 have ZY:=hid zy
 have HMW:=hid (zu8 (N:=N) zy zL h1 h2)
 have HBB:=hid hB
 have hnb:n ≤ 9223372036854775807:=by omega
 clear hn hN hL zL zy hB h1 h2
 obtain ⟨W,hW⟩:∃ W,(w.alloc (.cells #[.slice R n cR, .int .i64 (N:Int)] 64)) = W:=⟨_,rfl⟩
 have KB0:=hid (show W.heap[w.heap.size]? = some (.cells #[.slice R n cR, .int .i64 (N:Int)] 64 (0,0)) by rw [← hW];exact zam (by simp))
 have BB:=hid (show Below w.heap.size w W by rw [← hW];exact zae w _)
 have HZ:=hid (show w.heap.size + 1 ≤ W.heap.size by rw [← hW];simp)
 have HR:=hid (show VecsL W H0 (.slice R n cR) l0 L by rw [← hW];exact (h).alloc _)
 have HY:=hid (show VecS W H1 (.slice A n cy) y by rw [← hW];exact (hy).alloc _)
 obtain ⟨zaK,zaz,zaL,zaA⟩:=bc2 KB0.out
 clear h hy
 go_enter Tryz.func88,Tryz.ntmps88
 go_wp2_with (at_make;go_must (refine zdv rfl _ _ rfl N _ rfl rfl rfl (by have:=HC.out;omega) W.heap.size rfl ?_;intro w1 ho hb1;have q0:=zab hb1 zaK;have q1:=zab hb1 zaL;have HO:=hid ho;have HB1:=hid hb1;clear ho hb1))
 clear hW
 go_loopw [6,21] (fun ov i wr => ∃ (k:Nat) (B:Option Addr) (cB:Nat),i = .int .i64 k ∧ ov = .slice B N cB ∧ k ≤ n ∧ VecS wr W.heap.size (.slice B N cB) (zph N L y k) ∧ Below W.heap.size W wr)
  (fun _ i _ => n - (intOf i).toNat)
 case atStart => exact ⟨0,_,_,rfl,rfl,Nat.zero_le _,by rw [zt5];exact HO.out,HB1.out⟩
 case round =>
  obtain ⟨k,B,cB,rfl,rfl,hk,hv,hB⟩:=hrel
  have hz0:=HZ.out
  by_cases hlt:k < n
  ·obtain ⟨r,hr⟩:∃ r,L[k]? = some r:=⟨L[k]'(by rw [← HNL.out];exact hlt),List.getElem?_eq_getElem _⟩
   obtain ⟨q,hq⟩:∃ q,y[k]? = some q:=⟨y[k]'(by rw [← HNY.out];exact hlt),List.getElem?_eq_getElem _⟩
   have hrl:r.length = N:=HLL.out r (List.mem_of_getElem? hr)
   obtain ⟨bR,rfl,_,_⟩:=HR.out.has (by omega)
   obtain ⟨bY,rfl,_,_⟩:=HY.out.has (by omega)
   obtain ⟨Ar,cr,_,k0,hVr⟩:=(HR.out.below hB).at_ hr
   rw [hrl] at k0 hVr
   obtain ⟨ga,Aa,ma,ca,Da,mda,cda,l0,l1,l2,hRa⟩:=(HY.out.below hB).at_ hq
   have zaq:=hid (zad hB KB0.out)
   have HVr:=hid (show VecS wr H0 (.slice Ar N cr) r from hVr)
   have HQ:=hid (show RatS wr ga (.slice Aa ma ca) (.slice Da mda cda) q from hRa)
   have HV:=hid (show VecS wr W.heap.size (.slice B N cB) (zph N L y k) from hv)
   have HW:=hid (show Bel W wr from Bel.mk hB)
   obtain ⟨_,_,zaJ,zau⟩:=bc2 zaq.out
   have zbJ:wr.cell? ⟨bR,k,none⟩ = some (.slice Ar N cr):=k0
   have x0_1d:=zaa zbJ
   have zbY:wr.cell? ⟨bY,k * 3,none⟩ = some (.bool ga):=l0
   have zcb:wr.cell? ⟨bY,k * 3 + 1,none⟩ = some (.slice Aa ma ca):=l1
   have zd7:wr.cell? ⟨bY,k * 3 + 2,none⟩ = some (.slice Da mda cda):=l2
   have HL1:=hid (show (zph N L y k).length = r.length by rw [zhm,hrl])
   have HST:=hid (zt4 hr hq hrl)
   have HZX:=hid (show ∀ q ∈ zph N L y k,mw q ≤ 64 * (S + T + 1) + 1 from fun q hq => Nat.le_trans (HMW.out k q hq) (by have:=HN.out;have:=Nat.mul_le_mul_right (S + T + 1) (show k ≤ 64 by omega);omega))
   have HZQ:=hid (show mw q ≤ 64 * (S + T + 1) + 1 from Nat.le_trans (ZY.out q (List.mem_of_getElem? hq)) (by omega))
   have HZR:=hid (show ∀ q ∈ r,mw q ≤ 64 * (S + T + 1) + 1 from fun q hq => Nat.le_trans (ZL.out r (List.mem_of_getElem? hr) q hq) (by omega))
   clear hv hB hVr hr hq hrl hRa k0 l0 l1 l2
   have hi1:(0:Int) ≤ (k:Int):=Int.natCast_nonneg _
   have hi2:(k:Int) < (n:Int):=by omega
   go_wp2_with fail
   with_reducible refine (Vc.addTimesS (64 * (S + T + 1) + 1) HBB.out B N cB (zph N L y k) ga Aa ma ca Da mda cda q Ar N cr r W.heap.size H0 _ HV.out HQ.out HVr.out HL1.out (by have:=HC.out;omega) HZX.out HZQ.out HZR.out).mono ?_
   rintro e w3 ⟨B3,n3,c3,rfl,hv3,hb3⟩
   have zaD:=hid (zad hb3 zaq.out)
   have zn7:=hid (HW.out.below hb3)
   have HV3:=hid (show VecS w3 W.heap.size (.slice B3 n3 c3) (zly (zph N L y k) q r) from (hv3.base HW.out.b.size))
   obtain ⟨_,_,zaV,zaF⟩:=bc2 zaD.out
   have zcX:=zab hb3 zbJ
   have x0_2d:=zaa zcX
   clear hv3 hb3
   obtain rfl:n3 = N:=by rw [HV3.out.len,zdt HL1.out,zhm]
   go_wp2
   go_roundw
   case rel => exact ⟨k + 1,B3,c3,by go_num,rfl,by omega,by rw [← HST.out];exact HV3.out,zn7.out.b⟩
   case measure => simp [intOf];omega
  ·obtain rfl:k = n:=by omega
   have HV:=hid hv
   have HBf:=hid (BB.out.trans (hB.mono BB.out.size))
   clear hv hB
   go_wp2
   refine bodyPost_ret (v := .tuple #[.slice B N cB, .bool true]) (by simp [results,Tryz.results88,go_sem]) rfl ?_
   exact ⟨_,_,_,rfl,by rw [← zq8, ← HNL.out];exact HV.out.base (by omega),HBf.out⟩
end Mt
theorem zou {L:List (List Rat)} {j k:Nat} {r:List Rat} {q:Rat} (hr:L[k]? = some r) (hq:r[j]? = some q):(zb4 L j)[k]? = some q:=by
 unfold zb4;rw [List.getElem?_map,hr];simp [znd hq]
namespace Mt
theorem rows (N n cR:Nat) (R:Option Addr) (w:World):Calls Tryz.prog 73 #[.agg #[.slice R n cR, .int .i64 (N:Int)]] w fun e w' => e = .returned (.int .i64 (n:Int)) ∧ Below w.heap.size w w':=by
 obtain ⟨W,hW⟩:∃ W,(w.alloc (.cells #[.slice R n cR, .int .i64 (N:Int)] 64)) = W:=⟨_,rfl⟩
 have KB0:=hid (show W.heap[w.heap.size]? = some (.cells #[.slice R n cR, .int .i64 (N:Int)] 64 (0,0)) by rw [← hW];exact zam (by simp))
 have BB:=hid (show Below w.heap.size w W by rw [← hW];exact zae w _)
 obtain ⟨zaK,_⟩:=bc2 KB0.out
 go_enter Tryz.func73,Tryz.ntmps73
 go_wp2_with fail
 clear hW
 go_ret
 exact ⟨rfl,BB.out⟩
theorem cols (N n cR:Nat) (R:Option Addr) (w:World):Calls Tryz.prog 125 #[.agg #[.slice R n cR, .int .i64 (N:Int)]] w fun e w' => e = .returned (.int .i64 (N:Int)) ∧ Below w.heap.size w w':=by
 obtain ⟨W,hW⟩:∃ W,(w.alloc (.cells #[.slice R n cR, .int .i64 (N:Int)] 64)) = W:=⟨_,rfl⟩
 have KB0:=hid (show W.heap[w.heap.size]? = some (.cells #[.slice R n cR, .int .i64 (N:Int)] 64 (0,0)) by rw [← hW];exact zam (by simp))
 have BB:=hid (show Below w.heap.size w W by rw [← hW];exact zae w _)
 obtain ⟨_,_,zaL,_⟩:=bc2 KB0.out
 go_enter Tryz.func125,Tryz.ntmps125
 go_wp2_with fail
 clear hW
 go_ret
 exact ⟨rfl,BB.out⟩
theorem row (N n cR:Nat) (R:Option Addr) (l0:List Value) (L:List (List Rat)) (H0:Nat) (k:Nat) (r:List Rat) (w:World) (h:VecsL w H0 (.slice R n cR) l0 L) (hr:L[k]? = some r) (hl:r.length = N) (hN:N ≤ 64) (hn:n ≤ 64) :
  Calls Tryz.prog 146 #[.agg #[.slice R n cR, .int .i64 (N:Int)], .int .i64 (k:Int)] w fun e w' => ∃ (A':Option Addr) (c':Nat),e = .returned (.tuple #[.slice A' N c', .bool true]) ∧ VecS w' w.heap.size (.slice A' N c') r ∧ Below w.heap.size w w':=by
 have hk:=(List.getElem?_eq_some_iff.1 hr).1
 have hnl:=h.nlen
 have hi1:(0:Int) ≤ (k:Int):=Int.natCast_nonneg _
 have hi2:(k:Int) < (n:Int):=by omega
 have h1:decide ((k:Int) < 0) = false:=by simp
 have h2:decide ((n:Int) ≤ (k:Int)) = false:=by simp;omega
 obtain ⟨bR,rfl,_,_⟩:=h.has (by omega)
 obtain ⟨Ar,cr,_,k0,hVr⟩:=h.at_ hr
 rw [hl] at k0 hVr
 have HN:=hid hN
 obtain ⟨W,hW⟩:∃ W,(w.alloc (.cells #[.slice (some ⟨bR,0,none⟩) n cR, .int .i64 (N:Int)] 64)) = W:=⟨_,rfl⟩
 have KB0:=hid (show W.heap[w.heap.size]? = some (.cells #[.slice (some ⟨bR,0,none⟩) n cR, .int .i64 (N:Int)] 64 (0,0)) by rw [← hW];exact zam (by simp))
 have BB:=hid (show Below w.heap.size w W by rw [← hW];exact zae w _)
 have HZ:=hid (show w.heap.size + 1 ≤ W.heap.size by rw [← hW];simp)
 have HV:=hid (show VecS W H0 (.slice Ar N cr) r by rw [← hW];exact (hVr).alloc _)
 obtain ⟨zaK,_⟩:=bc2 KB0.out
 have x0:W.cell? ⟨bR,k,none⟩ = some (.slice Ar N cr):=by rw [← hW];exact cell_al k0
 clear h hr hl hN hn hnl hVr k0
 go_enter Tryz.func146,Tryz.ntmps146
 go_wp2_with fail
 clear hW
 with_reducible refine (Vc.copy Ar N cr r H0 _ HV.out (by have:=HN.out;omega)).mono ?_
 rintro e w1 ⟨A2,c2,rfl,hv2,hb⟩
 have HO:=hid (show VecS w1 W.heap.size (.slice A2 N c2) r from hv2)
 have zaQ:=hid (BB.out.trans ((hb).mono BB.out.size))
 clear hv2 hb
 go_wp2
 refine bodyPost_ret (v := .tuple #[.slice A2 N c2, .bool true]) (by simp [results,Tryz.results146,go_sem]) rfl ?_
 exact ⟨_,_,rfl,HO.out.base (by have:=HZ.out;omega),zaQ.out⟩
theorem col (N n cR:Nat) (R:Option Addr) (l0:List Value) (L:List (List Rat)) (H0:Nat) (j:Nat) (w:World) (h:VecsL w H0 (.slice R n cR) l0 L) (hL:∀ r ∈ L,r.length = N) (hj:j < N) (hN:N ≤ 64) (hn:n ≤ 64) :
  Calls Tryz.prog 74 #[.agg #[.slice R n cR, .int .i64 (N:Int)], .int .i64 (j:Int)] w (zcd w (zb4 L j) true):=by
 have hi1:(0:Int) ≤ (j:Int):=Int.natCast_nonneg _
 have hi2:(j:Int) < (N:Int):=by omega
 have h1:decide ((j:Int) < 0) = false:=by simp
 have h2:decide ((N:Int) ≤ (j:Int)) = false:=by simp;omega
 have HN:=hid hn
 have HLL:=hid hL
 have HNL:=hid h.nlen
 have hnb:n ≤ 9223372036854775807:=by omega
 clear hn hN hL
 obtain ⟨W,hW⟩:∃ W,(w.alloc (.cells #[.slice R n cR, .int .i64 (N:Int)] 64)) = W:=⟨_,rfl⟩
 have KB0:=hid (show W.heap[w.heap.size]? = some (.cells #[.slice R n cR, .int .i64 (N:Int)] 64 (0,0)) by rw [← hW];exact zam (by simp))
 have BB:=hid (show Below w.heap.size w W by rw [← hW];exact zae w _)
 have HZ:=hid (show w.heap.size + 1 ≤ W.heap.size by rw [← hW];simp)
 have HR:=hid (show VecsL W H0 (.slice R n cR) l0 L by rw [← hW];exact (h).alloc _)
 obtain ⟨zaK,zaz,zaL,_⟩:=bc2 KB0.out
 clear h
 go_enter Tryz.func74,Tryz.ntmps74
 go_wp2_with (at_make;go_must (refine zdv rfl _ _ rfl n _ rfl rfl rfl (by have:=HN.out;omega) W.heap.size rfl ?_;intro w1 ho hb1;have q0:=zab hb1 zaK;have HO:=hid ho;have HB1:=hid hb1;clear ho hb1))
 clear hW
 go_loopw [24] (fun i wr => ∃ k:Nat,i = .int .i64 k ∧ k ≤ n ∧ VecS wr W.heap.size (.slice (some ⟨W.heap.size,0,none⟩) n n) (mix (zb4 L j) k) ∧ Below W.heap.size W wr)
  (fun i _ => n - (intOf i).toNat)
 case atStart => exact ⟨0,rfl,Nat.zero_le _,by rw [zhW,zbH, ← HNL.out];exact HO.out,HB1.out⟩
 case round =>
  obtain ⟨k,rfl,hk,hv,hB⟩:=hrel
  have hz0:=HZ.out
  by_cases hlt:k < n
  ·obtain ⟨r,hr⟩:∃ r,L[k]? = some r:=⟨L[k]'(by rw [← HNL.out];exact hlt),List.getElem?_eq_getElem _⟩
   have hrl:r.length = N:=HLL.out r (List.mem_of_getElem? hr)
   obtain ⟨q,hq⟩:∃ q,r[j]? = some q:=⟨r[j]'(by omega),List.getElem?_eq_getElem _⟩
   obtain ⟨bR,rfl,_,_⟩:=HR.out.has (by omega)
   obtain ⟨Ar,cr,_,k0,hVr⟩:=(HR.out.below hB).at_ hr
   rw [hrl] at k0 hVr
   obtain ⟨br,rfl,_,_⟩:=hVr.has (by omega)
   obtain ⟨ga,Aa,ma,ca,Da,mda,cda,l0,l1,l2,hRa⟩:=hVr.at_ hq
   have hmx:(mix (zb4 L j) k)[k]? = some 0:=zld (by rw [zbH, ← HNL.out];exact hlt)
   obtain ⟨go,Ao,mo,co,Do,mdo,cdo,o0,o1,o2,_⟩:=hv.at_ hmx
   have of0:=hv.fro (k * 3)
   have of1:=hv.fro (k * 3 + 1)
   have of2:=hv.fro (k * 3 + 2)
   have HQ:=hid (show RatS wr ga (.slice Aa ma ca) (.slice Da mda cda) q from hRa)
   have HV:=hid (show VecS wr W.heap.size (.slice (some ⟨W.heap.size,0,none⟩) n n) (mix (zb4 L j) k) from hv)
   have HW:=hid (show Bel W wr from Bel.mk hB)
   have zbJ:wr.cell? ⟨bR,k,none⟩ = some (.slice (some ⟨br,0,none⟩) N cr):=k0
   have zbY:wr.cell? ⟨br,j * 3,none⟩ = some (.bool ga):=l0
   have zcb:wr.cell? ⟨br,j * 3 + 1,none⟩ = some (.slice Aa ma ca):=l1
   have zd7:wr.cell? ⟨br,j * 3 + 2,none⟩ = some (.slice Da mda cda):=l2
   have HST:=hid (zhV (zou hr hq))
   clear hv hB hVr hr hq hrl hRa hmx k0 l0 l1 l2
   have hi3:(0:Int) ≤ (k:Int):=Int.natCast_nonneg _
   have hi4:(k:Int) < (n:Int):=by omega
   go_wp2
   go_roundw
   case rel => exact ⟨k + 1,by go_num,by omega,by rw [← HST.out];exact HV.out.store k HQ.out,(Bel.set3 HW.out (Nat.le_refl _) _ _ _).b⟩
   case measure => simp [intOf];omega
  ·obtain rfl:k = n:=by omega
   have HV:=hid hv
   have HBf:=hid (BB.out.trans (hB.mono BB.out.size))
   clear hv hB
   go_wp2
   refine bodyPost_ret (v := .tuple #[.slice (some ⟨W.heap.size,0,none⟩) k k, .bool true]) (by simp [results,Tryz.results74,go_sem]) rfl ?_
   have hh:=HV.out
   have e1:k = (zb4 L j).length:=by rw [zbH];exact HNL.out
   rw [show mix (zb4 L j) k = zb4 L j by rw [e1,zlc]] at hh
   exact ⟨_,_,_,rfl,hh.base (by omega),HBf.out⟩
end Mt
def zn8 (N:Nat) (L:List (List Rat)) (r c:Nat):List (List Rat):=(List.range N).map fun i => mix (zb4 L i) (if i < c then r + 1 else r)
theorem znU (N:Nat) (L:List (List Rat)) (r c:Nat):(zn8 N L r c).length = N:=by simp [zn8]
theorem zA0 {xs:List Rat} {k:Nat} (h:k ≤ xs.length):(mix xs k).length = xs.length:=by unfold mix;simp;omega
theorem zh7 {N:Nat} {L:List (List Rat)} {r c i:Nat} (h:i < N):(zn8 N L r c)[i]? = some (mix (zb4 L i) (if i < c then r + 1 else r)):=by
 unfold zn8;rw [List.getElem?_map,List.getElem?_range h];rfl
theorem zvy (N:Nat) (L:List (List Rat)):zn8 N L 0 0 = noughts N L.length:=by
 unfold zn8 noughts
 apply List.ext_getElem?
 intro i
 rw [List.getElem?_map,List.getElem?_replicate]
 by_cases h:i < N
 ·rw [List.getElem?_range h,if_pos h];simp [zhW,zbH]
 ·rw [List.getElem?_eq_none (by simpa using h),if_neg h];rfl
theorem zvx (N:Nat) (L:List (List Rat)) (r:Nat):zn8 N L r N = zn8 N L (r + 1) 0:=by
 unfold zn8;refine List.map_congr_left fun i hi => ?_
 rw [if_pos (by simpa using hi),if_neg (by omega)]
theorem zxK (N:Nat) (L:List (List Rat)):zn8 N L L.length 0 = zcZ N L:=by
 unfold zn8 zcZ;refine List.map_congr_left fun i _ => ?_
 rw [if_neg (by omega)]
 have:=zlc (zb4 L i);rw [zbH] at this;rw [this];rfl
theorem zxL {N:Nat} {L:List (List Rat)} {r c:Nat} {x:List Rat} {q:Rat} (hc:c < N) (hr:L[r]? = some x) (hq:x[c]? = some q):(zn8 N L r c).set c ((mix (zb4 L c) r).set r q) = zn8 N L r (c + 1):=by
 rw [zhV (zou hr hq)]
 apply List.ext_getElem?
 intro i
 rw [List.getElem?_set]
 by_cases e:c = i
 ·subst e
  rw [if_pos rfl,if_pos (by rw [znU];exact hc),zh7 hc,if_pos (by omega)]
 ·rw [if_neg e]
  by_cases h:i < N
  ·rw [zh7 h,zh7 h]
   by_cases h2:i < c
   ·rw [if_pos h2,if_pos (by omega)]
   ·rw [if_neg h2,if_neg (by omega)]
  ·rw [List.getElem?_eq_none (by rw [znU];omega),List.getElem?_eq_none (by rw [znU];omega)]
namespace Mt
theorem turned (N n cR:Nat) (R:Option Addr) (l0:List Value) (L:List (List Rat)) (H0:Nat) (w:World) (h:VecsL w H0 (.slice R n cR) l0 L) (hL:∀ r ∈ L,r.length = N) (hN:N ≤ 64) (hn:n ≤ 64) :
  Calls Tryz.prog 181 #[.agg #[.slice R n cR, .int .i64 (N:Int)]] w (zx4 w N (zcZ N L) n):=by
 have HN:=hid hn
 have HC:=hid hN
 have HLL:=hid hL
 have HNL:=hid h.nlen
 have hnb:n ≤ 9223372036854775807:=by omega
 have hNb:N ≤ 9223372036854775807:=by omega
 clear hn hN hL
 obtain ⟨W,hW⟩:∃ W,((w.alloc (.cells #[.slice R n cR, .int .i64 (N:Int)] 64)).alloc (.cells #[.slice none 0 0, .int .i64 0] 64)) = W:=⟨_,rfl⟩
 have KB0:=hid (show W.heap[w.heap.size]? = some (.cells #[.slice R n cR, .int .i64 (N:Int)] 64 (0,0)) by rw [← hW];exact zak (zam (by simp)))
 have KB1:=hid (show W.heap[w.heap.size + 1]? = some (.cells #[.slice none 0 0, .int .i64 0] 64 (0,0)) by rw [← hW];exact zam (by simp))
 have BB:=hid (show Below w.heap.size w W by rw [← hW];exact (zae w _).alloc (by simp) _)
 have HZ:=hid (show w.heap.size + 2 ≤ W.heap.size by rw [← hW];simp)
 have HR:=hid (show VecsL W H0 (.slice R n cR) l0 L by rw [← hW];exact ((h).alloc _).alloc _)
 obtain ⟨zaK,zaz,zaL,_⟩:=bc2 KB0.out
 clear h
 go_enter Tryz.func181,Tryz.ntmps181
 go_wp2_with fail
 clear hW
 with_reducible refine (new N n HC.out HN.out _).mono ?_
 rintro e w1 ⟨A,cA,l1,rfl,hv,ha,hb⟩
 have zaq:=hid (show (w1.alloc (.cells #[.slice A N cA, .int .i64 (n:Int)] 64)).heap[w.heap.size]? = some (.cells #[.slice R n cR, .int .i64 (N:Int)] 64 (0,0)) from zak (zad hb KB0.out))
 have za0:=hid (show (w1.alloc (.cells #[.slice A N cA, .int .i64 (n:Int)] 64)).heap[w.heap.size + 1]? = some (.cells #[.slice none 0 0, .int .i64 0] 64 (0,0)) from zak (zad hb KB1.out))
 have HM:=hid (show VecsL (w1.alloc (.cells #[.slice A N cA, .int .i64 (n:Int)] 64)) W.heap.size (.slice A N cA) l1 (noughts N n) from (hv).alloc _)
 have zcu:=hid (show (w1.alloc (.cells #[.slice A N cA, .int .i64 (n:Int)] 64)).heap[w1.heap.size]? = some (.cells #[.slice A N cA, .int .i64 (n:Int)] 64 (0,0)) from zam (by simp))
 obtain ⟨zaI,zat,zaJ,zau⟩:=bc2 zaq.out
 obtain ⟨zbe,zaW,zcf,zbA,zbs,za9,zcR,zbS⟩:=bf2 za0.out
 obtain ⟨zdT,zcK,zdU,zcL⟩:=bc2 zcu.out
 have HA:=hid ha
 have HBW:=hid hb
 have hzw:W.heap.size ≤ w1.heap.size:=hb.size
 clear hv ha hb
 go_wp2
 go_loopw [19] (fun i wr => ∃ t:Nat,i = .int .i64 t ∧ t ≤ n ∧ wr.heap[w1.heap.size]? = some (.cells #[.slice A N cA, .int .i64 (n:Int)] 64 (0,0)) ∧ VecsL wr W.heap.size (.slice A N cA) l1 (zn8 N L t 0) ∧ Below W.heap.size W wr)
  (fun i _ => n - (intOf i).toNat)
 case atStart => exact ⟨0,rfl,Nat.zero_le _,zal _ _ _,by rw [zvy, ← HNL.out];exact HM.out,HBW.out.alloc hzw _⟩
 case round =>
  obtain ⟨t,rfl,ht,hbox,hv,hB⟩:=hrel
  have hz0:=HZ.out
  by_cases hlt:t < n
  ·obtain ⟨x,hx⟩:∃ x,L[t]? = some x:=⟨L[t]'(by rw [← HNL.out];exact hlt),List.getElem?_eq_getElem _⟩
   have hxl:x.length = N:=HLL.out x (List.mem_of_getElem? hx)
   have HXL:=hid hxl
   obtain ⟨bR,rfl,_,_⟩:=HR.out.has (by omega)
   have HX:=hid hx
   have HV0:=hid hv
   have HB0:=hid hB
   have KX:=hid hbox
   have zaD:=hid (zad hB KB0.out)
   have zbb:=hid (zad hB KB1.out)
   have zbj:=hid (BB.out.trans ((hB).mono BB.out.size))
   obtain ⟨_,_,zaV,_⟩:=bc2 zaD.out
   obtain ⟨zbi,zaX,zb2,_,zbp,za3,zcg,_⟩:=bf2 zbb.out
   clear hbox hv hB hx hxl
   have hi1:(0:Int) ≤ (t:Int):=Int.natCast_nonneg _
   have hi2:(t:Int) < (n:Int):=by omega
   go_wp2
   go_loopw [24] (fun i wr => ∃ c:Nat,i = .int .i64 c ∧ c ≤ N ∧ wr.heap[w1.heap.size]? = some (.cells #[.slice A N cA, .int .i64 (n:Int)] 64 (0,0)) ∧ VecsL wr W.heap.size (.slice A N cA) l1 (zn8 N L t c) ∧ Below W.heap.size W wr)
    (fun i _ => N - (intOf i).toNat)
   case atStart => exact ⟨0,rfl,Nat.zero_le _,KX.out,HV0.out,HB0.out⟩
   case round =>
    rename World => wz
    obtain ⟨c,rfl,hc,hbox,hv,hB⟩:=hrel
    by_cases hct:c < N
    ·obtain ⟨q,hq⟩:∃ q,x[c]? = some q:=⟨x[c]'(by rw [HXL.out];exact hct),List.getElem?_eq_getElem _⟩
     obtain ⟨Ar,cr,_,k0,hVr⟩:=(HR.out.below hB).at_ HX.out
     rw [HXL.out] at k0 hVr
     obtain ⟨br,rfl,_,_⟩:=hVr.has (by omega)
     obtain ⟨ga,Aa,ma,ca,Da,mda,cda,y0,y1,y2,hRa⟩:=hVr.at_ hq
     obtain ⟨bA,rfl,hbA,_⟩:=hv.has (by omega)
     have hml:=zA0 (xs:=zb4 L c) (k:=t) (by rw [zbH, ← HNL.out];omega)
     obtain ⟨Ak,ck,hlk,m0,hVk⟩:=hv.at_ (zh7 (L:=L) (r:=t) (c:=c) hct)
     rw [if_neg (Nat.lt_irrefl c),hml,zbH, ← HNL.out] at hlk m0
     rw [if_neg (Nat.lt_irrefl c),hml,zbH, ← HNL.out] at hVk
     obtain ⟨bk,rfl,hbk,_⟩:=hVk.has (by omega)
     have hmx:(mix (zb4 L c) t)[t]? = some 0:=zld (by rw [zbH, ← HNL.out];exact hlt)
     obtain ⟨go,Ao,mo,co,Do,mdo,cdo,o0,o1,o2,_⟩:=hVk.at_ hmx
     have of0:=hVk.fro (t * 3)
     have of1:=hVk.fro (t * 3 + 1)
     have of2:=hVk.fro (t * 3 + 2)
     have zbo:=hid (zad hB KB0.out)
     have HV:=hid (show VecsL wz W.heap.size (.slice (some ⟨bA,0,none⟩) N cA) l1 (zn8 N L t c) from hv)
     have HW:=hid (show Bel W wz from Bel.mk hB)
     obtain ⟨zcj,_,zck,_⟩:=bc2 zbo.out
     have zd6:wz.cell? ⟨bR,t,none⟩ = some (.slice (some ⟨br,0,none⟩) N cr):=k0
     have zfT:wz.cell? ⟨br,c * 3,none⟩ = some (.bool ga):=y0
     have zgs:wz.cell? ⟨br,c * 3 + 1,none⟩ = some (.slice Aa ma ca):=y1
     have zha:wz.cell? ⟨br,c * 3 + 2,none⟩ = some (.slice Da mda cda):=y2
     have zhc:wz.cell? ⟨bA,c,none⟩ = some (.slice (some ⟨bk,0,none⟩) n ck):=m0
     have KBO:=hid hbox
     obtain ⟨zcj,_,zck,_⟩:=bc2 zbo.out
     obtain ⟨zhu,_,_,_,zhv,_⟩:=bf2 KBO.out
     have zd6:=k0
     have zfT:=y0
     have zgs:=y1
     have zha:=y2
     have zhc:=m0
     have HST:=hid (zxL hct HX.out hq)
     have HPUT:=hid (hv.drew.put HA.out hlk (by rw [zh7 hct,if_neg (Nat.lt_irrefl c)]) t hRa.drew)
     obtain ⟨csk,hck⟩:∃ cs,wz.heap[bk]? = some (.cells cs 35 (0,0)):=hVk.ratBlk
     have HCK:=hid hck
     clear hbox hv hB hVr hVk hq hRa hmx hlk hck k0 m0 y0 y1 y2 hml
     have hi3:(0:Int) ≤ (c:Int):=Int.natCast_nonneg _
     have hi4:(c:Int) < (N:Int):=by omega
     have dof0:wz.drew.frozen? ⟨bk,t * 3,none⟩ = false:=of0
     have do0:=zaa o0
     go_wp2_with fail
     refine za2 (S:=fun w' => w'.cell? ⟨w.heap.size,0,none⟩ = some (.slice (some ⟨bR,0,none⟩) n cR) ∧ w'.cell? ⟨w.heap.size,1,none⟩ = some (.int .i64 (N:Int)) ∧ w'.cell? ⟨w1.heap.size,0,none⟩ = some (.slice (some ⟨bA,0,none⟩) N cA) ∧ w'.cell? ⟨w1.heap.size,1,none⟩ = some (.int .i64 (n:Int)) ∧ w'.cell? ⟨bR,t,none⟩ = some (.slice (some ⟨br,0,none⟩) N cr) ∧ w'.cell? ⟨br,c * 3,none⟩ = some (.bool ga) ∧ w'.cell? ⟨br,c * 3 + 1,none⟩ = some (.slice Aa ma ca) ∧ w'.cell? ⟨br,c * 3 + 2,none⟩ = some (.slice Da mda cda) ∧ w'.cell? ⟨bA,c,none⟩ = some (.slice (some ⟨bk,0,none⟩) n ck)) 15 (h:=fun hHeld => ?_)
     refine zaw [0,1,2,3,4,5,6,7,8,9,10,11,12,13,14] ?_
     repeat refine tkE (hS:=hHeld) (h:=?_)
     refine zao ?_
     refine zba (h:=fun K hK => ?_)
     go_simp
     refine hK.out _ _ ?_
     clear hK K
     try simp only [Act.put,pu1,pu2,pu3,pu4,pu5,pu6]
     refine za1 (h:=?_)
     go_wp2
     go_roundw
     case rel => exact ⟨c + 1,by go_num,by omega,((TKeep.set (w:=_) (b:=bk) (o:=t * 3 + 2) (zar _ (zar _ HCK.out)) _).blk ((TKeep.set (w:=_) (b:=bk) (o:=t * 3 + 1) (zar _ HCK.out) _).blk ((TKeep.set (w:=wz) (b:=bk) (o:=t * 3) HCK.out _).blk KBO.out (by decide)) (by decide)) (by decide)),by rw [← HST.out];exact HPUT.out,(Bel.set3 HW.out.drew hbk _ _ _).b⟩
     case measure => simp [intOf];omega
    ·obtain rfl:N = c:=by omega
     have HVx:=hid hv
     have HBx:=hid hB
     have KXx:=hid hbox
     clear hv hB hbox
     go_wp2
     go_roundw
     case rel => exact ⟨t + 1,by go_num,by omega,KXx.out,by rw [← zvx];exact HVx.out,HBx.out⟩
     case measure => simp [intOf];omega
  ·obtain rfl:n = t:=by omega
   have zaD:=hid (zad hB KB0.out)
   have zbb:=hid (zad hB KB1.out)
   have HV:=hid (show VecsL wr W.heap.size (.slice A N cA) l1 (zn8 N L n 0) from hv)
   have zbj:=hid (BB.out.trans ((hB).mono BB.out.size))
   obtain ⟨_,_,zaV,_⟩:=bc2 zaD.out
   obtain ⟨zbi,zaX,zb2,_,zbp,za3,zcg,_⟩:=bf2 zbb.out
   have KBO:=hid hbox
   obtain ⟨_,_,zaV,_⟩:=bc2 zaD.out
   obtain ⟨zbi,zaX,zb2,_,zbp,za3,zcg,_⟩:=bf2 zbb.out
   obtain ⟨ze6,_,ze7,_⟩:=bc2 KBO.out
   clear hbox hv hB
   go_wp2
   refine bodyPost_ret (v := .agg #[.slice A N cA, .int .i64 (n:Int)]) (by simp [results,Tryz.results181,go_sem,zbi,zaX,zbp,za3]) rfl ?_
   have h0:=HV.out
   rw [show zn8 N L n 0 = zcZ N L by rw [HNL.out];exact zxK N L] at h0
   have h1:=((h0.base (show w.heap.size ≤ W.heap.size by omega)).tk (TKeep.set (o:=0) zbb.out (.slice A N cA)) (by decide) (by decide) (by decide)).tk (TKeep.set (o:=1) (zar _ zbb.out) (.int .i64 (n:Int))) (by decide) (by decide) (by decide)
   exact ⟨A,cA,l1,rfl,h1,HA.out,Below.setCell (Below.setCell (zbj.out) (p:=⟨w.heap.size + 1,0,none⟩) (by show w.heap.size ≤ w.heap.size + 1;omega) _) (p:=⟨w.heap.size + 1,1,none⟩) (by show w.heap.size ≤ w.heap.size + 1;omega) _⟩
end Mt
namespace Bs
theorem matrix (q n cc:Nat) (cA:Option Addr) (lc:List Value) (C:List (List Rat)) (H:Nat) (w:World) (k0:w.cell? ⟨q,0,none⟩ = some (.slice cA n cc)) (h:VecsL w H (.slice cA n cc) lc C) (hL:∀ r ∈ C,r.length = n) (hn:n ≤ 64) :
  Calls Tryz.prog 168 #[.pointer (some ⟨q,0,none⟩)] w (zx4 w n (zcZ n C) n):=by
 have HN:=hid hn
 have HLL:=hid hL
 clear hn hL
 obtain ⟨W,hW⟩:∃ W,(w.alloc (.cells #[.slice none 0 0, .int .i64 0] 64)) = W:=⟨_,rfl⟩
 have KB0:=hid (show W.heap[w.heap.size]? = some (.cells #[.slice none 0 0, .int .i64 0] 64 (0,0)) by rw [← hW];exact zam (by simp))
 have BB:=hid (show Below w.heap.size w W by rw [← hW];exact zae w _)
 have HC:=hid (show VecsL W H (.slice cA n cc) lc C by rw [← hW];exact (h).alloc _)
 have x0:W.cell? ⟨q,0,none⟩ = some (.slice cA n cc):=by rw [← hW];exact cell_al k0
 have x0d:=zaa x0
 clear k0
 clear h
 go_enter Tryz.func168,Tryz.ntmps168
 go_wp2_with fail
 clear hW
 go_cut [3] (fun s3 wx => ∃ (nb:Nat) (A:Option Addr) (cR:Nat) (l:List Value),s3 = .pointer (some ⟨nb,0,none⟩) ∧ Below W.heap.size W wx ∧ W.heap.size ≤ nb ∧ wx.heap[nb]? = some (.cells #[.slice A n cR, .int .i64 (n:Int)] 64 (0,0)) ∧ VecsL wx W.heap.size (.slice A n cR) l C)
 case first => as_aux_lemma =>
  refine zaS (S:=fun w' => w'.cell? ⟨q,0,none⟩ = some (.slice cA n cc)) [14,15] (h:=fun hHeld => ?_)
  refine zaw [0,1,2,3,4,5,6,7,8] ?_
  repeat refine tkL (hS:=hHeld) (h:=?_)
  refine zao ?_
  refine zme (i:=9) (j:=13) rfl rfl (by kernel_rfl) (fun K hK => ?_) (fun K hK => ?_)
  ·skip
   go_simp
   (go_at_call 72;(with_reducible refine (Mt.of n n HN.out HN.out cA cc lc C H _ (HC.out.drew) HLL.out).mono ?_);rintro e u1 ⟨A1,c1,l1,rfl,hv,_,hb⟩;have HV:=hid (show VecsL u1 W.heap.size (.slice A1 n c1) l1 C from hv);have HBU:=hid (show Below W.heap.size W u1 from It.bdrew0' hb);have m0:=zab hb x0d;clear hb hv)
   (try go_wp2_with fail)
   refine hK.out _ _ kp fun hHeld => ?_
   clear hK K
   try simp only [Act.put,pu1,pu2,pu3,pu4,pu5,pu6]
   refine zaw [10,11,12] ?_
   repeat refine tkX (h:=?_)
   refine zao ?_
   refine zaB 13 (h:=fun K hK => ?_)
   go_simp
   refine hK.out _ _ kp fun hHeld => ?_
   clear hK K
   try simp only [Act.put,pu1,pu2,pu3,pu4,pu5,pu6]
   refine zay 14 (h:=fun K hK => ?_)
   go_simp
   refine hK.out _ _ ?_
   clear hK K
   try simp only [Act.put,pu1,pu2,pu3,pu4,pu5,pu6]
   refine zay 15 (h:=fun K hK => ?_)
   go_simp
   refine hK.out _ _ ?_
   clear hK K
   try simp only [Act.put,pu1,pu2,pu3,pu4,pu5,pu6]
   refine zaM (h:=?_)
   go_wp2
   go_meet
   case rel => exact ⟨_,_,_,_,rfl,HBU.out.alloc HBU.out.size _,HBU.out.size,zal _ _ _,HV.out.alloc _⟩
  ·skip
   go_simp
   refine hK.out _ _ kp fun hHeld => ?_
   clear hK K
   try simp only [Act.put,pu1,pu2,pu3,pu4,pu5,pu6]
   refine zaB 9 (h:=fun K hK => ?_)
   go_simp
   (go_at_call 72;(with_reducible refine (Mt.of n n HN.out HN.out cA cc lc C H _ (HC.out.alloc _ |>.drew) HLL.out).mono ?_);rintro e u1 ⟨A1,c1,l1,rfl,hv,_,hb⟩;have HV:=hid (show VecsL u1 W.heap.size (.slice A1 n c1) l1 C from hv.base (by simp));have HBU:=hid (show Below W.heap.size W u1 from (zae W _).trans ((It.bdrew0' hb).mono (by simp)));have XB:=hid (zad hb (show (W.alloc (.cells #[.slice none 0 0, .int .i64 0] 64)).drew.heap[W.heap.size]? = _ from zal _ _ _));have m0:=zab hb (show (W.alloc (.cells #[.slice none 0 0, .int .i64 0] 64)).drew.cell? _ = _ from cell_al x0);have XBc0:=zac XB.out 0;have XBc1:=zac XB.out 1;have XBf0:=zag XB.out 0;have XBf1:=zag XB.out 1;simp only [List.getElem?_toArray,List.getElem?_cons_zero,List.getElem?_cons_succ] at XBc0 XBc1;clear hb hv)
   (try go_wp2_with fail)
   refine hK.out _ _ kp fun hHeld => ?_
   clear hK K
   try simp only [Act.put,pu1,pu2,pu3,pu4,pu5,pu6]
   refine zaw [10,11,12] ?_
   repeat refine tkX (h:=?_)
   refine zao ?_
   refine zay 14 (h:=fun K hK => ?_)
   go_simp
   refine hK.out _ _ ?_
   clear hK K
   try simp only [Act.put,pu1,pu2,pu3,pu4,pu5,pu6]
   refine zay 15 (h:=fun K hK => ?_)
   go_simp
   refine hK.out _ _ ?_
   clear hK K
   try simp only [Act.put,pu1,pu2,pu3,pu4,pu5,pu6]
   refine zaM (h:=?_)
   go_wp2
   go_meet
   case rel => exact ⟨_,_,_,_,rfl,(HBU.out.setCell (p:=⟨W.heap.size,0,none⟩) (Nat.le_refl _) _).setCell (p:=⟨W.heap.size,1,none⟩) (Nat.le_refl _) _,Nat.le_refl _,zar _ (zar _ XB.out),(HV.out.tk (TKeep.set XB.out _) (by decide) (by decide) (by decide)).tk (TKeep.set (zar _ XB.out) _) (by decide) (by decide) (by decide)⟩
 case rest =>
  rename World => wx
  obtain ⟨nb,A,cR,l,rfl,hb,hnb2,hk,hv⟩:=hcut
  have zaq:=hid (zad hb KB0.out)
  have HM:=hid (show VecsL wx W.heap.size (.slice A n cR) l C from hv)
  have zaQ:=hid (BB.out.trans ((hb).mono BB.out.size))
  have zbY:wx.cell? ⟨nb,0,none⟩ = some (.slice A n cR):=zac hk 0
  have zcb:wx.cell? ⟨nb,1,none⟩ = some (.int .i64 (n:Int)):=zac hk 1
  clear hb hk hv hnb2
  go_wp2_with fail
  with_reducible refine (Mt.turned n n cR A l C W.heap.size _ HM.out HLL.out HN.out HN.out).mono ?_
  rintro e w3 ⟨A3,c3,l3,rfl,hv3,ha3,hb⟩
  have zaD:=hid (zad hb zaq.out)
  have HT:=hid (show VecsL w3 wx.heap.size (.slice A3 n c3) l3 (zcZ n C) from hv3)
  have zbj:=hid (zaQ.out.trans ((hb).mono zaQ.out.size))
  obtain ⟨zaU,zaE,zcN,_,zaV,zaF,zcP,_⟩:=bf2 zaD.out
  have HAL:=hid ha3
  have HZ9:=hid (show w.heap.size ≤ wx.heap.size from zaQ.out.size)
  clear hv3 ha3 hb
  go_wp2
  refine bodyPost_ret (v := .agg #[.slice A3 n c3, .int .i64 (n:Int)]) (by simp [results,Tryz.results168,go_sem,zaU,zaE,zaV,zaF]) rfl ?_
  have h1:=((HT.out.base HZ9.out).tk (TKeep.set (o:=0) zaD.out (.slice A3 n c3)) (by decide) (by decide) (by decide)).tk (TKeep.set (o:=1) (zar _ zaD.out) (.int .i64 (n:Int))) (by decide) (by decide) (by decide)
  exact ⟨A3,c3,l3,rfl,h1,HAL.out,Below.setCell (Below.setCell (zbj.out) (p:=⟨w.heap.size,0,none⟩) (by show w.heap.size ≤ w.heap.size;omega) _) (p:=⟨w.heap.size,1,none⟩) (by show w.heap.size ≤ w.heap.size;omega) _⟩
end Bs
end Go.Proofs.YtdbgbaiekpbaoaaGreatDoor
