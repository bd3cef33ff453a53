/- mat.Of by its contract;a row copied into a table. Conditions: as each says. Rows of whole numbers: slices.Clone,Contains,Index by their contracts. Conditions: as each says. A problem seen from a basis,in memory. Conditions: as each says. Steps of walks that lay a problem out: whole numbers put behind,noughts put behind a row. Conditions: as each says. A table taken apart,while its rows are laid: what lies in memory. Conditions: as each says. mat.By by its contract. Conditions: as each says. mat.Rows,Cols,Row,Col by their contracts. Conditions: as each says. Conditions: as they say. -/
import Derived.Test.YtdbgbaiekpbaoaaGreatDoorBasMemZq
import Derived.Test.YtdbgbaiekpbaoaaGreatDoorMat2Zq
import Derived.Test.YtdbgbaiekpbaoaaGreatDoorProb1Zq
set_option linter.all false
namespace Go.Proofs.YtdbgbaiekpbaoaaGreatDoor
open Go.RowKit Am
open Lib (hid)
attribute [local go_sem ↓] Go.wp_at_zero Go.wp_at_succ
set_option maxHeartbeats 4000000
set_option maxRecDepth 100000
theorem znQ (P:Program) (w:World) (dT sT ty elem:TypeId) (sz:Nat) (d a:Option Addr) (dLen dCap sLen sCap:Nat) (hu:P.underlying dT = some (.slice elem)) (hs:(P.info? elem).map (·.size) = some sz) (hn:Nat.min sLen dLen = 0) :
  (Builtin.copy_ #[dT,sT] ty #[.slice d dLen dCap, .slice a sLen sCap]).run P w = .ok (goInt 0) w:=by
 cases hq:P.info? elem with
 | none => simp [hq] at hs
 | some i =>
  have hl:∀ (x:Addr),(loadCells x 0).run P w = .ok #[] w:=fun x => by simpa using run_loadCells_list (P:=P) w x [] (by simp)
  cases d <;> cases a <;> simp [Builtin.copy_,run_underlying hu,Builtin.lenOf,Builtin.firstCells,sizeOf,typeInfo,hq,hn,storeCells,hl]
theorem VecS.cells {w:World} {H:Nat} {A:Option Addr} {n c:Nat} {qs:List Rat} (hv:VecS w H (.slice A n c) qs):∃ l:List RV,l.length = qs.length ∧ (∀ (k:Nat) (r:RV) (q:Rat),l[k]? = some r → qs[k]? = some q → RatS w r.1 r.2.1 r.2.2 q) ∧ w.ownsRow H 35 3 (.slice A n c) qs.length (rcells l) ∧
  (∀ u ∈ rcells l,u.oneCell' = true) ∧ ∀ g,A = some ⟨g,0,none⟩ → ∀ j u,(rcells l)[j]? = some u → w.cell? ((⟨g,0,none⟩:Addr).add j) = some u:=by
 obtain rfl:=hv.len
 obtain ⟨l,e1,e2,e3⟩:=hv.row
 refine ⟨l,e1,e2,e3,ziJ l fun r hr => ?_,fun g hg j u hu => ?_⟩
 ·obtain ⟨k,hk,hkr⟩:=List.getElem_of_mem hr
  have hk2:l[k]? = some r:=by rw [List.getElem?_eq_getElem hk,hkr]
  obtain ⟨q,hq⟩:∃ q,qs[k]? = some q:=⟨qs[k]'(by omega),List.getElem?_eq_getElem _⟩
  obtain ⟨A,m,c,D,md,cd,h1,h2⟩:=(e2 k r q hk2 hq).shape
  rw [h1,h2];exact ⟨rfl,rfl⟩
 ·subst hg
  have hj:=(List.getElem?_eq_some_iff.1 hu).1
  rw [zcC,e1] at hj
  rw [show (⟨g,0,none⟩:Addr).add j = ⟨g,j,none⟩ by unfold Addr.add;split <;> simp_all,e3.cellAt j hj];exact hu
theorem zwE {w:World} {H:Nat} {v:Value} {l:List Value} {L:List (List Rat)} (hL:VecsL w H v l L) (ha:zbG l) {k:Nat} {A:Option Addr} {n c:Nat} {r0:List Rat} (hl:l[k]? = some (.slice A n c)) (hr0:L[k]? = some r0) {H':Nat} {A':Option Addr} {c':Nat} {r:List Rat} (hr:VecS w H' (.slice A' n c') r) (ty:TypeId) :
  ∃ w',(Builtin.copy_ #[26,26] ty #[.slice A n c, .slice A' n c']).run Tryz.prog w = .ok (goInt n) w' ∧ VecsL w' H v l (L.set k r) ∧ TKeep 35 w w' ∧ ∀ B,B ≤ H → Below B w w':=by
 obtain ⟨i0,hi,hz0,hz1,hz2⟩:=info_parts ze0
 have hsz:(Tryz.prog.info? 35).map (·.size) = some 3:=by rw [hi];simp [hz1]
 have h0:=hL.each k _ _ hl hr0
 have n0:=h0.len
 have n1:=hr.len
 by_cases hn:n = 0
 ·have hrun:=znQ Tryz.prog w 26 26 ty 35 3 A A' n c n c' Tryz.underlying26 hsz (by rw [hn];rfl)
  refine ⟨w,by rw [hrun,hn];rfl,?_,fun _ _ _ => rfl,fun B _ => Below.refl _ _⟩
  have e:r = r0:=by rw [List.length_eq_zero_iff.1 (show r.length = 0 by omega),List.length_eq_zero_iff.1 (show r0.length = 0 by omega)]
  have : L.set k r = L:=by
   rw [e];apply List.ext_getElem?;intro i;rw [List.getElem?_set];split
   ·rename_i h;subst h;rw [if_pos (List.getElem?_eq_some_iff.1 hr0).1,hr0]
   ·rfl
  rw [this];exact hL
 ·obtain ⟨g,rfl,hg1,hg2⟩:=h0.has (by omega)
  obtain ⟨g',rfl,hg1',hg2'⟩:=hr.has (by omega)
  obtain ⟨lr,e1,e2,e3,e4,e5⟩:=hr.cells
  obtain ⟨l0,d1,d2,d3⟩:=h0.row
  rcases d3.2 with ⟨hv,_⟩ | ⟨gg,cap,cur,hv,hgg,hh,hnc,hm,hsize,htake⟩
  ·cases hv
  ·injection hv with e6 e7 e8
   injection e6 with e6;injection e6 with e6
   subst e6
   have hrun:=zqx Tryz.prog w 26 26 ty 35 3 g 0 n c ⟨g',0,none⟩ n c' cur 35 (rcells lr) Tryz.underlying26 hsz hh (by rw [zcC,e1, ← n1];simp) (e5 g' rfl) (by rw [zcC,e1,hsize];omega) e4
   rw [show Nat.min n n = n from Nat.min_self n] at hrun
   subst e8
   refine ⟨_,hrun,?_,?_,?_⟩
   all_goals
    generalize hcs:(cur.toList.take 0 ++ rcells lr ++ cur.toList.drop (0 + (rcells lr).length)).toArray = cs'
   ·have far:∀ j,j ≠ g → (w.setRow g cs').heap[j]? = w.heap[j]?:=fun j hj => setRow_other w g j cs' hj
    have at_:(w.setRow g cs').heap[g]? = some (.cells cs' 35 (0,0)):=setRow_heap w g cur _ 35 _ hh
    have kp:zff w (w.setRow g cs'):=fun j _ hne => far j (by rintro rfl;exact hne _ hh)
    have hlr:(rcells lr).length = n * 3:=by rw [zcC,e1, ← n1]
    refine ⟨by rw [List.length_set];exact hL.len,fun j s' r' h1 h2 => ?_,by rw [List.length_set];exact zc9 hL.own fun j hj => far j fun e => za6 hL.own (e ▸ hh) (by decide) (e ▸ hj)⟩
    by_cases e:k = j
    ·subst e
     rw [List.getElem?_set_self (List.getElem?_eq_some_iff.1 hr0).1] at h2
     injection h2 with h2;subst h2
     rw [hl] at h1;injection h1 with h1;subst h1
     refine ⟨lr,e1,fun i x q a b => (e2 i x q a b).keepT kp,by rw [hlr,n1], .inr ⟨g,c,cs',by rw [n1],hgg,at_,by omega,hm,?_,?_⟩⟩
     ·rw [← hcs];simp;omega
     ·rw [← hcs, ← n1, ← hlr];simp
    ·rw [List.getElem?_set_ne e] at h2
     exact (hL.each j s' r' h1 h2).keepAll (fun x hx => far x fun e3 => e (ha k j _ _ g hl h1 rfl (by rw [hx,e3]))) fun _ _ _ _ r => r.keepT kp
   ·exact fun j _ hne => setRow_other w g j cs' (by rintro rfl;exact hne _ hh)
   ·exact fun B hB => below_setRow (Below.refl _ _) (by omega) cs'
def zsE (L:List (List Rat)) (c k:Nat):List (List Rat):=L.take k ++ noughts (L.length - k) c
theorem zu2 (L:List (List Rat)) (c:Nat):zsE L c 0 = noughts L.length c:=by simp [zsE]
theorem zxm (L:List (List Rat)) (c:Nat):zsE L c L.length = L:=by simp [zsE,noughts]
theorem zrE {L:List (List Rat)} {c k:Nat} (h:k < L.length):(zsE L c k)[k]? = some (List.replicate c 0):=by
 unfold zsE noughts
 rw [List.getElem?_append_right (by rw [List.length_take];omega),List.length_take,Nat.min_eq_left (Nat.le_of_lt h),Nat.sub_self,List.getElem?_replicate,if_pos (by omega)]
theorem zu1 {L:List (List Rat)} {c k:Nat} {r:List Rat} (h:L[k]? = some r):(zsE L c k).set k r = zsE L c (k + 1):=by
 have hk:=(List.getElem?_eq_some_iff.1 h).1
 unfold zsE noughts
 rw [List.set_append,if_neg (by rw [List.length_take];omega),List.take_add_one,h,List.length_take,Nat.min_eq_left (Nat.le_of_lt hk),Nat.sub_self,show L.length - k = (L.length - (k + 1)) + 1 by omega,List.replicate_succ]
 simp
namespace Mt
theorem of (n c:Nat) (hn:n ≤ 64) (hc:c ≤ 64) (R:Option Addr) (cR:Nat) (l0:List Value) (L:List (List Rat)) (H0:Nat) (w:World) (h:VecsL w H0 (.slice R n cR) l0 L) (hL:∀ r ∈ L,r.length = c) :
  Calls Tryz.prog 72 #[.int .i64 (c:Int), .slice R n cR] w (zsR w n L c):=by
 have HN:=hid hn
 have HC:=hid hc
 have HLL:=hid hL
 have HNL:=hid h.nlen
 have hnb:n ≤ 9223372036854775807:=by omega
 clear hn hc hL
 obtain ⟨W,hW⟩:∃ W,(w.alloc (.cells #[.slice none 0 0, .int .i64 0] 64)) = W:=⟨_,rfl⟩
 have KB0:=hid (show W.heap[w.heap.size]? = some (.cells #[.slice none 0 0, .int .i64 0] 64 (0,0)) by rw [← hW];exact zam (by simp))
 have BB:=hid (show Below w.heap.size w W by rw [← hW];exact zae w _)
 have HZ:=hid (show w.heap.size + 1 ≤ W.heap.size by rw [← hW];simp)
 have HR:=hid (show VecsL W H0 (.slice R n cR) l0 L by rw [← hW];exact (h).alloc _)
 obtain ⟨zaK,zaz,zdC,zcM,zaL,zaA,zdD,zcO⟩:=bf2 KB0.out
 clear h
 go_enter Tryz.func72,Tryz.ntmps72
 go_wp2_with fail
 clear hW
 with_reducible refine (new n c HN.out HC.out _).mono ?_
 rintro e w1 ⟨A,cA,l1,rfl,hv,ha,hb⟩
 have zaq:=hid (show (w1.alloc (.cells #[.slice A n cA, .int .i64 (c:Int)] 64)).heap[w.heap.size]? = some (.cells #[.slice none 0 0, .int .i64 0] 64 (0,0)) from zak (zad hb KB0.out))
 have HM:=hid (show VecsL (w1.alloc (.cells #[.slice A n cA, .int .i64 (c:Int)] 64)) W.heap.size (.slice A n cA) l1 (noughts n c) from (hv).alloc _)
 have za0:=hid (show (w1.alloc (.cells #[.slice A n cA, .int .i64 (c:Int)] 64)).heap[w1.heap.size]? = some (.cells #[.slice A n cA, .int .i64 (c:Int)] 64 (0,0)) from zam (by simp))
 obtain ⟨zaI,zat,zbM,zbl,zaJ,zau,zbN,zbm⟩:=bf2 zaq.out
 obtain ⟨zbe,zaW,zbs,za9⟩:=bc2 za0.out
 have HA:=hid ha
 have HBW:=hid hb
 have hzw:W.heap.size ≤ w1.heap.size:=hb.size
 clear hv ha hb
 go_wp2
 go_loopw [22] (fun i wr => ∃ k:Nat,i = .int .i64 k ∧ k ≤ n ∧ wr.heap[w1.heap.size]? = some (.cells #[.slice A n cA, .int .i64 (c:Int)] 64 (0,0)) ∧ VecsL wr W.heap.size (.slice A n cA) l1 (zsE L c k) ∧ Below W.heap.size W wr)
  (fun i _ => n - (intOf i).toNat)
 case atStart => exact ⟨0,rfl,Nat.zero_le _,zal _ _ _,by rw [zu2, ← HNL.out];exact HM.out,HBW.out.alloc hzw _⟩
 case round =>
  obtain ⟨k,rfl,hk,hbox,hv,hB⟩:=hrel
  have hz0:=HZ.out
  by_cases hlt:k < n
  ·obtain ⟨r,hr⟩:∃ r,L[k]? = some r:=⟨L[k]'(by rw [← HNL.out];exact hlt),List.getElem?_eq_getElem _⟩
   have hrl:r.length = c:=HLL.out r (List.mem_of_getElem? hr)
   obtain ⟨bR,rfl,_,_⟩:=HR.out.has (by omega)
   obtain ⟨Ar,cr,_,k0,hVr⟩:=(HR.out.below hB).at_ hr
   rw [hrl] at k0 hVr
   obtain ⟨bA,rfl,_,_⟩:=hv.has (by omega)
   obtain ⟨Ak,ck,hlk,m0,_⟩:=hv.at_ (zrE (c:=c) (by rw [← HNL.out];exact hlt))
   rw [List.length_replicate] at hlk m0
   have zaD:=hid (zad hB KB0.out)
   have zvS:=hid (HR.out.below hB)
   have HVr:=hid (show VecS wr H0 (.slice Ar c cr) r from hVr)
   have HV:=hid (show VecsL wr W.heap.size (.slice (some ⟨bA,0,none⟩) n cA) l1 (zsE L c k) from hv)
   have HW:=hid (show Bel W wr from Bel.mk hB)
   have zbj:=hid (BB.out.trans ((hB).mono BB.out.size))
   obtain ⟨zaU,zaE,zcN,zbQ,zaV,zaF,zcP,zbR⟩:=bf2 zaD.out
   have zcX:wr.cell? ⟨bR,k,none⟩ = some (.slice Ar c cr):=k0
   have x0_2d:=zaa zcX
   have zdq:wr.cell? ⟨bA,k,none⟩ = some (.slice Ak c ck):=m0
   have x1_2d:=zaa zdq
   have KBO:=hid hbox
   obtain ⟨zaU,zaE,zcN,zbQ,zaV,zaF,zcP,zbR⟩:=bf2 zaD.out
   obtain ⟨zbi,zaX,zb2,zbt,zbp,za3,zcg,zbB⟩:=bf2 KBO.out
   have zcX:=k0
   have x0_2d:=zaa zcX
   have zdq:=m0
   have x1_2d:=zaa zdq
   have HLK:=hid hlk
   have HGET:=hid hr
   have HMG:=hid (zrE (c:=c) (show k < L.length by rw [← HNL.out];exact hlt))
   clear hbox hv hB hVr hr hrl k0 m0 hlk
   have hi1:(0:Int) ≤ (k:Int):=Int.natCast_nonneg _
   have hi2:(k:Int) < (n:Int):=by omega
   obtain ⟨w3,hrun,hv3,hk3,hb3⟩:=zwE HV.out HA.out HLK.out HMG.out HVr.out 3
   have HV3:=hid hv3
   have KB3:=hid (hk3.blk KBO.out (by decide))
   have HW3:=hid (HW.out.b.trans (hb3 _ (Nat.le_refl _)))
   clear hv3 hk3 hb3
   go_wp2
   go_roundw
   case rel => exact ⟨k + 1,by go_num,by omega,KB3.out,by rw [← zu1 HGET.out];exact HV3.out,HW3.out⟩
   case measure => simp [intOf];omega
  ·obtain rfl:k = n:=by omega
   have zaD:=hid (zad hB KB0.out)
   have zvS:=hid (HR.out.below hB)
   have HV:=hid (show VecsL wr W.heap.size (.slice A k cA) l1 (zsE L c k) from hv)
   have zbj:=hid (BB.out.trans ((hB).mono BB.out.size))
   obtain ⟨zaU,zaE,zcN,zbQ,zaV,zaF,zcP,zbR⟩:=bf2 zaD.out
   have KBO:=hid hbox
   obtain ⟨zaU,zaE,zcN,zbQ,zaV,zaF,zcP,zbR⟩:=bf2 zaD.out
   obtain ⟨zbi,zaX,zbp,za3⟩:=bc2 KBO.out
   clear hbox hv hB
   go_wp2
   refine bodyPost_ret (v := .tuple #[.agg #[.slice A k cA, .int .i64 (c:Int)], .bool true]) (by simp [results,Tryz.results72,go_sem,zaU,zaE,zaV,zaF]) rfl ?_
   have h0:=HV.out
   rw [HNL.out,zxm, ← HNL.out] at h0
   have h1:=((h0.base (show w.heap.size ≤ W.heap.size by omega)).tk (TKeep.set (o:=0) zaD.out (.slice A k cA)) (by decide) (by decide) (by decide)).tk (TKeep.set (o:=1) (zar _ zaD.out) (.int .i64 (c:Int))) (by decide) (by decide) (by decide)
   exact ⟨A,cA,l1,rfl,h1,HA.out,Below.setCell (Below.setCell (zbj.out) (p:=⟨w.heap.size,0,none⟩) (by show w.heap.size ≤ w.heap.size;omega) _) (p:=⟨w.heap.size,1,none⟩) (by show w.heap.size ≤ w.heap.size;omega) _⟩
end Mt
end Go.Proofs.YtdbgbaiekpbaoaaGreatDoor
namespace Go.Proofs.YtdbgbaiekpbaoaaGreatDoor
open Go.RowKit Am
open Lib (hid)
attribute [local go_sem ↓] Go.wp_at_zero Go.wp_at_succ
set_option maxHeartbeats 2000000
set_option maxRecDepth 100000
def zcells (xs:List Int):List Value:=xs.map fun x => .int .i64 x
theorem zmo (xs:List Int):(zcells xs).length = xs.length:=by simp [zcells]
theorem zsA (xs:List Int):∀ u ∈ zcells xs,u.oneCell' = true:=by
 intro u hu;simp only [zcells,List.mem_map] at hu;obtain ⟨x,_,rfl⟩:=hu;rfl
structure IntsZ (w:World) (H:Nat) (v:Value) (xs:List Int):Prop where
  own:w.ownsRow H 3 1 v xs.length (zcells xs)
theorem IntsS.toZ {w:World} {H:Nat} {v:Value} {xs:List Nat} (h:IntsS w H v xs):IntsZ w H v (xs.map fun (x:Nat) => (x:Int)):=⟨by
 have:=h.own;rw [List.length_map];unfold zcells;rw [List.map_map];exact this⟩
theorem IntsZ.toS {w:World} {H:Nat} {v:Value} {xs:List Nat} (h:IntsZ w H v (xs.map fun (x:Nat) => (x:Int))):IntsS w H v xs:=⟨by
 have:=h.own;rw [List.length_map] at this;unfold zcells at this;rw [List.map_map] at this;exact this⟩
namespace IntsZ
variable {w w':World} {H:Nat} {v:Value} {xs:List Int}
theorem keep (h:IntsZ w H v xs) (hk:∀ k,v.ownBlock = some k → w'.heap[k]? = w.heap[k]?):IntsZ w' H v xs:=⟨zc9 h.own hk⟩
theorem below (h:IntsZ w H v xs) (hb:Below w.heap.size w w'):IntsZ w' H v xs:=h.keep fun k hk => hb.block k (h.own.lt k hk).2
theorem alloc (h:IntsZ w H v xs) (o:Obj):IntsZ (w.alloc o) H v xs:=h.below (zae w o)
theorem drew (h:IntsZ w H v xs):IntsZ w.drew H v xs:=h.below (zap w 1)
theorem base {H':Nat} (h:IntsZ w H v xs) (hb:H' ≤ H):IntsZ w H' v xs:=⟨zbu h.own hb⟩
theorem nil (w:World) (H:Nat):IntsZ w H (.slice none 0 0) []:=⟨World.ownsRow_nil _ _ _ _⟩
theorem tk {t:TypeId} (h:IntsZ w H v xs) (hk:TKeep t w w') (h1:3 ≠ t):IntsZ w' H v xs :=
 h.keep fun k hb => hk k (h.own.lt k hb).2 fun cs e => za6 h.own e h1 hb
theorem form {A:Option Addr} {n c:Nat} (h:IntsZ w H (.slice A n c) xs):n = xs.length ∧ n ≤ c ∧ c ≤ maxLen ∧ ((A = none ∧ c = 0 ∧ xs = []) ∨ ∃ g,A = some ⟨g,0,none⟩ ∧ H ≤ g ∧ g < w.heap.size):=by
 rcases h.own.2 with ⟨hv,hn⟩ | ⟨g,cap,cur,hv,hg,hh,hn,hm,_⟩
 ·injection hv with e1 e2 e3
  subst e1 e2 e3
  exact ⟨hn.symm,Nat.le_refl _,Nat.zero_le _, .inl ⟨rfl,rfl,List.length_eq_zero_iff.1 hn⟩⟩
 ·injection hv with e1 e2 e3
  subst e1 e2 e3
  exact ⟨rfl,hn,hm, .inr ⟨g,rfl,hg,(Array.getElem?_eq_some_iff.1 hh).1⟩⟩
theorem len {A:Option Addr} {n c:Nat} (h:IntsZ w H (.slice A n c) xs):n = xs.length:=h.form.1
theorem has {A:Option Addr} {n c:Nat} (h:IntsZ w H (.slice A n c) xs) (hn:0 < n):∃ g,A = some ⟨g,0,none⟩ ∧ H ≤ g ∧ g < w.heap.size:=by
 obtain ⟨h1,h2,h3,h4 | h4⟩:=h.form
 ·omega
 ·exact h4
theorem slice (h:IntsZ w H v xs):∃ A c,v = .slice A xs.length c:=by
 rcases h.own.2 with ⟨hv,hn⟩ | ⟨g,cap,cur,hv,_⟩
 ·exact ⟨_,_,by rw [hv,hn]⟩
 ·exact ⟨_,_,hv⟩
theorem fro {b n c:Nat} (h:IntsZ w H (.slice (some ⟨b,0,none⟩) n c) xs) (j:Nat):w.frozen? ⟨b,j,none⟩ = false:=by
 have hn:=h.len
 subst hn
 exact h.own.frozenAt j
theorem at_ {b n c:Nat} (h:IntsZ w H (.slice (some ⟨b,0,none⟩) n c) xs) {k:Nat} {x:Int} (hk:xs[k]? = some x):w.cell? ⟨b,k,none⟩ = some (.int .i64 x):=by
 have hn:=h.len
 subst hn
 have hk':=(List.getElem?_eq_some_iff.1 hk).1
 rw [h.own.cellAt _ (by omega)]
 simp [zcells,hk]
theorem cut {b n c:Nat} (h:IntsZ w H (.slice (some ⟨b,0,none⟩) n c) xs) {k:Nat} (hk:k ≤ n):IntsZ w H (.slice (some ⟨b,0,none⟩) k c) (xs.take k):=by
 have hn:=h.len
 subst hn
 have hl:(xs.take k).length = k:=by rw [List.length_take];omega
 refine ⟨?_⟩
 rw [hl]
 refine ⟨by rw [zmo,hl];omega,?_⟩
 rcases h.own.2 with ⟨h',_⟩ | ⟨g',cap',cur,h',hb,hg,hnc,hcm,hcs,htake⟩
 ·simp at h'
 ·simp only [Value.slice.injEq,Option.some.injEq,Addr.mk.injEq,and_true,true_and] at h'
  obtain ⟨rfl,rfl⟩:=h'
  refine .inr ⟨b,c,cur,rfl,hb,hg,by omega,hcm,hcs,?_⟩
  have e:zcells (xs.take k) = (zcells xs).take k:=by simp [zcells]
  rw [e, ← htake,List.take_take,Nat.mul_one,Nat.mul_one,Nat.min_eq_left hk]
end IntsZ
def zv3 (w:World) (xs:List Int) (e:Ending) (w':World):Prop := ∃ (A:Option Addr) (c:Nat),e = .returned (.slice A xs.length c) ∧ IntsZ w' w.heap.size (.slice A xs.length c) xs ∧ Below w.heap.size w w'
namespace Sl
theorem clone (A:Option Addr) (n c:Nat) (xs:List Int) (H:Nat) (w:World) (h:IntsZ w H (.slice A n c) xs) (hb:n ≤ 1000000):Calls Tryz.prog 78 #[.slice A n c] w (zv3 w xs):=by
 obtain ⟨hn,hnc,hcm,hf⟩:=h.form
 subst hn
 rcases hf with ⟨rfl,rfl,rfl⟩ | ⟨g,rfl,hg,hlt⟩
 ·clear h hnc hcm hb
  have hq:=fun (w:World) => Lib.run_eql_slice_nil (P:=Tryz.prog) w 48 3 none 0 0 0 0 Tryz.underlying48
  go_enter Tryz.func78,Tryz.ntmps78
  go_wp2
  go_ret
  exact ⟨_,_,rfl,IntsZ.nil _ _,Below.refl _ _⟩
 ·have hcell:∀ j u,(zcells xs)[j]? = some u → w.cell? ((⟨g,0,none⟩:Addr).add j) = some u:=fun j u hu => h.own.cells (g:=g) rfl j u hu
  have hq:=fun (w:World) => Lib.run_eql_slice_nil (P:=Tryz.prog) w 48 3 (some ⟨g,0,none⟩) xs.length c 0 0 Tryz.underlying48
  obtain ⟨i0,hi,hz0,hz1,hz2⟩:=info_parts znF
  have hown:=World.ownsRow_made (e:=3) (size:=1) (base:=w.heap.size) w #[] 0 (Nat.le_refl _) (by unfold maxLen;omega) rfl
  have hnews:∀ j u,(zcells xs)[j]? = some u → (w.alloc (.cells #[] 3)).cell? ((⟨g,0,none⟩:Addr).add j) = some u:=fun j u hu =>
   (World.cell?_alloc_lt w _ _ (World.block_lt_of_cell? w _ (hcell j u hu))).trans (hcell j u hu)
  have HO:=hid hown
  have HN:=hid hnews
  have B1:=hid (show 0 + xs.length ≤ maxLen by unfold maxLen;omega)
  have B2:=hid (show (0 + xs.length) * 8 ≤ 140737488355328 by omega)
  clear hown hnews hb hcell hnc hcm hg hlt h
  go_enter Tryz.func78,Tryz.ntmps78
  go_wp2_with (at_builtin;refine wpList_append_own _ rfl _ _ 48 rfl w.heap.size 3 i0 (.int .i64 0) 1 8 Tryz.underlying48 hi hz0 hz1 hz2 rfl (by decide) _ _ _ rfl HO.out ⟨g,0,none⟩ xs.length c (zcells xs) rfl (by rw [zmo];omega) HN.out (zsA xs) B1.out B2.out (by simp) ?_;intro v' w1 hown' hgrow hnil')
  go_ret
  rw [Nat.zero_add,List.nil_append] at hown'
  have hs':IntsZ w1 w.heap.size v' xs:=⟨hown'⟩
  obtain ⟨A',c',rfl⟩:=hs'.slice
  exact ⟨A',c',rfl,hs',(zae w _).trans ((Below.refl _ _).grown hgrow (by simp) (fun k hk => by cases hk;exact Nat.le_refl _))⟩
theorem index (A:Option Addr) (n c:Nat) (xs:List Int) (x:Int) (H:Nat) (w:World) (h:IntsZ w H (.slice A n c) xs) :
  Calls Tryz.prog 128 #[.slice A n c, .int .i64 x] w fun e w' => (∃ i:Int,e = .returned (.int .i64 i) ∧ ((x ∈ xs ∧ 0 ≤ i) ∨ (x ∉ xs ∧ i = -1))) ∧ Below w.heap.size w w':=by
 have HN:=hid h.len
 have hf:=h.form
 have HV:=hid h
 have hnb:n ≤ 9223372036854775807:=by have h1:=hf.2.1;have h2:=hf.2.2.1;unfold maxLen at h2;omega
 clear h hf
 go_enter Tryz.func128,Tryz.ntmps128
 go_wp2
 go_loopw [8] (fun i wr => ∃ k:Nat,i = .int .i64 k ∧ k ≤ n ∧ Below w.heap.size w wr ∧ ∀ j,j < k → xs[j]? ≠ some x)
  (fun i _ => n - (intOf i).toNat)
 case atStart => exact ⟨0,rfl,Nat.zero_le _,Below.refl _ _,fun j hj => absurd hj (Nat.not_lt_zero _)⟩
 case round =>
  obtain ⟨k,rfl,hk,hB,hT⟩:=hrel
  have HB:=hid hB
  have HT:=hid hT
  by_cases hlt:k < n
  ·have HV2:=hid (HV.out.below hB)
   obtain ⟨b,rfl,hb0,hb1⟩:=HV2.out.has (by omega)
   have hq:xs[k]? = some (xs[k]'(by rw [← HN.out];exact hlt)):=List.getElem?_eq_getElem _
   generalize xs[k]'(by rw [← HN.out];exact hlt) = y at hq
   have k0:=HV2.out.at_ hq
   have HQ:=hid hq
   have hi1:(0:Int) ≤ (k:Int):=Int.natCast_nonneg _
   have hi2:(k:Int) < (n:Int):=by omega
   clear hB hT hq
   by_cases e:x = y
   ·subst e
    have e1:(x == x) = true:=by simp
    have HM:=hid (List.mem_of_getElem? HQ.out)
    go_wp2
    go_ret
    exact ⟨⟨_,rfl, .inl ⟨HM.out,hi1⟩⟩,HB.out⟩
   ·have e1:(x == y) = false:=by simpa using e
    have HF:=hid (show ∀ j,j < k + 1 → xs[j]? ≠ some x from fun j hj => by
     by_cases e2:j = k
     ·rw [e2,HQ.out];intro h;injection h with h;exact e h.symm
     ·exact HT.out j (by omega))
    clear e
    go_wp2
    go_roundw
    case rel => exact ⟨k + 1,by go_num,by omega,HB.out,HF.out⟩
    case measure => simp [intOf];omega
  ·obtain rfl:n = k:=by omega
   have HF:=hid (show x ∉ xs from fun hm => by obtain ⟨j,hj⟩:=List.mem_iff_getElem?.1 hm;exact hT j (by rw [HN.out];exact (List.getElem?_eq_some_iff.1 hj).1) hj)
   clear hB hT
   go_wp2
   go_ret
   exact ⟨⟨_,rfl, .inr ⟨HF.out,rfl⟩⟩,HB.out⟩
theorem has (A:Option Addr) (n c:Nat) (xs:List Int) (x:Int) (H:Nat) (w:World) (h:IntsZ w H (.slice A n c) xs) :
  Calls Tryz.prog 75 #[.slice A n c, .int .i64 x] w fun e w' => e = .returned (.bool (decide (x ∈ xs))) ∧ Below w.heap.size w w':=by
 by_cases hm:x ∈ xs
 ·rw [decide_eq_true hm]
  have HM:=hid hm
  clear hm
  go_enter Tryz.func75,Tryz.ntmps75
  go_wp2_with fail
  refine (index A n c xs x H _ h).mono ?_
  rintro e w1 ⟨⟨i,rfl,hi | hi⟩,hb⟩
  ·have HB:=hid hb
   have h0:=hi.2
   clear hb hi
   go_wp2
   go_ret
   exact ⟨rfl,HB.out⟩
  ·exact absurd HM.out hi.1
 ·rw [decide_eq_false hm]
  have HM:=hid hm
  clear hm
  go_enter Tryz.func75,Tryz.ntmps75
  go_wp2_with fail
  refine (index A n c xs x H _ h).mono ?_
  rintro e w1 ⟨⟨i,rfl,hi | hi⟩,hb⟩
  ·exact absurd hi.1 HM.out
  ·obtain ⟨_,rfl⟩:=hi
   have HB:=hid hb
   clear hb
   go_wp2
   go_ret
   exact ⟨rfl,HB.out⟩
end Sl
end Go.Proofs.YtdbgbaiekpbaoaaGreatDoor
namespace Go.Proofs.YtdbgbaiekpbaoaaGreatDoor
open Go.RowKit Am
open Lib (hid)
set_option maxHeartbeats 1000000
set_option maxRecDepth 100000
structure StdP (w:World) (rA:Option Addr) (rc:Nat) (lA:List Value) (bA:Option Addr) (bc_:Nat) (kA:Option Addr) (kc:Nat) (eA:Option Addr) (ec:Nat) (m N S:Nat) (A:List (List Rat)) (b c:List Rat) (left:List Int):Prop where
  rows:VecsL w 0 (.slice rA m rc) lA A
  rl:∀ r ∈ A,r.length = N
  B:VecS w 0 (.slice bA m bc_) b
  C:VecS w 0 (.slice kA N kc) c
  left:IntsZ w 0 (.slice eA m ec) left
  hm:m ≤ 64
  hN:N ≤ 64
  zA:∀ r ∈ A, ∀ q ∈ r,mw q ≤ S
  zb:∀ q ∈ b,mw q ≤ S
  zc:∀ q ∈ c,mw q ≤ S
  hS:1 ≤ S
namespace StdP
variable {w w':World} {rA:Option Addr} {rc:Nat} {lA:List Value} {bA:Option Addr} {bc_:Nat} {kA:Option Addr} {kc:Nat} {eA:Option Addr} {ec m N S:Nat} {A:List (List Rat)} {b c:List Rat} {left:List Int}
theorem below (h:StdP w rA rc lA bA bc_ kA kc eA ec m N S A b c left) (hb:Below w.heap.size w w'):StdP w' rA rc lA bA bc_ kA kc eA ec m N S A b c left :=
 ⟨h.rows.below hb,h.rl,h.B.below hb,h.C.below hb,h.left.below hb,h.hm,h.hN,h.zA,h.zb,h.zc,h.hS⟩
theorem alloc (h:StdP w rA rc lA bA bc_ kA kc eA ec m N S A b c left) (o:Obj):StdP (w.alloc o) rA rc lA bA bc_ kA kc eA ec m N S A b c left:=h.below (zae w o)
theorem drew (h:StdP w rA rc lA bA bc_ kA kc eA ec m N S A b c left):StdP w.drew rA rc lA bA bc_ kA kc eA ec m N S A b c left:=h.below (zap w 1)
theorem rect (h:StdP w rA rc lA bA bc_ kA kc eA ec m N S A b c left):Rect m N A :=
 ⟨h.rows.nlen.symm,fun i hi => h.rl _ (List.mem_of_getElem? (zaO (by rw [← h.rows.nlen];exact hi)))⟩
theorem blen (h:StdP w rA rc lA bA bc_ kA kc eA ec m N S A b c left):b.length = m:=h.B.len.symm
theorem clen (h:StdP w rA rc lA bA bc_ kA kc eA ec m N S A b c left):c.length = N:=h.C.len.symm
theorem zen (h:StdP w rA rc lA bA bc_ kA kc eA ec m N S A b c left) {i j:Nat} (hi:i < m) (hj:j < N):mw (en A i j) ≤ S:=by
 have e:=zaO (L:=A) (i:=i) (d:=[]) (by rw [← h.rows.nlen];exact hi)
 have hm:=List.mem_of_getElem? e
 have h2:=h.rl _ hm
 exact h.zA _ hm _ (List.mem_of_getElem? (zaH (by rw [h2];exact hj)))
theorem zcol (h:StdP w rA rc lA bA bc_ kA kc eA ec m N S A b c left) {j:Nat} (hj:j < N):∀ q ∈ zb4 A j,mw q ≤ S:=fun q hq => by
 obtain ⟨r,hr,rfl⟩:=List.mem_map.1 hq
 exact h.zA r hr _ (List.mem_of_getElem? (zaH (by rw [h.rl r hr];exact hj)))
end StdP
structure TabP (W0 w:World) (H q:Nat) (rA:Option Addr) (rc:Nat) (lA:List Value) (bA:Option Addr) (bc_:Nat) (kA:Option Addr) (kc:Nat) (eA:Option Addr) (ec m N S own:Nat) (A:List (List Rat)) (b c:List Rat) (left:List Int)
    (tA:Option Addr) (tc qb:Nat) (xA:Option Addr) (xc:Nat) (cols:List Nat):Prop where
  blk:w.heap[q]? = some (.cells #[.slice rA m rc, .int .i64 (N:Int), .slice bA m bc_, .slice kA N kc, .int .i64 (own:Int), .slice eA m ec, .slice tA m tc, .pointer (some ⟨qb,0,none⟩), .slice xA m xc] 147 (0,0))
  std:StdP W0 rA rc lA bA bc_ kA kc eA ec m N S A b c left
  bel:Below W0.heap.size W0 w
  base:W0.heap.size ≤ H
  colsI:IntsS w H (.slice tA m tc) cols
  basO:zhf w H qb m S (bc A cols) (Value.slice tA m tc).ownBlock
  x:VecS w H (.slice xA m xc) (za5 A b cols)
  basis:Basis m N A cols
  own_:H ≤ q
def zhi (W0 w:World) (H q:Nat) (rA:Option Addr) (rc:Nat) (lA:List Value) (bA:Option Addr) (bc_:Nat) (kA:Option Addr) (kc:Nat) (eA:Option Addr) (ec m N S own:Nat) (A:List (List Rat)) (b c:List Rat) (left:List Int)
    (tA:Option Addr) (tc:Nat) (cols:List Nat):Prop := ∃ qb xA xc,TabP W0 w H q rA rc lA bA bc_ kA kc eA ec m N S own A b c left tA tc qb xA xc cols
section
variable {W0 w w':World} {H q:Nat} {rA:Option Addr} {rc:Nat} {lA:List Value} {bA:Option Addr} {bc_:Nat} {kA:Option Addr} {kc:Nat} {eA:Option Addr} {ec m N S own:Nat} {A:List (List Rat)} {b c:List Rat} {left:List Int}
  {tA:Option Addr} {tc qb:Nat} {xA:Option Addr} {xc:Nat} {cols:List Nat}
namespace TabP
theorem below (h:TabP W0 w H q rA rc lA bA bc_ kA kc eA ec m N S own A b c left tA tc qb xA xc cols) (hb:Below w.heap.size w w'):TabP W0 w' H q rA rc lA bA bc_ kA kc eA ec m N S own A b c left tA tc qb xA xc cols :=
 ⟨zad hb h.blk,h.std,h.bel.trans (hb.mono h.bel.size),h.base,h.colsI.below hb,h.basO.below hb,h.x.below hb,h.basis,h.own_⟩
theorem alloc (h:TabP W0 w H q rA rc lA bA bc_ kA kc eA ec m N S own A b c left tA tc qb xA xc cols) (o:Obj):TabP W0 (w.alloc o) H q rA rc lA bA bc_ kA kc eA ec m N S own A b c left tA tc qb xA xc cols:=h.below (zae w o)
theorem drew (h:TabP W0 w H q rA rc lA bA bc_ kA kc eA ec m N S own A b c left tA tc qb xA xc cols):TabP W0 w.drew H q rA rc lA bA bc_ kA kc eA ec m N S own A b c left tA tc qb xA xc cols:=h.below (zap w 1)
theorem bas (h:TabP W0 w H q rA rc lA bA bc_ kA kc eA ec m N S own A b c left tA tc qb xA xc cols):zjE w H qb m S (bc A cols):=h.basO.toS
theorem stdN (h:TabP W0 w H q rA rc lA bA bc_ kA kc eA ec m N S own A b c left tA tc qb xA xc cols):StdP w rA rc lA bA bc_ kA kc eA ec m N S A b c left:=h.std.below h.bel
theorem hle (h:TabP W0 w H q rA rc lA bA bc_ kA kc eA ec m N S own A b c left tA tc qb xA xc cols):H ≤ w.heap.size:=h.bas.hle
theorem toS (h:TabP W0 w H q rA rc lA bA bc_ kA kc eA ec m N S own A b c left tA tc qb xA xc cols):zhi W0 w H q rA rc lA bA bc_ kA kc eA ec m N S own A b c left tA tc cols:=⟨qb,xA,xc,h⟩
end TabP
namespace zhi
theorem below (h:zhi W0 w H q rA rc lA bA bc_ kA kc eA ec m N S own A b c left tA tc cols) (hb:Below w.heap.size w w'):zhi W0 w' H q rA rc lA bA bc_ kA kc eA ec m N S own A b c left tA tc cols:=by
 obtain ⟨qb,xA,xc,h⟩:=h;exact ⟨qb,xA,xc,h.below hb⟩
theorem alloc (h:zhi W0 w H q rA rc lA bA bc_ kA kc eA ec m N S own A b c left tA tc cols) (o:Obj):zhi W0 (w.alloc o) H q rA rc lA bA bc_ kA kc eA ec m N S own A b c left tA tc cols:=h.below (zae w o)
theorem drew (h:zhi W0 w H q rA rc lA bA bc_ kA kc eA ec m N S own A b c left tA tc cols):zhi W0 w.drew H q rA rc lA bA bc_ kA kc eA ec m N S own A b c left tA tc cols:=h.below (zap w 1)
theorem hle (h:zhi W0 w H q rA rc lA bA bc_ kA kc eA ec m N S own A b c left tA tc cols):H ≤ w.heap.size:=by obtain ⟨qb,xA,xc,h⟩:=h;exact h.hle
theorem basis (h:zhi W0 w H q rA rc lA bA bc_ kA kc eA ec m N S own A b c left tA tc cols):Basis m N A cols:=by obtain ⟨qb,xA,xc,h⟩:=h;exact h.basis
theorem std (h:zhi W0 w H q rA rc lA bA bc_ kA kc eA ec m N S own A b c left tA tc cols):StdP W0 rA rc lA bA bc_ kA kc eA ec m N S A b c left:=by obtain ⟨qb,xA,xc,h⟩:=h;exact h.std
end zhi
end
theorem IntsZ.push {w':World} {H:Nat} {v':Value} {xs:List Int} {x:Int} (hown:w'.ownsRow H 3 1 v' (xs.length + 1) (zcells xs ++ [.int .i64 x])):IntsZ w' H v' (xs ++ [x]):=by
 refine ⟨?_⟩
 rw [List.length_append]
 simpa [zcells] using hown
theorem zfS {w:World} {ops:Array Oper} {rest:List Oper} {o:Oper} {a:Act} {Q:Exit → Act → World → Prop} (hgd:o.guard = none) (s x:Operand)
  (hop:o.op = .call { callee := .builtin .append,args := #[s,x],argTypes := #[48,48] }) {H:Nat} {v:Value} {xs:List Int} (hs:a.eval s = v) (hv:IntsZ w H v xs) {b:Nat} (hx:a.eval x = .slice (some ⟨b,0,none⟩) 1 1)
  {z:Int} (hb:w.heap[b]? = some (.cells #[.int .i64 z] 3 (0,0))) {n:Nat} (hn:xs.length = n) (hlen:n + 1 ≤ 1000000) (hH:H ≤ w.heap.size)
  (hK:∀ A' c' w',IntsZ w' H (.slice A' (n + 1) c') (xs ++ [z]) → TKeep 3 w w' → Below H w w' → wpList Tryz.prog ops Q rest (a.put o.dst (.slice A' (n + 1) c')) w'):wpList Tryz.prog ops Q (o :: rest) a w:=by
 subst hn
 obtain ⟨i0,hi,hz0,hz1,hz2⟩:=info_parts znF
 refine wpList_plain hgd fun K hK' => ?_
 refine wp_append_own w s x 48 hop H 3 i0 _ 1 8 Tryz.underlying48 hi hz0 hz1 hz2 rfl (by decide) v xs.length (zcells xs) hs hv.own ⟨b,0,none⟩ 1 1 [.int .i64 z] hx rfl (zrj hb)
  (by intro u hu;simp at hu;subst hu;rfl) (by unfold maxLen;omega) (by omega) hH ?_
 intro v' w' hown hgrow _
 have hL:=IntsZ.push hown
 obtain ⟨A',c',rfl⟩:=hL.slice
 rw [List.length_append] at hL
 have hh:=hK A' c' w' hL (TKeep.grown hv.own hgrow) ((Below.refl _ _).grown hgrow hH (fun k hk => (hv.own.lt k hk).1))
 simp only [List.length_append,List.length_cons,List.length_nil,Nat.zero_add]
 exact hK' _ _ hh
theorem zfR {w:World} {ops:Array Oper} {rest:List Oper} {o:Oper} {a:Act} {Q:Exit → Act → World → Prop} (hgd:o.guard = none) (s x:Operand)
  (hop:o.op = .call { callee := .builtin .append,args := #[s,x],argTypes := #[26,26] }) {H:Nat} {v:Value} {qs:List Rat} (hs:a.eval s = v) (hv:VecS w H v qs) {b:Nat} (hx:a.eval x = .slice (some ⟨b,0,none⟩) 1 1)
  {g:Bool} {A:Option Addr} {m c:Nat} {D:Option Addr} {md cd:Nat} {q:Rat} (hb:w.heap[b]? = some (.cells #[.bool g, .slice A m c, .slice D md cd] 35 (0,0))) (hq:RatS w g (.slice A m c) (.slice D md cd) q) {N:Nat} (hN:qs.length = N) (hlen:N + 1 ≤ 1000000) (hH:H ≤ w.heap.size)
  (hK:∀ A' c' w',VecS w' H (.slice A' (N + 1) c') (qs ++ [q]) → TKeep 35 w w' → Below H w w' → wpList Tryz.prog ops Q rest (a.put o.dst (.slice A' (N + 1) c')) w'):wpList Tryz.prog ops Q (o :: rest) a w:=by
 subst hN
 obtain ⟨i0,hi,hz0,hz1,hz2⟩:=info_parts ze0
 obtain ⟨l,h1,h2,h3⟩:=hv.row
 refine wpList_plain hgd fun K hK' => ?_
 refine wp_append_own w s x 26 hop H 35 i0 _ 3 56 Tryz.underlying26 hi hz0 hz1 hz2 rfl (by decide) v qs.length (rcells l) hs h3 ⟨b,0,none⟩ 1 1 [.bool g, .slice A m c, .slice D md cd] hx rfl (zC6 hb)
  (by intro u hu;simp at hu;rcases hu with rfl | rfl | rfl <;> rfl) (by unfold maxLen;omega) (by omega) hH ?_
 intro v' w' hown hgrow _
 have hL:=VecS.append h1 h2 h3 hq hown hgrow
 obtain ⟨A',n',c',rfl⟩:=hL.slice
 have hl:=hL.len
 rw [List.length_append] at hl
 simp only [List.length_cons,List.length_nil,Nat.zero_add] at hl
 subst hl
 exact hK' _ _ (hK A' c' w' hL (TKeep.grown h3 hgrow) ((Below.refl _ _).grown hgrow hH (fun k hk => (h3.lt k hk).1)))
theorem zmp (n:Nat):(Builtin.zeroCells (Value.agg #[.bool false, .slice none 0 0, .slice none 0 0]).cells n).toList = rcells (List.replicate n (false, .slice none 0 0, .slice none 0 0)):=by
 apply List.ext_getElem?
 intro j
 have hz:(Value.agg #[.bool false, .slice none 0 0, .slice none 0 0]).cells = #[.bool false, .slice none 0 0, .slice none 0 0]:=rfl
 rw [hz]
 by_cases hj:j < n * 3
 ·have h1:(Builtin.zeroCells #[.bool false, .slice none 0 0, .slice none 0 0] n).toList[j]? = some (#[Value.bool false, .slice none 0 0, .slice none 0 0][j % 3]!):=by
   simp [Builtin.zeroCells,hj]
  have hk:(List.replicate n ((false, .slice none 0 0, .slice none 0 0):RV))[j / 3]? = some (false, .slice none 0 0, .slice none 0 0):=by
   rw [List.getElem?_replicate,if_pos (by omega)]
  obtain ⟨g0,g1,g2⟩:=ziI _ _ _ hk
  rw [h1]
  rcases (by omega:j % 3 = 0 ∨ j % 3 = 1 ∨ j % 3 = 2) with e | e | e
  ·rw [e];rw [show j / 3 * 3 = j by omega] at g0;rw [g0];rfl
  ·rw [e];rw [show j / 3 * 3 + 1 = j by omega] at g1;rw [g1];rfl
  ·rw [e];rw [show j / 3 * 3 + 2 = j by omega] at g2;rw [g2];rfl
 ·rw [List.getElem?_eq_none (by simp [Builtin.zeroCells];omega),List.getElem?_eq_none (by rw [zcC];simp;omega)]
theorem zb3 {w:World} {ops:Array Oper} {rest:List Oper} {o:Oper} {a:Act} {Q:Exit → Act → World → Prop} (hgd:o.guard = none) (s x:Operand)
  (hop:o.op = .call { callee := .builtin .append,args := #[s,x],argTypes := #[26,3] }) {H:Nat} {v:Value} {qs:List Rat} (hs:a.eval s = v) (hv:VecS w H v qs) {n:Nat} {M:Int} (hx:a.eval x = .int .i64 M) (hM:M = (n:Int))
  {N:Nat} (hN:qs.length + n = N) (hlen:N ≤ 1000000) (hH:H ≤ w.heap.size)
  (hK:∀ A' c' w',VecS w' H (.slice A' N c') (qs ++ List.replicate n 0) → TKeep 35 w w' → Below H w w' → wpList Tryz.prog ops Q rest (a.put o.dst (.slice A' N c')) w'):wpList Tryz.prog ops Q (o :: rest) a w:=by
 subst hN
 subst hM
 obtain ⟨i0,hi,hz0,hz1,hz2⟩:=info_parts ze0
 obtain ⟨l,h1,h2,h3⟩:=hv.row
 refine wpList_plain hgd fun K hK' => ?_
 obtain ⟨v',w',hrun,hown,hgrow⟩:=zgk (P:=Tryz.prog) w H 26 3 o.type 35 i0 _ 3 56 .i64 Tryz.underlying26 Tryz.underlying3 hi hz0 hz1 hz2 rfl (by decide) v qs.length (rcells l) h3 n
  (by rw [zmp];exact ziJ _ fun r hr => by obtain ⟨_,rfl⟩:=List.mem_replicate.1 hr;exact ⟨rfl,rfl⟩) (by unfold maxLen;omega) (by omega) hH
 rw [zmp] at hown
 have hk:=zh3 h3 hgrow
 have hL:VecS w' H v' (qs ++ List.replicate n 0):=by
  refine ⟨l ++ List.replicate n (false, .slice none 0 0, .slice none 0 0),by simp [h1],fun k r q e1 e2 => ?_,by rw [List.length_append,zh4,List.length_replicate];exact hown⟩
  by_cases hkl:k < l.length
  ·rw [List.getElem?_append_left hkl] at e1
   rw [List.getElem?_append_left (by omega)] at e2
   exact (h2 k r q e1 e2).keepT hk
  ·rw [List.getElem?_append_right (by omega),List.getElem?_replicate] at e1
   rw [List.getElem?_append_right (by omega),List.getElem?_replicate] at e2
   split at e1
   ·injection e1 with e1
    rw [if_pos (by omega)] at e2
    injection e2 with e2
    subst e1 e2
    exact RatS.zero _
   ·cases e1
 obtain ⟨A',n',c',rfl⟩:=hL.slice
 have hl:=hL.len
 rw [List.length_append,List.length_replicate] at hl
 subst hl
 exact Lib.wp_append_run w s x 26 3 hop v _ hs hx _ w' hrun (hK' _ _ (hK A' c' w' hL (TKeep.grown h3 hgrow) ((Below.refl _ _).grown hgrow hH (fun k hk => (h3.lt k hk).1))))
theorem zrM {w:World} {H b kl lc ku uc:Nat} {ll ul:List Value} {L U:List (List Rat)} (h1:VecsL w H (.slice (some ⟨b,0,none⟩) kl lc) ll L) (h2:VecsL w H (.slice (some ⟨b,0,none⟩) ku uc) ul U) (k1:0 < kl) (k2:0 < ku)
  (hr:∀ r ∈ L,0 < r.length) (rows:∀ a ∈ ll, ∀ b ∈ ul, ∀ g,a.ownBlock = some g → b.ownBlock ≠ some g):False:=by
 have e1:=h1.nlen
 have e2:=h2.nlen
 obtain ⟨r,hr1⟩:∃ r,L[0]? = some r:=⟨L[0]'(by omega),List.getElem?_eq_getElem _⟩
 obtain ⟨u,hu1⟩:∃ u,U[0]? = some u:=⟨U[0]'(by omega),List.getElem?_eq_getElem _⟩
 obtain ⟨A,c,a1,a2,a3⟩:=h1.at_ hr1
 obtain ⟨B,d,b1,b2,_⟩:=h2.at_ hu1
 rw [a2] at b2
 injection b2 with b2
 obtain ⟨g,rfl,_,_⟩:=a3.has (hr r (List.mem_of_getElem? hr1))
 exact rows _ (List.mem_of_getElem? a1) _ (List.mem_of_getElem? b1) g rfl (by rw [← b2];rfl)
theorem zgr {o:Oper} {a:Act} {w:World} {K:Act → World → Prop} {Q:Exit → Act → World → Prop} (s x:Operand)
  (hop:o.op = .call { callee := .builtin .append,args := #[s,x],argTypes := #[62,62] }) {H:Nat} {v:Value} {l:List Value} {L:List (List Rat)} (hs:a.eval s = v) (hv:VecsL w H v l L) {b:Nat} (hx:a.eval x = .slice (some ⟨b,0,none⟩) 1 1)
  {sl:Value} {r:List Rat} (hb:w.heap[b]? = some (.cells #[sl] 26 (0,0))) (hr:VecS w H sl r) {n:Nat} (hn:L.length = n) (hlen:n + 1 ≤ 1000000) (hH:H ≤ w.heap.size)
  (hK:∀ A' c' w',VecsL w' H (.slice A' (n + 1) c') (l ++ [sl]) (L ++ [r]) → TKeep 26 w w' → Below H w w' → (∀ j,j < w.heap.size → v.ownBlock ≠ some j → w'.heap[j]? = w.heap[j]?) → K (a.put o.dst (.slice A' (n + 1) c')) w') :
  Oper.wp Tryz.prog o a w K Q:=by
 subst hn
 obtain ⟨i0,hi,hz0,hz1,hz2⟩:=info_parts zrA
 refine wp_append_own w s x 62 hop H 26 i0 _ 1 24 Tryz.underlying62 hi hz0 hz1 hz2 rfl (by decide) v L.length l hs hv.own ⟨b,0,none⟩ 1 1 [sl] hx rfl (zrj hb)
  (by intro u hu;simp at hu;subst hu;exact hr.one) (by unfold maxLen;omega) (by omega) hH ?_
 intro v' w' hown hgrow _
 have hL:=hv.append hr hown hgrow
 obtain ⟨A',c',rfl⟩:=hL.slice
 rw [List.length_append] at hL
 have hh:=hK A' c' w' hL (TKeep.grown hv.own hgrow) ((Below.refl _ _).grown hgrow hH (fun k hk => (hv.own.lt k hk).1)) (fun j hj hne => hgrow.block j hj (fun e => hne e.symm))
 simpa using hh
theorem zbW {w:World} {ops:Array Oper} {rest:List Oper} {o:Oper} {a:Act} {Q:Exit → Act → World → Prop} (hgd:o.guard = none) (s x:Operand)
  (hop:o.op = .call { callee := .builtin .append,args := #[s,x],argTypes := #[62,62] }) {H:Nat} {v:Value} {l:List Value} {L:List (List Rat)} (hs:a.eval s = v) (hv:VecsL w H v l L) {b:Nat} (hx:a.eval x = .slice (some ⟨b,0,none⟩) 1 1)
  {sl:Value} {r:List Rat} (hb:w.heap[b]? = some (.cells #[sl] 26 (0,0))) (hr:VecS w H sl r) {n:Nat} (hn:L.length = n) (hlen:n + 1 ≤ 1000000) (hH:H ≤ w.heap.size)
  (hK:∀ A' c' w',VecsL w' H (.slice A' (n + 1) c') (l ++ [sl]) (L ++ [r]) → TKeep 26 w w' → Below H w w' → (∀ j,j < w.heap.size → v.ownBlock ≠ some j → w'.heap[j]? = w.heap[j]?) → wpList Tryz.prog ops Q rest (a.put o.dst (.slice A' (n + 1) c')) w') :
  wpList Tryz.prog ops Q (o :: rest) a w :=
 wpList_plain hgd fun _ hK' => zgr s x hop hs hv hx hb hr hn hlen hH fun A' c' w' h1 h2 h3 h4 => hK' _ _ (hK A' c' w' h1 h2 h3 h4)
theorem zet {ops:Array Oper} {o:Oper} {a:Act} {w:World} {K:Act → World → Prop} {Q:Exit → Act → World → Prop} {E:Prop} (hg:o.guard = none) (s x:Operand)
  (hop:o.op = .call { callee := .builtin .append,args := #[s,x],argTypes := #[62,62] }) {H:Nat} {v:Value} {l:List Value} {L:List (List Rat)} (hs:a.eval s = v) (hv:VecsL w H v l L) {b:Nat} (hx:a.eval x = .slice (some ⟨b,0,none⟩) 1 1)
  {sl:Value} {r:List Rat} (hb:w.heap[b]? = some (.cells #[sl] 26 (0,0))) (hr:VecS w H sl r) {n:Nat} (hn:L.length = n) (hlen:n + 1 ≤ 1000000) (hH:H ≤ w.heap.size)
  (hK:∀ A' c' w',VecsL w' H (.slice A' (n + 1) c') (l ++ [sl]) (L ++ [r]) → TKeep 26 w w' → Below H w w' → (∀ j,j < w.heap.size → v.ownBlock ≠ some j → w'.heap[j]? = w.heap[j]?) → K (a.put o.dst (.slice A' (n + 1) c')) w') :
  if Region.wanted o (yielded ops a.tmps) = true then Oper.wp Tryz.prog o a w K Q else E:=by
 have hw:Region.wanted o (yielded ops a.tmps) = true:=by simp [Region.wanted,hg]
 rw [if_pos hw]
 exact zgr s x hop hs hv hx hb hr hn hlen hH hK
theorem ziP {w:World} {ops:Array Oper} {rest:List Oper} {o:Oper} {a:Act} {Q:Exit → Act → World → Prop} (hgd:o.guard = none) (s x:Operand)
  (hop:o.op = .call { callee := .builtin .append,args := #[s,x],argTypes := #[48,48] }) {H:Nat} {v:Value} {xs:List Nat} (hs:a.eval s = v) (hv:IntsS w H v xs) {b:Nat} (hx:a.eval x = .slice (some ⟨b,0,none⟩) 1 1)
  {z:Nat} (hb:w.heap[b]? = some (.cells #[.int .i64 (z:Int)] 3 (0,0))) {n:Nat} (hn:xs.length = n) (hlen:n + 1 ≤ 1000000) (hH:H ≤ w.heap.size)
  (hK:∀ A' c' w',IntsS w' H (.slice A' (n + 1) c') (xs ++ [z]) → TKeep 3 w w' → Below H w w' → wpList Tryz.prog ops Q rest (a.put o.dst (.slice A' (n + 1) c')) w') :
  wpList Tryz.prog ops Q (o :: rest) a w:=by
 refine wpList_plain hgd fun K hK' => ?_
 have h:=zll (ops:=ops) (K:=K) (Q:=Q) (E:=True) hgd s x hop hs hv hx hb hn hlen hH fun A' c' w' h1 h2 h3 => hK' _ _ (hK A' c' w' h1 h2 h3)
 have hw:Region.wanted o (yielded ops a.tmps) = true:=by simp [Region.wanted,hgd]
 rw [if_pos hw] at h
 exact h
structure LuG (w:World) (H q n kl ku kp:Nat) (lA:Option Addr) (lc:Nat) (ll:List Value) (uA:Option Addr) (uc:Nat) (ul:List Value) (pA:Option Addr) (pc:Nat) (F:LUv):Prop where
  blk:w.heap[q]? = some (.cells #[.slice lA kl lc, .slice uA ku uc, .slice pA kp pc, .bool F.odd] 263 (0,0))
  lo:VecsL w H (.slice lA kl lc) ll F.lo
  la:zbG ll
  up:VecsL w H (.slice uA ku uc) ul F.up
  ua:zbG ul
  rows:∀ a ∈ ll, ∀ b ∈ ul, ∀ g,a.ownBlock = some g → b.ownBlock ≠ some g
  perm:IntsS w H (.slice pA kp pc) F.perm
  own:H ≤ q
  l0:kl = 0 → lA = none
  lr:∀ r ∈ F.lo,r.length = n
  ur:∀ r ∈ F.up,r.length = n
  sep:∀ g,(Value.slice lA kl lc).ownBlock = some g → (Value.slice uA ku uc).ownBlock ≠ some g
theorem zxu {A:Option Addr} {n c g:Nat} (h:(Value.slice A n c).ownBlock = some g) {b:Nat} (hA:A = none ∨ A = some ⟨b,0,none⟩):A = some ⟨g,0,none⟩:=by
 rcases hA with rfl | rfl
 ·cases h
 ·have : b = g:=by injection h
  rw [this]
namespace LuG
variable {w w':World} {H q n kl ku kp:Nat} {lA:Option Addr} {lc:Nat} {ll:List Value} {uA:Option Addr} {uc:Nat} {ul:List Value} {pA:Option Addr} {pc:Nat} {F:LUv}
theorem below (h:LuG w H q n kl ku kp lA lc ll uA uc ul pA pc F) (hb:Below w.heap.size w w'):LuG w' H q n kl ku kp lA lc ll uA uc ul pA pc F :=
 ⟨by rw [hb.block q (Array.getElem?_eq_some_iff.1 h.blk).1];exact h.blk,h.lo.below hb,h.la,h.up.below hb,h.ua,h.rows,h.perm.below hb,h.own,h.l0,h.lr,h.ur,h.sep⟩
theorem alloc (h:LuG w H q n kl ku kp lA lc ll uA uc ul pA pc F) (o:Obj):LuG (w.alloc o) H q n kl ku kp lA lc ll uA uc ul pA pc F:=h.below (zae w o)
theorem drew (h:LuG w H q n kl ku kp lA lc ll uA uc ul pA pc F):LuG w.drew H q n kl ku kp lA lc ll uA uc ul pA pc F:=h.below (zap w 1)
theorem qlt (h:LuG w H q n kl ku kp lA lc ll uA uc ul pA pc F):q < w.heap.size:=(Array.getElem?_eq_some_iff.1 h.blk).1
theorem addr {H:Nat} {v:Value} {l:List Value} {L:List (List Rat)} {A:Option Addr} {k c:Nat} (h:VecsL w H v l L) (e:v = .slice A k c):A = none ∨ ∃ b,A = some ⟨b,0,none⟩:=by
 subst e
 obtain ⟨_,_,_,h1 | ⟨g,h1,_⟩⟩:=h.form
 ·exact .inl h1.1
 ·exact .inr ⟨g,h1⟩
theorem shape {H:Nat} {l:List Value} {L:List (List Rat)} {A:Option Addr} {k c g:Nat} (h:VecsL w H (.slice A k c) l L) (e:(Value.slice A k c).ownBlock = some g):A = some ⟨g,0,none⟩:=by
 rcases addr h rfl with h1 | ⟨b,h1⟩
 ·subst h1;cases e
 ·exact zxu e (.inr h1)
theorem pushU (h:LuG w H q n kl ku kp lA lc ll uA uc ul pA pc F) (hn:0 < n) {A':Option Addr} {c':Nat} {sl:Value} {r:List Rat} (hU:VecsL w' H (.slice A' (ku + 1) c') (ul ++ [sl]) (F.up ++ [r])) (hk:TKeep 26 w w')
  (far:∀ j,j < w.heap.size → (Value.slice uA ku uc).ownBlock ≠ some j → w'.heap[j]? = w.heap[j]?) (hr:r.length = n) (fresh:∀ g,sl.ownBlock = some g → (∀ a ∈ ll,a.ownBlock ≠ some g) ∧ ∀ a ∈ ul,a.ownBlock ≠ some g) :
  LuG (w'.setCell ⟨q,1,none⟩ (.slice A' (ku + 1) c')) H q n kl (ku + 1) kp lA lc ll A' c' (ul ++ [sl]) pA pc { F with up:=F.up ++ [r] }:=by
 have hq:=hk.blk h.blk (by decide)
 have k1:TKeep 263 w' (w'.setCell ⟨q,1,none⟩ (.slice A' (ku + 1) c')):=TKeep.set hq _
 have hlo:VecsL w' H (.slice lA kl lc) ll F.lo:=h.lo.keepAll (fun j hj => far j (h.lo.own.lt j hj).2 (h.sep j hj)) fun _ _ _ v => v.tk hk (by decide) (by decide)
 have rows':∀ a ∈ ll, ∀ b ∈ ul ++ [sl], ∀ g,a.ownBlock = some g → b.ownBlock ≠ some g:=fun a ha b hb g hg => by
  rcases List.mem_append.1 hb with hb | hb
  ·exact h.rows a ha b hb g hg
  ·rw [List.mem_singleton.1 hb];intro e;exact (fresh g e).1 a ha hg
 refine ⟨?_,hlo.tk k1 (by decide) (by decide) (by decide),h.la,hU.tk k1 (by decide) (by decide) (by decide),h.ua.push fun g b hg hb => (fresh g hg).2 b hb,rows',(h.perm.tk hk (by decide)).tk k1 (by decide),h.own,h.l0,h.lr,fun r' hr' => ?_,fun g h1 h2 => ?_⟩
 ·have:=zar (o:=1) (.slice A' (ku + 1) c') hq
  simpa using this
 ·rcases List.mem_append.1 hr' with h1 | h1
  ·exact h.ur r' h1
  ·rw [List.mem_singleton.1 h1];exact hr
 ·have e1:=shape hlo h1
  have e2:=shape hU h2
  by_cases k0:kl = 0
  ·rw [h.l0 k0] at h1;cases h1
  ·rw [e1] at hlo
   rw [e2] at hU
   exact zrM hlo hU (by omega) (by omega) (fun r hr => by rw [h.lr r hr];exact hn) rows'
theorem pushL (h:LuG w H q n kl ku kp lA lc ll uA uc ul pA pc F) (hn:0 < n) (hku:0 < ku) {A':Option Addr} {c':Nat} {sl:Value} {r:List Rat} (hU:VecsL w' H (.slice A' (kl + 1) c') (ll ++ [sl]) (F.lo ++ [r])) (hk:TKeep 26 w w')
  (far:∀ j,j < w.heap.size → (Value.slice lA kl lc).ownBlock ≠ some j → w'.heap[j]? = w.heap[j]?) (hr:r.length = n) (fresh:∀ g,sl.ownBlock = some g → (∀ a ∈ ll,a.ownBlock ≠ some g) ∧ ∀ a ∈ ul,a.ownBlock ≠ some g) :
  LuG (w'.setCell ⟨q,0,none⟩ (.slice A' (kl + 1) c')) H q n (kl + 1) ku kp A' c' (ll ++ [sl]) uA uc ul pA pc { F with lo:=F.lo ++ [r] }:=by
 have hq:=hk.blk h.blk (by decide)
 have k1:TKeep 263 w' (w'.setCell ⟨q,0,none⟩ (.slice A' (kl + 1) c')):=TKeep.set hq _
 have hup:VecsL w' H (.slice uA ku uc) ul F.up:=h.up.keepAll (fun j hj => far j (h.up.own.lt j hj).2 (fun e => h.sep j e hj)) fun _ _ _ v => v.tk hk (by decide) (by decide)
 have rows':∀ a ∈ ll ++ [sl], ∀ b ∈ ul, ∀ g,a.ownBlock = some g → b.ownBlock ≠ some g:=fun a ha b hb g hg => by
  rcases List.mem_append.1 ha with ha | ha
  ·exact h.rows a ha b hb g hg
  ·rw [List.mem_singleton.1 ha] at hg;exact (fresh g hg).2 b hb
 have lr':∀ r' ∈ F.lo ++ [r],r'.length = n:=fun r' hr' => by
  rcases List.mem_append.1 hr' with h1 | h1
  ·exact h.lr r' h1
  ·rw [List.mem_singleton.1 h1];exact hr
 refine ⟨?_,hU.tk k1 (by decide) (by decide) (by decide),h.la.push fun g b hg hb => (fresh g hg).1 b hb,hup.tk k1 (by decide) (by decide) (by decide),h.ua,rows',(h.perm.tk hk (by decide)).tk k1 (by decide),h.own,fun e => absurd e (by omega),lr',h.ur,fun g h1 h2 => ?_⟩
 ·have:=zar (o:=0) (.slice A' (kl + 1) c') hq
  simpa using this
 ·have e1:=shape hU h1
  have e2:=shape hup h2
  rw [e1] at hU
  rw [e2] at hup
  exact zrM hU hup (by omega) hku (fun r hr => by rw [lr' r hr];exact hn) rows'
theorem pushP (h:LuG w H q n kl ku kp lA lc ll uA uc ul pA pc F) {A':Option Addr} {c' z:Nat} (hP:IntsS w' H (.slice A' (kp + 1) c') (F.perm ++ [z])) (hk:TKeep 3 w w') :
  LuG (w'.setCell ⟨q,2,none⟩ (.slice A' (kp + 1) c')) H q n kl ku (kp + 1) lA lc ll uA uc ul A' c' { F with perm:=F.perm ++ [z] }:=by
 have hq:=hk.blk h.blk (by decide)
 have k1:TKeep 263 w' (w'.setCell ⟨q,2,none⟩ (.slice A' (kp + 1) c')):=TKeep.set hq _
 refine ⟨?_,(h.lo.tk hk (by decide) (by decide) (by decide)).tk k1 (by decide) (by decide) (by decide),h.la,(h.up.tk hk (by decide) (by decide) (by decide)).tk k1 (by decide) (by decide) (by decide),h.ua,h.rows,hP.tk k1 (by decide),h.own,h.l0,h.lr,h.ur,h.sep⟩
 have:=zar (o:=2) (.slice A' (kp + 1) c') hq
 simpa using this
theorem toS (h:LuG w H q n n n n lA lc ll uA uc ul pA pc F) (hs:Sq n F):LuS w H q n F :=
 ⟨⟨lA,lc,ll,uA,uc,ul,pA,pc,h.blk,h.lo,h.la,h.up,h.ua,h.rows,h.perm⟩,h.own,hs⟩
theorem toQ (h:LuG w H q n n n n lA lc ll uA uc ul pA pc F) (hn:0 < n):LuQ w H q n F:=by
 obtain ⟨lb,rfl,_,_⟩:=h.lo.has hn
 obtain ⟨ub,rfl,_,_⟩:=h.up.has hn
 obtain ⟨pb,rfl,_,_⟩:=h.perm.has hn
 exact ⟨lb,lc,ll,ub,uc,ul,pb,pc,h.blk,h.lo,h.la,h.up,h.ua,h.rows,fun e => h.sep lb rfl (by rw [e];rfl),h.perm,h.own⟩
end LuG
def laid (n:Nat) (L:List (List Rat)) (k:Nat):LUv:=⟨List.replicate k (List.replicate n 0),L.take k,List.range k,false⟩
theorem zuY {n:Nat} {L:List (List Rat)} {k:Nat} {r:List Rat} (h:L[k]? = some r):(⟨(laid n L k).lo ++ [List.replicate n 0],(laid n L k).up ++ [r],(laid n L k).perm ++ [k],false⟩:LUv) = laid n L (k + 1):=by
 unfold laid
 rw [List.take_add_one,h,List.range_succ,List.replicate_succ'];rfl
theorem LuG.start (w:World) (n:Nat) (L:List (List Rat)):LuG (w.alloc (.cells #[.slice none 0 0, .slice none 0 0, .slice none 0 0, .bool false] 263)) w.heap.size w.heap.size n 0 0 0 none 0 [] none 0 [] none 0 (laid n L 0):=by
 refine ⟨zal _ _ _,VecsL.nil _ _,zbG.nil,?_,zbG.nil,fun a ha => (List.not_mem_nil ha).elim,IntsS.nil _ _,Nat.le_refl _,fun _ => rfl,fun r hr => ?_,fun r hr => ?_,fun g h => by cases h⟩
 ·show VecsL _ _ _ _ (L.take 0);rw [List.take_zero];exact VecsL.nil _ _
 ·exact (List.not_mem_nil hr).elim
 ·have : r ∈ L.take 0:=hr
  rw [List.take_zero] at this;exact (List.not_mem_nil this).elim
def LuW (w:World) (H q n:Nat) (F:LUv):Prop:=(0 < n → LuQ w H q n F) ∧ (n = 0 → LuS w H q n F)
theorem LuG.toW {w:World} {H q n:Nat} {lA:Option Addr} {lc:Nat} {ll:List Value} {uA:Option Addr} {uc:Nat} {ul:List Value} {pA:Option Addr} {pc:Nat} {F:LUv} (h:LuG w H q n n n n lA lc ll uA uc ul pA pc F) (hs:Sq n F):LuW w H q n F :=
 ⟨fun hn => h.toQ hn,fun _ => h.toS hs⟩
theorem LuW.toS {w:World} {H q n:Nat} {F:LUv} (h:LuW w H q n F) (hs:Sq n F):LuS w H q n F:=by
 by_cases e:n = 0
 ·exact h.2 e
 ·exact (h.1 (by omega)).toS hs
theorem zrB {n:Nat} {L:List (List Rat)} (h:L.length = n):laid n L n = zg4 n L:=by
 unfold laid zg4;rw [← h,List.take_length]
end Go.Proofs.YtdbgbaiekpbaoaaGreatDoor
namespace Go.Proofs.YtdbgbaiekpbaoaaGreatDoor
open Go.RowKit Am
open Lib (hid)
attribute [local go_sem ↓] Go.wp_at_zero Go.wp_at_succ
set_option maxHeartbeats 4000000
set_option maxRecDepth 100000
namespace Mt
theorem by_ (N n cR:Nat) (R:Option Addr) (l0:List Value) (L:List (List Rat)) (H0:Nat) (A:Option Addr) (ny cy:Nat) (y:List Rat) (H1:Nat) (S T:Nat) (w:World) (h:VecsL w H0 (.slice R n cR) l0 L) (hL:∀ r ∈ L,r.length = N) (hy:VecS w H1 (.slice A n cy) y) (hn:n ≤ 64) (hN:N ≤ 64) (zL:∀ r ∈ L, ∀ q ∈ r,mw q ≤ T) (zy:∀ q ∈ y,mw q ≤ S) (h1:1 ≤ S) (h2:1 ≤ T) (hB:12 * (64 * (S + T + 1) + 1) + 8 ≤ LIM) :
  Calls Tryz.prog 88 #[.agg #[.slice R n cR, .int .i64 (N:Int)], .slice A n cy] w (zcd w (byL N L y) true):=by
 have HN:=hid hn
 have HC:=hid hN
 have HLL:=hid hL
 have HNL:=hid h.nlen
 have HNY:=hid hy.len
 have ZL:=hid zL
 have ZY:=hid zy
 have HMW:=hid (zu8 (N:=N) zy zL h1 h2)
 have HBB:=hid hB
 have hnb:n ≤ 9223372036854775807:=by omega
 clear hn hN hL zL zy hB h1 h2
 obtain ⟨W,hW⟩:∃ W,(w.alloc (.cells #[.slice R n cR, .int .i64 (N:Int)] 64)) = W:=⟨_,rfl⟩
 have KB0:=hid (show W.heap[w.heap.size]? = some (.cells #[.slice R n cR, .int .i64 (N:Int)] 64 (0,0)) by rw [← hW];exact zam (by simp))
 have BB:=hid (show Below w.heap.size w W by rw [← hW];exact zae w _)
 have HZ:=hid (show w.heap.size + 1 ≤ W.heap.size by rw [← hW];simp)
 have HR:=hid (show VecsL W H0 (.slice R n cR) l0 L by rw [← hW];exact (h).alloc _)
 have HY:=hid (show VecS W H1 (.slice A n cy) y by rw [← hW];exact (hy).alloc _)
 obtain ⟨zaK,zaz,zaL,zaA⟩:=bc2 KB0.out
 clear h hy
 go_enter Tryz.func88,Tryz.ntmps88
 go_wp2_with (at_make;go_must (refine zdv rfl _ _ rfl N _ rfl rfl rfl (by have:=HC.out;omega) W.heap.size rfl ?_;intro w1 ho hb1;have q0:=zab hb1 zaK;have q1:=zab hb1 zaL;have HO:=hid ho;have HB1:=hid hb1;clear ho hb1))
 clear hW
 go_loopw [6,21] (fun ov i wr => ∃ (k:Nat) (B:Option Addr) (cB:Nat),i = .int .i64 k ∧ ov = .slice B N cB ∧ k ≤ n ∧ VecS wr W.heap.size (.slice B N cB) (zph N L y k) ∧ Below W.heap.size W wr)
  (fun _ i _ => n - (intOf i).toNat)
 case atStart => exact ⟨0,_,_,rfl,rfl,Nat.zero_le _,by rw [zt5];exact HO.out,HB1.out⟩
 case round =>
  obtain ⟨k,B,cB,rfl,rfl,hk,hv,hB⟩:=hrel
  have hz0:=HZ.out
  by_cases hlt:k < n
  ·obtain ⟨r,hr⟩:∃ r,L[k]? = some r:=⟨L[k]'(by rw [← HNL.out];exact hlt),List.getElem?_eq_getElem _⟩
   obtain ⟨q,hq⟩:∃ q,y[k]? = some q:=⟨y[k]'(by rw [← HNY.out];exact hlt),List.getElem?_eq_getElem _⟩
   have hrl:r.length = N:=HLL.out r (List.mem_of_getElem? hr)
   obtain ⟨bR,rfl,_,_⟩:=HR.out.has (by omega)
   obtain ⟨bY,rfl,_,_⟩:=HY.out.has (by omega)
   obtain ⟨Ar,cr,_,k0,hVr⟩:=(HR.out.below hB).at_ hr
   rw [hrl] at k0 hVr
   obtain ⟨ga,Aa,ma,ca,Da,mda,cda,l0,l1,l2,hRa⟩:=(HY.out.below hB).at_ hq
   have zaq:=hid (zad hB KB0.out)
   have HVr:=hid (show VecS wr H0 (.slice Ar N cr) r from hVr)
   have HQ:=hid (show RatS wr ga (.slice Aa ma ca) (.slice Da mda cda) q from hRa)
   have HV:=hid (show VecS wr W.heap.size (.slice B N cB) (zph N L y k) from hv)
   have HW:=hid (show Bel W wr from Bel.mk hB)
   obtain ⟨zaI,zat,zaJ,zau⟩:=bc2 zaq.out
   have zbJ:wr.cell? ⟨bR,k,none⟩ = some (.slice Ar N cr):=k0
   have x0_1d:=zaa zbJ
   have zbY:wr.cell? ⟨bY,k * 3,none⟩ = some (.bool ga):=l0
   have x1_1d:=zaa zbY
   have zcb:wr.cell? ⟨bY,k * 3 + 1,none⟩ = some (.slice Aa ma ca):=l1
   have x2_1d:=zaa zcb
   have zd7:wr.cell? ⟨bY,k * 3 + 2,none⟩ = some (.slice Da mda cda):=l2
   have x3_1d:=zaa zd7
   have HL1:=hid (show (zph N L y k).length = r.length by rw [zhm,hrl])
   have HST:=hid (zt4 hr hq hrl)
   have HZX:=hid (show ∀ q ∈ zph N L y k,mw q ≤ 64 * (S + T + 1) + 1 from fun q hq => Nat.le_trans (HMW.out k q hq) (by have:=HN.out;have:=Nat.mul_le_mul_right (S + T + 1) (show k ≤ 64 by omega);omega))
   have HZQ:=hid (show mw q ≤ 64 * (S + T + 1) + 1 from Nat.le_trans (ZY.out q (List.mem_of_getElem? hq)) (by omega))
   have HZR:=hid (show ∀ q ∈ r,mw q ≤ 64 * (S + T + 1) + 1 from fun q hq => Nat.le_trans (ZL.out r (List.mem_of_getElem? hr) q hq) (by omega))
   clear hv hB hVr hr hq hrl hRa k0 l0 l1 l2
   have hi1:(0:Int) ≤ (k:Int):=Int.natCast_nonneg _
   have hi2:(k:Int) < (n:Int):=by omega
   go_wp2_with fail
   with_reducible refine (Vc.addTimesS (64 * (S + T + 1) + 1) HBB.out B N cB (zph N L y k) ga Aa ma ca Da mda cda q Ar N cr r W.heap.size H0 _ HV.out HQ.out HVr.out HL1.out (by have:=HC.out;omega) HZX.out HZQ.out HZR.out).mono ?_
   rintro e w3 ⟨B3,n3,c3,rfl,hv3,hb3⟩
   have zaD:=hid (zad hb3 zaq.out)
   have zn7:=hid (HW.out.below hb3)
   have HV3:=hid (show VecS w3 W.heap.size (.slice B3 n3 c3) (zly (zph N L y k) q r) from (hv3.base HW.out.b.size))
   obtain ⟨zaU,zaE,zaV,zaF⟩:=bc2 zaD.out
   have zcX:=zab hb3 zbJ
   have x0_2d:=zaa zcX
   have zdq:=zab hb3 zbY
   have x1_2d:=zaa zdq
   have zej:=zab hb3 zcb
   have x2_2d:=zaa zej
   have zfa:=zab hb3 zd7
   have x3_2d:=zaa zfa
   clear hv3 hb3
   obtain rfl:n3 = N:=by rw [HV3.out.len,zdt HL1.out,zhm]
   go_wp2
   go_roundw
   case rel => exact ⟨k + 1,B3,c3,by go_num,rfl,by omega,by rw [← HST.out];exact HV3.out,zn7.out.b⟩
   case measure => simp [intOf];omega
  ·obtain rfl:k = n:=by omega
   have HV:=hid hv
   have HBf:=hid (BB.out.trans (hB.mono BB.out.size))
   clear hv hB
   go_wp2
   refine bodyPost_ret (v := .tuple #[.slice B N cB, .bool true]) (by simp [results,Tryz.results88,go_sem]) rfl ?_
   exact ⟨_,_,_,rfl,by rw [← zq8, ← HNL.out];exact HV.out.base (by omega),HBf.out⟩
end Mt
theorem zou {L:List (List Rat)} {j k:Nat} {r:List Rat} {q:Rat} (hr:L[k]? = some r) (hq:r[j]? = some q):(zb4 L j)[k]? = some q:=by
 unfold zb4;rw [List.getElem?_map,hr];simp [znd hq]
namespace Mt
theorem rows (N n cR:Nat) (R:Option Addr) (w:World):Calls Tryz.prog 73 #[.agg #[.slice R n cR, .int .i64 (N:Int)]] w fun e w' => e = .returned (.int .i64 (n:Int)) ∧ Below w.heap.size w w':=by
 obtain ⟨W,hW⟩:∃ W,(w.alloc (.cells #[.slice R n cR, .int .i64 (N:Int)] 64)) = W:=⟨_,rfl⟩
 have KB0:=hid (show W.heap[w.heap.size]? = some (.cells #[.slice R n cR, .int .i64 (N:Int)] 64 (0,0)) by rw [← hW];exact zam (by simp))
 have BB:=hid (show Below w.heap.size w W by rw [← hW];exact zae w _)
 obtain ⟨zaK,zaz,zaL,zaA⟩:=bc2 KB0.out
 go_enter Tryz.func73,Tryz.ntmps73
 go_wp2_with fail
 clear hW
 go_ret
 exact ⟨rfl,BB.out⟩
theorem cols (N n cR:Nat) (R:Option Addr) (w:World):Calls Tryz.prog 125 #[.agg #[.slice R n cR, .int .i64 (N:Int)]] w fun e w' => e = .returned (.int .i64 (N:Int)) ∧ Below w.heap.size w w':=by
 obtain ⟨W,hW⟩:∃ W,(w.alloc (.cells #[.slice R n cR, .int .i64 (N:Int)] 64)) = W:=⟨_,rfl⟩
 have KB0:=hid (show W.heap[w.heap.size]? = some (.cells #[.slice R n cR, .int .i64 (N:Int)] 64 (0,0)) by rw [← hW];exact zam (by simp))
 have BB:=hid (show Below w.heap.size w W by rw [← hW];exact zae w _)
 obtain ⟨zaK,zaz,zaL,zaA⟩:=bc2 KB0.out
 go_enter Tryz.func125,Tryz.ntmps125
 go_wp2_with fail
 clear hW
 go_ret
 exact ⟨rfl,BB.out⟩
theorem row (N n cR:Nat) (R:Option Addr) (l0:List Value) (L:List (List Rat)) (H0:Nat) (k:Nat) (r:List Rat) (w:World) (h:VecsL w H0 (.slice R n cR) l0 L) (hr:L[k]? = some r) (hl:r.length = N) (hN:N ≤ 64) (hn:n ≤ 64) :
  Calls Tryz.prog 146 #[.agg #[.slice R n cR, .int .i64 (N:Int)], .int .i64 (k:Int)] w fun e w' => ∃ (A':Option Addr) (c':Nat),e = .returned (.tuple #[.slice A' N c', .bool true]) ∧ VecS w' w.heap.size (.slice A' N c') r ∧ Below w.heap.size w w':=by
 have hk:=(List.getElem?_eq_some_iff.1 hr).1
 have hnl:=h.nlen
 have hi1:(0:Int) ≤ (k:Int):=Int.natCast_nonneg _
 have hi2:(k:Int) < (n:Int):=by omega
 have h1:decide ((k:Int) < 0) = false:=by simp
 have h2:decide ((n:Int) ≤ (k:Int)) = false:=by simp;omega
 obtain ⟨bR,rfl,_,_⟩:=h.has (by omega)
 obtain ⟨Ar,cr,_,k0,hVr⟩:=h.at_ hr
 rw [hl] at k0 hVr
 have HN:=hid hN
 obtain ⟨W,hW⟩:∃ W,(w.alloc (.cells #[.slice (some ⟨bR,0,none⟩) n cR, .int .i64 (N:Int)] 64)) = W:=⟨_,rfl⟩
 have KB0:=hid (show W.heap[w.heap.size]? = some (.cells #[.slice (some ⟨bR,0,none⟩) n cR, .int .i64 (N:Int)] 64 (0,0)) by rw [← hW];exact zam (by simp))
 have BB:=hid (show Below w.heap.size w W by rw [← hW];exact zae w _)
 have HZ:=hid (show w.heap.size + 1 ≤ W.heap.size by rw [← hW];simp)
 have HV:=hid (show VecS W H0 (.slice Ar N cr) r by rw [← hW];exact (hVr).alloc _)
 obtain ⟨zaK,zaz,zaL,zaA⟩:=bc2 KB0.out
 have x0:W.cell? ⟨bR,k,none⟩ = some (.slice Ar N cr):=by rw [← hW];exact zaf k0
 clear h hr hl hN hn hnl hVr k0
 go_enter Tryz.func146,Tryz.ntmps146
 go_wp2_with fail
 clear hW
 with_reducible refine (Vc.copy Ar N cr r H0 _ HV.out (by have:=HN.out;omega)).mono ?_
 rintro e w1 ⟨A2,c2,rfl,hv2,hb⟩
 have zaq:=hid (zad hb KB0.out)
 have HO:=hid (show VecS w1 W.heap.size (.slice A2 N c2) r from hv2)
 have zaQ:=hid (BB.out.trans ((hb).mono BB.out.size))
 obtain ⟨zaI,zat,zaJ,zau⟩:=bc2 zaq.out
 clear hv2 hb
 go_wp2
 refine bodyPost_ret (v := .tuple #[.slice A2 N c2, .bool true]) (by simp [results,Tryz.results146,go_sem]) rfl ?_
 exact ⟨_,_,rfl,HO.out.base (by have:=HZ.out;omega),zaQ.out⟩
theorem col (N n cR:Nat) (R:Option Addr) (l0:List Value) (L:List (List Rat)) (H0:Nat) (j:Nat) (w:World) (h:VecsL w H0 (.slice R n cR) l0 L) (hL:∀ r ∈ L,r.length = N) (hj:j < N) (hN:N ≤ 64) (hn:n ≤ 64) :
  Calls Tryz.prog 74 #[.agg #[.slice R n cR, .int .i64 (N:Int)], .int .i64 (j:Int)] w (zcd w (zb4 L j) true):=by
 have hi1:(0:Int) ≤ (j:Int):=Int.natCast_nonneg _
 have hi2:(j:Int) < (N:Int):=by omega
 have h1:decide ((j:Int) < 0) = false:=by simp
 have h2:decide ((N:Int) ≤ (j:Int)) = false:=by simp;omega
 have HN:=hid hn
 have HLL:=hid hL
 have HNL:=hid h.nlen
 have hnb:n ≤ 9223372036854775807:=by omega
 clear hn hN hL
 obtain ⟨W,hW⟩:∃ W,(w.alloc (.cells #[.slice R n cR, .int .i64 (N:Int)] 64)) = W:=⟨_,rfl⟩
 have KB0:=hid (show W.heap[w.heap.size]? = some (.cells #[.slice R n cR, .int .i64 (N:Int)] 64 (0,0)) by rw [← hW];exact zam (by simp))
 have BB:=hid (show Below w.heap.size w W by rw [← hW];exact zae w _)
 have HZ:=hid (show w.heap.size + 1 ≤ W.heap.size by rw [← hW];simp)
 have HR:=hid (show VecsL W H0 (.slice R n cR) l0 L by rw [← hW];exact (h).alloc _)
 obtain ⟨zaK,zaz,zaL,zaA⟩:=bc2 KB0.out
 clear h
 go_enter Tryz.func74,Tryz.ntmps74
 go_wp2_with (at_make;go_must (refine zdv rfl _ _ rfl n _ rfl rfl rfl (by have:=HN.out;omega) W.heap.size rfl ?_;intro w1 ho hb1;have q0:=zab hb1 zaK;have q1:=zab hb1 zaL;have HO:=hid ho;have HB1:=hid hb1;clear ho hb1))
 clear hW
 go_loopw [24] (fun i wr => ∃ k:Nat,i = .int .i64 k ∧ k ≤ n ∧ VecS wr W.heap.size (.slice (some ⟨W.heap.size,0,none⟩) n n) (mix (zb4 L j) k) ∧ Below W.heap.size W wr)
  (fun i _ => n - (intOf i).toNat)
 case atStart => exact ⟨0,rfl,Nat.zero_le _,by rw [zhW,zbH, ← HNL.out];exact HO.out,HB1.out⟩
 case round =>
  obtain ⟨k,rfl,hk,hv,hB⟩:=hrel
  have hz0:=HZ.out
  by_cases hlt:k < n
  ·obtain ⟨r,hr⟩:∃ r,L[k]? = some r:=⟨L[k]'(by rw [← HNL.out];exact hlt),List.getElem?_eq_getElem _⟩
   have hrl:r.length = N:=HLL.out r (List.mem_of_getElem? hr)
   obtain ⟨q,hq⟩:∃ q,r[j]? = some q:=⟨r[j]'(by omega),List.getElem?_eq_getElem _⟩
   obtain ⟨bR,rfl,_,_⟩:=HR.out.has (by omega)
   obtain ⟨Ar,cr,_,k0,hVr⟩:=(HR.out.below hB).at_ hr
   rw [hrl] at k0 hVr
   obtain ⟨br,rfl,_,_⟩:=hVr.has (by omega)
   obtain ⟨ga,Aa,ma,ca,Da,mda,cda,l0,l1,l2,hRa⟩:=hVr.at_ hq
   have hmx:(mix (zb4 L j) k)[k]? = some 0:=zld (by rw [zbH, ← HNL.out];exact hlt)
   obtain ⟨go,Ao,mo,co,Do,mdo,cdo,o0,o1,o2,_⟩:=hv.at_ hmx
   have of0:=hv.fro (k * 3)
   have of1:=hv.fro (k * 3 + 1)
   have of2:=hv.fro (k * 3 + 2)
   have zaq:=hid (zad hB KB0.out)
   have HQ:=hid (show RatS wr ga (.slice Aa ma ca) (.slice Da mda cda) q from hRa)
   have HV:=hid (show VecS wr W.heap.size (.slice (some ⟨W.heap.size,0,none⟩) n n) (mix (zb4 L j) k) from hv)
   have HW:=hid (show Bel W wr from Bel.mk hB)
   obtain ⟨zaI,zat,zaJ,zau⟩:=bc2 zaq.out
   have zbJ:wr.cell? ⟨bR,k,none⟩ = some (.slice (some ⟨br,0,none⟩) N cr):=k0
   have x0_1d:=zaa zbJ
   have zbY:wr.cell? ⟨br,j * 3,none⟩ = some (.bool ga):=l0
   have x1_1d:=zaa zbY
   have zcb:wr.cell? ⟨br,j * 3 + 1,none⟩ = some (.slice Aa ma ca):=l1
   have x2_1d:=zaa zcb
   have zd7:wr.cell? ⟨br,j * 3 + 2,none⟩ = some (.slice Da mda cda):=l2
   have x3_1d:=zaa zd7
   have HST:=hid (zhV (zou hr hq))
   clear hv hB hVr hr hq hrl hRa hmx k0 l0 l1 l2
   have hi3:(0:Int) ≤ (k:Int):=Int.natCast_nonneg _
   have hi4:(k:Int) < (n:Int):=by omega
   go_wp2
   go_roundw
   case rel => exact ⟨k + 1,by go_num,by omega,by rw [← HST.out];exact HV.out.store k HQ.out,(Bel.set3 HW.out (Nat.le_refl _) _ _ _).b⟩
   case measure => simp [intOf];omega
  ·obtain rfl:k = n:=by omega
   have HV:=hid hv
   have HBf:=hid (BB.out.trans (hB.mono BB.out.size))
   clear hv hB
   go_wp2
   refine bodyPost_ret (v := .tuple #[.slice (some ⟨W.heap.size,0,none⟩) k k, .bool true]) (by simp [results,Tryz.results74,go_sem]) rfl ?_
   have hh:=HV.out
   have e1:k = (zb4 L j).length:=by rw [zbH];exact HNL.out
   rw [show mix (zb4 L j) k = zb4 L j by rw [e1,zlc]] at hh
   exact ⟨_,_,_,rfl,hh.base (by omega),HBf.out⟩
end Mt
end Go.Proofs.YtdbgbaiekpbaoaaGreatDoor
