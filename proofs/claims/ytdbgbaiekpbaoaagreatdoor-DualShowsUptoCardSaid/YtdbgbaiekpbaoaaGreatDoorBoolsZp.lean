/- Rows of answers: what lies in memory. Conditions: as each says. vec.First by its contract. Conditions: as it says. primal.Enter by its contract. Conditions: as it says. lu.SolveT by its contract. Conditions: as it says. vec.Nought,Unit by their contracts. Conditions: as each says. dual.Enter by its contract. Conditions: as it says. Conditions: as they say. -/
import Derived.Test.YtdbgbaiekpbaoaaGreatDoorBasMemZp
import Derived.Test.YtdbgbaiekpbaoaaGreatDoorLp2Zp
import Derived.Test.YtdbgbaiekpbaoaaGreatDoorMat2Zp
import Derived.Test.YtdbgbaiekpbaoaaGreatDoorEtaZp
import Derived.Test.YtdbgbaiekpbaoaaGreatDoorRat6Zp
import Derived.Laws.Cover1
set_option linter.all false
namespace Go.Proofs.YtdbgbaiekpbaoaaGreatDoor
open Go.RowKit Am
open Lib (hid)
set_option maxHeartbeats 1000000
set_option maxRecDepth 100000
theorem zuV:(Tryz.prog.info? 4).map (fun i => (i.zero,i.size,i.bytes)) = some (some (.bool false),1,1):=by kernel_rfl
def tcells (xs:List Bool):List Value:=xs.map fun x => .bool x
structure BoolsS (w:World) (H:Nat) (v:Value) (xs:List Bool):Prop where
  own:w.ownsRow H 4 1 v xs.length (tcells xs)
namespace BoolsS
variable {w w':World} {H:Nat} {v:Value} {xs:List Bool}
theorem keep (h:BoolsS w H v xs) (hk:∀ k,v.ownBlock = some k → w'.heap[k]? = w.heap[k]?):BoolsS w' H v xs:=⟨zc9 h.own hk⟩
theorem below (h:BoolsS w H v xs) (hb:Below w.heap.size w w'):BoolsS w' H v xs:=h.keep fun k hk => hb.block k (h.own.lt k hk).2
theorem alloc (h:BoolsS w H v xs) (o:Obj):BoolsS (w.alloc o) H v xs:=h.below (zae w o)
theorem drew (h:BoolsS w H v xs):BoolsS w.drew H v xs:=h.below (zap w 1)
theorem base {H':Nat} (h:BoolsS w H v xs) (hb:H' ≤ H):BoolsS w H' v xs:=⟨zbu h.own hb⟩
theorem tk {t:TypeId} (h:BoolsS w H v xs) (hk:TKeep t w w') (h1:4 ≠ t):BoolsS w' H v xs :=
 h.keep fun k hb => hk k (h.own.lt k hb).2 fun cs e => za6 h.own e h1 hb
theorem kept {T:List TypeId} {b:Option Nat} (h:BoolsS w H v xs) (hk:Kept T b w w') (h1:4 ∉ T):BoolsS w' H v xs:=by
 refine h.keep fun k hb => ?_
 rcases h.own.2 with ⟨rfl,_⟩ | ⟨g',cap,cur,rfl,_,hh,_⟩
 ·cases hb
 ·injection hb with hb;subst hb;rw [hh];exact hk.blk hh h1 (by decide)
theorem form {A:Option Addr} {n c:Nat} (h:BoolsS w H (.slice A n c) xs):n = xs.length ∧ n ≤ c ∧ c ≤ maxLen ∧ ((A = none ∧ c = 0 ∧ xs = []) ∨ ∃ g,A = some ⟨g,0,none⟩ ∧ H ≤ g ∧ g < w.heap.size):=by
 rcases h.own.2 with ⟨hv,hn⟩ | ⟨g,cap,cur,hv,hg,hh,hn,hm,_⟩
 ·injection hv with e1 e2 e3
  subst e1 e2 e3
  exact ⟨hn.symm,Nat.le_refl _,Nat.zero_le _, .inl ⟨rfl,rfl,List.length_eq_zero_iff.1 hn⟩⟩
 ·injection hv with e1 e2 e3
  subst e1 e2 e3
  exact ⟨rfl,hn,hm, .inr ⟨g,rfl,hg,(Array.getElem?_eq_some_iff.1 hh).1⟩⟩
theorem len {A:Option Addr} {n c:Nat} (h:BoolsS w H (.slice A n c) xs):n = xs.length:=h.form.1
theorem has {A:Option Addr} {n c:Nat} (h:BoolsS w H (.slice A n c) xs) (hn:0 < n):∃ g,A = some ⟨g,0,none⟩ ∧ H ≤ g ∧ g < w.heap.size:=by
 obtain ⟨h1,h2,h3,h4 | h4⟩:=h.form
 ·omega
 ·exact h4
theorem slice (h:BoolsS w H v xs):∃ A c,v = .slice A xs.length c:=by
 rcases h.own.2 with ⟨hv,hn⟩ | ⟨g,cap,cur,hv,_⟩
 ·exact ⟨_,_,by rw [hv,hn]⟩
 ·exact ⟨_,_,hv⟩
theorem fro {b n c:Nat} (h:BoolsS w H (.slice (some ⟨b,0,none⟩) n c) xs) (j:Nat):w.frozen? ⟨b,j,none⟩ = false:=by
 have hn:=h.len
 subst hn
 exact h.own.frozenAt j
theorem at_ {b n c:Nat} (h:BoolsS w H (.slice (some ⟨b,0,none⟩) n c) xs) {k:Nat} {x:Bool} (hk:xs[k]? = some x):w.cell? ⟨b,k,none⟩ = some (.bool x):=by
 have hn:=h.len
 subst hn
 have hk':=(List.getElem?_eq_some_iff.1 hk).1
 rw [h.own.cellAt _ (by omega)]
 simp [tcells,hk]
theorem store {b n c:Nat} (h:BoolsS w H (.slice (some ⟨b,0,none⟩) n c) xs) (k:Nat) (x:Bool):BoolsS (w.setCell ⟨b,k,none⟩ (.bool x)) H (.slice (some ⟨b,0,none⟩) n c) (xs.set k x):=by
 have hn:=h.len
 subst hn
 refine ⟨?_⟩
 have:=(h.own.stored k (.bool x)).1
 rw [List.length_set]
 simpa [tcells,List.map_set] using this
end BoolsS
def zgu (w:World) (A:Option Addr) (xs:List Bool):Prop := ∀ (k:Nat) (x:Bool),xs[k]? = some x → ∃ b o,A = some ⟨b,o,none⟩ ∧ w.cell? ⟨b,o + k,none⟩ = some (.bool x)
theorem zgu.below {w w':World} {A:Option Addr} {xs:List Bool} (h:zgu w A xs) (hb:Below w.heap.size w w'):zgu w' A xs:=fun k x hk => by
 obtain ⟨b,o,e,hc⟩:=h k x hk;exact ⟨b,o,e,zab hb hc⟩
theorem BoolsS.reads {w:World} {H:Nat} {A:Option Addr} {n c:Nat} {xs:List Bool} (h:BoolsS w H (.slice A n c) xs):zgu w A xs:=fun k x hk => by
 have hl:=(List.getElem?_eq_some_iff.1 hk).1
 obtain ⟨g,rfl,_,_⟩:=h.has (by rw [h.len];omega)
 exact ⟨g,0,rfl,by rw [Nat.zero_add];exact h.at_ hk⟩
end Go.Proofs.YtdbgbaiekpbaoaaGreatDoor
namespace Go.Proofs.YtdbgbaiekpbaoaaGreatDoor
open Go.RowKit Am
open Lib (hid)
attribute [local go_sem ↓] Go.wp_at_zero Go.wp_at_succ
set_option maxHeartbeats 2000000
set_option maxRecDepth 100000
theorem zoD {xs:List Rat} {k:Nat} (hk:el xs k ≠ 0):∀ (f s:Nat),s ≤ k → k < s + f → (∀ j,s ≤ j → j < k → el xs j = 0) → zkZ xs f s = some k
 | 0,s,h1,h2,_ => by omega
 | f + 1,s,h1,h2,hz => by
  unfold zkZ
  by_cases e:s = k
  ·subst e;rw [if_neg hk]
  ·rw [if_pos (hz s (Nat.le_refl _) (by omega))]
   exact zoD hk f (s + 1) (by omega) (by omega) fun j a b => hz j (by omega) b
theorem zk0 {xs:List Rat}:∀ (f s:Nat),(∀ j,s ≤ j → j < s + f → el xs j = 0) → zkZ xs f s = none
 | 0,_,_ => rfl
 | f + 1,s,hz => by
  unfold zkZ
  rw [if_pos (hz s (Nat.le_refl _) (by omega))]
  exact zk0 f (s + 1) fun j a b => hz j (by omega) (by omega)
def zbh:Option Nat → Int
  | none => -1
  | some k => (k:Int)
namespace Vc
theorem first (A:Option Addr) (n c:Nat) (qs:List Rat) (H:Nat) (w:World) (h:VecS w H (.slice A n c) qs) :
  Calls Tryz.prog 172 #[.slice A n c] w fun e w' => e = .returned (.int .i64 (zbh (zkZ qs n 0))) ∧ Below w.heap.size w w':=by
 have hn:=h.len
 have hf:=h.form
 have HN:=hid hn
 have HV:=hid h
 have hnb:n ≤ 9223372036854775807:=by have h2:=hf.2.2.1;unfold maxLen at h2;omega
 clear h hf hn
 go_enter Tryz.func172,Tryz.ntmps172
 go_wp2
 go_loopw [7] (fun i wr => ∃ k:Nat,i = .int .i64 k ∧ k ≤ n ∧ Below w.heap.size w wr ∧ ∀ j,j < k → el qs j = 0)
  (fun i _ => n - (intOf i).toNat)
 case atStart => exact ⟨0,rfl,Nat.zero_le _,Below.refl _ _,fun j hj => absurd hj (Nat.not_lt_zero _)⟩
 case round =>
  obtain ⟨k,rfl,hk,hB,hT⟩:=hrel
  have HB:=hid hB
  have HT:=hid hT
  by_cases hlt:k < n
  ·have HV2:=hid (HV.out.below hB)
   obtain ⟨b,rfl,hb0,hb1⟩:=HV2.out.has (by omega)
   have hq:=zaH (xs:=qs) (j:=k) (by rw [← HN.out];exact hlt)
   obtain ⟨g,A1,m1,c1,D1,md1,cd1,k0,k1,k2,hR⟩:=HV2.out.at_ hq
   have HR:=hid hR
   have hi1:(0:Int) ≤ (k:Int):=Int.natCast_nonneg _
   have hi2:(k:Int) < (n:Int):=by omega
   clear hB hT hR hq
   go_wp2_with fail
   refine (Rt.zero g A1 m1 c1 D1 md1 cd1 (el qs k) _ (HR.out.alloc _)).mono ?_
   rintro e w2 ⟨rfl,hb⟩
   have HB2:=hid (HB.out.trans (((zae wr _).trans (hb.mono (by simp))).mono HB.out.size))
   clear hb
   by_cases hq0:el qs k = 0
   ·have hz:zr (el qs k) = true:=decide_eq_true hq0
    have HF:=hid (show ∀ j,j < k + 1 → el qs j = 0 from fun j hj => by
     by_cases e:j = k
     ·rw [e];exact hq0
     ·exact HT.out j (by omega))
    clear hq0
    go_wp2
    go_roundw
    case rel => exact ⟨k + 1,by go_num,by omega,HB2.out,HF.out⟩
    case measure => simp [intOf];omega
   ·have hz:zr (el qs k) = false:=decide_eq_false hq0
    have HF:=hid (zoD hq0 n 0 (Nat.zero_le _) (by omega) fun j _ hj => HT.out j hj)
    clear hq0
    go_wp2
    go_ret
    exact ⟨by rw [HF.out];rfl,HB2.out⟩
  ·obtain rfl:n = k:=by omega
   have HF:=hid (zk0 (xs:=qs) n 0 fun j _ hj => hT j (by omega))
   clear hB hT
   go_wp2
   go_ret
   exact ⟨by rw [HF.out];rfl,HB.out⟩
end Vc
theorem zkH {p:List Rat} {may:List Bool} {k:Nat} (hk:may.getD k false = true ∧ el p k < 0):∀ (f s:Nat),s ≤ k → k < s + f → (∀ j,s ≤ j → j < k → ¬ (may.getD j false = true ∧ el p j < 0)) → zfV p may f s = some k
 | 0,s,h1,h2,_ => by omega
 | f + 1,s,h1,h2,hz => by
  unfold zfV
  by_cases e:s = k
  ·subst e;rw [if_pos hk]
  ·rw [if_neg (hz s (Nat.le_refl _) (by omega))]
   exact zkH hk f (s + 1) (by omega) (by omega) fun j a b => hz j (by omega) b
theorem zhz {p:List Rat} {may:List Bool}:∀ (f s:Nat),(∀ j,s ≤ j → j < s + f → ¬ (may.getD j false = true ∧ el p j < 0)) → zfV p may f s = none
 | 0,_,_ => rfl
 | f + 1,s,hz => by
  unfold zfV
  rw [if_neg (hz s (Nat.le_refl _) (by omega))]
  exact zhz f (s + 1) fun j a b => hz j (by omega) (by omega)
theorem zeh {q:Rat}:q.num < 0 ↔ q < 0:=by
 have h:=Rat.num_nonneg (q:=q)
 constructor
 ·intro e;exact Rat.not_le.1 fun h2 => by have:=h.2 h2;omega
 ·intro e
  have : ¬ (0 ≤ q.num):=fun h2 => absurd (h.1 h2) (Rat.not_le.2 e)
  omega
theorem zrN {q:Rat} (h:q < 0):q.num.sign < 0:=by
 rw [Int.sign_eq_neg_one_of_neg (zeh.2 h)];decide
theorem zrO {q:Rat} (h:¬ q < 0):0 ≤ q.num.sign:=by
 have h2:¬ q.num < 0:=fun e => h (zeh.1 e)
 exact Int.sign_nonneg_iff.2 (by omega)
namespace Pr
theorem enter (A:Option Addr) (n cA:Nat) (ps:List Rat) (H:Nat) (M:Option Addr) (nm cm:Nat) (may:List Bool) (H':Nat) (w:World) (h:VecS w H (.slice A n cA) ps) (hm:BoolsS w H' (.slice M nm cm) may) :
  Calls Tryz.prog 82 #[.slice A n cA, .slice M nm cm] w fun e w' => e = .returned (.int .i64 (zbh (zdi ps may))) ∧ Below w.heap.size w w':=by
 have HN:=hid h.len
 have HM:=hid hm.len
 have hf:=h.form
 have hf2:=hm.form
 have hnb:n ≤ 9223372036854775807:=by have h2:=hf.2.2.1;unfold maxLen at h2;omega
 have hmb:nm ≤ 9223372036854775807:=by have h2:=hf2.2.2.1;unfold maxLen at h2;omega
 have HV:=hid h
 have HB0:=hid hm
 clear h hm hf hf2
 go_enter Tryz.func82,Tryz.ntmps82
 go_wp2
 go_loopw [9] (fun i wr => ∃ k:Nat,i = .int .i64 k ∧ k ≤ n ∧ Below w.heap.size w wr ∧ ∀ j,j < k → ¬ (may.getD j false = true ∧ el ps j < 0))
  (fun i _ => n - (intOf i).toNat)
 case atStart => exact ⟨0,rfl,Nat.zero_le _,Below.refl _ _,fun j hj => absurd hj (Nat.not_lt_zero _)⟩
 case round =>
  obtain ⟨k,rfl,hk,hB,hT⟩:=hrel
  have HB:=hid hB
  have HT:=hid hT
  by_cases hlt:k < n
  ·have HV2:=hid (HV.out.below hB)
   have HM2:=hid (HB0.out.below hB)
   obtain ⟨b,rfl,hb0,hb1⟩:=HV2.out.has (by omega)
   have hq:=zaH (xs:=ps) (j:=k) (by rw [← HN.out];exact hlt)
   obtain ⟨g,A1,m1,c1,D1,md1,cd1,k0,k1,k2,hR⟩:=HV2.out.at_ hq
   have HR:=hid hR
   have hi1:(0:Int) ≤ (k:Int):=Int.natCast_nonneg _
   have hi2:(k:Int) < (n:Int):=by omega
   clear hB hT hR hq
   have HF0:=hid (show ¬ (may.getD k false = true ∧ el ps k < 0) → ∀ j,j < k + 1 → ¬ (may.getD j false = true ∧ el ps j < 0) from fun h j hj => by
    by_cases e:j = k
    ·rw [e];exact h
    ·exact HT.out j (by omega))
   by_cases hkm:k < nm
   ·have hd:decide (k < nm) = true:=by simp;omega
    have hi3:(k:Int) < (nm:Int):=by omega
    obtain ⟨bm,rfl,_,_⟩:=HM2.out.has (by omega)
    have hmk:may[k]? = some (may.getD k false):=zaO (by rw [← HM.out];exact hkm)
    cases hmv:may.getD k false with
    | false =>
     rw [hmv] at hmk
     have y0:=HM2.out.at_ hmk
     have y0a:(wr.alloc (.cells #[.bool g, .slice A1 m1 c1, .slice D1 md1 cd1] 35)).cell? ⟨bm,k,none⟩ = some (.bool false):=cell_al y0
     have HF:=hid (HF0.out (by rw [hmv];intro h;cases h.1))
     have HB2:=hid (HB.out.trans ((zae wr (.cells #[.bool g, .slice A1 m1 c1, .slice D1 md1 cd1] 35)).mono HB.out.size))
     clear hmk hmv
     go_wp2
     go_roundw
     case rel => exact ⟨k + 1,by go_num,by omega,HB2.out,HF.out⟩
     case measure => simp [intOf];omega
    | true =>
     rw [hmv] at hmk
     have y0:=HM2.out.at_ hmk
     have y0a:(wr.alloc (.cells #[.bool g, .slice A1 m1 c1, .slice D1 md1 cd1] 35)).cell? ⟨bm,k,none⟩ = some (.bool true):=cell_al y0
     have HMV:=hid hmv
     clear hmk hmv
     go_wp2_with fail
     refine (Rt.sign g A1 m1 c1 D1 md1 cd1 (el ps k) _ (HR.out.alloc _)).mono ?_
     rintro e w2 ⟨rfl,hb⟩
     have HB2:=hid (HB.out.trans (((zae wr _).trans (hb.mono (by simp))).mono HB.out.size))
     clear hb
     by_cases hq0:el ps k < 0
     ·have hs:=zrN hq0
      have hs1:=zeh.2 hq0
      have HF:=hid (show zdi ps may = some k from zkH ⟨HMV.out,hq0⟩ ps.length 0 (Nat.zero_le _) (by rw [← HN.out];omega) fun j _ hj => HT.out j hj)
      clear hq0
      go_wp2
      go_ret
      exact ⟨by rw [HF.out];rfl,HB2.out⟩
     ·have hs:=zrO hq0
      have hs1:¬ (el ps k).num < 0:=fun e => hq0 (zeh.1 e)
      have HF:=hid (HF0.out (fun h => hq0 h.2))
      clear hq0
      go_wp2
      go_roundw
      case rel => exact ⟨k + 1,by go_num,by omega,HB2.out,HF.out⟩
      case measure => simp [intOf];omega
   ·have hd:decide (k < nm) = false:=by simp;omega
    have HF:=hid (HF0.out (fun h => by
     have : may.getD k false = false:=by rw [List.getD_eq_getElem?_getD,List.getElem?_eq_none (by rw [← HM.out];omega)];rfl
     rw [this] at h;cases h.1))
    have HB2:=hid (HB.out.trans ((zae wr (.cells #[.bool g, .slice A1 m1 c1, .slice D1 md1 cd1] 35)).mono HB.out.size))
    go_wp2
    go_roundw
    case rel => exact ⟨k + 1,by go_num,by omega,HB2.out,HF.out⟩
    case measure => simp [intOf];omega
  ·obtain rfl:n = k:=by omega
   have HF:=hid (show zdi ps may = none from zhz ps.length 0 fun j _ hj => hT j (by rw [HN.out];omega))
   clear hB hT
   go_wp2
   go_ret
   exact ⟨by rw [HF.out];rfl,HB.out⟩
end Pr
end Go.Proofs.YtdbgbaiekpbaoaaGreatDoor
namespace Go.Proofs.YtdbgbaiekpbaoaaGreatDoor
open Go.RowKit Am
open Lib (hid)
attribute [local go_sem ↓] Go.wp_at_zero Go.wp_at_succ
set_option maxHeartbeats 8000000
set_option maxRecDepth 100000
namespace Lu
theorem solveT (H q n u s:Nat) (F:LUv) (A:Option Addr) (cA:Nat) (b:List Rat) (H':Nat) (w:World) (hF:LuS w H q n F) (hb:VecS w H' (.slice A n cA) b) (hn:n ≤ 64) (hp:∀ i,i < n → F.perm.getD i 0 < n) (hz:LUsz mw n u F) (hd:∀ i,i < n → en F.up i i ≠ 0) (zb:∀ q ∈ b,mw q ≤ s) (hL:4 * (4 * xB n u s + u + 1) + 8 ≤ LIM) :
  Calls Tryz.prog 134 #[.pointer (some ⟨q,0,none⟩), .slice A n cA] w (zcd w (zcq n F b) true):=by
 obtain ⟨lA,lc,ll,uA,uc,ul,pA,pc,hblk,hlo,_,hup,_,_,hpm⟩:=hF.ex
 have HSQ:=hid hF.sq
 have HN:=hid hn
 have HP:=hid hp
 have HD:=hid hd
 have HBL:=hid hb.len
 have HLIM:=hid hL
 have hbz:∀ i,i < n → mw (el b i) ≤ s:=fun i hi => zb _ (List.mem_of_getElem? (zaH (by rw [← hb.len];exact hi)))
 have HFW:=hid (fun i (hi:i < n) => zAT zo5 hz hbz hi)
 have HSV:=hid (fun i (hi:i < n) => zJL zo5 hz hbz hi)
 have HZ0:=hid hz
 have hnb:n ≤ 9223372036854775807:=by omega
 have k0:w.cell? ⟨q,0,none⟩ = some (.slice lA n lc):=zac hblk 0
 have k1:w.cell? ⟨q,1,none⟩ = some (.slice uA n uc):=zac hblk 1
 have k2:w.cell? ⟨q,2,none⟩ = some (.slice pA n pc):=zac hblk 2
 have KQ:=hid hblk
 have HLO:=hid hlo
 have HUP:=hid hup
 have HPM:=hid hpm
 have HB:=hid hb
 clear hF hlo hup hpm hb hn hp hz hd zb hL hbz hblk
 go_enter Tryz.func134,Tryz.ntmps134
 go_wp2_with fail
 refine (Vc.copy A n cA b H' _ HB.out (by have:=HN.out;omega)).mono ?_
 rintro e w1 ⟨Az,cz,rfl,hv,hb1⟩
 have HO:=hid hv
 have HB1:=hid hb1
 have q0:=zab hb1 k0
 have q1:=zab hb1 k1
 have q2:=zab hb1 k2
 clear hv hb1
 go_wp2
 have BB:=hid (Below.refl w.heap.size w)
 have hqw:=(Array.getElem?_eq_some_iff.1 KQ.out).1
 go_loopw [26] (fun i wr => ∃ k:Nat,i = .int .i64 k ∧ k ≤ n ∧ VecS wr w.heap.size (.slice Az n cz) (ftO F b k) ∧ Below w.heap.size w wr)
  (fun i _ => n - (intOf i).toNat)
 case atStart => exact ⟨0,rfl,Nat.zero_le _,by rw [zxa];exact HO.out,HB1.out⟩
 case round =>
  obtain ⟨k,rfl,hk,hv,hB⟩:=hrel
  by_cases hlt:k < n
  ·obtain ⟨bz,rfl,hbz0,_⟩:=hv.has (by omega)
   have HV:=hid hv
   have HW0:=hid hB
   have hbl:k < b.length:=by rw [← HBL.out];exact hlt
   have HZ1:=hid (zw9 F hbl)
   clear hv hbl
   have zvU:=hid (HLO.out.below hB)
   have zvZ:=hid (HUP.out.below hB)
   have zrX:=hid (HPM.out.below hB)
   have zaQ:=hid (BB.out.trans ((hB).mono BB.out.size))
   have zbJ:=zab hB k0
   have x0_1d:=zaa zbJ
   have zbY:=zab hB k1
   have x1_1d:=zaa zbY
   have zcb:=zab hB k2
   have x2_1d:=zaa zcb
   clear hB
   have hi1:(0:Int) ≤ (k:Int):=Int.natCast_nonneg _
   have hi2:(k:Int) < (n:Int):=by omega
   go_wp2
   go_loopw [30] (fun i wr => ∃ j:Nat,i = .int .i64 j ∧ j ≤ k ∧ VecS wr w.heap.size (.slice (some ⟨bz,0,none⟩) n cz) (ftI F b k j) ∧ Below w.heap.size w wr)
    (fun i _ => k - (intOf i).toNat)
   case atStart => exact ⟨0,rfl,Nat.zero_le _,by rw [HZ1.out];exact HV.out,HW0.out⟩
   case round =>
    rename World => wz
    obtain ⟨j,rfl,hj,hv,hB⟩:=hrel
    have hjn:j < n:=by omega
    have hrk:F.up[j]? = some (F.up.getD j []):=zaO (by rw [HSQ.out.ul];exact hjn)
    have hrl:=HSQ.out.ur j hjn
    have hen:en F.up j k = el (F.up.getD j []) k:=rfl
    generalize F.up.getD j [] = rw_ at hrk hrl hen
    have hcl:=zaH (xs:=rw_) (j:=k) (by omega)
    rw [← hen] at hcl
    obtain ⟨bL,rfl,_,_⟩:=HUP.out.has (by omega)
    obtain ⟨Ar,cr,hlk,r0,hVr⟩:=(HUP.out.below hB).at_ hrk
    rw [hrl] at r0 hVr hlk
    obtain ⟨br,rfl,_,_⟩:=hVr.has (by omega)
    have hbr:=(HUP.out.lt (List.mem_of_getElem? hlk) rfl).2
    clear hlk
    obtain ⟨gl,Al,ml,cl,Dl,mdl,cdl,y0,y1,y2,hRl⟩:=hVr.at_ hcl
    obtain ⟨gk,Ak,mk,ck,Dk,mdk,cdk,o0,o1,o2,hRk⟩:=hv.at_ (zAJ F b k j)
    have of0:=hv.fro (k * 3)
    have of1:=hv.fro (k * 3 + 1)
    have of2:=hv.fro (k * 3 + 2)
    have hf2:mw (ftP F b k j) ≤ 2 * xB n u s:=by unfold ftP;rw [zaj fun i hi => by rw [← znE F b (i:=i) (j:=k) (k:=n) (by omega) (by omega)]];exact (HFW.out k hlt).2 j hj
    have hl1:=HZ0.out.up j hjn k hlt
    have hi3:(0:Int) ≤ (k:Int):=Int.natCast_nonneg _
    have hi4:(k:Int) < (n:Int):=by omega
    have hi5:(0:Int) ≤ (j:Int):=Int.natCast_nonneg _
    have hi6:(j:Int) < (n:Int):=by omega
    by_cases hck:j < k
    ·obtain ⟨gc,Ac,mc,cc,Dc,mdc,cdc,z0,z1,z2,hRc⟩:=hv.at_ (zAK F b (j:=j) hck)
     have HQl:=hid (show RatS wz gl (.slice Al ml cl) (.slice Dl mdl cdl) (en F.up j k) from hRl)
     have HQk:=hid (show RatS wz gk (.slice Ak mk ck) (.slice Dk mdk cdk) (ftP F b k j) from hRk)
     have HV:=hid (show VecS wz w.heap.size (.slice (some ⟨bz,0,none⟩) n cz) (ftI F b k j) from hv)
     have HW:=hid (show Bel w wz from Bel.mk hB)
     have HQc:=hid (show RatS wz gc (.slice Ac mc cc) (.slice Dc mdc cdc) (el (zbX F b k) j) from hRc)
     have zdO:=zab hB k0
     have x0_3d:=zaa zdO
     have zfd:=zab hB k1
     have x1_3d:=zaa zfd
     have zgl:=zab hB k2
     have x2_3d:=zaa zgl
     have zg9:wz.cell? ⟨bL,j,none⟩ = some (.slice (some ⟨br,0,none⟩) n cr):=r0
     have x3_3d:=zaa zg9
     have zhb:wz.cell? ⟨br,k * 3,none⟩ = some (.bool gl):=y0
     have x4_3d:=zaa zhb
     have zje:wz.cell? ⟨br,k * 3 + 1,none⟩ = some (.slice Al ml cl):=y1
     have x5_3d:=zaa zje
     have zml:wz.cell? ⟨br,k * 3 + 2,none⟩ = some (.slice Dl mdl cdl):=y2
     have x6_3d:=zaa zml
     have zmm:wz.cell? ⟨bz,j * 3,none⟩ = some (.bool gc):=z0
     have x7_3d:=zaa zmm
     have zmn:wz.cell? ⟨bz,j * 3 + 1,none⟩ = some (.slice Ac mc cc):=z1
     have x8_3d:=zaa zmn
     have zpj:wz.cell? ⟨bz,j * 3 + 2,none⟩ = some (.slice Dc mdc cdc):=z2
     have x9_3d:=zaa zpj
     have znY:wz.cell? ⟨bz,k * 3,none⟩ = some (.bool gk):=o0
     have x10_3d:=zaa znY
     have zqP:wz.cell? ⟨bz,k * 3 + 1,none⟩ = some (.slice Ak mk ck):=o1
     have x11_3d:=zaa zqP
     have zqR:wz.cell? ⟨bz,k * 3 + 2,none⟩ = some (.slice Dk mdk cdk):=o2
     have x12_3d:=zaa zqR
     have HST2:=hid (zAL F b k j)
     have hf1:=(HFW.out j hjn).1
     rw [znE F b (i:=j) (j:=k) (k:=n) hck (by omega)] at hf1
     have L1:=hid (show 4 * (mw (en F.up j k) + mw (el (zbX F b k) j)) + 8 ≤ LIM by have:=HLIM.out;omega)
     have L2:=hid (show 4 * (mw (ftP F b k j) + mw (en F.up j k * el (zbX F b k) j)) + 8 ≤ LIM by have:=HLIM.out;have:=zdI (en F.up j k) (el (zbX F b k) j);omega)
     clear hv hB hrk hrl hen hcl hVr hRl hRc hRk hf1 hf2 hl1 r0 y0 y1 y2 z0 z1 z2
     go_wp2_with fail
     refine za2 (S:=fun w' => w'.cell? ⟨q,0,none⟩ = some (.slice lA n lc) ∧ w'.cell? ⟨q,1,none⟩ = some (.slice (some ⟨bL,0,none⟩) n uc) ∧ w'.cell? ⟨q,2,none⟩ = some (.slice pA n pc) ∧ w'.cell? ⟨bL,j,none⟩ = some (.slice (some ⟨br,0,none⟩) n cr) ∧ w'.cell? ⟨br,k * 3,none⟩ = some (.bool gl) ∧ w'.cell? ⟨br,k * 3 + 1,none⟩ = some (.slice Al ml cl) ∧ w'.cell? ⟨br,k * 3 + 2,none⟩ = some (.slice Dl mdl cdl) ∧ w'.cell? ⟨bz,j * 3,none⟩ = some (.bool gc) ∧ w'.cell? ⟨bz,j * 3 + 1,none⟩ = some (.slice Ac mc cc) ∧ w'.cell? ⟨bz,j * 3 + 2,none⟩ = some (.slice Dc mdc cdc) ∧ w'.cell? ⟨bz,k * 3,none⟩ = some (.bool gk) ∧ w'.cell? ⟨bz,k * 3 + 1,none⟩ = some (.slice Ak mk ck) ∧ w'.cell? ⟨bz,k * 3 + 2,none⟩ = some (.slice Dk mdk cdk)) 23 (h:=fun hHeld => ?_)
     refine zaw [0,1,2,3,4,5,6,7,8,9,10,11,12,13,14,15,16,17,18,19] ?_
     repeat refine tkE (hS:=hHeld) (h:=?_)
     refine zao ?_
     refine zaN 20 (h:=fun K hK => ?_)
     go_simp
     (go_at_call 14;(with_reducible refine (Rt.mul gl Al ml cl Dl mdl cdl (en F.up j k) gc Ac mc cc Dc mdc cdc (el (zbX F b k) j) _ HQl.out.drew HQc.out.drew L1.out).mono ?_);rintro e u1 ⟨g1,A1,m1,c1,D1,md1,cd1,rfl,hn,hb⟩;have zmt:=hid (HQl.out.drew.below hb);have zie:=hid (HQk.out.drew.below hb);have ziS:=hid (HV.out.drew.below hb);have zhh:=hid (HW.out.drew.below hb);have zpk:=hid (HQc.out.drew.below hb);have HM:=hid (show RatS u1 g1 (.slice A1 m1 c1) (.slice D1 md1 cd1) (en F.up j k * el (zbX F b k) j) from hn);have zd6:=zab hb x0_3d;have zfT:=zab hb x1_3d;have zgs:=zab hb x2_3d;have zha:=zab hb x3_3d;have x3_4d:=zaa zha;have zhc:=zab hb x4_3d;have zlB:=zab hb x5_3d;have zn0:=zab hb x6_3d;have zn1:=zab hb x7_3d;have x7_4d:=zaa zn1;have zn3:=zab hb x8_3d;have x8_4d:=zaa zn3;have zn4:=zab hb x9_3d;have x9_4d:=zaa zn4;have ziQ:=zab hb x10_3d;have zls:=zab hb x11_3d;have zlt:=zab hb x12_3d;clear hn hb)
     (try go_wp2_with fail)
     refine hK.out _ _ kp fun hHeld => ?_
     clear hK K
     try simp only [Act.put,pu1,pu2,pu3,pu4,pu5,pu6]
     refine zaN 21 (h:=fun K hK => ?_)
     go_simp
     (go_at_call 131;(with_reducible refine (Rt.sub gk Ak mk ck Dk mdk cdk (ftP F b k j) g1 A1 m1 c1 D1 md1 cd1 (en F.up j k * el (zbX F b k) j) _ zie.out HM.out L2.out).mono ?_);rintro e u2 ⟨g2,A2,m2,c2,D2,md2,cd2,rfl,hn,hb⟩;have zyO:=hid (zmt.out.below hb);have zlx:=hid (ziS.out.below hb);have zsB:=hid (zhh.out.below hb);have zyM:=hid (zpk.out.below hb);have zB2:=hid (HM.out.below hb);have HS:=hid (show RatS u2 g2 (.slice A2 m2 c2) (.slice D2 md2 cd2) (ftP F b k j - en F.up j k * el (zbX F b k) j) from hn);have zid:=zab hb zd6;have zlu:=zab hb zfT;have zmh:=zab hb zgs;have zmi:=zab hb zha;have x3_5d:=zaa zmi;have zmj:=zab hb zhc;have zmk:=zab hb zlB;have zvT:=zab hb zn0;have zBG:=zab hb zn1;have x7_5d:=zaa zBG;have zBK:=zab hb zn3;have x8_5d:=zaa zBK;have zBP:=zab hb zn4;have x9_5d:=zaa zBP;have zqM:=zab hb ziQ;have zqQ:=zab hb zls;have zqS:=zab hb zlt;have of0:=zlx.out.fro (k * 3);have of1:=zlx.out.fro (k * 3 + 1);have of2:=zlx.out.fro (k * 3 + 2);clear hn hb)
     (try go_wp2_with fail)
     refine hK.out _ _ kp fun hHeld => ?_
     clear hK K
     try simp only [Act.put,pu1,pu2,pu3,pu4,pu5,pu6]
     refine zaw [22] ?_
     repeat refine tkE (hS:=hHeld) (h:=?_)
     refine zao ?_
     refine zba (h:=fun K hK => ?_)
     go_simp
     refine hK.out _ _ ?_
     clear hK K
     try simp only [Act.put,pu1,pu2,pu3,pu4,pu5,pu6]
     refine za1 (h:=?_)
     go_wp2
     go_roundw
     case rel => exact ⟨j + 1,by go_num,by omega,by rw [← HST2.out];exact zlx.out.store k HS.out,(Bel.set3 zsB.out hbz0 _ _ _).b⟩
     case measure => simp [intOf];omega
    ·obtain rfl:k = j:=by omega
     have HQl:=hid (show RatS wz gl (.slice Al ml cl) (.slice Dl mdl cdl) (en F.up k k) from hRl)
     have HQk:=hid (show RatS wz gk (.slice Ak mk ck) (.slice Dk mdk cdk) (ftP F b k k) from hRk)
     have HV:=hid (show VecS wz w.heap.size (.slice (some ⟨bz,0,none⟩) n cz) (ftI F b k k) from hv)
     have HW:=hid (show Bel w wz from Bel.mk hB)
     have zdO:=zab hB k0
     have x0_3d:=zaa zdO
     have zfd:=zab hB k1
     have x1_3d:=zaa zfd
     have zgl:=zab hB k2
     have x2_3d:=zaa zgl
     have zg9:wz.cell? ⟨bL,k,none⟩ = some (.slice (some ⟨br,0,none⟩) n cr):=r0
     have x3_3d:=zaa zg9
     have zhb:wz.cell? ⟨br,k * 3,none⟩ = some (.bool gl):=y0
     have x4_3d:=zaa zhb
     have zje:wz.cell? ⟨br,k * 3 + 1,none⟩ = some (.slice Al ml cl):=y1
     have x5_3d:=zaa zje
     have zml:wz.cell? ⟨br,k * 3 + 2,none⟩ = some (.slice Dl mdl cdl):=y2
     have x6_3d:=zaa zml
     have zmm:wz.cell? ⟨bz,k * 3,none⟩ = some (.bool gk):=o0
     have x7_3d:=zaa zmm
     have zmn:wz.cell? ⟨bz,k * 3 + 1,none⟩ = some (.slice Ak mk ck):=o1
     have x8_3d:=zaa zmn
     have zpj:wz.cell? ⟨bz,k * 3 + 2,none⟩ = some (.slice Dk mdk cdk):=o2
     have x9_3d:=zaa zpj
     have HST3:=hid (zAI F b k)
     have HDK:=hid (HD.out k hlt)
     have L1:=hid (show 4 * (mw (ftP F b k k) + mw (en F.up k k)) + 8 ≤ LIM by have:=HLIM.out;omega)
     clear hv hB hrk hrl hen hcl hVr hRl hRk hf2 hl1 r0 y0 y1 y2
     go_wp2_with fail
     refine wp_region_held_drew (S:=fun w' => w'.cell? ⟨q,0,none⟩ = some (.slice lA n lc) ∧ w'.cell? ⟨q,1,none⟩ = some (.slice (some ⟨bL,0,none⟩) n uc) ∧ w'.cell? ⟨q,2,none⟩ = some (.slice pA n pc) ∧ w'.cell? ⟨bL,k,none⟩ = some (.slice (some ⟨br,0,none⟩) n cr) ∧ w'.cell? ⟨br,k * 3,none⟩ = some (.bool gl) ∧ w'.cell? ⟨br,k * 3 + 1,none⟩ = some (.slice Al ml cl) ∧ w'.cell? ⟨br,k * 3 + 2,none⟩ = some (.slice Dl mdl cdl)) (by kernel_rfl) kp fun hHeld => ?_
     refine zaw [0,1,2,3,4,6,7,8,9,10,11,12,13,14,15] ?_
     repeat refine tkH (hS:=hHeld) (h:=?_)
     refine zao ?_
     refine wpAnyH_ready (rs:=[5]) (by kernel_rfl) (by simp) ?_
     refine AllReadyH.cons rfl (fun K hK => ?_) AllReadyH.nil
     go_simp
     skip
     (try go_wp2_with fail)
     refine hK.out _ _ kp fun hHeld => ?_
     clear hK K
     try simp only [Act.put,pu1,pu2,pu3,pu4,pu5,pu6]
     refine wpAnyH_ready (rs:=[16]) (by kernel_rfl) (by simp) ?_
     refine AllReadyH.cons rfl (fun K hK => ?_) AllReadyH.nil
     go_simp
     (go_at_call 51;(with_reducible refine (Rt.div gk Ak mk ck Dk mdk cdk (ftP F b k k) gl Al ml cl Dl mdl cdl (en F.up k k) _ HQk.out.drew HQl.out.drew HDK.out L1.out).mono ?_);rintro e u1 ⟨g2,A2,m2,c2,D2,md2,cd2,rfl,hn,hb⟩;have zmt:=hid (HQl.out.drew.below hb);have zie:=hid (HQk.out.drew.below hb);have ziS:=hid (HV.out.drew.below hb);have zhh:=hid (HW.out.drew.below hb);have HS:=hid (show RatS u1 g2 (.slice A2 m2 c2) (.slice D2 md2 cd2) (ftP F b k k / en F.up k k) from hn);have zd6:=zab hb x0_3d;have zfT:=zab hb x1_3d;have zgs:=zab hb x2_3d;have zha:=zab hb x3_3d;have x3_4d:=zaa zha;have zhc:=zab hb x4_3d;have zlB:=zab hb x5_3d;have zn0:=zab hb x6_3d;have zn1:=zab hb x7_3d;have x7_4d:=zaa zn1;have zn3:=zab hb x8_3d;have x8_4d:=zaa zn3;have zn4:=zab hb x9_3d;have x9_4d:=zaa zn4;have of0:=ziS.out.fro (k * 3);have of1:=ziS.out.fro (k * 3 + 1);have of2:=ziS.out.fro (k * 3 + 2);clear hn hb)
     (try go_wp2_with fail)
     refine hK.out _ _ kp fun hHeld => ?_
     clear hK K
     try simp only [Act.put,pu1,pu2,pu3,pu4,pu5,pu6]
     refine zaw [17,18,19,20] ?_
     repeat refine tkH (hS:=hHeld) (h:=?_)
     refine zao ?_
     refine wpAnyH_ready (rs:=[21]) (by kernel_rfl) (by simp) ?_
     refine AllReadyH.cons rfl (fun K hK => ?_) AllReadyH.nil
     go_simp
     skip
     (try go_wp2_with fail)
     refine hK.out _ _ kp fun hHeld => ?_
     clear hK K
     try simp only [Act.put,pu1,pu2,pu3,pu4,pu5,pu6]
     refine wpAnyH_done (by kernel_rfl) ?_ _
     go_wp2
     go_roundw
     case rel => exact ⟨k + 1,by go_num,by omega,by rw [← HST3.out];exact ziS.out.store k HS.out,(Bel.set3 zhh.out hbz0 _ _ _).b⟩
     case measure => simp [intOf];omega
  ·obtain rfl:n = k:=by omega
   have HVx:=hid (show VecS _ w.heap.size (.slice Az n cz) (zbX F b n) by rw [← zAM F HBL.out.symm];exact hv)
   have HBx:=hid hB
   clear hv hB
   go_wp2
   go_loopw [10] (fun i wr => ∃ k:Nat,i = .int .i64 ((k:Int) - 1) ∧ k ≤ n ∧ VecS wr w.heap.size (.slice Az n cz) (btO F (zbX F b n) n k) ∧ Below w.heap.size w wr)
    (fun i _ => (intOf i + 1).toNat)
   case atStart => exact ⟨n,rfl,Nat.le_refl _,by rw [zzm F (zbT _ _ _)];exact HVx.out,HBx.out⟩
   case round =>
    rename World => wy
    obtain ⟨k,rfl,hk,hv,hB⟩:=hrel
    cases k with
    | zero =>
     rw [zwn] at hv
     have zvU:=hid (HLO.out.below hB)
     have zvZ:=hid (HUP.out.below hB)
     have zrX:=hid (HPM.out.below hB)
     have HW3:=hid (show VecS wy w.heap.size (.slice Az n cz) (luW n F b) from hv)
     have zaQ:=hid (BB.out.trans ((hB).mono BB.out.size))
     have zbJ:=zab hB k0
     have x0_1d:=zaa zbJ
     have zbY:=zab hB k1
     have x1_1d:=zaa zbY
     have zcb:=zab hB k2
     have x2_1d:=zaa zcb
     clear hv hB
     rw [show ((0:Nat):Int) - 1 = -1 from rfl]
     go_wp2_with (at_make;go_must (refine zdv rfl _ _ rfl n _ rfl rfl rfl (by have:=HN.out;omega) wy.heap.size rfl ?_;intro wq ho hb2;have HO2:=hid ho;have HB2:=hid hb2;have q3:=zab hb2 zcb;clear ho hb2))
     go_loopw [118] (fun i wr => ∃ k:Nat,i = .int .i64 k ∧ k ≤ n ∧ VecS wr wy.heap.size (.slice (some ⟨wy.heap.size,0,none⟩) n n) (back F.perm (luW n F b) k (List.replicate n 0)) ∧ Below wy.heap.size wy wr)
      (fun i _ => n - (intOf i).toNat)
     case atStart => exact ⟨0,rfl,Nat.zero_le _,HO2.out,HB2.out⟩
     case round =>
      rename World => wz
      obtain ⟨k,rfl,hk2,hv,hB⟩:=hrel
      by_cases hlt2:k < n
      ·have hpk:F.perm[k]? = some (F.perm.getD k 0):=zaO (by rw [HSQ.out.pl];exact hlt2)
       have hpl:=HP.out k hlt2
       have hst:(back F.perm (luW n F b) k (List.replicate n 0)).set (F.perm.getD k 0) (el (luW n F b) k) = back F.perm (luW n F b) (k + 1) (List.replicate n 0):=rfl
       generalize F.perm.getD k 0 = p at hpk hpl hst
       have HST4:=hid hst
       have hbl:(back F.perm (luW n F b) k (List.replicate n 0)).length = n:=by rw [zjk];simp
       have hyp:=zaH (xs:=back F.perm (luW n F b) k (List.replicate n 0)) (j:=p) (by omega)
       have hzp:=zaH (xs:=luW n F b) (j:=k) (by rw [zAY];exact hlt2)
       obtain ⟨bP,rfl,_,_⟩:=zrX.out.has (by omega)
       obtain ⟨bz,rfl,hbz0,_⟩:=HW3.out.has (by omega)
       have p0:=(zrX.out.below hB).at_ hpk
       obtain ⟨ga,Aa,ma,ca,Da,mda,cda,y0,y1,y2,hRa⟩:=(HW3.out.below hB).at_ hzp
       obtain ⟨go,Ao,mo,co,Do,mdo,cdo,o0,o1,o2,_⟩:=hv.at_ hyp
       have of0:=hv.fro (p * 3)
       have of1:=hv.fro (p * 3 + 1)
       have of2:=hv.fro (p * 3 + 2)
       have HQ:=hid (show RatS wz ga (.slice Aa ma ca) (.slice Da mda cda) (el (luW n F b) k) from hRa)
       have HVy:=hid (show VecS wz wy.heap.size (.slice (some ⟨wy.heap.size,0,none⟩) n n) (back F.perm (luW n F b) k (List.replicate n 0)) from hv)
       have HWy:=hid (show Bel wy wz from Bel.mk hB)
       have zcX:=zab hB zbJ
       have zdq:=zab hB zbY
       have zej:=zab hB zcb
       have zfa:wz.cell? ⟨bP,k,none⟩ = some (.int .i64 (p:Int)):=p0
       have zgt:wz.cell? ⟨bz,k * 3,none⟩ = some (.bool ga):=y0
       have zhd:wz.cell? ⟨bz,k * 3 + 1,none⟩ = some (.slice Aa ma ca):=y1
       have zlC:wz.cell? ⟨bz,k * 3 + 2,none⟩ = some (.slice Da mda cda):=y2
       clear hv hB hpk hst hbl hyp hzp hRa p0 y0 y1 y2
       have hi1:(0:Int) ≤ (k:Int):=Int.natCast_nonneg _
       have hi2:(k:Int) < (n:Int):=by omega
       have hi3:(0:Int) ≤ (p:Int):=Int.natCast_nonneg _
       have hi4:(p:Int) < (n:Int):=by omega
       have dof0:wz.drew.frozen? ⟨wy.heap.size,p * 3,none⟩ = false:=of0
       have do0:=zaa o0
       go_wp2_with fail
       refine za2 (S:=fun w' => w'.cell? ⟨q,0,none⟩ = some (.slice lA n lc) ∧ w'.cell? ⟨q,1,none⟩ = some (.slice uA n uc) ∧ w'.cell? ⟨q,2,none⟩ = some (.slice (some ⟨bP,0,none⟩) n pc) ∧ w'.cell? ⟨bP,k,none⟩ = some (.int .i64 (p:Int)) ∧ w'.cell? ⟨bz,k * 3,none⟩ = some (.bool ga) ∧ w'.cell? ⟨bz,k * 3 + 1,none⟩ = some (.slice Aa ma ca) ∧ w'.cell? ⟨bz,k * 3 + 2,none⟩ = some (.slice Da mda cda)) 13 (h:=fun hHeld => ?_)
       refine zaw [0,1,2,3,4,5,6,7,8,9,10,11,12] ?_
       repeat refine tkE (hS:=hHeld) (h:=?_)
       refine zao ?_
       refine zba (h:=fun K hK => ?_)
       go_simp
       refine hK.out _ _ ?_
       clear hK K
       try simp only [Act.put,pu1,pu2,pu3,pu4,pu5,pu6]
       refine za1 (h:=?_)
       go_wp2
       go_roundw
       case rel => exact ⟨k + 1,by go_num,by omega,by rw [← HST4.out];exact HVy.out.drew.store p HQ.out.drew,(Bel.set3 HWy.out.drew (Nat.le_refl _) _ _ _).b⟩
       case measure => simp [intOf];omega
      ·obtain rfl:n = k:=by omega
       have HVf:=hid hv
       have HBf:=hid (zaQ.out.trans (hB.mono zaQ.out.size))
       have hzf:=zaQ.out.size
       clear hv hB
       go_wp2
       refine bodyPost_ret (v := .tuple #[.slice (some ⟨wy.heap.size,0,none⟩) n n, .bool true]) (by simp [results,Tryz.results134,go_sem]) rfl ?_
       exact ⟨_,_,_,rfl,HVf.out.base hzf,HBf.out⟩
    | succ k =>
     have hlt:k < n:=by omega
     rw [show ((k + 1:Nat):Int) - 1 = (k:Int) by omega]
     obtain ⟨bz,rfl,hbz0,_⟩:=hv.has (by omega)
     have HV:=hid hv
     have HW0:=hid hB
     clear hv
     have zvU:=hid (HLO.out.below hB)
     have zvZ:=hid (HUP.out.below hB)
     have zrX:=hid (HPM.out.below hB)
     have zaQ:=hid (BB.out.trans ((hB).mono BB.out.size))
     have zbJ:=zab hB k0
     have x0_1d:=zaa zbJ
     have zbY:=zab hB k1
     have x1_1d:=zaa zbY
     have zcb:=zab hB k2
     have x2_1d:=zaa zcb
     clear hB
     have hi1:(0:Int) ≤ (k:Int):=Int.natCast_nonneg _
     have hi2:(k:Int) < (n:Int):=by omega
     go_wp2
     go_loopw [11] (fun i wr => ∃ j:Nat,i = .int .i64 ((k + 1 + j:Nat):Int) ∧ k + 1 + j ≤ n ∧ VecS wr w.heap.size (.slice (some ⟨bz,0,none⟩) n cz) (btI F (zbX F b n) n k j) ∧ Below w.heap.size w wr)
      (fun i _ => n - (intOf i).toNat)
     case atStart => exact ⟨0,by go_num,by omega,by rw [zwm F (zbT _ _ _) hlt];exact HV.out,HW0.out⟩
     case round =>
      rename World => wz
      obtain ⟨j,rfl,hj,hv,hB⟩:=hrel
      by_cases hck:k + 1 + j < n
      ·have hrk:F.lo[k + 1 + j]? = some (F.lo.getD (k + 1 + j) []):=zaO (by rw [HSQ.out.ll];exact hck)
       have hrl:=HSQ.out.lr (k + 1 + j) hck
       have hen:en F.lo (k + 1 + j) k = el (F.lo.getD (k + 1 + j) []) k:=rfl
       generalize F.lo.getD (k + 1 + j) [] = rw_ at hrk hrl hen
       have hcl:=zaH (xs:=rw_) (j:=k) (by omega)
       rw [← hen] at hcl
       obtain ⟨bL,rfl,_,_⟩:=HLO.out.has (by omega)
       obtain ⟨Ar,cr,_,r0,hVr⟩:=(HLO.out.below hB).at_ hrk
       rw [hrl] at r0 hVr
       obtain ⟨br,rfl,_,_⟩:=hVr.has (by omega)
       obtain ⟨gl,Al,ml,cl,Dl,mdl,cdl,y0,y1,y2,hRl⟩:=hVr.at_ hcl
       obtain ⟨gk,Ak,mk,ck,Dk,mdk,cdk,o0,o1,o2,hRk⟩:=hv.at_ (zzk F j (zbT F b n) hlt)
       have of0:=hv.fro (k * 3)
       have of1:=hv.fro (k * 3 + 1)
       have of2:=hv.fro (k * 3 + 2)
       obtain ⟨gc,Ac,mc,cc,Dc,mdc,cdc,z0,z1,z2,hRc⟩:=hv.at_ (zwk F j (zbT F b n) hck)
       have hbe:el (zlK F n (zbX F b n) (n - (k + 1))) j = el (luW n F b) (k + 1 + j):=(zka F n (zbX F b n) (f:=n) (j:=k + 1) (by omega) j).symm
       rw [hbe] at hRc
       have hpe:btP F (zbX F b n) n k j = el (zbX F b n) k - zai j (fun c => en F.lo (k + 1 + c) k * el (luW n F b) (k + 1 + c)):=by unfold btP;rw [zaj fun c hc => by rw [← zka F n (zbX F b n) (f:=n) (j:=k + 1) (by omega) c]];rfl
       have HST2:=hid (show (btI F (zbX F b n) n k j).set k (btP F (zbX F b n) n k j - en F.lo (k + 1 + j) k * el (luW n F b) (k + 1 + j)) = btI F (zbX F b n) n k (j + 1) by rw [← hbe];exact zzl F j (zbT F b n) hlt)
       have hf1:=(HSV.out (k + 1 + j) hck).1
       have hf2:mw (btP F (zbX F b n) n k j) ≤ 2 * xB n u s:=by rw [hpe];exact (HSV.out k hlt).2 j (by omega)
       have hl1:=HZ0.out.lo (k + 1 + j) hck k hlt
       generalize hc0:k + 1 + j = c at *
       generalize btP F (zbX F b n) n k j = pk at *
       have HC0:=hid hc0
       have HQl:=hid (show RatS wz gl (.slice Al ml cl) (.slice Dl mdl cdl) (en F.lo c k) from hRl)
       have HQc:=hid (show RatS wz gc (.slice Ac mc cc) (.slice Dc mdc cdc) (el (luW n F b) c) from hRc)
       have HQk:=hid (show RatS wz gk (.slice Ak mk ck) (.slice Dk mdk cdk) pk from hRk)
       have HV:=hid (show VecS wz w.heap.size (.slice (some ⟨bz,0,none⟩) n cz) (btI F (zbX F b n) n k j) from hv)
       have HW:=hid (show Bel w wz from Bel.mk hB)
       have zdO:=zab hB k0
       have x0_3d:=zaa zdO
       have zfd:=zab hB k1
       have x1_3d:=zaa zfd
       have zgl:=zab hB k2
       have x2_3d:=zaa zgl
       have zg9:wz.cell? ⟨bL,c,none⟩ = some (.slice (some ⟨br,0,none⟩) n cr):=r0
       have x3_3d:=zaa zg9
       have zhb:wz.cell? ⟨br,k * 3,none⟩ = some (.bool gl):=y0
       have x4_3d:=zaa zhb
       have zje:wz.cell? ⟨br,k * 3 + 1,none⟩ = some (.slice Al ml cl):=y1
       have x5_3d:=zaa zje
       have zml:wz.cell? ⟨br,k * 3 + 2,none⟩ = some (.slice Dl mdl cdl):=y2
       have x6_3d:=zaa zml
       have zmm:wz.cell? ⟨bz,c * 3,none⟩ = some (.bool gc):=z0
       have x7_3d:=zaa zmm
       have zmn:wz.cell? ⟨bz,c * 3 + 1,none⟩ = some (.slice Ac mc cc):=z1
       have x8_3d:=zaa zmn
       have zpj:wz.cell? ⟨bz,c * 3 + 2,none⟩ = some (.slice Dc mdc cdc):=z2
       have x9_3d:=zaa zpj
       have znY:wz.cell? ⟨bz,k * 3,none⟩ = some (.bool gk):=o0
       have x10_3d:=zaa znY
       have zqP:wz.cell? ⟨bz,k * 3 + 1,none⟩ = some (.slice Ak mk ck):=o1
       have x11_3d:=zaa zqP
       have zqR:wz.cell? ⟨bz,k * 3 + 2,none⟩ = some (.slice Dk mdk cdk):=o2
       have x12_3d:=zaa zqR
       have L1:=hid (show 4 * (mw (en F.lo c k) + mw (el (luW n F b) c)) + 8 ≤ LIM by have:=HLIM.out;omega)
       have L2:=hid (show 4 * (mw pk + mw (en F.lo c k * el (luW n F b) c)) + 8 ≤ LIM by have:=HLIM.out;have:=zdI (en F.lo c k) (el (luW n F b) c);omega)
       clear hv hB hrk hrl hen hcl hVr hRl hRc hRk hf1 hf2 hl1 hbe hpe hc0 r0 y0 y1 y2 z0 z1 z2
       have hi3:(0:Int) ≤ (k:Int):=Int.natCast_nonneg _
       have hi4:(k:Int) < (n:Int):=by omega
       have hi5:(0:Int) ≤ (c:Int):=Int.natCast_nonneg _
       have hi6:(c:Int) < (n:Int):=by omega
       go_wp2_with fail
       refine za2 (S:=fun w' => w'.cell? ⟨q,0,none⟩ = some (.slice (some ⟨bL,0,none⟩) n lc) ∧ w'.cell? ⟨q,1,none⟩ = some (.slice uA n uc) ∧ w'.cell? ⟨q,2,none⟩ = some (.slice pA n pc) ∧ w'.cell? ⟨bL,c,none⟩ = some (.slice (some ⟨br,0,none⟩) n cr) ∧ w'.cell? ⟨br,k * 3,none⟩ = some (.bool gl) ∧ w'.cell? ⟨br,k * 3 + 1,none⟩ = some (.slice Al ml cl) ∧ w'.cell? ⟨br,k * 3 + 2,none⟩ = some (.slice Dl mdl cdl) ∧ w'.cell? ⟨bz,c * 3,none⟩ = some (.bool gc) ∧ w'.cell? ⟨bz,c * 3 + 1,none⟩ = some (.slice Ac mc cc) ∧ w'.cell? ⟨bz,c * 3 + 2,none⟩ = some (.slice Dc mdc cdc) ∧ w'.cell? ⟨bz,k * 3,none⟩ = some (.bool gk) ∧ w'.cell? ⟨bz,k * 3 + 1,none⟩ = some (.slice Ak mk ck) ∧ w'.cell? ⟨bz,k * 3 + 2,none⟩ = some (.slice Dk mdk cdk)) 23 (h:=fun hHeld => ?_)
       refine zaw [0,1,2,3,4,5,6,7,8,9,10,11,12,13,14,15,16,17,18,19] ?_
       repeat refine tkE (hS:=hHeld) (h:=?_)
       refine zao ?_
       refine zaN 20 (h:=fun K hK => ?_)
       go_simp
       (go_at_call 14;(with_reducible refine (Rt.mul gl Al ml cl Dl mdl cdl (en F.lo c k) gc Ac mc cc Dc mdc cdc (el (luW n F b) c) _ HQl.out.drew HQc.out.drew L1.out).mono ?_);rintro e u1 ⟨g1,A1,m1,c1,D1,md1,cd1,rfl,hn,hb⟩;have zmt:=hid (HQl.out.drew.below hb);have zpk:=hid (HQc.out.drew.below hb);have zie:=hid (HQk.out.drew.below hb);have ziS:=hid (HV.out.drew.below hb);have zhh:=hid (HW.out.drew.below hb);have HM:=hid (show RatS u1 g1 (.slice A1 m1 c1) (.slice D1 md1 cd1) (en F.lo c k * el (luW n F b) c) from hn);have zd6:=zab hb x0_3d;have zfT:=zab hb x1_3d;have zgs:=zab hb x2_3d;have zha:=zab hb x3_3d;have x3_4d:=zaa zha;have zhc:=zab hb x4_3d;have zlB:=zab hb x5_3d;have zn0:=zab hb x6_3d;have zn1:=zab hb x7_3d;have x7_4d:=zaa zn1;have zn3:=zab hb x8_3d;have x8_4d:=zaa zn3;have zn4:=zab hb x9_3d;have x9_4d:=zaa zn4;have ziQ:=zab hb x10_3d;have zls:=zab hb x11_3d;have zlt:=zab hb x12_3d;clear hn hb)
       (try go_wp2_with fail)
       refine hK.out _ _ kp fun hHeld => ?_
       clear hK K
       try simp only [Act.put,pu1,pu2,pu3,pu4,pu5,pu6]
       refine zaN 21 (h:=fun K hK => ?_)
       go_simp
       (go_at_call 131;(with_reducible refine (Rt.sub gk Ak mk ck Dk mdk cdk pk g1 A1 m1 c1 D1 md1 cd1 (en F.lo c k * el (luW n F b) c) _ zie.out HM.out L2.out).mono ?_);rintro e u2 ⟨g2,A2,m2,c2,D2,md2,cd2,rfl,hn,hb⟩;have zyO:=hid (zmt.out.below hb);have zyM:=hid (zpk.out.below hb);have zlx:=hid (ziS.out.below hb);have zsB:=hid (zhh.out.below hb);have zB2:=hid (HM.out.below hb);have HS:=hid (show RatS u2 g2 (.slice A2 m2 c2) (.slice D2 md2 cd2) (pk - en F.lo c k * el (luW n F b) c) from hn);have zid:=zab hb zd6;have zlu:=zab hb zfT;have zmh:=zab hb zgs;have zmi:=zab hb zha;have x3_5d:=zaa zmi;have zmj:=zab hb zhc;have zmk:=zab hb zlB;have zvT:=zab hb zn0;have zBG:=zab hb zn1;have x7_5d:=zaa zBG;have zBK:=zab hb zn3;have x8_5d:=zaa zBK;have zBP:=zab hb zn4;have x9_5d:=zaa zBP;have zqM:=zab hb ziQ;have zqQ:=zab hb zls;have zqS:=zab hb zlt;have of0:=zlx.out.fro (k * 3);have of1:=zlx.out.fro (k * 3 + 1);have of2:=zlx.out.fro (k * 3 + 2);clear hn hb)
       (try go_wp2_with fail)
       refine hK.out _ _ kp fun hHeld => ?_
       clear hK K
       try simp only [Act.put,pu1,pu2,pu3,pu4,pu5,pu6]
       refine zaw [22] ?_
       repeat refine tkE (hS:=hHeld) (h:=?_)
       refine zao ?_
       refine zba (h:=fun K hK => ?_)
       go_simp
       refine hK.out _ _ ?_
       clear hK K
       try simp only [Act.put,pu1,pu2,pu3,pu4,pu5,pu6]
       refine za1 (h:=?_)
       go_wp2
       go_roundw
       case rel => exact ⟨j + 1,by have:=HC0.out;subst this;go_num,by have:=HC0.out;omega,by rw [← HST2.out];exact zlx.out.store k HS.out,(Bel.set3 zsB.out hbz0 _ _ _).b⟩
       case measure => simp [intOf];omega
      ·have hjn:j = n - (k + 1):=by omega
       rw [hjn,zwl F (zbT F b n) hlt] at hv
       have HVw:=hid hv
       have HBw:=hid hB
       clear hv hB hjn
       have hi3:(0:Int) ≤ (k:Int):=Int.natCast_nonneg _
       have hi4:(k:Int) < (n:Int):=by omega
       go_wp2
       go_roundw
       case rel => exact ⟨k,by go_num,by omega,HVw.out,HBw.out⟩
       case measure => first | (simp [intOf];done) | (simp [intOf];omega)
end Lu
end Go.Proofs.YtdbgbaiekpbaoaaGreatDoor
namespace Go.Proofs.YtdbgbaiekpbaoaaGreatDoor
open Go.RowKit Am
open Lib (hid)
attribute [local go_sem ↓] Go.wp_at_zero Go.wp_at_succ
set_option maxHeartbeats 4000000
set_option maxRecDepth 100000
namespace Vc
theorem nought (n:Nat) (hn:n ≤ 64) (w:World):Calls Tryz.prog 133 #[.int .i64 (n:Int)] w (zcd w (List.replicate n 0) true):=by
 have h1:decide ((n:Int) < 0) = false:=by simp
 have h2:decide ((64:Int) < (n:Int)) = false:=by simp;omega
 have HN:=hid hn
 clear hn
 go_enter Tryz.func133,Tryz.ntmps133
 go_wp2_with (at_make;go_must (refine zdv rfl _ _ rfl n _ rfl rfl rfl (by have:=HN.out;omega) w.heap.size rfl ?_;intro w1 ho hb1;have HO:=hid ho;have HB:=hid hb1;clear ho hb1))
 refine bodyPost_ret (v := .tuple #[.slice (some ⟨w.heap.size,0,none⟩) n n, .bool true]) (by simp [results,Tryz.results133,go_sem]) rfl ?_
 exact ⟨_,_,_,rfl,HO.out,HB.out⟩
theorem unit (n k:Nat) (hn:n ≤ 64) (hk:k < n) (w:World):Calls Tryz.prog 86 #[.int .i64 (n:Int), .int .i64 (k:Int)] w (zcd w (zdL n k) true):=by
 have h1:decide ((k:Int) < 0) = false:=by simp
 have h2:decide ((n:Int) ≤ (k:Int)) = false:=by simp;omega
 have HN:=hid hn
 have hi1:(0:Int) ≤ (k:Int):=Int.natCast_nonneg _
 have hi2:(k:Int) < (n:Int):=by omega
 clear hn
 have BB:=hid (Below.refl w.heap.size w)
 go_enter Tryz.func86,Tryz.ntmps86
 go_wp2_with fail
 with_reducible refine (nought n HN.out _).mono ?_
 rintro e w1 ⟨A,n1,c1,rfl,hv,hb⟩
 have HV:=hid (show VecS w1 w.heap.size (.slice A n1 c1) (List.replicate n 0) from hv)
 have zaQ:=hid (BB.out.trans ((hb).mono BB.out.size))
 clear hb
 have e1:n1 = n:=by have:=hv.len;rw [List.length_replicate] at this;exact this
 subst e1
 obtain ⟨b,rfl,hb0,hb1⟩:=hv.has (by omega)
 clear hv
 go_wp2_with fail
 with_reducible refine (Rt.int 1 (by decide) (by decide) _).mono ?_
 rintro e w2 ⟨g2,A2,m2,c2,D2,md2,cd2,rfl,hn2,hb⟩
 have zrY:=hid (HV.out.below hb)
 have HI:=hid (show RatS w2 g2 (.slice A2 m2 c2) (.slice D2 md2 cd2) ((1:Int):Rat) from hn2)
 have zbj:=hid (zaQ.out.trans ((hb).mono zaQ.out.size))
 clear hn2 hb
 obtain ⟨go,Ao,mo,co,Do,mdo,cdo,o0,o1,o2,_⟩:=zrY.out.at_ (k:=k) (q:=0) (by rw [List.getElem?_replicate,if_pos hk])
 have of0:=zrY.out.fro (k * 3)
 have of1:=zrY.out.fro (k * 3 + 1)
 have of2:=zrY.out.fro (k * 3 + 2)
 go_wp2
 refine bodyPost_ret (v := .tuple #[.slice (some ⟨b,0,none⟩) n1 c1, .bool true]) (by simp [results,Tryz.results86,go_sem]) rfl ?_
 exact ⟨_,_,_,rfl,by unfold zdL;exact zrY.out.store k HI.out,(Below.setCell (Below.setCell (Below.setCell zbj.out (p:=⟨b,k * 3,none⟩) hb0 _) (p:=⟨b,k * 3 + 1,none⟩) hb0 _) (p:=⟨b,k * 3 + 2,none⟩) hb0 _)⟩
end Vc
theorem zdV {p l:List Rat} {may:List Bool} {k:Nat} (h:¬ (may.getD k false = true ∧ el l k < 0)):za4 p l may (k + 1) = za4 p l may k:=by simp only [za4];rw [if_neg h]
theorem zkI {p l:List Rat} {may:List Bool} {k:Nat} (h:may.getD k false = true ∧ el l k < 0) (e:za4 p l may k = none):za4 p l may (k + 1) = some k:=by simp only [za4];rw [if_pos h,e]
theorem zl1 {p l:List Rat} {may:List Bool} {k b:Nat} (h:may.getD k false = true ∧ el l k < 0) (e:za4 p l may k = some b) (hq:el p k / -el l k < el p b / -el l b):za4 p l may (k + 1) = some k:=by simp only [za4];rw [if_pos h,e];simp only;rw [if_pos hq]
theorem zl0 {p l:List Rat} {may:List Bool} {k b:Nat} (h:may.getD k false = true ∧ el l k < 0) (e:za4 p l may k = some b) (hq:¬ el p k / -el l k < el p b / -el l b):za4 p l may (k + 1) = some b:=by simp only [za4];rw [if_pos h,e];simp only;rw [if_neg hq]
theorem zhA {p l:List Rat} {may:List Bool} {k b:Nat} (h:za4 p l may k = some b):b < k:=by
 have s:=zdW p l may k
 rw [h] at s;exact s.1
theorem zyw (a b:Rat):mw (a / b) ≤ mw a + mw b:=by
 rw [Rat.div_def];have:=zdI a b⁻¹;have:=zva b;omega
theorem zm9 {a b:Rat}:zlX a b < 0 ↔ a < b:=by
 unfold zlX
 by_cases h:a < b
 ·simp [h]
 ·simp only [h,if_false,iff_false]
  by_cases h2:b < a
  ·simp [h2]
  ·simp [h2]
theorem zDK {q:Rat} (h:q < 0) : -q ≠ 0:=by grind
namespace Du
theorem enter (S:Nat) (hS:16 * S + 8 ≤ LIM) (A:Option Addr) (n cA:Nat) (ps:List Rat) (H:Nat) (B:Option Addr) (n' cB:Nat) (ls:List Rat) (H':Nat) (M:Option Addr) (nm cm:Nat) (may:List Bool) (w:World) (hp:VecS w H (.slice A n cA) ps) (hl:VecS w H' (.slice B n' cB) ls) (hnm:nm = may.length) (hnb3:nm ≤ 9223372036854775807) (hm:zgu w M may) (zp:∀ q ∈ ps,mw q ≤ S) (zl:∀ q ∈ ls,mw q ≤ S) :
  Calls Tryz.prog 11 #[.slice A n cA, .slice B n' cB, .slice M nm cm] w fun e w' => e = .returned (.int .i64 (zbh (zhy ps ls may))) ∧ Below w.heap.size w w':=by
 have HNP:=hid hp.len
 have HNL:=hid hl.len
 have HNM:=hid hnm
 have HPV:=hid hp
 have HLV:=hid hl
 have HMV:=hid hm
 have HSS:=hid hS
 have ZP:=hid zp
 have ZL:=hid zl
 have hnb:n ≤ 9223372036854775807:=by have h1:=hp.form.2.1;have h2:=hp.form.2.2.1;unfold maxLen at h2;omega
 have hnb2:n' ≤ 9223372036854775807:=by have h1:=hl.form.2.1;have h2:=hl.form.2.2.1;unfold maxLen at h2;omega
 clear zp zl hS hp hl hm hnm
 obtain ⟨N,hN⟩:∃ N,N = min n (min n' nm):=⟨_,rfl⟩
 have HN:=hid hN
 have hNn:N ≤ n:=by omega
 have hNn2:N ≤ n':=by omega
 have hNn3:N ≤ nm:=by omega
 clear hN
 go_enter Tryz.func11,Tryz.ntmps11
 go_upto_region 3 with fail
 go_cut [18,19] (fun a b wr => a = .int .i64 (N:Int) ∧ b = .int .i64 0 ∧ wr = w.alloc (.cells #[.bool false, .slice none 0 0, .slice none 0 0] 35))
 case first =>
  go_wp2
  all_goals
   go_meet
   case rel => exact ⟨by congr 1;have:=HN.out;omega,rfl,rfl⟩
 case rest =>
  obtain ⟨rfl,rfl,rfl⟩:=hcut
  go_wp2
  go_loopw [7,19] (fun bv i wr => ∃ (k:Nat) (gl:Bool) (Al:Option Addr) (ml cl:Nat) (Dl:Option Addr) (mdl cdl:Nat),i = .int .i64 k ∧ bv = .int .i64 (zbh (za4 ps ls may k)) ∧ k ≤ N ∧ wr.heap[w.heap.size]? = some (.cells #[.bool gl, .slice Al ml cl, .slice Dl mdl cdl] 35 (0,0)) ∧ (∀ b,za4 ps ls may k = some b → RatS wr gl (.slice Al ml cl) (.slice Dl mdl cdl) (el ps b / -el ls b)) ∧ Below w.heap.size w wr)
   (fun _ i _ => N - (intOf i).toNat)
  case atStart => exact ⟨0,_,_,_,_,_,_,_,rfl,rfl,Nat.zero_le _,zal _ _ _,fun b h => (by cases h),zae w _⟩
  case round =>
   obtain ⟨k,gl,Al,ml,cl,Dl,mdl,cdl,rfl,rfl,hk,hbox,hP,hB⟩:=hrel
   by_cases hlt:k < N
   ·have hk1:k < n:=by omega
    have hk2:k < n':=by omega
    have hk3:k < nm:=by omega
    obtain ⟨bp,rfl,_,_⟩:=HPV.out.has (by omega)
    obtain ⟨bl,rfl,_,_⟩:=HLV.out.has (by omega)
    obtain ⟨bm,om,rfl,_⟩:=HMV.out k _ (zaO (L:=may) (d:=false) (by rw [← HNM.out];exact hk3))
    have hpk:=zaH (xs:=ps) (j:=k) (by rw [← HNP.out];exact hk1)
    have hlk:=zaH (xs:=ls) (j:=k) (by rw [← HNL.out];exact hk2)
    have hmk:may[k]? = some (may.getD k false):=zaO (by rw [← HNM.out];exact hk3)
    obtain ⟨ga,Aa,ma,ca,Da,mda,cda,y0,y1,y2,hRa⟩:=(HPV.out.below hB).at_ hpk
    obtain ⟨gb,Ab,mb,cb,Db,mdb,cdb,z0,z1,z2,hRb⟩:=(HLV.out.below hB).at_ hlk
    obtain ⟨bm',om',hbm',m0⟩:=(HMV.out.below hB) k _ hmk
    injection hbm' with hbm';injection hbm' with hbm1 hbm2
    subst hbm1 hbm2
    generalize hme:may.getD k false = mv at m0
    have hz1:=ZP.out _ (List.mem_of_getElem? hpk)
    have hz2:=ZL.out _ (List.mem_of_getElem? hlk)
    have HRa:=hid (show RatS wr ga (.slice Aa ma ca) (.slice Da mda cda) (el ps k) from hRa)
    have HRb:=hid (show RatS wr gb (.slice Ab mb cb) (.slice Db mdb cdb) (el ls k) from hRb)
    have HLE:=hid (show ∀ b,za4 ps ls may k = some b → RatS wr gl (.slice Al ml cl) (.slice Dl mdl cdl) (el ps b / -el ls b) from hP)
    have HW:=hid (show Bel w wr from Bel.mk hB)
    have zbJ:wr.cell? ⟨bp,k * 3,none⟩ = some (.bool ga):=y0
    have zbY:wr.cell? ⟨bp,k * 3 + 1,none⟩ = some (.slice Aa ma ca):=y1
    have zcb:wr.cell? ⟨bp,k * 3 + 2,none⟩ = some (.slice Da mda cda):=y2
    have zd7:wr.cell? ⟨bl,k * 3,none⟩ = some (.bool gb):=z0
    have zfb:wr.cell? ⟨bl,k * 3 + 1,none⟩ = some (.slice Ab mb cb):=z1
    have zfc:wr.cell? ⟨bl,k * 3 + 2,none⟩ = some (.slice Db mdb cdb):=z2
    have zhe:wr.cell? ⟨bm,om + k,none⟩ = some (.bool mv):=m0
    have x6_1d:=zaa zhe
    have HLE0:=HLE
    have KBO:=hid hbox
    have zbJ:=y0
    have zbY:=y1
    have zcb:=y2
    have zd7:=z0
    have zfb:=z1
    have zfc:=z2
    have zhe:=m0
    have x6_1d:=zaa zhe
    have HME:=hid hme
    have HZ1:=hid hz1
    have HZ2:=hid hz2
    have hi1:(0:Int) ≤ (k:Int):=Int.natCast_nonneg _
    have hi2:(k:Int) < (N:Int):=by omega
    have hi3:(k:Int) < (n:Int):=by omega
    have hi4:(k:Int) < (n':Int):=by omega
    have hi5:(k:Int) < (nm:Int):=by omega
    clear hbox hP hB hpk hlk hmk hme y0 y1 y2 z0 z1 z2 m0 hRa hRb hz1 hz2
    cases mv with
    | false =>
     have HF:=hid (zdV (p:=ps) (l:=ls) (may:=may) (k:=k) (by rw [HME.out];intro h;cases h.1))
     go_wp2
     go_roundw
     case rel => exact ⟨k + 1,gl,Al,ml,cl,Dl,mdl,cdl,by go_num,by rw [HF.out],by omega,KBO.out,fun b h => by rw [HF.out] at h;exact HLE0.out b h,HW.out.b⟩
     case measure => simp [intOf];omega
    | true =>
     go_wp2_with fail
     with_reducible refine (Rt.sign gb Ab mb cb Db mdb cdb (el ls k) _ HRb.out).mono ?_
     rintro e v1 ⟨rfl,hb⟩
     have zaD:=hid (zad hb KBO.out)
     have zsI:=hid (HRa.out.below hb)
     have zvX:=hid (HRb.out.below hb)
     have zn7:=hid (HW.out.below hb)
     obtain ⟨zaU,_,_,_,zaV,_,_,_,zdr,_⟩:=bf3 zaD.out
     have zcX:=zab hb zbJ
     have zdq:=zab hb zbY
     have zej:=zab hb zcb
     have zfa:=zab hb zd7
     have zgt:=zab hb zfb
     have zhd:=zab hb zfc
     have zlC:=zab hb zhe
     have HBW:=hid hb
     clear hb
     by_cases hq0:el ls k < 0
     ·have hs:=zrN hq0
      have hs1:=zeh.2 hq0
      have hs4:¬ 0 ≤ el ls k:=Rat.not_le.2 hq0
      have HQN:=hid (zDK hq0)
      have HCO:=hid (show may.getD k false = true ∧ el ls k < 0 from ⟨HME.out,hq0⟩)
      have HLD:=hid (show 4 * (mw (el ps k) + mw (-el ls k)) + 8 ≤ LIM by rw [zhY];have:=HSS.out;have:=HZ1.out;have:=HZ2.out;omega)
      clear hq0
      go_upto_region 7 with fail
      have HS:=hid (show ∀ w',Below v1.heap.size v1 w' → ((w'.cell? ⟨w.heap.size,0,none⟩ = some (.bool gl) ∧ w'.cell? ⟨w.heap.size,1,none⟩ = some (.slice Al ml cl) ∧ w'.cell? ⟨w.heap.size,2,none⟩ = some (.slice Dl mdl cdl) ∧ w'.cell? ⟨bp,k * 3,none⟩ = some (.bool ga) ∧ w'.cell? ⟨bp,k * 3 + 1,none⟩ = some (.slice Aa ma ca) ∧ w'.cell? ⟨bp,k * 3 + 2,none⟩ = some (.slice Da mda cda) ∧ w'.cell? ⟨bl,k * 3,none⟩ = some (.bool gb) ∧ w'.cell? ⟨bl,k * 3 + 1,none⟩ = some (.slice Ab mb cb) ∧ w'.cell? ⟨bl,k * 3 + 2,none⟩ = some (.slice Db mdb cdb) ∧ w'.cell? ⟨bm,om + k,none⟩ = some (.bool true)) ∧ Below v1.heap.size v1 w') from fun w' h => ⟨⟨zab h zaU,zab h zaV,zab h zdr,zab h zcX,zab h zdq,zab h zej,zab h zfa,zab h zgt,zab h zhd,zab h zlC⟩,h⟩)
      go_cut [10] (fun s10 wz => zcD v1 s10 wz (el ps k / -el ls k))
      case first =>
       go_region_held3 (fun w' => ((w'.cell? ⟨w.heap.size,0,none⟩ = some (.bool gl) ∧ w'.cell? ⟨w.heap.size,1,none⟩ = some (.slice Al ml cl) ∧ w'.cell? ⟨w.heap.size,2,none⟩ = some (.slice Dl mdl cdl) ∧ w'.cell? ⟨bp,k * 3,none⟩ = some (.bool ga) ∧ w'.cell? ⟨bp,k * 3 + 1,none⟩ = some (.slice Aa ma ca) ∧ w'.cell? ⟨bp,k * 3 + 2,none⟩ = some (.slice Da mda cda) ∧ w'.cell? ⟨bl,k * 3,none⟩ = some (.bool gb) ∧ w'.cell? ⟨bl,k * 3 + 1,none⟩ = some (.slice Ab mb cb) ∧ w'.cell? ⟨bl,k * 3 + 2,none⟩ = some (.slice Db mdb cdb) ∧ w'.cell? ⟨bm,om + k,none⟩ = some (.bool true)) ∧ Below v1.heap.size v1 w'))
        ((refine HS.out _ ?_;repeat (first | exact Below.refl _ _ | exact (by assumption:_ ∧ Below _ _ _).2 | with_reducible refine bdrew ?_ | with_reducible refine al2 ?_ _ | with_reducible refine set2 ?_ (by omega) | with_reducible refine zc1 ?_ (by assumption))))
        (first
         | (go_at_call 15;(with_reducible refine (Rt.neg gb Ab mb cb Db mdb cdb (el ls k) _ (zvX.out.below (by assumption:_ ∧ Below _ _ _).2)).mono ?_);rintro e u1 ⟨g1,A1,m1,c1,D1,md1,cd1,rfl,hn,hb1⟩;have hz1:=hb1.size;(try simp at hz1);have hze1:v1.heap.size ≤ u1.heap.size:=(by omega);(try ((first | (have XB:=hid (zbc (cs := #[.bool false, .slice none 0 0, .slice none 0 0]) (t:=35) hb1 XB.out)) | (have XB:=hid (zbc (cs := #[.bool false, .slice none 0 0, .slice none 0 0]) (t:=35) hb1 (zal _ _ _))));have XBc0:=zac XB.out 0;have XBf0:=zag XB.out 0;have XBc1:=zac XB.out 1;have XBf1:=zag XB.out 1;have XBc2:=zac XB.out 2;have XBf2:=zag XB.out 2));have N1:=hid hn;clear hn)
         | (go_at_call 51;(with_reducible refine (Rt.div ga Aa ma ca Da mda cda (el ps k) g1 A1 m1 c1 D1 md1 cd1 (-el ls k) _ (zsI.out.below (by assumption:_ ∧ Below _ _ _).2) (by repeat (first | exact N1.out | with_reducible refine RatS.alloc ?_ _ | with_reducible refine RatS.drew ?_)) HQN.out HLD.out).mono ?_);rintro e u2 ⟨g2,A2,m2,c2,D2,md2,cd2,rfl,hn,hb2⟩;have hz2:=hb2.size;(try simp at hz2);have hze2:v1.heap.size ≤ u2.heap.size:=(by omega);(try ((first | (have XB:=hid (zbc (cs := #[.bool false, .slice none 0 0, .slice none 0 0]) (t:=35) hb2 XB.out)) | (have XB:=hid (zbc (cs := #[.bool false, .slice none 0 0, .slice none 0 0]) (t:=35) hb2 (zal _ _ _))));have XBc0:=zac XB.out 0;have XBf0:=zag XB.out 0;have XBc1:=zac XB.out 1;have XBf1:=zag XB.out 1;have XBc2:=zac XB.out 2;have XBf2:=zag XB.out 2));have N7:=hid hn;clear hn)
         | fail)
       all_goals
        go_wp2
        go_meet
        case rel => (have hbe:=(by assumption:_ ∧ Below v1.heap.size v1 _).2;(first | (with_reducible refine zcD.of hbe ?_ XB.out N7.out;omega) | (with_reducible refine zcD.al hbe ?_ N7.out;omega) | (with_reducible refine zcD.of hbe ?_ (zal _ _ _) (N7.out.alloc _);omega)))
      case rest =>
       obtain ⟨nz,g9,A9,m9,c9,D9,md9,cd9,rfl,hbX,hnb,hkb,hi⟩:=hcut
       rename World => wz
       have HLE1:=hid (fun b h => ((HLE0.out b h).below HBW.out).below hbX)
       have zbn:=hid (zad hbX zaD.out)
       have zrZ:=hid (zn7.out.below hbX)
       have HR:=hid (show RatS wz g9 (.slice A9 m9 c9) (.slice D9 md9 cd9) (el ps k / -el ls k) from hi)
       obtain ⟨zdg,zb0,_,zdX,zdh,_,zfz,_,zlM,_,zuQ,_⟩:=bf3 zbn.out
       have zmm:wz.cell? ⟨nz,0,none⟩ = some (.bool g9):=zac hkb 0
       have zmn:wz.cell? ⟨nz,1,none⟩ = some (.slice A9 m9 c9):=zac hkb 1
       have zpj:wz.cell? ⟨nz,2,none⟩ = some (.slice D9 md9 cd9):=zac hkb 2
       clear hbX HS
       clear hi hkb
       cases hbe:za4 ps ls may k with
       | none =>
        have hp:zbh none = -1:=rfl
        rw [hp]
        have HF:=hid (zkI HCO.out hbe)
        go_wp2_with fail
        refine zaS (S:=fun w' => w'.cell? ⟨nz,0,none⟩ = some (.bool g9) ∧ w'.cell? ⟨nz,1,none⟩ = some (.slice A9 m9 c9) ∧ w'.cell? ⟨nz,2,none⟩ = some (.slice D9 md9 cd9)) [3] (h:=fun hHeld => ?_)
        refine zaw [0,1,2] ?_
        repeat refine tkL (hS:=hHeld) (h:=?_)
        refine zao ?_
        refine zay 3 (h:=fun K hK => ?_)
        go_simp
        refine hK.out _ _ ?_
        clear hK K
        try simp only [Act.put,pu1,pu2,pu3,pu4,pu5,pu6]
        refine zaM (h:=?_)
        go_wp2
        go_roundw
        case rel => exact ⟨k + 1,g9,A9,m9,c9,D9,md9,cd9,by go_num,by rw [HF.out];rfl,by omega,zar _ (zar _ (zar _ zbn.out)),fun b h => by rw [HF.out] at h;injection h with h;subst h;exact (HR.out.set3 zbn.out (by decide) _ _ _).drew,(Bel.set3 zrZ.out (Nat.le_refl _) _ _ _).drew.b⟩
        case measure => simp [intOf];omega
       | some b0 =>
        have hp:zbh (some b0) = (b0:Int):=rfl
        rw [hp]
        have HBE:=hid hbe
        have HRL:=hid (HLE1.out b0 hbe)
        have hb0:=zhA hbe
        have hi6:¬ (b0:Int) < 0:=by omega
        have hzb1:=ZP.out _ (List.mem_of_getElem? (zaH (xs:=ps) (j:=b0) (by rw [← HNP.out];omega)))
        have hzb2:=ZL.out _ (List.mem_of_getElem? (zaH (xs:=ls) (j:=b0) (by rw [← HNL.out];omega)))
        have HLC:=hid (show 4 * (mw (el ps k / -el ls k) + mw (el ps b0 / -el ls b0)) + 8 ≤ LIM by have h1:=zyw (el ps k) (-el ls k);have h2:=zyw (el ps b0) (-el ls b0);rw [zhY] at h1 h2;have:=HSS.out;have:=HZ1.out;have:=HZ2.out;omega)
        clear hbe hzb1 hzb2
        go_wp2_with fail
        with_reducible refine (Rt.cmpr g9 A9 m9 c9 D9 md9 cd9 (el ps k / -el ls k) gl Al ml cl Dl mdl cdl (el ps b0 / -el ls b0) _ HR.out HRL.out HLC.out).mono ?_
        rintro e v2 ⟨rfl,hb⟩
        have zbo:=hid (zad hb zbn.out)
        have zhh:=hid (zrZ.out.below hb)
        have zxZ:=hid (HR.out.below hb)
        have zGe:=hid (HRL.out.below hb)
        obtain ⟨_,zbv,_,zdb,zck,_,zed,_,zog,_,zAm,_⟩:=bf3 zbo.out
        have zn1:=zab hb zmm
        have zn3:=zab hb zmn
        have zn4:=zab hb zpj
        clear hb
        by_cases hc:el ps k / -el ls k < el ps b0 / -el ls b0
        ·have hcr:=zm9.2 hc
         have HF:=hid (zl1 HCO.out HBE.out hc)
         go_wp2_with fail
         refine zaS (S:=fun w' => w'.cell? ⟨nz,0,none⟩ = some (.bool g9) ∧ w'.cell? ⟨nz,1,none⟩ = some (.slice A9 m9 c9) ∧ w'.cell? ⟨nz,2,none⟩ = some (.slice D9 md9 cd9)) [3] (h:=fun hHeld => ?_)
         refine zaw [0,1,2] ?_
         repeat refine tkL (hS:=hHeld) (h:=?_)
         refine zao ?_
         refine zay 3 (h:=fun K hK => ?_)
         go_simp
         refine hK.out _ _ ?_
         clear hK K
         try simp only [Act.put,pu1,pu2,pu3,pu4,pu5,pu6]
         refine zaM (h:=?_)
         go_wp2
         go_roundw
         case rel => exact ⟨k + 1,g9,A9,m9,c9,D9,md9,cd9,by go_num,by rw [HF.out];rfl,by omega,zar _ (zar _ (zar _ zbo.out)),fun b h => by rw [HF.out] at h;injection h with h;subst h;exact (zxZ.out.set3 zbo.out (by decide) _ _ _).drew,(Bel.set3 zhh.out (Nat.le_refl _) _ _ _).drew.b⟩
         case measure => simp [intOf];omega
        ·have hcr:¬ zlX (el ps k / -el ls k) (el ps b0 / -el ls b0) < 0:=fun h => hc (zm9.1 h)
         have HF:=hid (zl0 HCO.out HBE.out hc)
         go_wp2
         go_roundw
         case rel => exact ⟨k + 1,gl,Al,ml,cl,Dl,mdl,cdl,by go_num,by rw [HF.out];rfl,by omega,zbo.out,fun b h => by rw [HF.out] at h;injection h with h;subst h;exact zGe.out,zhh.out.b⟩
         case measure => simp [intOf];omega
     ·have hs:=zrO hq0
      have hs1:¬ (el ls k).num < 0:=fun e => hq0 (zeh.1 e)
      have HF:=hid (zdV (p:=ps) (l:=ls) (may:=may) (k:=k) (fun h => hq0 h.2))
      go_wp2
      go_roundw
      case rel => exact ⟨k + 1,gl,Al,ml,cl,Dl,mdl,cdl,by go_num,by rw [HF.out],by omega,zaD.out,fun b h => by rw [HF.out] at h;exact (HLE0.out b h).below HBW.out,zn7.out.b⟩
      case measure => simp [intOf];omega
   ·obtain rfl:N = k:=by omega
    have HF:=hid (show zhy ps ls may = za4 ps ls may N by unfold zhy;rw [← HNP.out, ← HNL.out, ← HNM.out, ← HN.out])
    have HBF:=hid hB
    clear hbox hP hB
    go_wp2
    go_ret
    exact ⟨by rw [HF.out];rfl,HBF.out⟩
end Du
end Go.Proofs.YtdbgbaiekpbaoaaGreatDoor
