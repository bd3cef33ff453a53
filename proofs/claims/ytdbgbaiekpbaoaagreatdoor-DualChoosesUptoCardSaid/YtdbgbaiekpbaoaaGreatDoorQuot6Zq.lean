/- quot.DivMod by its contract: a number below the divisor. Conditions: as it says. Copies of words that are the call's own;append of two noughts. Conditions: as each says. Numbers shifted so that the divisor's highest bit is 1. Plain arithmetic. quot.DivMod by its contract: a long division. Conditions: as it says. quot.DivMod,quot.Div,quot.Mod by their contracts. Conditions: as each says. gcd.Of and gcd.Reduce by their contracts. Conditions: as each says. Conditions: as they say. -/
import Derived.Test.YtdbgbaiekpbaoaaGreatDoorQuot5Zq
import Derived.Deep.LoopGhost
set_option linter.all false
namespace Go.Proofs.YtdbgbaiekpbaoaaGreatDoor
open Go.RowKit Am
open Lib (hid)
attribute [local go_sem ↓] Go.wp_at_zero Go.wp_at_succ
set_option maxHeartbeats 1000000
set_option maxRecDepth 100000
namespace Qt

theorem zpY (A B:Option Addr) (m c m' c' a b:Nat) (w:World) (ha:zas w (.slice A m c) a) (hb:zas w (.slice B m' c') b) (hb1:¬ wlen b ≤ 1) (hlt:a < b) :
  Calls Tryz.prog 176 #[.agg #[.slice A m c], .agg #[.slice B m' c']] w (zv4 w (a / b) (a % b) true):=by
 obtain ⟨ys,hy,hcy,hny,hly,hm⟩:=hb.words
 subst hm
 have HA:=hid ha
 have HBN:=hid hb
 have HY:=hid hy
 have hyl:¬ (ys.length:Int) ≤ 1:=by omega
 have HLY:=hid hly
 have HNY:=hid hny
 clear ha hb hy hly hny
 have W0:∃ W,W = (((w.alloc (.cells #[.slice A m c] 31)).alloc (.cells #[.slice B ys.length c'] 31)).alloc (.cells #[.slice none 0 0] 31)).alloc (.cells #[.slice none 0 0] 31):=⟨_,rfl⟩
 obtain ⟨W,hW⟩:=W0
 have hz:W.heap.size = w.heap.size + 1 + 1 + 1 + 1:=by rw [hW];simp
 have k0:W.cell? ⟨w.heap.size,0,none⟩ = some (.slice A m c):=by rw [hW];exact zaf (zaf (zaf (zax rfl rfl)))
 have k1:W.cell? ⟨w.heap.size + 1,0,none⟩ = some (.slice B ys.length c'):=by rw [hW];exact zaf (zaf (zax (by simp) rfl))
 have r2:W.heap[w.heap.size + 1 + 1]? = some (.cells #[.slice none 0 0] 31 (0,0)):=by rw [hW];exact zak (zam (by simp))
 have r3:W.heap[w.heap.size + 1 + 1 + 1]? = some (.cells #[.slice none 0 0] 31 (0,0)):=by rw [hW];exact zam (by simp)
 have hB:Below w.heap.size w W:=by rw [hW];exact (((zae w _).alloc (by simp) _).alloc (by simp;omega) _).alloc (by simp;omega) _
 have NA:=hid (HA.out.below hB)
 have NB:=hid (HBN.out.below hB)
 have NY:=hid (HY.out.below hB)
 have R2:=hid r2
 have R3:=hid r3
 have HB:=hid hB
 have HZ:=hid hz
 clear r2 r3 hB hz HA HBN HY
 go_enter Tryz.func176,Tryz.ntmps176
 go_wp2_with fail
 rw [← hW]
 clear hW
 refine (Nt.len (.slice B ys.length c') ys _ NY.out).mono ?_
 rintro e w' ⟨rfl,rfl⟩
 have k0:=zaf (ob := .cells #[.slice B ys.length c'] 31) k0
 have k1:=zaf (ob := .cells #[.slice B ys.length c'] 31) k1
 go_wp2_with fail
 refine (Nt.cmp A B m c ys.length c' a b _ (NA.out.alloc _) (NB.out.alloc _)).mono ?_
 rintro e w2 ⟨rfl,hb2⟩
 have hV:Below W.heap.size W w2:=((zae W _).trans (hb2.mono (by simp)))
 have k0:=zab hb2 k0
 have k1:=zab hb2 k1
 have NA:=hid (NA.out.below hV)
 have NB:=hid (NB.out.below hV)
 have NY:=hid (NY.out.below hV)
 have R2:=hid (zad hV R2.out)
 have R3:=hid (zad hV R3.out)
 have HB:=hid (HB.out.trans (hV.mono (by have:=HZ.out;omega)))
 have HZ:=hid (show w.heap.size + 4 ≤ w2.heap.size by have:=HZ.out;have:=hV.size;omega)
 clear hb2 hV
 rw [zeb (show (a:Int) < (b:Int) by omega)]
 go_wp2_with fail
 have g3:=zac R2.out 0
 have g4:=zag R2.out 0
 have g5:=zac R3.out 0
 have g6:=zag R3.out 0
 simp only [List.getElem?_toArray,List.getElem?_cons_zero] at g3 g5
 have hq:a / b = 0:=Nat.div_eq_of_lt hlt
 have hr:a % b = a:=Nat.mod_eq_of_lt hlt
 have HQR:=hid (And.intro hq hr)
 clear hq hr hlt
 go_region
 all_goals
  go_wp2
  refine bodyPost_ret (v := .tuple #[.agg #[.slice none 0 0], .agg #[.slice A m c], .bool true]) (by simp [results,Tryz.results176,go_sem,g3,g5]) rfl ?_
  have hz:=HZ.out
  rw [HQR.out.1,HQR.out.2]
  exact ⟨_,_,_,_,_,_,rfl,zas.zero _,(zas.setBox (zas.setBox NA.out (Box.of R2.out)) (Box.set (Box.of R3.out))).drew,(Below.setCell (Below.setCell HB.out (p:=⟨w.heap.size + 1 + 1,0,none⟩) (by show w.heap.size ≤ w.heap.size + 1 + 1;omega) _) (p:=⟨w.heap.size + 1 + 1 + 1,0,none⟩) (by show w.heap.size ≤ w.heap.size + 1 + 1 + 1;omega) _).drew⟩
end Qt
def zq4 (w:World) (xs:List Nat) (e:Ending) (w':World):Prop := ∃ (A:Option Addr) (m c:Nat),e = .returned (.slice A m c) ∧ w'.ownsRow w.heap.size 193 1 (.slice A m c) xs.length (wcells xs) ∧ Wds xs ∧ Below w.heap.size w w'
theorem zoq {xs:List Nat} (h:Canon xs) (hn:0 < xs.length):wd xs (xs.length - 1) ≠ 0:=by
 have h1:=h (by intro e;subst e;simp at hn)
 rw [List.getLast_eq_getElem] at h1
 unfold wd
 rw [List.getD_eq_getElem?_getD,List.getElem?_eq_getElem (by omega)]
 exact h1
theorem zA5 {w:World} {H g n cap:Nat} {e:TypeId} {size:Nat} {xs:List Value} (h:w.ownsRow H e size (.slice (some ⟨g,0,none⟩) n cap) n xs) (i:Nat) (hi:i ≤ n) :
  w.ownsRow g e size (.slice (some ⟨g,0,none⟩) i cap) i (xs.take (i * size)):=by
 have hl:i * size ≤ n * size:=Nat.mul_le_mul_right _ hi
 refine ⟨by rw [List.length_take,h.1];omega,?_⟩
 rcases h.2 with ⟨h',_⟩ | ⟨g',cap',cur,h',hb,hg,hnc,hcm,hcs,htake⟩
 ·simp at h'
 ·simp only [Value.slice.injEq,Option.some.injEq,Addr.mk.injEq,and_true,true_and] at h'
  obtain ⟨rfl,rfl⟩:=h'
  refine .inr ⟨g,cap,cur,rfl,Nat.le_refl _,hg,by omega,hcm,hcs,?_⟩
  rw [← htake,List.take_take,Nat.min_eq_left hl]
theorem zxt {w:World} {base:Nat} {e:TypeId} {size:Nat} {v:Value} {n:Nat} {xs:List Value} (h:w.ownsRow base e size v n xs) (hn:0 < n):∃ g cp,v = .slice (some ⟨g,0,none⟩) n cp ∧ n ≤ cp ∧ base ≤ g:=by
 rcases h.2 with ⟨_,h0⟩ | ⟨g,cap,cur,rfl,hb,_,hc,_⟩
 ·omega
 ·exact ⟨g,cap,rfl,hc,hb⟩
theorem zfF {B:Nat} {e:TypeId} {k:Nat} {v:Value} {n:Nat} {xs:List Value} {w w':World} (h:w.ownsRow B e k v n xs) (hb:Below w.heap.size w w'):w'.ownsRow B e k v n xs:=by
 refine ⟨h.1,?_⟩
 rcases h.2 with hn | ⟨g,cap,cur,hv,hB,hg,r⟩
 ·exact .inl hn
 ·exact .inr ⟨g,cap,cur,hv,hB,by rw [hb.block g (Array.getElem?_eq_some_iff.1 hg).1];exact hg,r⟩
theorem zxv {w:World} {H g n cap k:Nat} {ys:List Nat} (h:w.ownsRow H 193 1 (.slice (some ⟨g,0,none⟩) n cap) n (wcells ys)) (hk:k ≤ n) :
  w.ownsRow g 193 1 (.slice (some ⟨g,0,none⟩) k cap) k (wcells (ys.take k)):=by
 have:=zA5 h k hk
 rw [Nat.mul_one, ← zg7] at this
 exact this
namespace Nt
theorem zC7 (s:Value) (xs:List Nat) (w:World) (h:SR w s xs) (hb:xs.length ≤ LIM):Calls Tryz.prog 162 #[s] w (zq4 w xs):=by
 obtain ⟨A,c,rfl,hlc,hc9,hw,hnil,hcell⟩:=h
 have hWD:=hid hw
 clear hw
 rcases A with _ | ad
 ·obtain ⟨rfl,rfl⟩:=hnil rfl
  clear hcell hnil
  have hq:=fun (w:World) => Lib.run_eql_slice_nil (P:=Tryz.prog) w 29 193 none 0 0 0 0 Tryz.underlying29
  go_enter Tryz.func162,Tryz.ntmps162
  go_wp2
  go_ret
  exact ⟨_,_,_,rfl,World.ownsRow_nil _ _ _ _,Wds.nil,Below.refl _ _⟩
 ·have HC:=hid (hcell ad rfl)
  clear hcell hnil
  have hq:=fun (w:World) => Lib.run_eql_slice_nil (P:=Tryz.prog) w 29 193 (some ad) xs.length c 0 0 Tryz.underlying29
  obtain ⟨i0,hi,hz0,hz1,hz2⟩:=info_parts zf7
  have hown:=World.ownsRow_made (e:=193) (size:=1) (base:=w.heap.size) w #[] 0 (Nat.le_refl _) (by unfold maxLen;omega) rfl
  have hnews:∀ j u,(wcells xs)[j]? = some u → (w.alloc (.cells #[] 193)).cell? (ad.add j) = some u:=fun j u hu =>
   (World.cell?_alloc_lt w _ _ (World.block_lt_of_cell? w _ (HC.out j u hu))).trans (HC.out j u hu)
  have HO:=hid hown
  have HN:=hid hnews
  have b1:0 + xs.length ≤ maxLen:=by unfold maxLen;omega
  have b2:(0 + xs.length) * 8 ≤ 140737488355328:=by have:=zaP;omega
  have B1:=hid b1
  have B2:=hid b2
  clear hown hnews b1 b2 hb hlc hc9
  go_enter Tryz.func162,Tryz.ntmps162
  go_wp2_with (at_builtin;refine wpList_append_own _ rfl _ _ 29 rfl w.heap.size 193 i0 (.int .u64 0) 1 8 Tryz.underlying29 hi hz0 hz1 hz2 rfl (by decide) _ _ _ rfl HO.out ad xs.length c (wcells xs) rfl (by rw [zdA];omega) HN.out (zgf xs) B1.out B2.out (by simp) ?_;intro v' w1 hown' hgrow hnil')
  go_ret
  rw [Nat.zero_add,List.nil_append] at hown'
  have hs':=SW.of_own hown' hWD.out
  obtain ⟨A',m',c',rfl⟩:=hs'.slice
  exact ⟨A',m',c',rfl,hown',hWD.out,(zae w _).trans ((Below.refl _ _).grown hgrow (by simp) (fun k hk => by cases hk;exact Nat.le_refl _))⟩
theorem wordsF (A:Option Addr) (m c:Nat) (xs:List Nat) (w:World) (h:SW w (.slice A m c) xs) (hb:xs.length ≤ LIM):Calls Tryz.prog 158 #[.agg #[.slice A m c]] w (zq4 w xs):=by
 have h2:=(h.alloc (.cells #[.slice A m c] 31)).reads
 have H2:=hid h2
 have HB:=hid hb
 clear h h2 hb
 go_enter Tryz.func158,Tryz.ntmps158
 go_wp2_with fail
 refine (zC7 _ xs _ H2.out HB.out).mono ?_
 rintro e w1 ⟨A1,m1,c1,rfl,hs1,hw1,hb1⟩
 go_wp2
 go_ret
 exact ⟨_,_,_,rfl,zbu hs1 (by simp),hw1,bstep (zae w _) hb1 (by simp)⟩
end Nt
theorem zH5 (w:World) (n:Nat) (hn:w.heap.size = n) (j:Nat) (u:Value) (h:(wcells [0,0])[j]? = some u):(w.alloc (.cells #[.int .u64 0, .int .u64 0] 193)).cell? ((⟨n,0,none⟩:Addr).add j) = some u:=by
 subst hn
 rw [show (⟨w.heap.size,0,none⟩:Addr).add j = ⟨w.heap.size,j,none⟩ by unfold Addr.add;split <;> simp_all]
 exact (zac (zal w _ _) j).trans (by match j,h with | 0,h => simpa [wcells] using h | 1,h => simpa [wcells] using h | j + 2,h => simp [wcells] at h)
theorem zo4 {ops:Array Oper} {o:Oper} {a:Act} {w:World} {K:Act → World → Prop} {Q:Exit → Act → World → Prop} {E:Prop} (hg:o.guard = none)
  (s x:Operand) (hop:o.op = .call { callee := .builtin .append,args := #[s,x],argTypes := #[29,29] })
  {H n:Nat} {v:Value} {ys xs:List Nat} (hO:w.ownsRow H 193 1 v n (wcells ys)) (hs:a.eval s = v) {ad:Addr} {m c:Nat} (hx:a.eval x = .slice (some ad) m c) (hm:m = xs.length)
  (hnews:∀ j u,(wcells xs)[j]? = some u → w.cell? (ad.add j) = some u) (hl:n + xs.length ≤ 2 * LIM) (hH:H ≤ w.heap.size)
  (hK:∀ v' w',w'.ownsRow H 193 1 v' (n + xs.length) (wcells (ys ++ xs)) → w.grownBy w' v.ownBlock → K (a.put o.dst v') w') :
  if Region.wanted o (yielded ops a.tmps) = true then Oper.wp Tryz.prog o a w K Q else E:=by
 have hw:Region.wanted o (yielded ops a.tmps) = true:=by simp [Region.wanted,hg]
 rw [if_pos hw]
 subst hm
 obtain ⟨i0,hi,hz0,hz1,hz2⟩:=info_parts zf7
 refine wp_append_own w s x 29 hop H 193 i0 (.int .u64 0) 1 8 Tryz.underlying29 hi hz0 hz1 hz2 rfl (by decide) v n _ hs hO ad xs.length c (wcells xs) hx (by rw [zdA];omega) hnews (zgf xs)
  (by unfold maxLen;have:=zaP;omega) (by have:=zaP;omega) hH fun v' w' hown hgrow _ => ?_
 rw [← zia] at hown
 exact hK v' w' hown hgrow
end Go.Proofs.YtdbgbaiekpbaoaaGreatDoor
namespace Go.Proofs.YtdbgbaiekpbaoaaGreatDoor
open Go.RowKit Am
open Lib (hid)
namespace Qt
theorem zrL {ys:List Nat} {L:Nat} (hL:ys.length = L + 1):nval ys = nval (ys.take L) + B64 ^ L * wd ys L:=by
 have h:=zaY ys L (by omega)
 have h2:ys.drop L = [wd ys L]:=by
  rw [List.drop_eq_getElem_cons (by omega),List.drop_of_length_le (by omega)]
  unfold wd
  rw [List.getD_eq_getElem?_getD,List.getElem?_eq_getElem (by omega)]
  rfl
 rw [h2] at h
 simpa [nval] using h
theorem zqo {ys:List Nat} {L top s:Nat} (hw:Wds ys) (hL:ys.length = L + 1) (ht:wd ys L = top) (h0:0 < top) (hs:64 - blen top = s) :
  nval ys * 2 ^ s < B64 ^ (L + 1) ∧ 2 ^ 63 * B64 ^ L ≤ nval ys * 2 ^ s:=by
 have e:=zrL hL
 rw [ht] at e
 have hlo:=zlm ys L hw
 have htl:top < 18446744073709551616:=by rw [← ht];exact zdM hw L
 have hb64:=zmT htl
 have hbp:=zhl h0
 have h1:top < 2 ^ blen top:=zil.1 (Nat.le_refl _)
 have h2:2 ^ (blen top - 1) ≤ top:=znL.1 (by omega)
 have e64:2 ^ blen top * 2 ^ s = B64:=by rw [← Nat.pow_add,show blen top + s = 64 by omega]
 have e63:2 ^ (blen top - 1) * 2 ^ s = 2 ^ 63:=by rw [← Nat.pow_add,show blen top - 1 + s = 63 by omega]
 have hp:0 < 2 ^ s:=Nat.pow_pos (by decide)
 constructor
 ·have h3:nval ys < B64 ^ L * 2 ^ blen top:=by
   have : B64 ^ L * (top + 1) ≤ B64 ^ L * 2 ^ blen top:=Nat.mul_le_mul_left _ h1
   rw [Nat.mul_add,Nat.mul_one] at this
   omega
  have h4:=Nat.mul_lt_mul_of_pos_right h3 hp
  rw [Nat.mul_assoc,e64] at h4
  rw [Nat.pow_succ]
  exact h4
 ·have h3:B64 ^ L * 2 ^ (blen top - 1) ≤ nval ys:=by
   have : B64 ^ L * 2 ^ (blen top - 1) ≤ B64 ^ L * top:=Nat.mul_le_mul_left _ h2
   omega
  have h4:=Nat.mul_le_mul_right (2 ^ s) h3
  rw [Nat.mul_assoc,e63] at h4
  rw [Nat.mul_comm]
  exact h4
theorem zxq {vs:List Nat} {N L:Nat} (hw:Wds vs) (hc:Canon vs) (hn:nval vs = N) (h1:N < B64 ^ (L + 1)) (h2:2 ^ 63 * B64 ^ L ≤ N):vs.length = L + 1 ∧ 9223372036854775808 ≤ wd vs L:=by
 have hlen:=zk7 vs hw hc
 have hp:0 < B64 ^ L:=Nat.pow_pos (by decide)
 have hl:vs.length = L + 1:=by
  rw [hlen,hn]
  have a1:wlen N ≤ L + 1:=zaZ h1
  have a2:¬ wlen N ≤ L:=by
   rw [zfP]
   have : 1 * B64 ^ L ≤ 2 ^ 63 * B64 ^ L:=Nat.mul_le_mul_right _ (by decide)
   omega
  omega
 refine ⟨hl,?_⟩
 have e:=zrL hl
 have hlo:=zlm vs L hw
 rw [hn] at e
 rcases Nat.lt_or_ge (wd vs L) 9223372036854775808 with h | h
 ·exfalso
  have h3:B64 ^ L * (wd vs L + 1) ≤ B64 ^ L * 2 ^ 63:=Nat.mul_le_mul_left _ h
  rw [Nat.mul_add,Nat.mul_one] at h3
  rw [Nat.mul_comm (2 ^ 63)] at h2
  omega
 ·exact h
theorem zw3 {us vs:List Nat} {a s n L:Nat} (hu:us.length = n + 1) (hn:nval us = a * 2 ^ s) (ha:a < B64 ^ n) (hs:s < 64) (hL:L + 1 ≤ n) (hv:2 ^ 63 * B64 ^ L ≤ nval vs):nval (us.drop (n - L)) < nval vs:=by
 have e:=zaY us (n - L) (by omega)
 have hp:0 < B64 ^ (n - L):=Nat.pow_pos (by decide)
 have h1:a * 2 ^ s < B64 ^ n * 2 ^ s:=Nat.mul_lt_mul_of_pos_right ha (Nat.pow_pos (by decide))
 have h2:B64 ^ n = B64 ^ (n - L) * B64 ^ L:=by rw [← Nat.pow_add];congr 1;omega
 have h3:B64 ^ (n - L) * nval (us.drop (n - L)) < B64 ^ (n - L) * (B64 ^ L * 2 ^ s):=by
  rw [← Nat.mul_assoc, ← h2];omega
 have h4:=Nat.lt_of_mul_lt_mul_left h3
 have h5:B64 ^ L * 2 ^ s ≤ B64 ^ L * 2 ^ 63:=Nat.mul_le_mul_left _ (Nat.pow_le_pow_right (by decide) (by omega))
 rw [Nat.mul_comm (2 ^ 63)] at hv
 omega
theorem zA6 {xs:List Nat} {n:Nat} (h1:n ≤ xs.length) (h2:xs.length ≤ n + 1):nval ((xs ++ [0,0]).take (n + 1)) = nval xs ∧ ((xs ++ [0,0]).take (n + 1)).length = n + 1:=by
 have hl:((xs ++ [0,0]).take (n + 1)).length = n + 1:=by rw [List.length_take,List.length_append];simp;omega
 refine ⟨?_,hl⟩
 rw [List.take_append,zc7]
 rw [List.take_of_length_le (show xs.length ≤ n + 1 by omega)]
 have : nval (([0,0]:List Nat).take (n + 1 - xs.length)) = 0:=by
  rcases (show n + 1 - xs.length = 0 ∨ n + 1 - xs.length = 1 by omega) with h | h <;> rw [h] <;> rfl
 rw [this];simp
theorem unshift {a b s q r:Nat} (h:r + b * 2 ^ s * q = a * 2 ^ s) (hlt:r < b * 2 ^ s):q = a / b ∧ r / 2 ^ s = a % b:=by
 have hp:0 < 2 ^ s:=Nat.pow_pos (by decide)
 have hd:2 ^ s ∣ r:=by
  have h1:2 ^ s ∣ a * 2 ^ s:=Nat.dvd_mul_left _ _
  have h2:2 ^ s ∣ b * 2 ^ s * q:=Nat.dvd_trans (Nat.dvd_mul_left _ _) (Nat.dvd_mul_right _ _)
  rw [← h] at h1
  exact (Nat.dvd_add_left h2).1 h1
 obtain ⟨t,rfl⟩:=hd
 have h3:2 ^ s * (t + b * q) = 2 ^ s * a:=by
  rw [Nat.mul_comm _ a, ← h]
  grind
 have h4:=Nat.eq_of_mul_eq_mul_left hp h3
 have h5:t < b:=by
  rw [Nat.mul_comm b] at hlt
  exact Nat.lt_of_mul_lt_mul_left hlt
 rw [Nat.mul_div_cancel_left _ hp]
 have hb:0 < b:=by omega
 constructor
 ·rw [← h4,Nat.add_mul_div_left _ _ hb,Nat.div_eq_of_lt h5];simp
 ·rw [← h4,Nat.add_mul_mod_self_left,Nat.mod_eq_of_lt h5]
structure DS (w wr:World) (H G gv n nq cu:Nat) (us qs vs:List Nat) (Av:Option Addr) (cv:Nat):Prop where
  u:wr.ownsRow H 193 1 (.slice (some ⟨H,0,none⟩) (n + 1) cu) (n + 1) (wcells us)
  q:wr.ownsRow G 193 1 (.slice (some ⟨G,0,none⟩) nq nq) nq (wcells qs)
  v:wr.heap[gv]? = some (.cells #[.slice Av vs.length cv] 31 (0,0))
  sv:SW wr (.slice Av vs.length cv) vs
  r2:wr.heap[w.heap.size + 1 + 1]? = some (.cells #[.slice none 0 0] 31 (0,0))
  r3:wr.heap[w.heap.size + 1 + 1 + 1]? = some (.cells #[.slice none 0 0] 31 (0,0))
  bel:Below w.heap.size w wr
structure DF (w:World) (H G gv:Nat) (v:Value):Prop where
  hg:H < G
  gh:gv < H
  hw:w.heap.size + 4 ≤ gv
  vh:v.ownBlock ≠ some H
  vg:v.ownBlock ≠ some G
namespace DS
variable {w wr w':World} {H G gv n nq cu:Nat} {us qs us' qs' vs:List Nat} {Av:Option Addr} {cv:Nat}
theorem step (h:DS w wr H G gv n nq cu us qs vs Av cv) (hb:Below wr.heap.size wr w'):DS w w' H G gv n nq cu us qs vs Av cv :=
 ⟨zfF h.u hb,zfF h.q hb,zad hb h.v,h.sv.below hb,zad hb h.r2,zad hb h.r3,h.bel.trans (hb.mono h.bel.size)⟩
theorem blk {x:Nat} {o:Obj} (h:wr.heap[x]? = some o) (hg:wr.grownBy w' (some H)) (hne:x ≠ H):w'.heap[x]? = some o :=
 (hg.block x (Array.getElem?_eq_some_iff.1 h).1 (fun e => hne (Option.some.inj e))).trans h
theorem turnU (h:DS w wr H G gv n nq cu us qs vs Av cv) (f:DF w H G gv (.slice Av vs.length cv)) (hg:wr.grownBy w' (some H)) (hu:w'.ownsRow H 193 1 (.slice (some ⟨H,0,none⟩) (n + 1) cu) (n + 1) (wcells us')):DS w w' H G gv n nq cu us' qs vs Av cv :=
 ⟨hu,h.q.kept hg (.inr (by have:=f.hg;simp [Value.ownBlock];omega)),blk h.v hg (by have:=f.gh;omega),
  h.sv.keep fun k hk => hg.block k (h.sv.block hk) (fun e => f.vh (by rw [hk,e])),
  blk h.r2 hg (by have:=f.gh;have:=f.hw;omega),blk h.r3 hg (by have:=f.gh;have:=f.hw;omega),
  h.bel.grown hg h.bel.size (fun k hk => by cases hk;have:=f.gh;have:=f.hw;omega)⟩
theorem turnQ (h:DS w wr H G gv n nq cu us qs vs Av cv) (f:DF w H G gv (.slice Av vs.length cv)) (hg:wr.grownBy w' (some G)) (hq:w'.ownsRow G 193 1 (.slice (some ⟨G,0,none⟩) nq nq) nq (wcells qs')):DS w w' H G gv n nq cu us qs' vs Av cv :=
 ⟨h.u.kept hg (.inr (by have:=f.hg;simp [Value.ownBlock];omega)),hq,blk h.v hg (by have:=f.gh;have:=f.hg;omega),
  h.sv.keep fun k hk => hg.block k (h.sv.block hk) (fun e => f.vg (by rw [hk,e])),
  blk h.r2 hg (by have:=f.gh;have:=f.hg;have:=f.hw;omega),blk h.r3 hg (by have:=f.gh;have:=f.hg;have:=f.hw;omega),
  h.bel.grown hg h.bel.size (fun k hk => by cases hk;have:=f.gh;have:=f.hg;have:=f.hw;omega)⟩
theorem setQ (h:DS w wr H G gv n nq cu us qs vs Av cv) (f:DF w H G gv (.slice Av vs.length cv)) (k x:Nat):DS w (wr.setCell ⟨G,k,none⟩ (.int .u64 (x:Int))) H G gv n nq cu us (qs.set k x) vs Av cv :=
 h.turnQ f (h.q.stored k _).2 (by rw [ziN];exact (h.q.stored k _).1)
theorem cellU (h:DS w wr H G gv n nq cu us qs vs Av cv) (hl:us.length = n + 1) {k:Nat} (hk:k < n + 1):wr.cell? ⟨H,k,none⟩ = some (.int .u64 ((wd us k:Nat):Int)):=by
 rw [h.u.cellAt k (by omega),zeu (by omega)]
theorem cellQ (h:DS w wr H G gv n nq cu us qs vs Av cv) (hl:qs.length = nq) {k:Nat} (hk:k < nq):wr.cell? ⟨G,k,none⟩ = some (.int .u64 ((wd qs k:Nat):Int)):=by
 rw [h.q.cellAt k (by omega),zeu (by omega)]
theorem cellV (h:DS w wr H G gv n nq cu us qs vs Av cv):wr.cell? ⟨gv,0,none⟩ = some (.slice Av vs.length cv):=zac h.v 0
theorem swQ (h:DS w wr H G gv n nq cu us qs vs Av cv) (hl:qs.length = nq) (hw:Wds qs):SW wr (.slice (some ⟨G,0,none⟩) nq nq) qs:=by
 subst hl;exact SW.of_own h.q hw
theorem swU (h:DS w wr H G gv n nq cu us qs vs Av cv) (hl:us.length = n + 1) (hw:Wds us):SW wr (.slice (some ⟨H,0,none⟩) (n + 1) cu) us:=by
 have hu:=h.u
 rw [← hl] at hu ⊢
 exact SW.of_own hu hw
theorem outC (h:DS w wr H G gv n nq cu us qs vs Av cv) (hl:us.length = n + 1):OutC wr wr H (n + 1) cu us:=⟨h.u,⟨rfl,rfl,rfl,Nat.le_refl _,fun _ _ _ => rfl⟩,hl⟩
theorem ofOut (h:DS w wr H G gv n nq cu us qs vs Av cv) (f:DF w H G gv (.slice Av vs.length cv)) (o:OutC wr w' H (n + 1) cu us'):DS w w' H G gv n nq cu us' qs vs Av cv:=h.turnU f o.bel o.own
end DS
theorem zvl (W:World) (g n c k j:Nat) (K:Int) (hK:K = (j:Int)) (h1:k ≤ j) (h2:j ≤ c) (h3:k < c) :
  (Instr.slice 29 (.slice (some ⟨g,0,none⟩) n c) (some (.int .i64 (k:Int))) (some (.int .i64 K)) none).run Tryz.prog W = .ok (.slice (some ⟨g,k,none⟩) (j - k) (c - k)) W:=by
 subst hK
 have ht':Tryz.prog.underlying 29 = some (.slice (Tryz.prog.elem 29)):=by simp [Program.elem,Tryz.underlying29]
 have he:Tryz.prog.elem 29 = 193:=by simp [Program.elem,Tryz.underlying29]
 rw [run_slice_lh W 29 _ _ _ ht' .i64 .i64 _ _ (by omega) (by omega) (by omega),he]
 have h0:c ≠ k:=by omega
 by_cases h4:k = 0
 ·subst h4;simp [Result.andThen,sliced,Addr.add,h0]
 ·simp [Result.andThen,sliced,Addr.add,h0,h4]
theorem zmb {us os zs:List Nat} {a b:Nat} (h:za8 us os a b) (k:za8 os zs a b):za8 us zs a b:=⟨k.1.trans h.1,fun j hj => (k.2 j hj).trans (h.2 j hj)⟩
theorem zqw {N k q nq:Nat} {us qs us2 vs:List Nat} (hI:LdInv N (nval vs) us qs (k + 1)) (hW:Window us vs k) (hv:Wds vs) (hm:2 ≤ vs.length) (hk:k < qs.length) (hku:k ≤ us.length) (hv1:9223372036854775808 ≤ wd vs (vs.length - 1))
  (hg:GuessIs (wd us (k + vs.length)) (wd us (k + vs.length - 1)) (wd us (k + vs.length - 2)) (wd vs (vs.length - 1)) (wd vs (vs.length - 2)) q)
  (hs:za8 us us2 k (k + vs.length + 1)) (ho:Wds us2) (he:nval us2 + B64 ^ k * (q * nval vs) = nval us + B64 ^ (k + vs.length + 1) * 0):LdInv N (nval vs) us2 (qs.set k q) k:=by
 have _:=nq
 have hgo:=hW.guess hI.wu hv hm (by unfold wd at hv1;omega) hg
 rw [Nat.mul_zero,Nat.add_zero] at he
 exact hI.step hk hku hs ho he hgo.1 hg.lt
theorem zsu {N k q c:Nat} {us qs us2 us3 vs:List Nat} (hI:LdInv N (nval vs) us qs (k + 1)) (hW:Window us vs k) (hv:Wds vs) (hm:2 ≤ vs.length) (hk:k < qs.length) (hku:k ≤ us.length) (hv1:9223372036854775808 ≤ wd vs (vs.length - 1))
  (hg:GuessIs (wd us (k + vs.length)) (wd us (k + vs.length - 1)) (wd us (k + vs.length - 2)) (wd vs (vs.length - 1)) (wd vs (vs.length - 2)) q)
  (hs:za8 us us2 k (k + vs.length + 1)) (ho:Wds us2) (he:nval us2 + B64 ^ k * (q * nval vs) = nval us + B64 ^ (k + vs.length + 1) * 1)
  (hs3:za8 us2 us3 k (k + vs.length + 1)) (ho3:Wds us3) (he3:nval us3 + B64 ^ (k + vs.length + 1) * c = nval us2 + B64 ^ k * nval vs):LdInv N (nval vs) us3 ((qs.set k q).set k (q - 1)) k ∧ 0 < q:=by
 have hgo:=hW.guess hI.wu hv hm (by unfold wd at hv1;omega) hg
 have hnot:¬ q * nval vs ≤ nval (us.drop k):=fun h => by
  have:=zo6 hW ho hs hku he (Nat.le_refl 1) h
  omega
 have hq:0 < q:=by
  rcases Nat.eq_zero_or_pos q with h | h
  ·subst h;simp at hnot
  ·exact h
 have htop:=(hW.z.lt hI.wu).2
 have hbk:=ztX hW ho3 (zmb hs hs3) hku he he3 hq hgo.2 htop
 refine ⟨?_,hq⟩
 rw [List.set_set]
 exact hI.step hk hku (zmb hs hs3) ho3 hbk (by rw [Nat.sub_add_cancel hq];omega) (by have:=hg.lt;omega)
end Qt
end Go.Proofs.YtdbgbaiekpbaoaaGreatDoor
namespace Go.Proofs.YtdbgbaiekpbaoaaGreatDoor
open Go.RowKit Am
open Lib (hid)
attribute [local go_sem ↓] Go.wp_at_zero Go.wp_at_succ
set_option maxHeartbeats 10000000
set_option maxRecDepth 100000
namespace Qt
theorem zJH (s:Value) (xs:List Nat) (w:World) (hs:SW w s xs):Calls Tryz.prog 117 #[.agg #[s]] w fun e w' => e = .returned (.int .i64 (xs.length:Int)) ∧ Below w.heap.size w w' :=
 (Nt.len s xs w hs).mono fun e w' h => ⟨h.1,by rw [h.2];exact zae w _⟩
theorem zBr (s:Value) (xs:List Nat) (k x:Nat) (K:Int) (hK:K = (k:Int)) (w:World) (hs:SW w s xs) (hx:wd xs k = x):Calls Tryz.prog 157 #[.agg #[s], .int .i64 K] w fun e w' => e = .returned (.int .u64 (x:Int)) ∧ Below w.heap.size w w':=by
 subst hK
 exact (Nt.word s xs k (Int.natCast_nonneg _) w hs).mono fun e w' h => ⟨by rw [h.1, ← hx];rfl,by rw [h.2];exact zae w _⟩
theorem zH4 (x s:Nat) (hx:x < 18446744073709551616) (hs:64 - blen x = s) (w:World):Calls Tryz.prog 184 #[.int .u64 x] w fun e w' => e = .returned (.int .i64 (s:Int)) ∧ Below w.heap.size w w' :=
 (Word.lead x hx w).mono fun e w' h => by
  obtain ⟨h1,n,h2⟩:=h
  exact ⟨by rw [h1,hs],by rw [h2];exact zap w n⟩
theorem zvm (W:World) (g n c k:Nat) (K:Int) (hK:K = (k:Int)) (h1:k ≤ c) (h2:0 < c) :
  (Instr.slice 29 (.slice (some ⟨g,0,none⟩) n c) none (some (.int .i64 K)) none).run Tryz.prog W = .ok (.slice (some ⟨g,0,none⟩) k c) W:=by
 subst hK;exact Pr.run_upto W g n c k h1 h2
theorem ztS {V w6 W w7:World} {v6 v7:Value} {xs:List Nat} {H n m:Nat} (hb6:Below V.heap.size V w6) (hl:(wcells xs).length = m) (hO7:w7.ownsRow H 193 1 v7 (n + 2) (wcells (xs ++ [0,0]))) (hg7:W.grownBy w7 v6.ownBlock)
  (hO:W.ownsRow H 193 1 v6 n (wcells xs)) (hbW:Below w6.heap.size w6 W) (hz:n + ([0,0]:List Nat).length = n + 2) (hs:V.heap.size ≤ w6.heap.size) (hH:V.heap.size ≤ H) :
  ∃ g p,v7 = .slice (some ⟨g,0,none⟩) (n + 2) p ∧ n + 2 ≤ p ∧ V.heap.size ≤ g ∧ w7.ownsRow H 193 1 (.slice (some ⟨g,0,none⟩) (n + 2) p) (n + 2) (wcells (xs ++ [0,0])) ∧ Below V.heap.size V w7:=by
 obtain ⟨g,p,rfl,hp,hg⟩:=zxt hO7 (by omega)
 refine ⟨g,p,rfl,hp,by omega,hO7,?_⟩
 exact (hb6.trans (hbW.mono hs)).grown hg7 (Nat.le_trans hs hbW.size) (fun k hk => Nat.le_trans hH (hO.lt k hk).1)
theorem zDD (u2 u1 u0 v1 v0:Nat) (w:World) (h2:u2 ≤ v1) (h1:u1 < 18446744073709551616) (h0:u0 < 18446744073709551616) (hv:9223372036854775808 ≤ v1) (hv1:v1 < 18446744073709551616) (hv0:v0 < 18446744073709551616) :
  Calls Tryz.prog 186 #[.int .u64 (u2:Int), .int .u64 (u1:Int), .int .u64 (u0:Int), .int .u64 (v1:Int), .int .u64 (v0:Int)] w fun e w' => ∃ q:Nat,e = .returned (.int .u64 (q:Int)) ∧ GuessIs u2 u1 u0 v1 v0 q ∧ Below w.heap.size w w' :=
 (guess u2 u1 u0 v1 v0 w h2 h1 h0 hv hv1 hv0).mono fun e w' h => by
  obtain ⟨⟨q,h1,h2⟩,n,h3⟩:=h
  exact ⟨q,h1,h2,by rw [h3];exact zap w n⟩
theorem zr4 (A B:Option Addr) (m c m' c' a b:Nat) (w:World) (ha:zas w (.slice A m c) a) (hb:zas w (.slice B m' c') b) (hb1:¬ wlen b ≤ 1) (hle:b ≤ a) (hla:wlen a + 1 ≤ LIM) :
    Calls Tryz.prog 176 #[.agg #[.slice A m c], .agg #[.slice B m' c']] w (zv4 w (a / b) (a % b) true):=by
  obtain ⟨ys,hy,hcy,hny,hly,hm⟩:=hb.words
  subst hm
  have HA:=hid ha
  have HBN:=hid hb
  have HY:=hid hy
  have hyl:¬ (ys.length:Int) ≤ 1:=by omega
  have HLY:=hid hly
  have HNY:=hid hny
  clear ha hb hy hly hny
  have W0:∃ W,W = (((w.alloc (.cells #[.slice A m c] 31)).alloc (.cells #[.slice B ys.length c'] 31)).alloc (.cells #[.slice none 0 0] 31)).alloc (.cells #[.slice none 0 0] 31):=⟨_,rfl⟩
  obtain ⟨W,hW⟩:=W0
  have hz:W.heap.size = w.heap.size + 1 + 1 + 1 + 1:=by rw [hW];simp
  have k0:W.cell? ⟨w.heap.size,0,none⟩ = some (.slice A m c):=by rw [hW];exact zaf (zaf (zaf (zax rfl rfl)))
  have k1:W.cell? ⟨w.heap.size + 1,0,none⟩ = some (.slice B ys.length c'):=by rw [hW];exact zaf (zaf (zax (by simp) rfl))
  have r2:W.heap[w.heap.size + 1 + 1]? = some (.cells #[.slice none 0 0] 31 (0,0)):=by rw [hW];exact zak (zam (by simp))
  have r3:W.heap[w.heap.size + 1 + 1 + 1]? = some (.cells #[.slice none 0 0] 31 (0,0)):=by rw [hW];exact zam (by simp)
  have hB:Below w.heap.size w W:=by rw [hW];exact (((zae w _).alloc (by simp) _).alloc (by simp;omega) _).alloc (by simp;omega) _
  have NA:=hid (HA.out.below hB)
  have NB:=hid (HBN.out.below hB)
  have NY:=hid (HY.out.below hB)
  have R2:=hid r2
  have R3:=hid r3
  have HB:=hid hB
  have HZ:=hid hz
  clear r2 r3 hB hz HA HBN HY
  go_enter Tryz.func176,Tryz.ntmps176
  go_wp2_with fail
  rw [← hW]
  clear hW
  refine (Nt.len (.slice B ys.length c') ys _ NY.out).mono ?_
  rintro e w' ⟨rfl,rfl⟩
  have k0:=zaf (ob := .cells #[.slice B ys.length c'] 31) k0
  have k1:=zaf (ob := .cells #[.slice B ys.length c'] 31) k1
  go_wp2_with fail
  refine (Nt.cmp A B m c ys.length c' a b _ (NA.out.alloc _) (NB.out.alloc _)).mono ?_
  rintro e w2 ⟨rfl,hb2⟩
  have hV:Below W.heap.size W w2:=((zae W _).trans (hb2.mono (by simp)))
  have k0:=zab hb2 k0
  have k1:=zab hb2 k1
  have NA:=hid (NA.out.below hV)
  have NB:=hid (NB.out.below hV)
  have NY:=hid (NY.out.below hV)
  have R2:=hid (zad hV R2.out)
  have R3:=hid (zad hV R3.out)
  have HB:=hid (HB.out.trans (hV.mono (by have:=HZ.out;omega)))
  have HZ:=hid (show w.heap.size + 4 ≤ w2.heap.size by have:=HZ.out;have:=hV.size;omega)
  clear hb2 hV
  have hcm:¬ ze9 (a:Int) (b:Int) < 0:=by
    rcases Nat.lt_or_ge b a with h | h
    · rw [zea (by omega)];omega
    · rw [zgN (by omega)];omega
  obtain ⟨cv,hcv⟩:∃ cv,cv = ze9 (a:Int) (b:Int):=⟨_,rfl⟩
  rw [← hcv] at hcm ⊢
  clear hcv
  go_wp2_with fail
  obtain ⟨top,htop⟩:∃ top,wd ys (ys.length - 1) = top:=⟨_,rfl⟩
  obtain ⟨s,hs⟩:∃ s,64 - blen top = s:=⟨_,rfl⟩
  have HTOP:=hid htop
  have HSS:=hid hs
  obtain ⟨L,hLL⟩:∃ L,ys.length = L + 1:=⟨ys.length - 1,by have:=HLY.out;omega⟩
  have HN:=hid (show (b * 2 ^ s < B64 ^ (L + 1) ∧ 2 ^ 63 * B64 ^ L ≤ b * 2 ^ s) ∧ 1 ≤ L ∧ L + 1 ≤ wlen a by
    have h0:0 < top:=by
      rw [← htop]
      exact Nat.pos_of_ne_zero (zoq hcy (by omega))
    have h1:=zqo (L:=L) (top:=top) (s:=s) NY.out.2 hLL (by rw [← htop,hLL];rfl) h0 hs
    rw [HNY.out] at h1
    have h2:=HLY.out
    have h3:=zco hle
    exact ⟨h1,by omega,by omega⟩)
  clear hLL
  have HTB:=hid (show top < 18446744073709551616 by rw [← htop];exact zdM NY.out.2 _)
  have hL2:2 ≤ ys.length:=by have:=HLY.out;omega
  have HL2:=hid hL2
  have hylb:ys.length ≤ 9223372036854775807:=NY.out.len_le
  have hKI:IntKind.i64.wrap ((ys.length:Int) - 1) = ((ys.length - 1:Nat):Int):=by rw [IntWalk.i64_in _ (by omega)];omega
  have HKI:=hid hKI
  have HLA:=hid (show wlen a ≤ LIM by omega)
  have HLA1:=hid hla
  have HLE:=hid hle
  clear htop hs hKI hla hle hb1
  have HS:=hid (show ∀ w',Below w2.heap.size w2 w' → ((w'.cell? ⟨w.heap.size,0,none⟩ = some (.slice A m c) ∧ w'.cell? ⟨w.heap.size + 1,0,none⟩ = some (.slice B ys.length c')) ∧ Below w2.heap.size w2 w') from fun w' h => ⟨⟨zab h k0,zab h k1⟩,h⟩)
  go_cut [10] (fun s10 wr => s10 = .int .i64 (s:Int) ∧ Below w2.heap.size w2 wr)
  case first =>
    go_region_held3 (fun w' => ((w'.cell? ⟨w.heap.size,0,none⟩ = some (.slice A m c) ∧ w'.cell? ⟨w.heap.size + 1,0,none⟩ = some (.slice B ys.length c')) ∧ Below w2.heap.size w2 w'))
      ((refine HS.out _ ?_;repeat (first | exact Below.refl _ _ | exact (by assumption:_ ∧ Below _ _ _).2 | with_reducible refine bdrew ?_ | with_reducible refine al2 ?_ _ | with_reducible refine set2 ?_ (by omega) | with_reducible refine zc1 ?_ (by assumption))))
      (first
        | (go_at_call 117;(with_reducible refine (zJH (.slice B ys.length c') ys _ (NY.out.below (by assumption:_ ∧ Below _ _ _).2)).mono ?_);rintro e u1 ⟨rfl,hb1⟩;have hz1:=hb1.size;(try simp at hz1);have hze1:w2.heap.size ≤ u1.heap.size:=(by omega))
        | (go_at_call 157;(with_reducible refine (zBr (.slice B ys.length c') ys (ys.length - 1) top (IntKind.i64.wrap ((ys.length:Int) - 1)) HKI.out _ (NY.out.below (by assumption:_ ∧ Below _ _ _).2) HTOP.out).mono ?_);rintro e u2 ⟨rfl,hb2⟩;have hz2:=hb2.size;(try simp at hz2);have hze2:w2.heap.size ≤ u2.heap.size:=(by omega))
        | (go_at_call 184;(with_reducible refine (zH4 top s HTB.out HSS.out _).mono ?_);rintro e u3 ⟨rfl,hb3⟩;have hz3:=hb3.size;(try simp at hz3);have hze3:w2.heap.size ≤ u3.heap.size:=(by omega)))
    all_goals
      go_wp2
      go_meet
      case rel => exact ⟨rfl,(by assumption:_ ∧ Below w2.heap.size w2 _).2⟩
  case rest =>
    obtain ⟨rfl,hbV⟩:=hcut
    rename World => w3
    have k0:=zab hbV k0
    have k1:=zab hbV k1
    have NA:=hid (NA.out.below hbV)
    have NB:=hid (NB.out.below hbV)
    have NY:=hid (NY.out.below hbV)
    have R2:=hid (zad hbV R2.out)
    have R3:=hid (zad hbV R3.out)
    have HB:=hid (HB.out.trans (hbV.mono (by have:=HZ.out;omega)))
    have HZ:=hid (show w.heap.size + 4 ≤ w3.heap.size by have:=HZ.out;have:=hbV.size;omega)
    clear hbV HS
    have hs63:s < 64:=by
      rw [← HSS.out]
      have h0:0 < top:=by
        rw [← HTOP.out]
        exact Nat.pos_of_ne_zero (zoq hcy (by have:=HL2.out;omega))
      have:=zhl h0
      omega
    have HS63:=hid hs63
    have hlb:wlen b ≤ LIM:=Nat.le_trans (zco HLE.out) HLA.out
    have HLB:=hid hlb
    clear hs63 hlb
    go_wp2_with fail
    refine (Nt.shl B ys.length c' b s _ NB.out HS63.out HLB.out).mono ?_
    rintro e w4 ⟨Av,mv,cv',rfl,hv4,hb4⟩
    have k04:=zaf (ob := .cells #[.slice Av mv cv'] 31) (zab hb4 k0)
    have HV4:=hid (hv4.alloc (.cells #[.slice Av mv cv'] 31))
    have hV:Below w3.heap.size w3 (w4.alloc (.cells #[.slice Av mv cv'] 31)):=hb4.trans (zae w4 _ |>.mono hb4.size)
    have NA4:=hid (NA.out.below hV)
    have HZ4:=hid hb4.size
    have HV:=hid hV
    clear hv4 hb4 hV k1
    go_wp2_with fail
    refine (Nt.shl A m c a s _ NA4.out HS63.out HLA.out).mono ?_
    rintro e w5 ⟨As,ms,cs,rfl,hs5,hb5⟩
    have hV5:Below w3.heap.size w3 (w5.alloc (.cells #[.slice As ms cs] 31)):=(HV.out.trans (hb5.mono HV.out.size)).trans ((zae w5 _).mono (Nat.le_trans HV.out.size hb5.size))
    have hb5':Below (w4.alloc (.cells #[.slice Av mv cv'] 31)).heap.size (w4.alloc (.cells #[.slice Av mv cv'] 31)) (w5.alloc (.cells #[.slice As ms cs] 31)):=hb5.trans ((zae w5 _).mono hb5.size)
    have k0:(w5.alloc (.cells #[.slice As ms cs] 31)).cell? ⟨w.heap.size,0,none⟩ = some (.slice A m c):=zab hb5' k04
    have kv:(w5.alloc (.cells #[.slice As ms cs] 31)).heap[w4.heap.size]? = some (.cells #[.slice Av mv cv'] 31 (0,0)):=zad hb5' (zam rfl)
    have ks:(w5.alloc (.cells #[.slice As ms cs] 31)).cell? ⟨w5.heap.size,0,none⟩ = some (.slice As ms cs):=zax rfl rfl
    have NA:=hid (NA.out.below hV5)
    have NV:=hid (HV4.out.below hb5')
    have NS:=hid (hs5.alloc (.cells #[.slice As ms cs] 31))
    have R2:=hid (zad hV5 R2.out)
    have R3:=hid (zad hV5 R3.out)
    have HB:=hid (HB.out.trans (hV5.mono (by have:=HZ.out;omega)))
    have HZV:=hid (show w.heap.size + 4 ≤ w4.heap.size ∧ w4.heap.size < w5.heap.size ∧ (w5.alloc (.cells #[.slice As ms cs] 31)).heap.size = w5.heap.size + 1 by have:=HZ.out;have:=HZ4.out;have:=hb5.size;simp at this;simp;omega)
    have KV:=hid kv
    clear k04 hV5 hb5' hb5 hs5 kv HV4 NA4 HV NB NY HZ HZ4
    go_wp2_with fail
    generalize hq1:w4.heap.size = gv at *
    generalize hq2:w5.heap.size = gs at *
    generalize w5.alloc (.cells #[.slice As ms cs] 31) = V at *
    clear hq1 hq2
    have HVB:=hid (show ∀ k,(Value.slice Av mv cv').ownBlock = some k → k < V.heap.size by
      obtain ⟨zs,hz,_⟩:=NV.out
      exact fun k hk => hz.block hk)
    obtain ⟨az,hsa,hca,hna,hal,hma⟩:=NA.out.words
    subst hma
    obtain ⟨xs,hsx,hcx,hnx,hxl,hmx⟩:=NS.out.words
    subst hmx
    have hx1:xs.length ≤ az.length + 1:=by
      rw [hxl,hal]
      have h1:=zdy a (2 ^ s)
      have h2:wlen (2 ^ s) ≤ 1:=zdl (Nat.lt_of_le_of_lt (Nat.pow_le_pow_right (show 0 < 2 by decide) (Nat.le_of_lt_succ HS63.out)) (by decide))
      omega
    have hx2:az.length ≤ xs.length:=by
      rw [hxl,hal]
      exact zco (Nat.le_mul_of_pos_right a (Nat.pow_pos (by decide)))
    have haL:az.length ≤ LIM:=by rw [hal];exact HLA.out
    have SA:=hid hsx
    have SN:=hid hsa
    have HAL:=hid hal
    have HNX:=hid hnx
    have HX1:=hid hx1
    have HX2:=hid hx2
    have HAL2:=hid haL
    have SL:=hid (show xs.length ≤ LIM by have:=HLA1.out;omega)
    have hazb:az.length ≤ 9223372036854775800:=by have:=zaP;omega
    have HAW:=hid (show IntKind.i64.wrap ((az.length:Int) + 1) = ((az.length + 1:Nat):Int) by rw [IntWalk.i64_in _ (by omega)];omega)
    clear hsa hca hna hal hsx hcx hnx hxl hx1 hx2 haL
    have k0d:V.drew.cell? ⟨w.heap.size,0,none⟩ = some (.slice A az.length c):=k0
    have k0a:(V.alloc (.cells #[.int .u64 0, .int .u64 0] 193)).drew.cell? ⟨w.heap.size,0,none⟩ = some (.slice A az.length c):=zaf k0
    have ksd:V.drew.cell? ⟨gs,0,none⟩ = some (.slice As xs.length cs):=ks
    have ksa:(V.alloc (.cells #[.int .u64 0, .int .u64 0] 193)).drew.cell? ⟨gs,0,none⟩ = some (.slice As xs.length cs):=zaf ks
    have hVl:Below V.heap.size V (V.alloc (.cells #[.int .u64 0, .int .u64 0] 193)).drew:=(zae V _).drew
    go_cut [15] (fun s15 wr => ∃ (H cu:Nat),s15 = .slice (some ⟨H,0,none⟩) (az.length + 1) cu ∧ az.length + 1 ≤ cu ∧ V.heap.size ≤ H ∧ wr.ownsRow H 193 1 (.slice (some ⟨H,0,none⟩) (az.length + 1) cu) (az.length + 1) (wcells ((xs ++ [0,0]).take (az.length + 1))) ∧ Wds xs ∧ Below V.heap.size V wr)
    case first =>
      go_region_law (first
        | (refine znT (by rfl) 158 Tryz.func158 (by kernel_rfl) (by rfl) _ _ (by rfl) _ (by rfl) (Nt.wordsF As xs.length cs xs _ (by first | exact SA.out.drew | exact (SA.out.alloc _).drew) SL.out) ?_;rintro e w6 ⟨A6,m6,c6,rfl,hO6,hW6,hb6⟩;refine ⟨_,rfl,?_⟩;
           have HO6:=hid hO6;have HB6S:=hid hb6.size;have HB6Z:=hid (show V.heap.size ≤ w6.heap.size from (by first | exact Nat.le_trans (by simp) hb6.size));have HW6:=hid hW6;
           have HB6:=hid (show Below V.heap.size V w6 by first | exact (zap V 1).trans (hb6.mono (by first | exact Nat.le_refl _ | (simp;done))) | exact hVl.trans (hb6.mono hVl.size));
           have k06:=zab HB6.out k0;have k06a:=zaf (ob := .cells #[.int .u64 0, .int .u64 0] 193) k06;try (have L6:∀ j u,(wcells [0,0])[j]? = some u → w6.cell? ((⟨V.heap.size,0,none⟩:Addr).add j) = some u:=fun j u hu => (Below.cell hb6 (World.block_lt_of_cell? (V.alloc (.cells #[.int .u64 0, .int .u64 0] 193)) _ (zH5 V V.heap.size rfl j u hu))).trans (zH5 V V.heap.size rfl j u hu)))
        | ((refine zo4 (by rfl) _ _ (by rfl) (by first | exact HO6.out.alloc _ | exact HO6.out) (by rfl) (by rfl) (xs:=[0,0]) (by rfl) (by first | exact zH5 _ _ (by rfl) | exact L6) (by have:=SL.out;have:=zaP;simp;omega) (by first | exact HB6S.out | exact Nat.le_trans HB6S.out (by simp)) ?_;rintro v7 w7 hO7 hg7;have hq:=ztS HB6.out HO6.out.1 hO7 hg7 (by first | exact HO6.out.alloc _ | exact HO6.out) (by first | exact zae _ _ | exact Below.refl _ _) (by rfl) HB6Z.out (by first | exact Nat.le_refl _ | simp);obtain ⟨H7,p7,rfl,hp7,hH7,hO8,hb7⟩:=hq;have HO8:=hid hO8;have HB7:=hid hb7;have HH7:=hid hH7;have k07:=zab hb7 k0;have SN7:=hid (SN.out.below hb7);have hp8:az.length + 1 ≤ p7:=(by have:=HX2.out;omega);have hup:=fun W => zvm W H7 (xs.length + 2) p7 (az.length + 1) (IntKind.i64.wrap ((az.length:Int) + 1)) HAW.out hp8 (by omega);clear hO7 hg7 hO8 hb7 hH7))
        | (refine znT (by rfl) 117 Tryz.func117 (by kernel_rfl) (by rfl) _ _ (by rfl) _ (by rfl) (zJH (.slice A az.length c) az _ SN7.out) ?_;rintro e w8 ⟨rfl,hb8⟩;refine ⟨_,rfl,?_⟩;have HB8:=hid hb8;clear hb8))
      all_goals
        go_wp2
        go_meet
        case rel => exact ⟨H7,p7,rfl,hp8,HH7.out,zxv (zfF HO8.out HB8.out) (by have:=HX2.out;omega),HW6.out,HB7.out.trans (HB8.out.mono HB7.out.size)⟩
    case rest =>
      obtain ⟨H,cu,rfl,hcu,hHV,hO,hWx,hbV⟩:=hcut
      rename World => Y
      have KV:=hid (zad hbV KV.out)
      have k0:=zab hbV k0
      have NA:=hid (SN.out.below hbV)
      have NV:=hid (NV.out.below hbV)
      have R2:=hid (zad hbV R2.out)
      have R3:=hid (zad hbV R3.out)
      have HB:=hid (HB.out.trans (hbV.mono HB.out.size))
      have HO:=hid hO
      have HWX:=hid hWx
      have HSZ:=hid (show V.heap.size ≤ H ∧ V.heap.size ≤ Y.heap.size by exact ⟨hHV,hbV.size⟩)
      clear hbV hO hWx hHV SA SN NS k0d k0a ksd ksa ks hVl
      obtain ⟨vs,hsv,hcv,hnv,hvl,hmv⟩:=NV.out.words
      subst hmv
      have hnt:=zxq hsv.2 hcv hnv HN.out.1.1 HN.out.1.2
      have SV:=hid hsv
      have HVT:=hid hnt
      have HVN:=hid hnv
      have hpad:=zA6 HX2.out HX1.out
      rw [HNX.out] at hpad
      have hwu:Wds ((xs ++ [0,0]).take (az.length + 1)):=(HWX.out.append (by intro z hz;simp at hz;subst hz;decide)).take _
      generalize (xs ++ [0,0]).take (az.length + 1) = us at *
      have HPAD:=hid hpad
      have HWU:=hid hwu
      clear hsv hcv hnv hvl hnt hpad hwu
      have kvc:=zac KV.out 0
      simp only [List.getElem?_toArray,List.getElem?_cons_zero] at kvc
      go_wp2_with fail
      refine (Nt.len (.slice Av vs.length cv') vs _ SV.out).mono ?_
      rintro e w' ⟨rfl,rfl⟩
      have k0:=zaf (ob := .cells #[.slice Av vs.length cv'] 31) k0
      go_wp2_with fail
      refine (Nt.len (.slice A az.length c) az _ (NA.out.alloc _)).mono ?_
      rintro e w' ⟨rfl,rfl⟩
      have hvlen:vs.length ≤ az.length:=by have:=HVT.out.1;have:=HN.out.2.2;have:=HAL.out;omega
      obtain ⟨nq,hnq⟩:∃ nq,nq = az.length - vs.length + 1:=⟨_,rfl⟩
      have HNQ:=hid (show nq + vs.length = az.length + 1 by omega)
      have hLq:wrap64 (wrap64 ((az.length:Int) - (vs.length:Int)) + 1) = (nq:Int):=by unfold wrap64;omega
      have HLQ:=hid hLq
      have hnqb:nq ≤ 16 * LIM:=by have:=HAL2.out;have:=zaP;omega
      have HNQB:=hid hnqb
      clear hnq hLq hvlen
      have hYZ:Below Y.heap.size Y ((Y.alloc (.cells #[.slice Av vs.length cv'] 31)).alloc (.cells #[.slice A az.length c] 31)):=(zae Y _).alloc (by simp) _
      generalize (Y.alloc (.cells #[.slice Av vs.length cv'] 31)).alloc (.cells #[.slice A az.length c] 31) = Z at *
      have HYZ:=hid hYZ
      clear hYZ k0
      go_wp2_with (at_make;go_must (refine zdz rfl _ _ rfl nq _ rfl rfl HLQ.out HNQB.out Z.heap.size rfl ?_))
      intro w1 ho
      have hD:DS w w1 H Z.heap.size gv az.length nq cu us (List.replicate nq 0) vs Av cv' :=
        ⟨zfF (zfF HO.out HYZ.out) ho.bel,ho.own,zad ho.bel (zad HYZ.out KV.out),(SV.out.below HYZ.out).below ho.bel,zad ho.bel (zad HYZ.out R2.out),zad ho.bel (zad HYZ.out R3.out),(HB.out.trans (HYZ.out.mono HB.out.size)).trans (ho.bel.mono (Nat.le_trans HB.out.size HYZ.out.size))⟩
      have hF:DF w H Z.heap.size gv (.slice Av vs.length cv'):=by
        have h1:=HSZ.out
        have h2:=(HO.out.lt H rfl).2
        have h3:=HYZ.out.size
        have h4:=HZV.out
        exact ⟨by omega,by omega,by omega,fun e => by have:=HVB.out _ e;omega,fun e => by have:=HVB.out _ e;omega⟩
      have HD:=hid hD
      have HF:=hid hF
      clear ho hD hF
      generalize Z.heap.size = G at *
      have hI:LdInv (a * 2 ^ s) (nval vs) us (List.replicate nq 0) nq:=by
        refine ⟨HWU.out,Wds.replicate nq,by rw [zbK,HPAD.out.1];simp,?_,fun j _ => by rw [List.getD_eq_getElem?_getD,List.getElem?_replicate];split <;> rfl⟩
        have h1:=zw3 (us:=us) (vs:=vs) (a:=a) (s:=s) (n:=az.length) (L:=L) HPAD.out.2 HPAD.out.1 (by rw [HAL.out];exact zfD a) HS63.out (by have:=HN.out.2.2;have:=HAL.out;omega) (by rw [HVN.out];exact HN.out.1.2)
        rw [show nq = az.length - L by have:=HNQ.out;have:=HVT.out.1;omega]
        exact h1
      have HI:=hid hI
      clear hI
      go_wp2_with fail
      go_loopw [18] (fun kv wr => ∃ (k:Nat) (us' qs:List Nat),kv = .int .i64 ((k:Int) - 1) ∧ k ≤ nq ∧ us'.length = az.length + 1 ∧ qs.length = nq ∧ LdInv (a * 2 ^ s) (nval vs) us' qs k ∧ DS w wr H G gv az.length nq cu us' qs vs Av cv')
        (fun kv _ => (intOf kv + 1).toNat)
      case atStart =>
        have h1:wrap64 ((nq:Int) - 1) = (nq:Int) - 1:=by have:=HNQB.out;have:=zaP;unfold wrap64;omega
        exact ⟨nq,us,List.replicate nq 0,by rw [h1],Nat.le_refl _,HPAD.out.2,List.length_replicate,HI.out,HD.out⟩
      case round =>
        obtain ⟨k,us',qs,rfl,hk,hul,hql,hI,hD⟩:=hrel
        have HI:=hid hI
        have HD:=hid hD
        have HUL:=hid hul
        have HQL:=hid hql
        clear hI hD hul hql
        rcases k with _ | k
        · have hfin:=unshift (a:=a) (b:=b) (s:=s) (q:=nval qs) (r:=nval us') (by have:=HI.out.eq;rw [HVN.out] at this;exact this) (by have:=HI.out.lt;rw [List.drop_zero,HVN.out] at this;exact this)
          have HFIN:=hid hfin
          have hrl:wlen (nval us') ≤ LIM:=by
            have h1:=HI.out.lt
            rw [List.drop_zero,HVN.out] at h1
            have h2:wlen (nval us') ≤ L + 1:=zaZ (Nat.lt_trans h1 HN.out.1.1)
            have:=HN.out.2.2;have:=HLA.out;omega
          have HRL:=hid hrl
          clear hfin hrl
          go_wp2_with fail
          refine (Nt.of _ qs _ (HD.out.swQ HQL.out HI.out.wq).reads (by rw [HQL.out];have:=HNQ.out;have:=HVT.out.1;have:=HAL2.out;omega)).mono ?_
          rintro e w2 ⟨A2,m2,c2,rfl,hq2,hb2⟩
          have HD2:=hid (HD.out.step hb2)
          have HQ2:=hid hq2
          clear hq2 hb2
          go_wp2_with fail
          refine (Nt.of _ us' _ (HD2.out.swU HUL.out HI.out.wu).reads (by rw [HUL.out,HAL.out];exact HLA1.out)).mono ?_
          rintro e w3 ⟨A3,m3,c3,rfl,hr3,hb3⟩
          have HD3:=hid (HD2.out.step hb3)
          have HQ3:=hid (HQ2.out.below hb3)
          have HR3:=hid hr3
          clear hr3 hb3
          go_wp2_with fail
          refine (Nt.shr A3 m3 c3 (nval us') s _ HR3.out HS63.out HRL.out).mono ?_
          rintro e w4 ⟨A4,m4,c4,rfl,hr4,hb4⟩
          have HD4:=hid (HD3.out.step hb4)
          have HQ4:=hid (HQ3.out.below hb4)
          have HR4:=hid hr4
          clear hr4 hb4
          have g3:=zac HD4.out.r2 0
          have g4:=zag HD4.out.r2 0
          have g5:=zac HD4.out.r3 0
          have g6:=zag HD4.out.r3 0
          simp only [List.getElem?_toArray,List.getElem?_cons_zero] at g3 g5
          go_wp2
          refine bodyPost_ret (v := .tuple #[.agg #[.slice A2 m2 c2], .agg #[.slice A4 m4 c4], .bool true]) (by simp [results,Tryz.results176,go_sem,g3,g5]) rfl ?_
          have hq4:=HQ4.out
          have hr4:=HR4.out
          rw [HFIN.out.1] at hq4
          rw [HFIN.out.2] at hr4
          exact ⟨_,_,_,_,_,_,rfl,zas.setBox (zas.setBox hq4 (Box.of HD4.out.r2)) (Box.set (Box.of HD4.out.r3)),zas.setBox (zas.setBox hr4 (Box.of HD4.out.r2)) (Box.set (Box.of HD4.out.r3)),Below.setCell (Below.setCell HD4.out.bel (p:=⟨w.heap.size + 1 + 1,0,none⟩) (by show w.heap.size ≤ w.heap.size + 1 + 1;omega) _) (p:=⟨w.heap.size + 1 + 1 + 1,0,none⟩) (by show w.heap.size ≤ w.heap.size + 1 + 1 + 1;omega) _⟩
        · have hW:=zvB HI.out.wu SV.out.2 HI.out.lt (by have:=HUL.out;have:=HNQ.out;omega)
          have HWIN:=hid hW
          have HK:=hid (show k + vs.length ≤ az.length by have:=HNQ.out;omega)
          have e1:((k + 1:Nat):Int) - 1 = (k:Int):=by omega
          simp only [e1]
          clear hW e1
          go_wp2_with fail
          have hv2:2 ≤ vs.length:=by have:=HVT.out.1;have:=HN.out.2.1;omega
          have hazb2:=hazb
          obtain ⟨t2,ht2⟩:∃ t,t = k + vs.length:=⟨_,rfl⟩
          obtain ⟨t1,ht1⟩:∃ t,t = k + vs.length - 1:=⟨_,rfl⟩
          obtain ⟨t0,ht0⟩:∃ t,t = k + vs.length - 2:=⟨_,rfl⟩
          obtain ⟨m1,hm1⟩:∃ t,t = vs.length - 1:=⟨_,rfl⟩
          obtain ⟨m0,hm0⟩:∃ t,t = vs.length - 2:=⟨_,rfl⟩
          have hkk:=HK.out
          have q2:t2 < az.length + 1:=by omega
          have q1:t1 < az.length + 1:=by omega
          have q0:t0 < az.length + 1:=by omega
          have qk:k < nq:=by have:=HNQ.out;omega
          have W2:=hid (show IntKind.i64.wrap ((k:Int) + (vs.length:Int)) = (t2:Int) by rw [IntWalk.i64_in _ (by omega)];omega)
          have W1:=hid (show IntKind.i64.wrap ((t2:Int) - 1) = (t1:Int) by rw [IntWalk.i64_in _ (by omega)];omega)
          have W0:=hid (show IntKind.i64.wrap ((t2:Int) - 2) = (t0:Int) by rw [IntWalk.i64_in _ (by omega)];omega)
          have X1:=hid (show IntKind.i64.wrap ((vs.length:Int) - 1) = (m1:Int) by rw [IntWalk.i64_in _ (by omega)];omega)
          have X0:=hid (show IntKind.i64.wrap ((vs.length:Int) - 2) = (m0:Int) by rw [IntWalk.i64_in _ (by omega)];omega)
          have hg2:wd us' t2 ≤ wd vs m1:=by rw [ht2,hm1];exact HWIN.out.top HI.out.wu SV.out.2 hv2
          have hgv:9223372036854775808 ≤ wd vs m1:=by rw [hm1,HVT.out.1];exact HVT.out.2
          have HG2:=hid hg2
          have HGV:=hid hgv
          have HT2:=hid ht2
          have HT1:=hid ht1
          have HT0:=hid ht0
          have HM1:=hid hm1
          have HM0:=hid hm0
          have HV2:=hid hv2
          have HQK:=hid qk
          clear hg2 hgv
          have D0:DS w wr.drew H G gv az.length nq cu us' qs vs Av cv':=HD.out.step (zap wr 1)
          have HD0:=hid D0
          have cU2:=D0.cellU HUL.out q2
          have cU1:=D0.cellU HUL.out q1
          have cU0:=D0.cellU HUL.out q0
          have cV:=D0.cellV
          have i2:(t2:Int) < (az.length:Int) + 1:=by omega
          have i1:(t1:Int) < (az.length:Int) + 1:=by omega
          have i0:(t0:Int) < (az.length:Int) + 1:=by omega
          have ik:(k:Int) < (nq:Int):=by omega
          have R2q:=hid q2
          have R1q:=hid q1
          have R0q:=hid q0
          clear D0 ht2 ht1 ht0 hm1 hm0 hv2 hkk q2 q1 q0 qk hazb2
          have w2q:=W2.out
          have w1q:=W1.out
          have w0q:=W0.out
          have x1q:=X1.out
          have x0q:=X0.out
          have LU1:=hid (zdM HI.out.wu t1)
          have LU0:=hid (zdM HI.out.wu t0)
          have LV1:=hid (zdM SV.out.2 m1)
          have LV0:=hid (zdM SV.out.2 m0)
          go_cut [] (fun wr' => ∃ (q:Nat),GuessIs (wd us' t2) (wd us' t1) (wd us' t0) (wd vs m1) (wd vs m0) q ∧ DS w wr' H G gv az.length nq cu us' (qs.set k q) vs Av cv')
          case first =>
            have hHG:H < G:=HF.out.hg
            have hgG:gv < G:=Nat.lt_trans HF.out.gh HF.out.hg
            go_region_held3 (fun w' => w'.cell? ⟨H,t2,none⟩ = some (.int .u64 ((wd us' t2:Nat):Int)) ∧ w'.cell? ⟨H,t1,none⟩ = some (.int .u64 ((wd us' t1:Nat):Int)) ∧ w'.cell? ⟨H,t0,none⟩ = some (.int .u64 ((wd us' t0:Nat):Int)) ∧ w'.cell? ⟨gv,0,none⟩ = some (.slice Av vs.length cv'))
              (((try go_split_ands);(try simp only [World.cell?_drew]);(repeat' apply And.intro) <;> (first | assumption | exact zab hb1 (by assumption) | exact zab hb2 (by assumption) | exact zab hb3 (by assumption) | exact zah (by omega) (by assumption))))
              (first
                | (go_at_call 157;(with_reducible refine (zBr (.slice Av vs.length cv') vs m1 (wd vs m1) (m1:Int) rfl _ HD0.out.sv rfl).mono ?_);rintro e y1 ⟨rfl,hb1⟩;have HD1:=hid (HD0.out.step hb1))
                | (go_at_call 157;(with_reducible refine (zBr (.slice Av vs.length cv') vs m0 (wd vs m0) (m0:Int) rfl _ HD1.out.sv rfl).mono ?_);rintro e y2 ⟨rfl,hb2⟩;have HD2:=hid (HD1.out.step hb2))
                | (go_at_call 186;(with_reducible refine (zDD (wd us' t2) (wd us' t1) (wd us' t0) (wd vs m1) (wd vs m0) _ HG2.out LU1.out LU0.out HGV.out LV1.out LV0.out).mono ?_);rintro e y3 ⟨q,rfl,hgi,hb3⟩;have HD3:=hid (HD2.out.step hb3);have HGI:=hid hgi;have cQ:=HD3.out.cellQ HQL.out HQK.out;have fQ:=HD3.out.q.frozenAt k;clear hgi))
            all_goals
              go_wp2
              go_meet
              case rel => exact ⟨q,HGI.out,HD3.out.setQ HF.out k q⟩
          case rest =>
            obtain ⟨q,hgi,hDq⟩:=hcut
            rename World => y4
            have hgi':GuessIs (wd us' (k + vs.length)) (wd us' (k + vs.length - 1)) (wd us' (k + vs.length - 2)) (wd vs (vs.length - 1)) (wd vs (vs.length - 2)) q:=by
              have:=hgi
              rw [HT2.out,HT1.out,HT0.out,HM1.out,HM0.out] at this
              exact this
            have HGI:=hid hgi'
            have hq64:q < 18446744073709551616:=hgi.lt
            have HQ64:=hid hq64
            have D4:DS w y4.drew H G gv az.length nq cu us' (qs.set k q) vs Av cv':=hDq.step (zap y4 1)
            have HD4:=hid D4
            have cQ4:y4.drew.cell? ⟨G,k,none⟩ = some (.int .u64 (q:Int)):=by
              have h:=D4.cellQ (by rw [List.length_set];exact HQL.out) HQK.out
              have e:wd (qs.set k q) k = q:=by unfold wd;rw [zcU _ _ _ _ (by rw [HQL.out];exact HQK.out),if_pos rfl]
              rw [e] at h
              exact h
            have cV4:=D4.cellV
            have HOC:=hid (D4.outC HUL.out)
            have HCU:=hid (show k + vs.length + 1 ≤ cu by have:=HK.out;omega)
            have HW3:=hid (show IntKind.i64.wrap ((t2:Int) + 1) = ((k + vs.length + 1:Nat):Int) by have:=R2q.out;have:=HT2.out;rw [IntWalk.i64_in _ (by omega)];omega)
            have hmid:=fun W => zvl W H (az.length + 1) cu k (k + vs.length + 1) (IntKind.i64.wrap ((t2:Int) + 1)) HW3.out (by omega) HCU.out (by have:=HCU.out;omega)
            rw [show k + vs.length + 1 - k = vs.length + 1 by omega] at hmid
            have HTK:=hid (show k + vs.length < az.length + 1 by have:=HK.out;omega)
            have HTC:=hid (show vs.length + 1 ≤ cu - k by have:=HCU.out;omega)
            have HTN:=hid (show az.length + 1 ≤ 2 * LIM by have:=HAL2.out;have:=zaP;omega)
            have HVH:=hid HF.out.vh
            clear hgi hgi' hDq D4 hq64 cU2 cU1 cU0 cV hcu
            go_wp2_with fail
            go_region_with (go_at_call 187;(with_reducible refine (take y4.drew y4.drew H (az.length + 1) cu k (cu - k) q us' vs Av cv' HOC.out HD4.out.sv HVH.out HI.out.wu HQ64.out HTK.out HTC.out HTN.out).mono ?_);rintro e y5 ⟨bb,us2,rfl,hbb,hO5,hw5,hs5,he5⟩;have HO5:=hid hO5;have HW5:=hid hw5;have HS5:=hid hs5;have HE5:=hid he5;clear hO5 hw5 hs5 he5)
            all_goals
              have D5:=HD4.out.ofOut HF.out HO5.out
              have HD5:=hid D5
              have HU5:=hid (show us2.length = az.length + 1 by rw [HS5.out.1];exact HUL.out)
              have HKQ:=hid (show k < qs.length by rw [HQL.out];exact HQK.out)
              have HKU:=hid (show k ≤ us'.length by rw [HUL.out];have:=HTK.out;omega)
              have HGV1:=hid (show 9223372036854775808 ≤ wd vs (vs.length - 1) by rw [← HM1.out];exact HGV.out)
              clear D5 cQ4 cV4 hmid
              rcases (show bb = 0 ∨ bb = 1 by omega) with rfl | rfl
              · have hb0:((0:Nat) == 1) = false:=rfl
                simp only [hb0]
                clear hb0
                have hR:=zqw (nq:=nq) HI.out HWIN.out SV.out.2 HV2.out HKQ.out HKU.out HGV1.out HGI.out HS5.out HW5.out HE5.out
                have HR:=hid hR
                clear hR
                go_wp2_with fail
                have h1:wrap64 ((k:Int) - 1) = (k:Int) - 1:=by have:=HQK.out;have:=HNQB.out;have:=zaP;unfold wrap64;omega
                exact ⟨⟨k,us2,qs.set k q,by rw [h1],by have:=HQK.out;omega,HU5.out,by rw [List.length_set];exact HQL.out,HR.out,HD5.out⟩,by rw [h1];simp [intOf]⟩
              · have hb1:((1:Nat) == 1) = true:=rfl
                simp only [hb1]
                clear hb1
                have hq0:0 < q:=by
                  rcases Nat.eq_zero_or_pos q with h | h
                  · subst h
                    have:=zo6 HWIN.out HW5.out HS5.out HKU.out HE5.out (Nat.le_refl 1) (by simp)
                    omega
                  · exact h
                have HPRED:=hid (zdN hq0 HQ64.out)
                have cQ5:y5.cell? ⟨G,k,none⟩ = some (.int .u64 (q:Int)):=by
                  have h:=HD5.out.cellQ (by rw [List.length_set];exact HQL.out) HQK.out
                  have e:wd (qs.set k q) k = q:=by unfold wd;rw [zcU _ _ _ _ HKQ.out,if_pos rfl]
                  rw [e] at h
                  exact h
                have fQ5:=HD5.out.q.frozenAt k
                clear hq0
                go_wp2_with fail
                rw [HPRED.out]
                have D6:=HD5.out.setQ HF.out k (q - 1)
                have HD6:=hid D6
                clear D6 cQ5 fQ5
                generalize y5.setCell ⟨G,k,none⟩ (.int .u64 ((q - 1:Nat):Int)) = y6 at *
                have D7:DS w y6.drew H G gv az.length nq cu us2 ((qs.set k q).set k (q - 1)) vs Av cv':=HD6.out.step (zap y6 1)
                have HD7:=hid D7
                have cV7:=D7.cellV
                have HOC7:=hid (D7.outC HU5.out)
                have hmid:=fun W => zvl W H (az.length + 1) cu k (k + vs.length + 1) (IntKind.i64.wrap ((t2:Int) + 1)) HW3.out (by omega) HCU.out (by have:=HCU.out;omega)
                rw [show k + vs.length + 1 - k = vs.length + 1 by omega] at hmid
                clear D7
                go_region_with (go_at_call 188;(with_reducible refine (back y6.drew y6.drew H (az.length + 1) cu k (cu - k) us2 vs Av cv' HOC7.out HD7.out.sv HVH.out HW5.out HTK.out HTN.out).mono ?_);rintro e y7 ⟨us3,rfl,hO8,hw8,hs8,cc,he8⟩;have HO8:=hid hO8;have HW8:=hid hw8;have HS8:=hid hs8;have HE8:=hid he8;clear hO8 hw8 hs8 he8)
                all_goals
                  have D8:=HD7.out.ofOut HF.out HO8.out
                  have HD8:=hid D8
                  have hR:=zsu (c:=cc) HI.out HWIN.out SV.out.2 HV2.out HKQ.out HKU.out HGV1.out HGI.out HS5.out HW5.out HE5.out HS8.out HW8.out HE8.out
                  have HR:=hid hR
                  clear hR D8 hmid
                  go_wp2_with fail
                  have h1:wrap64 ((k:Int) - 1) = (k:Int) - 1:=by have:=HQK.out;have:=HNQB.out;have:=zaP;unfold wrap64;omega
                  exact ⟨⟨k,us3,(qs.set k q).set k (q - 1),by rw [h1],by have:=HQK.out;omega,by rw [HS8.out.1];exact HU5.out,by rw [List.length_set,List.length_set];exact HQL.out,HR.out.1,HD8.out⟩,by rw [h1];simp [intOf]⟩
end Qt
end Go.Proofs.YtdbgbaiekpbaoaaGreatDoor
namespace Go.Proofs.YtdbgbaiekpbaoaaGreatDoor
open Go.RowKit Am
open Lib (hid)
attribute [local go_sem ↓] Go.wp_at_zero Go.wp_at_succ
set_option maxHeartbeats 1000000
set_option maxRecDepth 100000
namespace Qt
theorem zyj (A B:Option Addr) (m c m' c' a b:Nat) (w:World) (ha:zas w (.slice A m c) a) (hb:zas w (.slice B m' c') b) (hb0:0 < b) (hla:wlen a + 1 ≤ LIM) :
  Calls Tryz.prog 176 #[.agg #[.slice A m c], .agg #[.slice B m' c']] w (zv4 w (a / b) (a % b) true):=by
 by_cases h1:wlen b ≤ 1
 ·exact zr5 A B m c m' c' a b w ha hb hb0 h1 (by omega)
 ·rcases Nat.lt_or_ge a b with h | h
  ·exact zpY A B m c m' c' a b w ha hb h1 h
  ·exact zr4 A B m c m' c' a b w ha hb h1 h hla
theorem div (A B:Option Addr) (m c m' c' a b:Nat) (w:World) (ha:zas w (.slice A m c) a) (hb:zas w (.slice B m' c') b) (hb0:0 < b) (hla:wlen a + 1 ≤ LIM) :
  Calls Tryz.prog 154 #[.agg #[.slice A m c], .agg #[.slice B m' c']] w (zjL w (a / b) true):=by
 have HA:=hid ha
 have HB:=hid hb
 have HLA:=hid hla
 have HB0:=hid hb0
 clear ha hb hla hb0
 go_enter Tryz.func154,Tryz.ntmps154
 go_wp2_with fail
 refine (zyj A B m c m' c' a b _ (((HA.out.alloc _).alloc _).alloc _) (((HB.out.alloc _).alloc _).alloc _) HB0.out HLA.out).mono ?_
 rintro e w2 ⟨A1,m1,c1,A2,m2,c2,rfl,hq,hr,hb2⟩
 have kk:=hid ((hb2.block (w.heap.size + 1 + 1) (by simp)).trans (zam (cs := #[.slice none 0 0]) (t:=31) (by simp)))
 have hz:=hb2.size
 simp at hz
 have HQ:=hid hq
 have HR:=hid hr
 have HB2:=hid hb2
 clear hq hr hb2
 have g1:=hid (show ((w2.alloc (.cells #[.slice A1 m1 c1] 31)).alloc (.cells #[.slice A2 m2 c2] 31)).heap[w.heap.size + 1 + 1]? = some (.cells #[.slice none 0 0] 31 (0,0)) from zak (zak kk.out))
 have g3:=zac g1.out 0
 have g4:=zag g1.out 0
 simp only [List.getElem?_toArray,List.getElem?_cons_zero] at g3
 go_wp2
 refine bodyPost_ret (v := .tuple #[.agg #[.slice A1 m1 c1], .bool true]) (by simp [results,Tryz.results154,go_sem,g3]) rfl ?_
 have hb:Below w.heap.size w ((w2.alloc (.cells #[.slice A1 m1 c1] 31)).alloc (.cells #[.slice A2 m2 c2] 31)):=(((((zae w _).alloc (by simp) _).alloc (by simp;omega) _).trans (HB2.out.mono (by simp;omega))).alloc (by omega) _).alloc (by simp;omega) _
 exact ⟨_,_,_,rfl,zas.setBox ((HQ.out.alloc _).alloc _) (Box.of g1.out),Below.setCell hb (p:=⟨w.heap.size + 1 + 1,0,none⟩) (by show w.heap.size ≤ w.heap.size + 1 + 1;omega) _⟩
theorem mod (A B:Option Addr) (m c m' c' a b:Nat) (w:World) (ha:zas w (.slice A m c) a) (hb:zas w (.slice B m' c') b) (hb0:0 < b) (hla:wlen a + 1 ≤ LIM) :
  Calls Tryz.prog 175 #[.agg #[.slice A m c], .agg #[.slice B m' c']] w (zjL w (a % b) true):=by
 have HA:=hid ha
 have HB:=hid hb
 have HLA:=hid hla
 have HB0:=hid hb0
 clear ha hb hla hb0
 go_enter Tryz.func175,Tryz.ntmps175
 go_wp2_with fail
 refine (zyj A B m c m' c' a b _ (((HA.out.alloc _).alloc _).alloc _) (((HB.out.alloc _).alloc _).alloc _) HB0.out HLA.out).mono ?_
 rintro e w2 ⟨A1,m1,c1,A2,m2,c2,rfl,hq,hr,hb2⟩
 have kk:=hid ((hb2.block (w.heap.size + 1 + 1) (by simp)).trans (zam (cs := #[.slice none 0 0]) (t:=31) (by simp)))
 have hz:=hb2.size
 simp at hz
 have HQ:=hid hq
 have HR:=hid hr
 have HB2:=hid hb2
 clear hq hr hb2
 have g1:=hid (show ((w2.alloc (.cells #[.slice A1 m1 c1] 31)).alloc (.cells #[.slice A2 m2 c2] 31)).heap[w.heap.size + 1 + 1]? = some (.cells #[.slice none 0 0] 31 (0,0)) from zak (zak kk.out))
 have g3:=zac g1.out 0
 have g4:=zag g1.out 0
 simp only [List.getElem?_toArray,List.getElem?_cons_zero] at g3
 go_wp2
 refine bodyPost_ret (v := .tuple #[.agg #[.slice A2 m2 c2], .bool true]) (by simp [results,Tryz.results175,go_sem,g3]) rfl ?_
 have hb:Below w.heap.size w ((w2.alloc (.cells #[.slice A1 m1 c1] 31)).alloc (.cells #[.slice A2 m2 c2] 31)):=(((((zae w _).alloc (by simp) _).alloc (by simp;omega) _).trans (HB2.out.mono (by simp;omega))).alloc (by omega) _).alloc (by simp;omega) _
 exact ⟨_,_,_,rfl,zas.setBox ((HR.out.alloc _).alloc _) (Box.of g1.out),Below.setCell hb (p:=⟨w.heap.size + 1 + 1,0,none⟩) (by show w.heap.size ≤ w.heap.size + 1 + 1;omega) _⟩
end Qt
namespace Gc
structure GS (w wr:World) (A:Option Addr) (m c:Nat) (B:Option Addr) (m' c' x y:Nat):Prop where
  ka:wr.heap[w.heap.size]? = some (.cells #[.slice A m c] 31 (0,0))
  kb:wr.heap[w.heap.size + 1]? = some (.cells #[.slice B m' c'] 31 (0,0))
  kr:wr.heap[w.heap.size + 1 + 1]? = some (.cells #[.slice none 0 0] 31 (0,0))
  x:zas wr (.slice A m c) x
  y:zas wr (.slice B m' c') y
  bel:Below w.heap.size w wr
theorem GS.step {w wr w':World} {A:Option Addr} {m c:Nat} {B:Option Addr} {m' c' x y:Nat} (h:GS w wr A m c B m' c' x y) (hb:Below wr.heap.size wr w'):GS w w' A m c B m' c' x y :=
 ⟨zad hb h.ka,zad hb h.kb,zad hb h.kr,h.x.below hb,h.y.below hb,h.bel.trans (hb.mono h.bel.size)⟩
theorem GS.turn {w wr:World} {A:Option Addr} {m c:Nat} {B:Option Addr} {m' c' x y:Nat} (h:GS w wr A m c B m' c' x y) {C:Option Addr} {m3 c3 z:Nat} (hz:zas wr (.slice C m3 c3) z) :
  GS w ((wr.setCell ⟨w.heap.size,0,none⟩ (.slice B m' c')).setCell ⟨w.heap.size + 1,0,none⟩ (.slice C m3 c3)) B m' c' C m3 c3 y z:=by
 have b1:Box wr w.heap.size:=Box.of h.ka
 have b2:Box (wr.setCell ⟨w.heap.size,0,none⟩ (.slice B m' c')) (w.heap.size + 1):=Box.set (Box.of h.kb)
 have k2:=(Below.heap_setCell wr ⟨w.heap.size,0,none⟩ (.slice B m' c') (w.heap.size + 1) (by simp)).trans h.kb
 refine ⟨?_,one_setCell k2,?_,zas.setBox (zas.setBox h.y b1) b2,zas.setBox (zas.setBox hz b1) b2,Below.setCell (Below.setCell h.bel (p:=⟨w.heap.size,0,none⟩) (Nat.le_refl _) _) (p:=⟨w.heap.size + 1,0,none⟩) (by show w.heap.size ≤ w.heap.size + 1;omega) _⟩
 ·exact (Below.heap_setCell _ ⟨w.heap.size + 1,0,none⟩ _ w.heap.size (by simp)).trans (one_setCell h.ka)
 ·exact (Below.heap_setCell _ ⟨w.heap.size + 1,0,none⟩ _ (w.heap.size + 1 + 1) (by simp)).trans ((Below.heap_setCell _ ⟨w.heap.size,0,none⟩ _ (w.heap.size + 1 + 1) (by simp;omega)).trans h.kr)
theorem of (A B:Option Addr) (m c m' c' a b:Nat) (w:World) (ha:zas w (.slice A m c) a) (hb:zas w (.slice B m' c') b) (hla:wlen a + 1 ≤ LIM) (hlb:wlen b + 1 ≤ LIM) :
  Calls Tryz.prog 153 #[.agg #[.slice A m c], .agg #[.slice B m' c']] w (zc0 w (Nat.gcd a b)):=by
 have HA:=hid ha
 have HB:=hid hb
 have HLA:=hid hla
 have HLB:=hid hlb
 clear ha hb hla hlb
 go_enter Tryz.func153,Tryz.ntmps153
 go_wp2_with fail
 have HS:=hid (show GS w (((w.alloc (.cells #[.slice A m c] 31)).alloc (.cells #[.slice B m' c'] 31)).alloc (.cells #[.slice none 0 0] 31)) A m c B m' c' a b from
  ⟨zak (zak (zam rfl)),zak (zam (by simp)),zam (by simp),((HA.out.alloc _).alloc _).alloc _,((HB.out.alloc _).alloc _).alloc _,((zae w _).alloc (by simp) _).alloc (by simp;omega) _⟩)
 generalize ((w.alloc (.cells #[.slice A m c] 31)).alloc (.cells #[.slice B m' c'] 31)).alloc (.cells #[.slice none 0 0] 31) = w1 at *
 go_loopg [] b (fun gg wr => ∃ (A1:Option Addr) (m1 c1:Nat) (B1:Option Addr) (m2 c2 x y:Nat),GS w wr A1 m1 c1 B1 m2 c2 x y ∧ Nat.gcd x y = Nat.gcd a b ∧ wlen x + 1 ≤ LIM ∧ wlen y + 1 ≤ LIM ∧ y ≤ gg)
 case atStart => exact ⟨A,m,c,B,m',c',a,b,HS.out,rfl,HLA.out,HLB.out,Nat.le_refl _⟩
 case round =>
  obtain ⟨A1,m1,c1,B1,m2,c2,x,y,hG,hgcd,hlx,hly,hyg⟩:=hrel
  have HG:=hid hG
  have HGCD:=hid hgcd
  have HLX:=hid hlx
  have HLY:=hid hly
  have HYG:=hid hyg
  have kb:=zac hG.kb 0
  simp only [List.getElem?_toArray,List.getElem?_cons_zero] at kb
  clear hG hgcd hlx hly hyg
  rcases Nat.eq_zero_or_pos y with hy0 | hy0
  ·have hz:isZ y = true:=by rw [hy0];rfl
   have HY0:=hid hy0
   have HG2:=hid (HG.out.step (zae wr (.cells #[.slice B1 m2 c2] 31)))
   have ka2:=zac HG2.out.ka 0
   have kr2:=zac HG2.out.kr 0
   have kf2:=zag HG2.out.kr 0
   simp only [List.getElem?_toArray,List.getElem?_cons_zero] at ka2 kr2
   clear hy0
   go_wp2_with (go_at_call 111;(with_reducible refine (Nt.zero (.slice B1 m2 c2) y _ HG.out.y).mono ?_);rintro e w2 ⟨rfl,rfl⟩)
   refine bodyPost_ret (v := .agg #[.slice A1 m1 c1]) (by simp [results,Tryz.results153,go_sem,kr2]) rfl ?_
   have hx:=HG2.out.x
   have hg:=HGCD.out
   rw [HY0.out,Nat.gcd_zero_right] at hg
   rw [hg] at hx
   exact ⟨_,_,_,rfl,zas.setBox hx (Box.of HG2.out.kr),Below.setCell HG2.out.bel (p:=⟨w.heap.size + 1 + 1,0,none⟩) (by show w.heap.size ≤ w.heap.size + 1 + 1;omega) _⟩
  ·have hz:isZ y = false:=zk4 hy0
   have HY0:=hid hy0
   have HG2:=hid (HG.out.step (zae wr (.cells #[.slice B1 m2 c2] 31)))
   have ka2:=zac HG2.out.ka 0
   have kb2:=zac HG2.out.kb 0
   simp only [List.getElem?_toArray,List.getElem?_cons_zero] at ka2 kb2
   clear hy0
   go_wp2_with (first
    | (go_at_call 111;(with_reducible refine (Nt.zero (.slice B1 m2 c2) y _ HG.out.y).mono ?_);rintro e w2 ⟨rfl,rfl⟩)
    | (go_at_call 175;(with_reducible refine (Qt.mod A1 B1 m1 c1 m2 c2 x y _ HG2.out.x HG2.out.y HY0.out HLX.out).mono ?_);rintro e w3 ⟨A3,m3,c3,rfl,hr,hb3⟩;have HG3:=hid (HG2.out.step hb3);have HR3:=hid hr;clear hr hb3))
   have HG4:Hid (GS w (w3.alloc (.cells #[.slice A3 m3 c3] 31)).drew A1 m1 c1 B1 m2 c2 x y):=hid (HG3.out.step ((zae w3 _).drew))
   have HR4:Hid (zas (w3.alloc (.cells #[.slice A3 m3 c3] 31)).drew (.slice A3 m3 c3) (x % y)):=hid ((HR3.out.alloc _).drew)
   have kr4:(w3.alloc (.cells #[.slice A3 m3 c3] 31)).drew.cell? ⟨w3.heap.size,0,none⟩ = some (.slice A3 m3 c3):=zax rfl rfl
   have hlt:w.heap.size + 3 ≤ w3.heap.size:=by
    have:=(Array.getElem?_eq_some_iff.1 HG3.out.kr).1
    omega
   have ka4:=zac HG4.out.ka 0
   have kf4:=zag HG4.out.ka 0
   have kb4:=zac HG4.out.kb 0
   have kg4:=zag HG4.out.kb 0
   simp only [List.getElem?_toArray,List.getElem?_cons_zero] at ka4 kb4
   have kr5:((w3.alloc (.cells #[.slice A3 m3 c3] 31)).setCell ⟨w.heap.size,0,none⟩ (.slice B1 m2 c2)).drew.cell? ⟨w3.heap.size,0,none⟩ = some (.slice A3 m3 c3):=zah (by omega) (zax rfl rfl)
   have kb5:(w3.alloc (.cells #[.slice A3 m3 c3] 31)).cell? ⟨w.heap.size + 1,0,none⟩ = some (.slice B1 m2 c2):=kb4
   have kg5:(w3.alloc (.cells #[.slice A3 m3 c3] 31)).frozen? ⟨w.heap.size + 1,0,none⟩ = false:=kg4
   clear ka2 kb2 kb hz
   go_region
   all_goals
    go_wp2
    go_roundg (x % y)
    case measure => have:=Nat.mod_lt x HY0.out;have:=HYG.out;omega
    case rel =>
     refine ⟨B1,m2,c2,A3,m3,c3,y,x % y,HG4.out.turn HR4.out,?_,HLY.out,?_,Nat.le_refl _⟩
     ·rw [← HGCD.out,Nat.gcd_comm y, ← Nat.gcd_rec,Nat.gcd_comm]
     ·have:=zco (Nat.le_of_lt (Nat.mod_lt x HY0.out));have:=HLY.out;omega
end Gc
end Go.Proofs.YtdbgbaiekpbaoaaGreatDoor
