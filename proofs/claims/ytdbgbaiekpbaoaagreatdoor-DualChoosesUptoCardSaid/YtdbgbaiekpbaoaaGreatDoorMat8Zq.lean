/- mat.Turned by its contract. Conditions: as it says. basis.Matrix by its contract. Conditions: as it says. Conditions: as they say. -/
import Derived.Test.YtdbgbaiekpbaoaaGreatDoorMat5Zq
import Derived.Test.YtdbgbaiekpbaoaaGreatDoorBasMemZq
set_option linter.all false
namespace Go.Proofs.YtdbgbaiekpbaoaaGreatDoor
open Go.RowKit Am
open Lib (hid)
attribute [local go_sem ↓] Go.wp_at_zero Go.wp_at_succ
set_option maxHeartbeats 4000000
set_option maxRecDepth 100000
def zn8 (N:Nat) (L:List (List Rat)) (r c:Nat):List (List Rat):=(List.range N).map fun i => mix (zb4 L i) (if i < c then r + 1 else r)
theorem znU (N:Nat) (L:List (List Rat)) (r c:Nat):(zn8 N L r c).length = N:=by simp [zn8]
theorem zA0 {xs:List Rat} {k:Nat} (h:k ≤ xs.length):(mix xs k).length = xs.length:=by unfold mix;simp;omega
theorem zh7 {N:Nat} {L:List (List Rat)} {r c i:Nat} (h:i < N):(zn8 N L r c)[i]? = some (mix (zb4 L i) (if i < c then r + 1 else r)):=by
 unfold zn8;rw [List.getElem?_map,List.getElem?_range h];rfl
theorem zvy (N:Nat) (L:List (List Rat)):zn8 N L 0 0 = noughts N L.length:=by
 unfold zn8 noughts
 apply List.ext_getElem?
 intro i
 rw [List.getElem?_map,List.getElem?_replicate]
 by_cases h:i < N
 ·rw [List.getElem?_range h,if_pos h];simp [zhW,zbH]
 ·rw [List.getElem?_eq_none (by simpa using h),if_neg h];rfl
theorem zvx (N:Nat) (L:List (List Rat)) (r:Nat):zn8 N L r N = zn8 N L (r + 1) 0:=by
 unfold zn8;refine List.map_congr_left fun i hi => ?_
 rw [if_pos (by simpa using hi),if_neg (by omega)]
theorem zxK (N:Nat) (L:List (List Rat)):zn8 N L L.length 0 = zcZ N L:=by
 unfold zn8 zcZ;refine List.map_congr_left fun i _ => ?_
 rw [if_neg (by omega)]
 have:=zlc (zb4 L i);rw [zbH] at this;rw [this];rfl
theorem zxL {N:Nat} {L:List (List Rat)} {r c:Nat} {x:List Rat} {q:Rat} (hc:c < N) (hr:L[r]? = some x) (hq:x[c]? = some q):(zn8 N L r c).set c ((mix (zb4 L c) r).set r q) = zn8 N L r (c + 1):=by
 rw [zhV (zou hr hq)]
 apply List.ext_getElem?
 intro i
 rw [List.getElem?_set]
 by_cases e:c = i
 ·subst e
  rw [if_pos rfl,if_pos (by rw [znU];exact hc),zh7 hc,if_pos (by omega)]
 ·rw [if_neg e]
  by_cases h:i < N
  ·rw [zh7 h,zh7 h]
   by_cases h2:i < c
   ·rw [if_pos h2,if_pos (by omega)]
   ·rw [if_neg h2,if_neg (by omega)]
  ·rw [List.getElem?_eq_none (by rw [znU];omega),List.getElem?_eq_none (by rw [znU];omega)]
namespace Mt
theorem turned (N n cR:Nat) (R:Option Addr) (l0:List Value) (L:List (List Rat)) (H0:Nat) (w:World) (h:VecsL w H0 (.slice R n cR) l0 L) (hL:∀ r ∈ L,r.length = N) (hN:N ≤ 64) (hn:n ≤ 64) :
  Calls Tryz.prog 181 #[.agg #[.slice R n cR, .int .i64 (N:Int)]] w (zx4 w N (zcZ N L) n):=by
 have HN:=hid hn
 have HC:=hid hN
 have HLL:=hid hL
 have HNL:=hid h.nlen
 have hnb:n ≤ 9223372036854775807:=by omega
 have hNb:N ≤ 9223372036854775807:=by omega
 clear hn hN hL
 obtain ⟨W,hW⟩:∃ W,((w.alloc (.cells #[.slice R n cR, .int .i64 (N:Int)] 64)).alloc (.cells #[.slice none 0 0, .int .i64 0] 64)) = W:=⟨_,rfl⟩
 have KB0:=hid (show W.heap[w.heap.size]? = some (.cells #[.slice R n cR, .int .i64 (N:Int)] 64 (0,0)) by rw [← hW];exact zak (zam (by simp)))
 have KB1:=hid (show W.heap[w.heap.size + 1]? = some (.cells #[.slice none 0 0, .int .i64 0] 64 (0,0)) by rw [← hW];exact zam (by simp))
 have BB:=hid (show Below w.heap.size w W by rw [← hW];exact (zae w _).alloc (by simp) _)
 have HZ:=hid (show w.heap.size + 2 ≤ W.heap.size by rw [← hW];simp)
 have HR:=hid (show VecsL W H0 (.slice R n cR) l0 L by rw [← hW];exact ((h).alloc _).alloc _)
 obtain ⟨zaK,zaz,zaL,zaA⟩:=bc2 KB0.out
 obtain ⟨zbr,zbd,zcw,zbF,zbP,zby,zc6,zb5⟩:=bf2 KB1.out
 clear h
 go_enter Tryz.func181,Tryz.ntmps181
 go_wp2_with fail
 clear hW
 with_reducible refine (new N n HC.out HN.out _).mono ?_
 rintro e w1 ⟨A,cA,l1,rfl,hv,ha,hb⟩
 have zaq:=hid (show (w1.alloc (.cells #[.slice A N cA, .int .i64 (n:Int)] 64)).heap[w.heap.size]? = some (.cells #[.slice R n cR, .int .i64 (N:Int)] 64 (0,0)) from zak (zad hb KB0.out))
 have za0:=hid (show (w1.alloc (.cells #[.slice A N cA, .int .i64 (n:Int)] 64)).heap[w.heap.size + 1]? = some (.cells #[.slice none 0 0, .int .i64 0] 64 (0,0)) from zak (zad hb KB1.out))
 have HM:=hid (show VecsL (w1.alloc (.cells #[.slice A N cA, .int .i64 (n:Int)] 64)) W.heap.size (.slice A N cA) l1 (noughts N n) from (hv).alloc _)
 have zcu:=hid (show (w1.alloc (.cells #[.slice A N cA, .int .i64 (n:Int)] 64)).heap[w1.heap.size]? = some (.cells #[.slice A N cA, .int .i64 (n:Int)] 64 (0,0)) from zam (by simp))
 obtain ⟨zaI,zat,zaJ,zau⟩:=bc2 zaq.out
 obtain ⟨zbe,zaW,zcf,zbA,zbs,za9,zcR,zbS⟩:=bf2 za0.out
 obtain ⟨zdT,zcK,zdU,zcL⟩:=bc2 zcu.out
 have HA:=hid ha
 have HBW:=hid hb
 have hzw:W.heap.size ≤ w1.heap.size:=hb.size
 clear hv ha hb
 go_wp2
 go_loopw [19] (fun i wr => ∃ t:Nat,i = .int .i64 t ∧ t ≤ n ∧ wr.heap[w1.heap.size]? = some (.cells #[.slice A N cA, .int .i64 (n:Int)] 64 (0,0)) ∧ VecsL wr W.heap.size (.slice A N cA) l1 (zn8 N L t 0) ∧ Below W.heap.size W wr)
  (fun i _ => n - (intOf i).toNat)
 case atStart => exact ⟨0,rfl,Nat.zero_le _,zal _ _ _,by rw [zvy, ← HNL.out];exact HM.out,HBW.out.alloc hzw _⟩
 case round =>
  obtain ⟨t,rfl,ht,hbox,hv,hB⟩:=hrel
  have hz0:=HZ.out
  by_cases hlt:t < n
  ·obtain ⟨x,hx⟩:∃ x,L[t]? = some x:=⟨L[t]'(by rw [← HNL.out];exact hlt),List.getElem?_eq_getElem _⟩
   have hxl:x.length = N:=HLL.out x (List.mem_of_getElem? hx)
   have HXL:=hid hxl
   obtain ⟨bR,rfl,_,_⟩:=HR.out.has (by omega)
   have HX:=hid hx
   have HV0:=hid hv
   have HB0:=hid hB
   have KX:=hid hbox
   have zaD:=hid (zad hB KB0.out)
   have zbb:=hid (zad hB KB1.out)
   have zvS:=hid (HR.out.below hB)
   have zbj:=hid (BB.out.trans ((hB).mono BB.out.size))
   obtain ⟨zaU,zaE,zaV,zaF⟩:=bc2 zaD.out
   obtain ⟨zbi,zaX,zb2,zbt,zbp,za3,zcg,zbB⟩:=bf2 zbb.out
   clear hbox hv hB hx hxl
   have hi1:(0:Int) ≤ (t:Int):=Int.natCast_nonneg _
   have hi2:(t:Int) < (n:Int):=by omega
   go_wp2
   go_loopw [24] (fun i wr => ∃ c:Nat,i = .int .i64 c ∧ c ≤ N ∧ wr.heap[w1.heap.size]? = some (.cells #[.slice A N cA, .int .i64 (n:Int)] 64 (0,0)) ∧ VecsL wr W.heap.size (.slice A N cA) l1 (zn8 N L t c) ∧ Below W.heap.size W wr)
    (fun i _ => N - (intOf i).toNat)
   case atStart => exact ⟨0,rfl,Nat.zero_le _,KX.out,HV0.out,HB0.out⟩
   case round =>
    rename World => wz
    obtain ⟨c,rfl,hc,hbox,hv,hB⟩:=hrel
    by_cases hct:c < N
    ·obtain ⟨q,hq⟩:∃ q,x[c]? = some q:=⟨x[c]'(by rw [HXL.out];exact hct),List.getElem?_eq_getElem _⟩
     obtain ⟨Ar,cr,_,k0,hVr⟩:=(HR.out.below hB).at_ HX.out
     rw [HXL.out] at k0 hVr
     obtain ⟨br,rfl,_,_⟩:=hVr.has (by omega)
     obtain ⟨ga,Aa,ma,ca,Da,mda,cda,y0,y1,y2,hRa⟩:=hVr.at_ hq
     obtain ⟨bA,rfl,hbA,_⟩:=hv.has (by omega)
     have hml:=zA0 (xs:=zb4 L c) (k:=t) (by rw [zbH, ← HNL.out];omega)
     obtain ⟨Ak,ck,hlk,m0,hVk⟩:=hv.at_ (zh7 (L:=L) (r:=t) (c:=c) hct)
     rw [if_neg (Nat.lt_irrefl c),hml,zbH, ← HNL.out] at hlk m0
     rw [if_neg (Nat.lt_irrefl c),hml,zbH, ← HNL.out] at hVk
     obtain ⟨bk,rfl,hbk,_⟩:=hVk.has (by omega)
     have hmx:(mix (zb4 L c) t)[t]? = some 0:=zld (by rw [zbH, ← HNL.out];exact hlt)
     obtain ⟨go,Ao,mo,co,Do,mdo,cdo,o0,o1,o2,_⟩:=hVk.at_ hmx
     have of0:=hVk.fro (t * 3)
     have of1:=hVk.fro (t * 3 + 1)
     have of2:=hVk.fro (t * 3 + 2)
     have zbo:=hid (zad hB KB0.out)
     have zcE:=hid (zad hB KB1.out)
     have HV:=hid (show VecsL wz W.heap.size (.slice (some ⟨bA,0,none⟩) N cA) l1 (zn8 N L t c) from hv)
     have HW:=hid (show Bel W wz from Bel.mk hB)
     obtain ⟨zcj,zbv,zck,zbw⟩:=bc2 zbo.out
     obtain ⟨zdR,zcH,zdE,zcQ,zdS,zcI,zdF,zcS⟩:=bf2 zcE.out
     have zd6:wz.cell? ⟨bR,t,none⟩ = some (.slice (some ⟨br,0,none⟩) N cr):=k0
     have x0_4d:=zaa zd6
     have zfT:wz.cell? ⟨br,c * 3,none⟩ = some (.bool ga):=y0
     have x1_4d:=zaa zfT
     have zgs:wz.cell? ⟨br,c * 3 + 1,none⟩ = some (.slice Aa ma ca):=y1
     have x2_4d:=zaa zgs
     have zha:wz.cell? ⟨br,c * 3 + 2,none⟩ = some (.slice Da mda cda):=y2
     have x3_4d:=zaa zha
     have zhc:wz.cell? ⟨bA,c,none⟩ = some (.slice (some ⟨bk,0,none⟩) n ck):=m0
     have x4_4d:=zaa zhc
     have KBO:=hid hbox
     obtain ⟨zcj,zbv,zck,zbw⟩:=bc2 zbo.out
     obtain ⟨zdR,zcH,zdE,zcQ,zdS,zcI,zdF,zcS⟩:=bf2 zcE.out
     obtain ⟨zhu,zeG,zgY,zeU,zhv,zeH,zg1,zeX⟩:=bf2 KBO.out
     have zd6:=k0
     have x0_4d:=zaa zd6
     have zfT:=y0
     have x1_4d:=zaa zfT
     have zgs:=y1
     have x2_4d:=zaa zgs
     have zha:=y2
     have x3_4d:=zaa zha
     have zhc:=m0
     have x4_4d:=zaa zhc
     have HST:=hid (zxL hct HX.out hq)
     have HPUT:=hid (hv.drew.put HA.out hlk (by rw [zh7 hct,if_neg (Nat.lt_irrefl c)]) t hRa.drew)
     obtain ⟨csk,hck⟩:∃ cs,wz.heap[bk]? = some (.cells cs 35 (0,0)):=hVk.ratBlk
     have HCK:=hid hck
     clear hbox hv hB hVr hVk hq hRa hmx hlk hck k0 m0 y0 y1 y2 hml
     have hi3:(0:Int) ≤ (c:Int):=Int.natCast_nonneg _
     have hi4:(c:Int) < (N:Int):=by omega
     have dof0:wz.drew.frozen? ⟨bk,t * 3,none⟩ = false:=of0
     have do0:=zaa o0
     have dof1:wz.drew.frozen? ⟨bk,t * 3 + 1,none⟩ = false:=of1
     have do1:=zaa o1
     have dof2:wz.drew.frozen? ⟨bk,t * 3 + 2,none⟩ = false:=of2
     have do2:=zaa o2
     go_wp2_with fail
     refine za2 (S:=fun w' => w'.cell? ⟨w.heap.size,0,none⟩ = some (.slice (some ⟨bR,0,none⟩) n cR) ∧ w'.cell? ⟨w.heap.size,1,none⟩ = some (.int .i64 (N:Int)) ∧ w'.cell? ⟨w1.heap.size,0,none⟩ = some (.slice (some ⟨bA,0,none⟩) N cA) ∧ w'.cell? ⟨w1.heap.size,1,none⟩ = some (.int .i64 (n:Int)) ∧ w'.cell? ⟨bR,t,none⟩ = some (.slice (some ⟨br,0,none⟩) N cr) ∧ w'.cell? ⟨br,c * 3,none⟩ = some (.bool ga) ∧ w'.cell? ⟨br,c * 3 + 1,none⟩ = some (.slice Aa ma ca) ∧ w'.cell? ⟨br,c * 3 + 2,none⟩ = some (.slice Da mda cda) ∧ w'.cell? ⟨bA,c,none⟩ = some (.slice (some ⟨bk,0,none⟩) n ck)) 15 (by kernel_rfl) ?_ (fun hHeld => ?_)
     ·((try go_split_ands);(try simp only [World.cell?_drew]);with_reducible repeat' first | assumption | apply And.intro | refine zah (by omega) ?_ | refine zaf ?_)
     refine zaw [0,1,2,3,4,5,6,7,8,9,10,11,12,13,14] ?_
     repeat (refine tkE (v:=?_) rfl (by kernel_rfl) (fun _ _ _ h => h) (by rfl) ?_ hHeld ?_;rotate_left;(focus ((intro w hSw;(try dsimp only at hSw);go_simp);(try with_reducible rfl)));try simp only [Act.put,pu1,pu2,pu3,pu4,pu5,pu6])
     refine zao ?_
     refine zba rfl (by kernel_rfl) (fun K hK => ?_)
     go_simp
     refine hK.out _ _ ?_
     clear hK K
     try simp only [Act.put,pu1,pu2,pu3,pu4,pu5,pu6]
     refine za1 (by kernel_rfl) ?_ _
     go_wp2
     go_roundw
     case rel => exact ⟨c + 1,by go_num,by omega,((TKeep.set (w:=_) (b:=bk) (o:=t * 3 + 2) (zar _ (zar _ HCK.out)) _).blk ((TKeep.set (w:=_) (b:=bk) (o:=t * 3 + 1) (zar _ HCK.out) _).blk ((TKeep.set (w:=wz) (b:=bk) (o:=t * 3) HCK.out _).blk KBO.out (by decide)) (by decide)) (by decide)),by rw [← HST.out];exact HPUT.out,(Bel.set3 HW.out.drew hbk _ _ _).b⟩
     case measure => simp [intOf];omega
    ·obtain rfl:N = c:=by omega
     have HVx:=hid hv
     have HBx:=hid hB
     have KXx:=hid hbox
     clear hv hB hbox
     go_wp2
     go_roundw
     case rel => exact ⟨t + 1,by go_num,by omega,KXx.out,by rw [← zvx];exact HVx.out,HBx.out⟩
     case measure => simp [intOf];omega
  ·obtain rfl:n = t:=by omega
   have zaD:=hid (zad hB KB0.out)
   have zbb:=hid (zad hB KB1.out)
   have zvS:=hid (HR.out.below hB)
   have HV:=hid (show VecsL wr W.heap.size (.slice A N cA) l1 (zn8 N L n 0) from hv)
   have zbj:=hid (BB.out.trans ((hB).mono BB.out.size))
   obtain ⟨zaU,zaE,zaV,zaF⟩:=bc2 zaD.out
   obtain ⟨zbi,zaX,zb2,zbt,zbp,za3,zcg,zbB⟩:=bf2 zbb.out
   have KBO:=hid hbox
   obtain ⟨zaU,zaE,zaV,zaF⟩:=bc2 zaD.out
   obtain ⟨zbi,zaX,zb2,zbt,zbp,za3,zcg,zbB⟩:=bf2 zbb.out
   obtain ⟨ze6,zdm,ze7,zdn⟩:=bc2 KBO.out
   clear hbox hv hB
   go_wp2
   refine bodyPost_ret (v := .agg #[.slice A N cA, .int .i64 (n:Int)]) (by simp [results,Tryz.results181,go_sem,zbi,zaX,zbp,za3]) rfl ?_
   have h0:=HV.out
   rw [show zn8 N L n 0 = zcZ N L by rw [HNL.out];exact zxK N L] at h0
   have h1:=((h0.base (show w.heap.size ≤ W.heap.size by omega)).tk (TKeep.set (o:=0) zbb.out (.slice A N cA)) (by decide) (by decide) (by decide)).tk (TKeep.set (o:=1) (zar _ zbb.out) (.int .i64 (n:Int))) (by decide) (by decide) (by decide)
   exact ⟨A,cA,l1,rfl,h1,HA.out,Below.setCell (Below.setCell (zbj.out) (p:=⟨w.heap.size + 1,0,none⟩) (by show w.heap.size ≤ w.heap.size + 1;omega) _) (p:=⟨w.heap.size + 1,1,none⟩) (by show w.heap.size ≤ w.heap.size + 1;omega) _⟩
end Mt
namespace Bs
theorem matrix (q n cc:Nat) (cA:Option Addr) (lc:List Value) (C:List (List Rat)) (H:Nat) (w:World) (k0:w.cell? ⟨q,0,none⟩ = some (.slice cA n cc)) (h:VecsL w H (.slice cA n cc) lc C) (hL:∀ r ∈ C,r.length = n) (hn:n ≤ 64) :
  Calls Tryz.prog 168 #[.pointer (some ⟨q,0,none⟩)] w (zx4 w n (zcZ n C) n):=by
 have HN:=hid hn
 have HLL:=hid hL
 have hnb:n ≤ 9223372036854775807:=by omega
 clear hn hL
 obtain ⟨W,hW⟩:∃ W,(w.alloc (.cells #[.slice none 0 0, .int .i64 0] 64)) = W:=⟨_,rfl⟩
 have KB0:=hid (show W.heap[w.heap.size]? = some (.cells #[.slice none 0 0, .int .i64 0] 64 (0,0)) by rw [← hW];exact zam (by simp))
 have BB:=hid (show Below w.heap.size w W by rw [← hW];exact zae w _)
 have HC:=hid (show VecsL W H (.slice cA n cc) lc C by rw [← hW];exact (h).alloc _)
 obtain ⟨zaK,zaz,zdC,zcM,zaL,zaA,zdD,zcO⟩:=bf2 KB0.out
 have x0:W.cell? ⟨q,0,none⟩ = some (.slice cA n cc):=by rw [← hW];exact zaf k0
 have x0d:=zaa x0
 clear k0
 clear h
 go_enter Tryz.func168,Tryz.ntmps168
 go_wp2_with fail
 clear hW
 go_cut [3] (fun s3 wx => ∃ (nb:Nat) (A:Option Addr) (cR:Nat) (l:List Value),s3 = .pointer (some ⟨nb,0,none⟩) ∧ Below W.heap.size W wx ∧ W.heap.size ≤ nb ∧ wx.heap[nb]? = some (.cells #[.slice A n cR, .int .i64 (n:Int)] 64 (0,0)) ∧ VecsL wx W.heap.size (.slice A n cR) l C)
 case first => as_aux_lemma =>
  refine zaS (S:=fun w' => w'.cell? ⟨q,0,none⟩ = some (.slice cA n cc)) [14,15] (by kernel_rfl) ?_ (fun hHeld => ?_)
  ·((try go_split_ands);(try simp only [World.cell?_drew]);with_reducible repeat' first | assumption | apply And.intro | refine zah (by omega) ?_ | refine zaf ?_)
  refine zaw [0,1,2,3,4,5,6,7,8] ?_
  repeat (refine tkL (v:=?_) rfl (by kernel_rfl) (fun _ _ _ h => h) (by rfl) ?_ hHeld ?_;rotate_left;(focus ((intro w hSw;(try dsimp only at hSw);go_simp);(try with_reducible rfl)));try simp only [Act.put,pu1,pu2,pu3,pu4,pu5,pu6])
  refine zao ?_
  refine zme (i:=9) (j:=13) rfl rfl (by kernel_rfl) (fun K hK => ?_) (fun K hK => ?_)
  ·skip
   go_simp
   (go_at_call 72;(with_reducible refine (Mt.of n n HN.out HN.out cA cc lc C H _ (HC.out.drew) HLL.out).mono ?_);rintro e u1 ⟨A1,c1,l1,rfl,hv,_,hb⟩;have HV:=hid (show VecsL u1 W.heap.size (.slice A1 n c1) l1 C from hv);have HBU:=hid (show Below W.heap.size W u1 from It.bdrew0' hb);have m0:=zab hb x0d;clear hb hv)
   (try go_wp2_with fail)
   refine hK.out _ _ ?_ (fun hHeld => ?_)
   ·((try go_split_ands);(try simp only [World.cell?_drew]);with_reducible repeat' first | assumption | apply And.intro | refine zah (by omega) ?_ | refine zaf ?_)
   clear hK K
   try simp only [Act.put,pu1,pu2,pu3,pu4,pu5,pu6]
   refine zaw [10,11,12] ?_
   repeat (refine tkX (v:=?_) rfl (by kernel_rfl) (fun _ _ _ h => h) (by rfl) ?_ ?_;rotate_left;(focus ((intro w hSw;(try dsimp only at hSw);go_simp);(try with_reducible rfl)));try simp only [Act.put,pu1,pu2,pu3,pu4,pu5,pu6])
   refine zao ?_
   refine zaB (i:=13) rfl (by kernel_rfl) (fun K hK => ?_)
   go_simp
   refine hK.out _ _ ?_ (fun hHeld => ?_)
   ·((try go_split_ands);(try simp only [World.cell?_drew]);with_reducible repeat' first | assumption | apply And.intro | refine zah (by omega) ?_ | refine zaf ?_)
   clear hK K
   try simp only [Act.put,pu1,pu2,pu3,pu4,pu5,pu6]
   refine zay (i:=14) rfl (by kernel_rfl) (by kernel_rfl) (fun K hK => ?_)
   go_simp
   refine hK.out _ _ ?_
   clear hK K
   try simp only [Act.put,pu1,pu2,pu3,pu4,pu5,pu6]
   refine zay (i:=15) rfl (by kernel_rfl) (by kernel_rfl) (fun K hK => ?_)
   go_simp
   refine hK.out _ _ ?_
   clear hK K
   try simp only [Act.put,pu1,pu2,pu3,pu4,pu5,pu6]
   refine zaM (by kernel_rfl) ?_ _
   go_wp2
   go_meet
   case rel => exact ⟨_,_,_,_,rfl,HBU.out.alloc HBU.out.size _,HBU.out.size,zal _ _ _,HV.out.alloc _⟩
  ·skip
   go_simp
   refine hK.out _ _ ?_ (fun hHeld => ?_)
   ·((try go_split_ands);(try simp only [World.cell?_drew]);with_reducible repeat' first | assumption | apply And.intro | refine zah (by omega) ?_ | refine zaf ?_)
   clear hK K
   try simp only [Act.put,pu1,pu2,pu3,pu4,pu5,pu6]
   refine zaB (i:=9) rfl (by kernel_rfl) (fun K hK => ?_)
   go_simp
   (go_at_call 72;(with_reducible refine (Mt.of n n HN.out HN.out cA cc lc C H _ (HC.out.alloc _ |>.drew) HLL.out).mono ?_);rintro e u1 ⟨A1,c1,l1,rfl,hv,_,hb⟩;have HV:=hid (show VecsL u1 W.heap.size (.slice A1 n c1) l1 C from hv.base (by simp));have HBU:=hid (show Below W.heap.size W u1 from (zae W _).trans ((It.bdrew0' hb).mono (by simp)));have XB:=hid (zad hb (show (W.alloc (.cells #[.slice none 0 0, .int .i64 0] 64)).drew.heap[W.heap.size]? = _ from zal _ _ _));have m0:=zab hb (show (W.alloc (.cells #[.slice none 0 0, .int .i64 0] 64)).drew.cell? _ = _ from zaf x0);have XBc0:=zac XB.out 0;have XBc1:=zac XB.out 1;have XBf0:=zag XB.out 0;have XBf1:=zag XB.out 1;simp only [List.getElem?_toArray,List.getElem?_cons_zero,List.getElem?_cons_succ] at XBc0 XBc1;clear hb hv)
   (try go_wp2_with fail)
   refine hK.out _ _ ?_ (fun hHeld => ?_)
   ·((try go_split_ands);(try simp only [World.cell?_drew]);with_reducible repeat' first | assumption | apply And.intro | refine zah (by omega) ?_ | refine zaf ?_)
   clear hK K
   try simp only [Act.put,pu1,pu2,pu3,pu4,pu5,pu6]
   refine zaw [10,11,12] ?_
   repeat (refine tkX (v:=?_) rfl (by kernel_rfl) (fun _ _ _ h => h) (by rfl) ?_ ?_;rotate_left;(focus ((intro w hSw;(try dsimp only at hSw);go_simp);(try with_reducible rfl)));try simp only [Act.put,pu1,pu2,pu3,pu4,pu5,pu6])
   refine zao ?_
   refine zay (i:=14) rfl (by kernel_rfl) (by kernel_rfl) (fun K hK => ?_)
   go_simp
   refine hK.out _ _ ?_
   clear hK K
   try simp only [Act.put,pu1,pu2,pu3,pu4,pu5,pu6]
   refine zay (i:=15) rfl (by kernel_rfl) (by kernel_rfl) (fun K hK => ?_)
   go_simp
   refine hK.out _ _ ?_
   clear hK K
   try simp only [Act.put,pu1,pu2,pu3,pu4,pu5,pu6]
   refine zaM (by kernel_rfl) ?_ _
   go_wp2
   go_meet
   case rel => exact ⟨_,_,_,_,rfl,(HBU.out.setCell (p:=⟨W.heap.size,0,none⟩) (Nat.le_refl _) _).setCell (p:=⟨W.heap.size,1,none⟩) (Nat.le_refl _) _,Nat.le_refl _,zar _ (zar _ XB.out),(HV.out.tk (TKeep.set XB.out _) (by decide) (by decide) (by decide)).tk (TKeep.set (zar _ XB.out) _) (by decide) (by decide) (by decide)⟩
 case rest =>
  rename World => wx
  obtain ⟨nb,A,cR,l,rfl,hb,hnb2,hk,hv⟩:=hcut
  have zaq:=hid (zad hb KB0.out)
  have HM:=hid (show VecsL wx W.heap.size (.slice A n cR) l C from hv)
  have zaQ:=hid (BB.out.trans ((hb).mono BB.out.size))
  obtain ⟨zaI,zat,zbM,zbl,zaJ,zau,zbN,zbm⟩:=bf2 zaq.out
  have zbJ:=zab hb x0
  have x0_1d:=zaa zbJ
  have zbY:wx.cell? ⟨nb,0,none⟩ = some (.slice A n cR):=zac hk 0
  have x1_1d:=zaa zbY
  have zcb:wx.cell? ⟨nb,1,none⟩ = some (.int .i64 (n:Int)):=zac hk 1
  have x2_1d:=zaa zcb
  clear hb hk hv hnb2
  go_wp2_with fail
  with_reducible refine (Mt.turned n n cR A l C W.heap.size _ HM.out HLL.out HN.out HN.out).mono ?_
  rintro e w3 ⟨A3,c3,l3,rfl,hv3,ha3,hb⟩
  have zaD:=hid (zad hb zaq.out)
  have HT:=hid (show VecsL w3 wx.heap.size (.slice A3 n c3) l3 (zcZ n C) from hv3)
  have zbj:=hid (zaQ.out.trans ((hb).mono zaQ.out.size))
  obtain ⟨zaU,zaE,zcN,zbQ,zaV,zaF,zcP,zbR⟩:=bf2 zaD.out
  have zcX:=zab hb zbJ
  have x0_2d:=zaa zcX
  have zdq:=zab hb zbY
  have x1_2d:=zaa zdq
  have zej:=zab hb zcb
  have x2_2d:=zaa zej
  have HAL:=hid ha3
  have HZ9:=hid (show w.heap.size ≤ wx.heap.size from zaQ.out.size)
  clear hv3 ha3 hb
  go_wp2
  refine bodyPost_ret (v := .agg #[.slice A3 n c3, .int .i64 (n:Int)]) (by simp [results,Tryz.results168,go_sem,zaU,zaE,zaV,zaF]) rfl ?_
  have h1:=((HT.out.base HZ9.out).tk (TKeep.set (o:=0) zaD.out (.slice A3 n c3)) (by decide) (by decide) (by decide)).tk (TKeep.set (o:=1) (zar _ zaD.out) (.int .i64 (n:Int))) (by decide) (by decide) (by decide)
  exact ⟨A3,c3,l3,rfl,h1,HAL.out,Below.setCell (Below.setCell (zbj.out) (p:=⟨w.heap.size,0,none⟩) (by show w.heap.size ≤ w.heap.size;omega) _) (p:=⟨w.heap.size,1,none⟩) (by show w.heap.size ≤ w.heap.size;omega) _⟩
end Bs
end Go.Proofs.YtdbgbaiekpbaoaaGreatDoor
