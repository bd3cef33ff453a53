/- lu.step by its contract. Conditions: as it says. -/
import Derived.Test.YtdbgbaiekpbaoaaGreatDoorLuMem2Zp
import Derived.Test.YtdbgbaiekpbaoaaGreatDoorVec5Zp
import Derived.Test.YtdbgbaiekpbaoaaGreatDoorRat6Zp
import Derived.Test.YtdbgbaiekpbaoaaGreatDoorLp2Zp
import Derived.BigRegion
set_option linter.all false
namespace Go.Proofs.YtdbgbaiekpbaoaaGreatDoor
open Go.RowKit Am
open Lib (hid)
attribute [local go_sem ↓] Go.wp_at_zero Go.wp_at_succ
set_option maxHeartbeats 8000000
set_option maxRecDepth 100000
def zzc (w:World) (H q n c k:Nat) (F:LUv) (e:Ending) (w':World):Prop :=
  (k < n ∧ e = .returned (.bool true) ∧ LuQ w' H q n (F.step c k) ∧ Below H w w') ∨ (k = n ∧ e = .returned (.bool false) ∧ Below H w w')
def swF (F:LUv) (c k:Nat):LUv:=⟨sw F.lo c k [],sw F.up c k [],sw F.perm c k 0,if c = k then F.odd else !F.odd⟩
theorem zqD {α:Type} {L:List α} {i:Nat} {d:α}:sw L i i d = L:=by
 unfold sw
 apply List.ext_getElem?
 intro j
 rw [List.getElem?_set,List.length_set,List.getElem?_set]
 by_cases e:i = j
 ·subst e
  by_cases h:i < L.length
  ·rw [if_pos rfl,if_pos h, ← zaO h]
  ·rw [if_pos rfl,if_neg h,List.getElem?_eq_none (by omega)]
 ·rw [if_neg e,if_neg e]
theorem zxJ (F:LUv) (c:Nat):swF F c c = F:=by unfold swF;rw [zqD,zqD,zqD,if_pos rfl]
theorem zDP {n:Nat} {F:LUv} (s:Sq n F) {c k:Nat} (hc:c < n) (hk:k < n):Sq n (swF F c k):=by
 refine ⟨by show (sw F.lo c k []).length = n;rw [zja,s.ll],fun i hi => ?_,by show (sw F.up c k []).length = n;rw [zja,s.ul],fun i hi => ?_,by show (sw F.perm c k 0).length = n;rw [zja,s.pl]⟩
 ·show ((sw F.lo c k []).getD i []).length = n
  rw [zgp (by rw [s.ll];exact hc) (by rw [s.ll];exact hk)];exact s.lr _ (zlp hc hk hi)
 ·show ((sw F.up c k []).getD i []).length = n
  rw [zgp (by rw [s.ul];exact hc) (by rw [s.ul];exact hk)];exact s.ur _ (zlp hc hk hi)
theorem zru {up:List (List Rat)} {c k:Nat} (hk:en up k c ≠ 0):∀ (f s:Nat),s ≤ k → k < s + f → (∀ j,s ≤ j → j < k → en up j c = 0) → zeg up c f s = k
 | 0,s,h1,h2,_ => by omega
 | f + 1,s,h1,h2,hz => by
  unfold zeg
  by_cases e:s = k
  ·subst e;rw [if_neg hk]
  ·rw [if_pos (hz s (Nat.le_refl _) (by omega))]
   exact zru hk f (s + 1) (by omega) (by omega) fun j a b => hz j (by omega) b
theorem zl3 {up:List (List Rat)} {c:Nat}:∀ (f s:Nat),(∀ j,s ≤ j → j < s + f → en up j c = 0) → zeg up c f s = s + f
 | 0,_,_ => rfl
 | f + 1,s,hz => by
  unfold zeg
  rw [if_pos (hz s (Nat.le_refl _) (by omega)),zl3 f (s + 1) fun j a b => hz j (by omega) (by omega)]
  omega
theorem bsw {w wx:World} {H b:Nat} (h:Below H w wx) (hb:H ≤ b) (i j:Nat) (x y:Value):Below H w (((wx.setCell ⟨b,i,none⟩ x).setCell ⟨b,j,none⟩ y).drew) :=
 zhk ((h.setCell (p:=⟨b,i,none⟩) hb x).setCell (p:=⟨b,j,none⟩) hb y) 1
theorem zu0 {n T:Nat} {v:List Rat} (hl:v.length = n) (h:∀ i,i < n → mw (el v i) ≤ T):∀ x ∈ v,mw x ≤ T:=fun x hx => by
 obtain ⟨i,hi⟩:=List.mem_iff_getElem?.1 hx
 rw [← znd hi]
 exact h i (by rw [← hl];exact (List.getElem?_eq_some_iff.1 hi).1)
theorem zwi {w:World} {b b7 i j k:Nat} {o:Obj} (h:w.heap[b7]? = some o) (hne:b7 ≠ b) (u v x:Value):(((w.setCell ⟨b,i,none⟩ u).setCell ⟨b,j,none⟩ v).setCell ⟨b,k,none⟩ x).drew.heap[b7]? = some o:=by
 show (((w.setCell ⟨b,i,none⟩ u).setCell ⟨b,j,none⟩ v).setCell ⟨b,k,none⟩ x).heap[b7]? = some o
 rw [Below.heap_setCell _ _ _ _ hne,Below.heap_setCell _ _ _ _ hne,Below.heap_setCell _ _ _ _ hne];exact h
theorem zxz {w:World} {b i j k:Nat} {cs:Array Value} {g:Bool} {s d:Value} {q:Rat} (h:RatS w g s d q) (hb:w.heap[b]? = some (.cells cs 35 (0,0))) (u v x:Value) :
  RatS (((w.setCell ⟨b,i,none⟩ u).setCell ⟨b,j,none⟩ v).setCell ⟨b,k,none⟩ x) g s d q :=
 ((h.tk (TKeep.set (o:=i) hb u) (by decide)).tk (TKeep.set (o:=j) (zar u hb) v) (by decide)).tk (TKeep.set (o:=k) (zar v (zar u hb)) x) (by decide)
theorem zIe (w:World) (b i j k:Nat) (u v x:Value):w.heap.size ≤ (((w.setCell ⟨b,i,none⟩ u).setCell ⟨b,j,none⟩ v).setCell ⟨b,k,none⟩ x).drew.heap.size:=by
 show w.heap.size ≤ (((w.setCell ⟨b,i,none⟩ u).setCell ⟨b,j,none⟩ v).setCell ⟨b,k,none⟩ x).heap.size
 simp
theorem zxN (F:LUv) (c k:Nat):({ swF F c k with lo:=(swF F c k).lo.set c (((swF F c k).lo.getD c []).set c ((1:Int):Rat)) }:LUv) = clr (F.turn c k) c 0:=rfl
theorem zus {n u c k t:Nat} {F G:LUv} {r:Nat} (hs:Sq n F) (hc:c < n) (hk:k < n) (hz:LUsz mw n u F) (hq:en F.up k c ≠ 0) (hG:G = clr (F.turn c k) c t) (hr:r = c + 1 + t) (ht:r < n) :
  ∃ (ru rc rl:List Rat) (x1 x2:Rat),(G.up[r]? = some ru ∧ G.up[c]? = some rc ∧ G.lo[r]? = some rl) ∧ (ru.length = n ∧ rc.length = n ∧ rl.length = n) ∧ (ru[c]? = some x1 ∧ rc[c]? = some x2) ∧ ((∀ q ∈ ru,mw q ≤ u) ∧ (∀ q ∈ rc,mw q ≤ u) ∧ mw x1 ≤ u ∧ mw x2 ≤ u) ∧ x2 ≠ 0 ∧ G.up.length = n ∧
   ({ G with lo:=G.lo.set r (rl.set c (x1 / x2)),up:=G.up.set r (zly ru (-(x1 / x2)) rc) }:LUv) = clr (F.turn c k) c (t + 1):=by
 subst hG hr
 have hST:=znV hs hc hk
 have hsq:=zC8 hST hc t (by omega)
 have hlow:=zz5 hST hc t ht
 have hz1:∀ j,j < n → mw (en (clr (F.turn c k) c t).up (c + 1 + t) j) ≤ u:=fun j hj => by rw [hlow.1 j hj,zlo hs hc hk];exact hz.up _ (zlp hc hk ht) j hj
 have hz2:∀ j,j < n → mw (en (clr (F.turn c k) c t).up c j) ≤ u:=fun j hj => by rw [hlow.2 j hj,zlo hs hc hk];exact hz.up _ (zlp hc hk hc) j hj
 have hpv:en (clr (F.turn c k) c t).up c c ≠ 0:=by
  rw [hlow.2 c hc,zlo hs hc hk];unfold tw
  by_cases e:c = k
  ·rw [if_pos e];rw [e];rw [e] at hq;exact hq
  ·rw [if_neg e,if_pos rfl];exact hq
 have l1:=hsq.ur _ ht
 have l2:=hsq.ur _ hc
 have g1:((clr (F.turn c k) c t).up.getD (c + 1 + t) [])[c]? = some (en (clr (F.turn c k) c t).up (c + 1 + t) c):=zaH (by rw [l1];exact hc)
 have g2:((clr (F.turn c k) c t).up.getD c [])[c]? = some (en (clr (F.turn c k) c t).up c c):=zaH (by rw [l2];exact hc)
 exact ⟨_,_,_,_,_,⟨zaO (by rw [hsq.ul];exact ht),zaO (by rw [hsq.ul];exact hc),zaO (by rw [hsq.ll];exact ht)⟩,⟨l1,l2,hsq.lr _ ht⟩,⟨g1,g2⟩,⟨zu0 l1 hz1,zu0 l2 hz2,hz1 c hc,hz2 c hc⟩,hpv,hsq.ul,(zwC _ _ _).symm⟩
structure Bel0 (H:Nat) (w w':World):Prop where
  le:H ≤ w.heap.size
  b:Below H w w'
namespace Bel0
variable {w w' w1:World} {H:Nat}
theorem below (h:Bel0 H w w1) (hb:Below w1.heap.size w1 w'):Bel0 H w w':=⟨h.le,h.b.trans (hb.mono (Nat.le_trans h.le h.b.size))⟩
theorem alloc (h:Bel0 H w w1) (o:Obj):Bel0 H w (w1.alloc o):=h.below (zae _ o)
theorem drew (h:Bel0 H w w1):Bel0 H w w1.drew:=h.below (zap _ 1)
theorem set (h:Bel0 H w w1) {b o:Nat} (hb:H ≤ b) (u:Value):Bel0 H w (w1.setCell ⟨b,o,none⟩ u):=⟨h.le,h.b.setCell (p:=⟨b,o,none⟩) hb u⟩
theorem set3 (h:Bel0 H w w1) {b i j k:Nat} (hb:H ≤ b) (u v x:Value):Bel0 H w (((w1.setCell ⟨b,i,none⟩ u).setCell ⟨b,j,none⟩ v).setCell ⟨b,k,none⟩ x):=((h.set hb u).set hb v).set hb x
end Bel0
namespace Lu
theorem step (H q n u c:Nat) (F:LUv) (w:World) (hF:LuQ w H q n F) (hs:Sq n F) (hn:n ≤ 64) (hc:c < n) (hz:LUsz mw n u F) (hu:1 ≤ u) (hL:24 * u + 8 ≤ LIM) :
  Calls Tryz.prog 180 #[.pointer (some ⟨q,0,none⟩), .int .i64 (c:Int)] w (zzc w H q n c (zeg F.up c (n - c) c) F):=by
 obtain ⟨lb,lc,ll,ub,uc,ul,pb,pc,hP⟩:=hF
 have HSQ:=hid hs
 have HN:=hid hn
 have HCN:=hid hc
 have HLIM:=hid hL
 have HSZ:=hid hz
 have HH:=hid (show H ≤ w.heap.size from Nat.le_trans hP.own (Nat.le_of_lt hP.qlt))
 have hnb:n ≤ 9223372036854775807:=by omega
 have hi1:(0:Int) ≤ (c:Int):=Int.natCast_nonneg _
 have hi2:(c:Int) < (n:Int):=by omega
 have HP:=hid hP
 obtain ⟨k0,k0d,_,_,k1,k1d,_,_,k2,k2d,_⟩:=bf4 hP.blk
 clear hP hs hn hc hz hu hL
 go_enter Tryz.func180,Tryz.ntmps180
 go_wp2
 have BB:=hid (Below.refl w.heap.size w)
 go_loopw [5] (fun i wr => ∃ k:Nat,i = .int .i64 k ∧ c ≤ k ∧ k ≤ n ∧ Below w.heap.size w wr ∧ ∀ j,c ≤ j → j < k → en F.up j c = 0)
  (fun i _ => n - (intOf i).toNat)
 case atStart => exact ⟨c,rfl,Nat.le_refl _,Nat.le_of_lt HCN.out,Below.refl _ _,fun j h1 h2 => absurd h1 (by omega)⟩
 case round =>
  obtain ⟨k,rfl,hck,hk,hB,hT⟩:=hrel
  have HT:=hid hT
  clear hT
  by_cases hlt:k < n
  ·have hrk:F.up[k]? = some (F.up.getD k []):=zaO (by rw [HSQ.out.ul];exact hlt)
   have hrl:=HSQ.out.ur k hlt
   have hen:en F.up k c = el (F.up.getD k []) c:=rfl
   generalize F.up.getD k [] = rw_ at hrk hrl hen
   have hcl:=zaH (xs:=rw_) (j:=c) (by omega)
   rw [← hen] at hcl
   obtain ⟨Ak,ck,huk,r0,hVr⟩:=(HP.out.up.below hB).at_ hrk
   rw [hrl] at r0 hVr huk
   obtain ⟨br,rfl,_,_⟩:=hVr.has (by omega)
   obtain ⟨gl,Al,ml,cl,Dl,mdl,cdl,y0,y1,y2,hRl⟩:=hVr.at_ hcl
   have zjH:=hid (HP.out.below hB)
   have HQ:=hid (show RatS wr gl (.slice Al ml cl) (.slice Dl mdl cdl) (en F.up k c) from hRl)
   have zaQ:=hid (BB.out.trans ((hB).mono BB.out.size))
   have zbJ:=zab hB k0
   have x0_1d:=zaa zbJ
   have zbY:=zab hB k1
   have x1_1d:=zaa zbY
   have zcb:=zab hB k2
   have x2_1d:=zaa zcb
   have zfb:wr.cell? ⟨ub,k,none⟩ = some (.slice (some ⟨br,0,none⟩) n ck):=r0
   have x4_1d:=zaa zfb
   have zfc:wr.cell? ⟨br,c * 3,none⟩ = some (.bool gl):=y0
   have zhe:wr.cell? ⟨br,c * 3 + 1,none⟩ = some (.slice Al ml cl):=y1
   have zlv:wr.cell? ⟨br,c * 3 + 2,none⟩ = some (.slice Dl mdl cdl):=y2
   have HUK:=hid huk
   have HRK:=hid hrk
   clear hB hrk hrl hen hcl hVr hRl huk r0 y0 y1 y2
   have hi3:(0:Int) ≤ (k:Int):=Int.natCast_nonneg _
   have hi4:(k:Int) < (n:Int):=by omega
   go_wp2_with fail
   with_reducible refine (Rt.zero gl Al ml cl Dl mdl cdl (en F.up k c) _ HQ.out).mono ?_
   rintro e w1 ⟨rfl,hb⟩
   have zjI:=hid (zjH.out.below hb)
   have zbj:=hid (zaQ.out.trans ((hb).mono zaQ.out.size))
   have zcX:=zab hb zbJ
   have x0_2d:=zaa zcX
   have zdq:=zab hb zbY
   have x1_2d:=zaa zdq
   have zej:=zab hb zcb
   have x2_2d:=zaa zej
   have zgt:=zab hb zfb
   have x4_2d:=zaa zgt
   clear hb
   by_cases hq0:en F.up k c = 0
   ·have hz:zr (en F.up k c) = true:=decide_eq_true hq0
    have HF:=hid (show ∀ j,c ≤ j → j < k + 1 → en F.up j c = 0 from fun j h1 h2 => by
     by_cases e:j = k
     ·rw [e];exact hq0
     ·exact HT.out j h1 (by omega))
    clear hq0
    go_wp2
    go_roundw
    case rel => exact ⟨k + 1,by go_num,by omega,by omega,zbj.out,HF.out⟩
    case measure => simp [intOf];omega
   ·have hz:zr (en F.up k c) = false:=decide_eq_false hq0
    have HF:=hid (zru hq0 (n - c) c hck (by omega) fun j h1 h2 => HT.out j h1 h2)
    have HQ0:=hid hq0
    clear hq0
    go_upto_if 41 with fail
    go_cut [] (fun wy => ∃ ll1 ul1,LuP wy H q n lb lc ll1 ub uc ul1 pb pc (swF F c k) ∧ Below H w wy)
    case first => as_aux_lemma =>
     by_cases hkc:k = c
     ·obtain rfl:c = k:=hkc.symm
      go_wp2
      go_meet
      case rel => exact ⟨ll,ul,by rw [zxJ];exact zjI.out,zbj.out.mono HH.out⟩
     ·have hkc':(c:Int) < (k:Int):=by omega
      have HKC:=hid hkc
      clear hkc
      have hUc:F.up[c]? = some (F.up.getD c []):=zaO (by rw [HSQ.out.ul];omega)
      have hLc:F.lo[c]? = some (F.lo.getD c []):=zaO (by rw [HSQ.out.ll];omega)
      have hLk:F.lo[k]? = some (F.lo.getD k []):=zaO (by rw [HSQ.out.ll];omega)
      have hPc:F.perm[c]? = some (F.perm.getD c 0):=zaO (by rw [HSQ.out.pl];omega)
      have hPk:F.perm[k]? = some (F.perm.getD k 0):=zaO (by rw [HSQ.out.pl];omega)
      generalize F.up.getD c [] = rUc at hUc
      generalize F.lo.getD c [] = rLc at hLc
      generalize F.lo.getD k [] = rLk at hLk
      generalize F.perm.getD c 0 = xPc at hPc
      generalize F.perm.getD k 0 = xPk at hPk
      have GUC:=hid hUc
      have GLC:=hid hLc
      have GLK:=hid hLk
      have GPC:=hid hPc
      have GPK:=hid hPk
      clear hUc hLc hLk hPc hPk
      have HUB:=hid (zjI.out.ubge (by omega))
      have HLB:=hid (zjI.out.lbge (by omega))
      have HPB:=hid (zjI.out.pbge (by omega))
      obtain ⟨aA,ac,al,a0,_⟩:=zjI.out.up.at_ GUC.out
      have a0d:=zaa a0
      have af:=zjI.out.up.fro c
      obtain ⟨bA,bc,bl,b0,_⟩:=zjI.out.up.at_ HRK.out
      have bf:=zjI.out.up.fro k
      have HA:=hid (And.intro al bl)
      clear al bl
      go_wp2
      go_cut [] (fun wy => ∃ ul1,LuP wy H q n lb lc ll ub uc ul1 pb pc { F with up:=sw F.up c k [] } ∧ Below H w wy)
      case first => as_aux_lemma =>
       refine zaS (S:=fun w' => w'.cell? ⟨q,1,none⟩ = some (.slice (some ⟨ub,0,none⟩) n uc) ∧ w'.cell? ⟨ub,c,none⟩ = some (.slice aA rUc.length ac) ∧ w'.cell? ⟨ub,k,none⟩ = some (.slice bA rw_.length bc)) [25,26,27] (h:=fun hHeld => ?_)
       refine zaw [0,1,2,3,4] ?_
       repeat refine tkL (hS:=hHeld) (h:=?_)
       refine zao ?_
       refine zaw [5,6,7] ?_
       repeat refine tkX (h:=?_)
       refine zao ?_
       refine zaw [8] ?_
       repeat refine tkL (hS:=hHeld) (h:=?_)
       refine zao ?_
       refine zaw [9] ?_
       repeat refine tkX (h:=?_)
       refine zao ?_
       refine zaw [10,11,12,13,14,15,16] ?_
       repeat refine tkL (hS:=hHeld) (h:=?_)
       refine zao ?_
       refine zaw [17,18,19] ?_
       repeat refine tkX (h:=?_)
       refine zao ?_
       refine zaw [20] ?_
       repeat refine tkL (hS:=hHeld) (h:=?_)
       refine zao ?_
       refine zaw [21,22] ?_
       repeat refine tkX (h:=?_)
       refine zao ?_
       refine zaw [23,24] ?_
       repeat refine tkL (hS:=hHeld) (h:=?_)
       refine zao ?_
       refine zay 25 (h:=fun K hK => ?_)
       go_simp
       refine hK.out _ _ ?_
       clear hK K
       try simp only [Act.put,pu1,pu2,pu3,pu4,pu5,pu6]
       refine zay 26 (h:=fun K hK => ?_)
       go_simp
       refine hK.out _ _ ?_
       clear hK K
       try simp only [Act.put,pu1,pu2,pu3,pu4,pu5,pu6]
       refine zay 27 (h:=fun K hK => ?_)
       go_simp
       refine hK.out _ _ ?_
       clear hK K
       try simp only [Act.put,pu1,pu2,pu3,pu4,pu5,pu6]
       refine zaM (h:=?_)
       go_wp2
       go_meet
       case rel => exact ⟨_,(zjI.out.swU HA.out.1 HA.out.2 GUC.out HRK.out).drew,bsw (zbj.out.mono HH.out) HUB.out.1 _ _ _ _⟩
      case rest =>
       rename World => wa
       obtain ⟨ul1,hp,hb⟩:=hcut
       have HPa:=hid hp
       have BBa:=hid hb
       obtain ⟨ka0,_⟩:=bf4 HPa.out.blk
       obtain ⟨dA,dc,dl,d0,dV⟩:=HPa.out.lo.at_ GLC.out
       have d0d:=zaa d0
       have df:=HPa.out.lo.fro c
       obtain ⟨eA,ec,el,e0,_⟩:=HPa.out.lo.at_ GLK.out
       have e0d:=zaa e0
       have ef:=HPa.out.lo.fro k
       have HD:=hid (And.intro dl el)
       clear dl el dV hp hb
       go_wp2
       go_cut [] (fun wy => ∃ ll1,LuP wy H q n lb lc ll1 ub uc ul1 pb pc { F with up:=sw F.up c k [],lo:=sw F.lo c k [] } ∧ Below H w wy)
       case first => as_aux_lemma =>
        refine zaS (S:=fun w' => w'.cell? ⟨q,0,none⟩ = some (.slice (some ⟨lb,0,none⟩) n lc) ∧ w'.cell? ⟨lb,c,none⟩ = some (.slice dA rLc.length dc) ∧ w'.cell? ⟨lb,k,none⟩ = some (.slice eA rLk.length ec)) [25,26,27] (h:=fun hHeld => ?_)
        refine zaw [0,1,2,3,4] ?_
        repeat refine tkL (hS:=hHeld) (h:=?_)
        refine zao ?_
        refine zaw [5,6,7] ?_
        repeat refine tkX (h:=?_)
        refine zao ?_
        refine zaw [8] ?_
        repeat refine tkL (hS:=hHeld) (h:=?_)
        refine zao ?_
        refine zaw [9] ?_
        repeat refine tkX (h:=?_)
        refine zao ?_
        refine zaw [10,11,12,13,14,15,16] ?_
        repeat refine tkL (hS:=hHeld) (h:=?_)
        refine zao ?_
        refine zaw [17,18,19] ?_
        repeat refine tkX (h:=?_)
        refine zao ?_
        refine zaw [20] ?_
        repeat refine tkL (hS:=hHeld) (h:=?_)
        refine zao ?_
        refine zaw [21,22] ?_
        repeat refine tkX (h:=?_)
        refine zao ?_
        refine zaw [23,24] ?_
        repeat refine tkL (hS:=hHeld) (h:=?_)
        refine zao ?_
        refine zay 25 (h:=fun K hK => ?_)
        go_simp
        refine hK.out _ _ ?_
        clear hK K
        try simp only [Act.put,pu1,pu2,pu3,pu4,pu5,pu6]
        refine zay 26 (h:=fun K hK => ?_)
        go_simp
        refine hK.out _ _ ?_
        clear hK K
        try simp only [Act.put,pu1,pu2,pu3,pu4,pu5,pu6]
        refine zay 27 (h:=fun K hK => ?_)
        go_simp
        refine hK.out _ _ ?_
        clear hK K
        try simp only [Act.put,pu1,pu2,pu3,pu4,pu5,pu6]
        refine zaM (h:=?_)
        go_wp2
        go_meet
        case rel => exact ⟨_,(HPa.out.swL HD.out.1 HD.out.2 GLC.out GLK.out).drew,bsw BBa.out HLB.out.1 _ _ _ _⟩
       case rest =>
        rename World => wb
        obtain ⟨ll1,hp,hb⟩:=hcut
        have HPb:=hid hp
        have BBb:=hid hb
        clear hp hb
        obtain ⟨_,_,_,_,_,_,_,_,kb2,_⟩:=bf4 HPb.out.blk
        have p0:=HPb.out.perm.at_ GPC.out
        have p0d:=zaa p0
        have p0f:=HPb.out.perm.fro c
        have p1:=HPb.out.perm.at_ GPK.out
        have p1f:=HPb.out.perm.fro k
        go_wp2
        go_cut [] (fun wy => LuP wy H q n lb lc ll1 ub uc ul1 pb pc { F with up:=sw F.up c k [],lo:=sw F.lo c k [],perm:=sw F.perm c k 0 } ∧ Below H w wy)
        case first => as_aux_lemma =>
         refine zaS (S:=fun w' => w'.cell? ⟨q,2,none⟩ = some (.slice (some ⟨pb,0,none⟩) n pc) ∧ w'.cell? ⟨pb,c,none⟩ = some (.int .i64 (xPc:Int)) ∧ w'.cell? ⟨pb,k,none⟩ = some (.int .i64 (xPk:Int))) [25,26,27] (h:=fun hHeld => ?_)
         refine zaw [0,1,2,3,4] ?_
         repeat refine tkL (hS:=hHeld) (h:=?_)
         refine zao ?_
         refine zaw [5,6,7] ?_
         repeat refine tkX (h:=?_)
         refine zao ?_
         refine zaw [8] ?_
         repeat refine tkL (hS:=hHeld) (h:=?_)
         refine zao ?_
         refine zaw [9] ?_
         repeat refine tkX (h:=?_)
         refine zao ?_
         refine zaw [10,11,12,13,14,15,16] ?_
         repeat refine tkL (hS:=hHeld) (h:=?_)
         refine zao ?_
         refine zaw [17,18,19] ?_
         repeat refine tkX (h:=?_)
         refine zao ?_
         refine zaw [20] ?_
         repeat refine tkL (hS:=hHeld) (h:=?_)
         refine zao ?_
         refine zaw [21,22] ?_
         repeat refine tkX (h:=?_)
         refine zao ?_
         refine zaw [23,24] ?_
         repeat refine tkL (hS:=hHeld) (h:=?_)
         refine zao ?_
         refine zay 25 (h:=fun K hK => ?_)
         go_simp
         refine hK.out _ _ ?_
         clear hK K
         try simp only [Act.put,pu1,pu2,pu3,pu4,pu5,pu6]
         refine zay 26 (h:=fun K hK => ?_)
         go_simp
         refine hK.out _ _ ?_
         clear hK K
         try simp only [Act.put,pu1,pu2,pu3,pu4,pu5,pu6]
         refine zay 27 (h:=fun K hK => ?_)
         go_simp
         refine hK.out _ _ ?_
         clear hK K
         try simp only [Act.put,pu1,pu2,pu3,pu4,pu5,pu6]
         refine zaM (h:=?_)
         go_wp2
         go_meet
         case rel => exact ⟨(HPb.out.swP GPC.out GPK.out).drew,bsw BBb.out HPB.out.1 _ _ _ _⟩
        case rest =>
         rename World => wd_
         obtain ⟨hp,hb⟩:=hcut
         have HPd:=hid hp
         have BBd:=hid hb
         clear hp hb
         obtain ⟨_,_,_,_,_,_,_,_,_,_,_,_,kd3,_,kdf3,_⟩:=bf4 HPd.out.blk
         go_wp2
         go_meet
         case rel => exact ⟨ll1,ul1,by unfold swF;rw [if_neg (fun e => HKC.out e.symm)];exact HPd.out.setO _,BBd.out.setCell (p:=⟨q,3,none⟩) HPd.out.own _⟩
    case rest =>
     rename World => wa
     obtain ⟨ll1,ul1,hp,hb⟩:=hcut
     have HPs:=hid hp
     have BBs:=hid (Bel0.mk (HH.out) hb)
     clear hp hb
     have HSS:=hid (zDP HSQ.out HCN.out hlt)
     have hLc:(swF F c k).lo[c]? = some ((swF F c k).lo.getD c []):=zaO (by rw [HSS.out.ll];omega)
     have hLl:=HSS.out.lr c (by omega)
     generalize hge:(swF F c k).lo.getD c [] = rLc at hLc hLl
     have HGE:=hid hge
     have GLC:=hid hLc
     obtain ⟨dA,dc,dl,d0,dV⟩:=HPs.out.lo.at_ hLc
     rw [hLl] at dl d0 dV
     obtain ⟨bd,rfl,hbd0,hbd1⟩:=dV.has (by omega)
     have hcl:=zaH (xs:=rLc) (j:=c) (by omega)
     obtain ⟨gd,Ad,md,cd_,Dd,mdd,cdd,e0,e1,e2,_⟩:=dV.at_ hcl
     have HDL:=hid dl
     have HDV:=hid dV
     obtain ⟨k0',_,_,_,k1',_⟩:=bf4 HPs.out.blk
     clear hLc hLl hge dl dV hcl
     have k0'd:=zaa k0'
     have k1'd:=zaa k1'
     have d0d:=zaa d0
     have e0d:=zaa e0
     have e1d:=zaa e1
     have e2d:=zaa e2
     go_wp2_with fail
     refine za2 (S:=fun w' => w'.cell? ⟨q,0,none⟩ = some (.slice (some ⟨lb,0,none⟩) n lc) ∧ w'.cell? ⟨q,1,none⟩ = some (.slice (some ⟨ub,0,none⟩) n uc) ∧ w'.cell? ⟨lb,c,none⟩ = some (.slice (some ⟨bd,0,none⟩) n dc) ∧ w'.cell? ⟨bd,c * 3,none⟩ = some (.bool gd) ∧ w'.cell? ⟨bd,c * 3 + 1,none⟩ = some (.slice Ad md cd_) ∧ w'.cell? ⟨bd,c * 3 + 2,none⟩ = some (.slice Dd mdd cdd)) 10 (h:=fun hHeld => ?_)
     refine zaw [0,1,2,3,4,5,6,7] ?_
     repeat refine tkE (hS:=hHeld) (h:=?_)
     refine zao ?_
     refine zaN 8 (h:=fun K hK => ?_)
     go_simp
     (go_at_call 43;(with_reducible refine (Rt.int 1 (by decide) (by decide) _).mono ?_);rintro e u1 ⟨g1,A1,m1,c1,D1,md1,cd1,rfl,hn,hb⟩;have zF9:=hid (HPs.out.drew.below hb);have zy6:=hid (HDV.out.drew.below hb);have zGx:=hid (BBs.out.drew.below hb);have HI:=hid (show RatS u1 g1 (.slice A1 m1 c1) (.slice D1 md1 cd1) ((1:Int):Rat) from hn);have zIk:=zab hb k0'd;have x0_21d:=zaa zIk;have zIp:=zab hb k1'd;have x1_21d:=zaa zIp;have zIu:=zab hb d0d;have x2_21d:=zaa zIu;have zIz:=zab hb e0d;have zIE:=zab hb e1d;have zIJ:=zab hb e2d;have of0:=zy6.out.fro (c * 3);have of1:=zy6.out.fro (c * 3 + 1);have of2:=zy6.out.fro (c * 3 + 2);clear hn hb)
     (try go_wp2_with fail)
     refine hK.out _ _ kp fun hHeld => ?_
     clear hK K
     try simp only [Act.put,pu1,pu2,pu3,pu4,pu5,pu6]
     refine zaw [9] ?_
     repeat refine tkE (hS:=hHeld) (h:=?_)
     refine zao ?_
     refine zba (h:=fun K hK => ?_)
     go_simp
     refine hK.out _ _ ?_
     clear hK K
     try simp only [Act.put,pu1,pu2,pu3,pu4,pu5,pu6]
     refine za1 (h:=?_)
     go_wp2
     go_loopw [6] (fun rv wr => ∃ (r t:Nat) (G:LUv) (ll' ul':List Value),rv = .int .i64 (r:Int) ∧ r = c + 1 + t ∧ G = clr (F.turn c k) c t ∧ r ≤ n ∧ LuP wr H q n lb lc ll' ub uc ul' pb pc G ∧ Bel0 H w wr)
      (fun rv _ => n - (intOf rv).toNat)
     case atStart => exact ⟨c + 1,0,_,ll1,ul1,by go_num,rfl,rfl,by omega,by have hh:=zF9.out.putL HDL.out GLC.out c HI.out;rw [← HGE.out,zxN] at hh;exact hh,zGx.out.set3 hbd0 _ _ _⟩
     case round =>
      rename World => wz
      obtain ⟨r,t,G,ll',ul',rfl,hr,hG,ht,hp,hb⟩:=hrel
      by_cases hlt2:r < n
      ·obtain ⟨ru,rc,rl,x1,x2,⟨hru,hrc,hrl⟩,⟨hrul,hrcl,hrll⟩,⟨hq1,hq2⟩,⟨hz1,hz2,hza,hzb⟩,hpv,hgl,hnx⟩:=zus HSQ.out HCN.out hlt HSZ.out HQ0.out hG hr hlt2
       have HR:=hid hr
       have HNX2:=hid hnx
       have HPV2:=hid hpv
       have HGL:=hid hgl
       have HZ1:=hid hz1
       have HZ2:=hid hz2
       have HLR:=hid (show ru.length = rc.length by omega)
       have HLR3:=hid hrul
       have hcr:c < r:=by omega
       have HGR:=hid hrl
       have HGU:=hid hru
       have HGC:=hid hrc
       obtain ⟨uA,uc1,ul_,u0,uV⟩:=hp.up.at_ hru
       obtain ⟨vA,vc1,vl_,v0,vV⟩:=hp.up.at_ hrc
       obtain ⟨wA,wc1,wl_,w0,wV⟩:=hp.lo.at_ hrl
       rw [hrul] at u0 uV ul_;rw [hrcl] at v0 vV;rw [hrll] at w0 wV wl_
       obtain ⟨bu,rfl,hbu0,hbu1⟩:=uV.has (by omega)
       obtain ⟨bv,rfl,hbv0,hbv1⟩:=vV.has (by omega)
       obtain ⟨bw,rfl,hbw0,hbw1⟩:=wV.has (by omega)
       obtain ⟨ga,Aa,ma,ca,Da,mda,cda,y0,y1,y2,hRa⟩:=uV.at_ hq1
       obtain ⟨gb,Ab,mb,cb,Db,mdb,cdb,z0,z1,z2,hRb⟩:=vV.at_ hq2
       have hq3:=zaH (xs:=rl) (j:=c) (by omega)
       obtain ⟨gc,Ac,mc,cc,Dc,mdc,cdc,t0,t1,t2,_⟩:=wV.at_ hq3
       have HWL:=hid wl_
       have HUL:=hid ul_
       obtain ⟨k0'',_,_,_,k1'',_⟩:=bf4 hp.blk
       have HPz:=hid hp
       have HWz:=hid hb
       have HRa:=hid hRa
       have HRb:=hid hRb
       have HUV:=hid uV
       have HVV:=hid vV
       have HWV:=hid wV
       have L1:=hid (show 4 * (mw x1 + mw x2) + 8 ≤ LIM by have:=HLIM.out;omega)
       have HX:=hid (show mw (x1 / x2) ≤ 2 * u by have:=zo5.div x1 x2;omega)
       clear hz1 hz2 hza hzb hru hrc hrl hrul hrcl hrll hq1 hq2 hq3 ul_ vl_ wl_ hRa hRb uV vV wV hp hb hr hG hgl hnx hpv ht
       have k0''d:=zaa k0''
       have k1''d:=zaa k1''
       have u0d:=zaa u0
       have v0d:=zaa v0
       have w0d:=zaa w0
       have y0d:=zaa y0
       have y1d:=zaa y1
       have y2d:=zaa y2
       have z0d:=zaa z0
       have z1d:=zaa z1
       have z2d:=zaa z2
       have t0d:=zaa t0
       have t1d:=zaa t1
       have t2d:=zaa t2
       have hj1:(0:Int) ≤ (r:Int):=Int.natCast_nonneg _
       have hj2:(r:Int) < (n:Int):=by omega
       go_wp2_with fail
       go_cut [7] (fun s7 wx => zcD wz s7 wx (x1 / x2))
       case first => as_aux_lemma =>
        refine zaS (S:=fun w' => w'.cell? ⟨q,0,none⟩ = some (.slice (some ⟨lb,0,none⟩) n lc) ∧ w'.cell? ⟨q,1,none⟩ = some (.slice (some ⟨ub,0,none⟩) n uc) ∧ w'.cell? ⟨ub,r,none⟩ = some (.slice (some ⟨bu,0,none⟩) n uc1) ∧ w'.cell? ⟨ub,c,none⟩ = some (.slice (some ⟨bv,0,none⟩) n vc1) ∧ w'.cell? ⟨lb,r,none⟩ = some (.slice (some ⟨bw,0,none⟩) n wc1) ∧ w'.cell? ⟨bu,c * 3,none⟩ = some (.bool ga) ∧ w'.cell? ⟨bu,c * 3 + 1,none⟩ = some (.slice Aa ma ca) ∧ w'.cell? ⟨bu,c * 3 + 2,none⟩ = some (.slice Da mda cda) ∧ w'.cell? ⟨bv,c * 3,none⟩ = some (.bool gb) ∧ w'.cell? ⟨bv,c * 3 + 1,none⟩ = some (.slice Ab mb cb) ∧ w'.cell? ⟨bv,c * 3 + 2,none⟩ = some (.slice Db mdb cdb) ∧ w'.cell? ⟨bw,c * 3,none⟩ = some (.bool gc) ∧ w'.cell? ⟨bw,c * 3 + 1,none⟩ = some (.slice Ac mc cc) ∧ w'.cell? ⟨bw,c * 3 + 2,none⟩ = some (.slice Dc mdc cdc)) [25,26] (h:=fun hHeld => ?_)
        refine zaw [0,1,2,3,4,5,6,7,8,9,10,11,12,13,14,15,16,17,18,19] ?_
        repeat refine tkL (hS:=hHeld) (h:=?_)
        refine zao ?_
        refine zme (i:=20) (j:=24) rfl rfl (by kernel_rfl) (fun K hK => ?_) (fun K hK => ?_)
        ·skip
         go_simp
         (go_at_call 51;(with_reducible refine (Rt.div ga Aa ma ca Da mda cda x1 gb Ab mb cb Db mdb cdb x2 _ (HRa.out.drew) (HRb.out.drew) HPV2.out L1.out).mono ?_);rintro e u1 ⟨g3,A3,m3,c3,D3,md3,cd3,rfl,hn,hb⟩;have HS:=hid hn;have HBU:=hid (show Below wz.heap.size wz u1 from It.bdrew0' hb);have m0:=zab hb k0''d;have m1:=zab hb k1''d;have m2:=zab hb u0d;have m3:=zab hb v0d;have m4:=zab hb w0d;have m5:=zab hb y0d;have m6:=zab hb y1d;have m7:=zab hb y2d;have m8:=zab hb z0d;have m9:=zab hb z1d;have m10:=zab hb z2d;have m11:=zab hb t0d;have m12:=zab hb t1d;have m13:=zab hb t2d;clear hb hn)
         (try go_wp2_with fail)
         refine hK.out _ _ kp fun hHeld => ?_
         clear hK K
         try simp only [Act.put,pu1,pu2,pu3,pu4,pu5,pu6]
         refine zaw [21,22,23] ?_
         repeat refine tkX (h:=?_)
         refine zao ?_
         refine zaB 24 (h:=fun K hK => ?_)
         go_simp
         refine hK.out _ _ kp fun hHeld => ?_
         clear hK K
         try simp only [Act.put,pu1,pu2,pu3,pu4,pu5,pu6]
         refine zay 25 (h:=fun K hK => ?_)
         go_simp
         refine hK.out _ _ ?_
         clear hK K
         try simp only [Act.put,pu1,pu2,pu3,pu4,pu5,pu6]
         refine zay 26 (h:=fun K hK => ?_)
         go_simp
         refine hK.out _ _ ?_
         clear hK K
         try simp only [Act.put,pu1,pu2,pu3,pu4,pu5,pu6]
         refine zaM (h:=?_)
         go_wp2
         go_meet
         case rel => exact zcD.al (HBU.out.alloc HBU.out.size _) HBU.out.size HS.out
        ·skip
         go_simp
         refine hK.out _ _ kp fun hHeld => ?_
         clear hK K
         try simp only [Act.put,pu1,pu2,pu3,pu4,pu5,pu6]
         refine zaB 20 (h:=fun K hK => ?_)
         go_simp
         (go_at_call 51;(with_reducible refine (Rt.div ga Aa ma ca Da mda cda x1 gb Ab mb cb Db mdb cdb x2 _ (HRa.out.alloc _ |>.drew) (HRb.out.alloc _ |>.drew) HPV2.out L1.out).mono ?_);rintro e u1 ⟨g3,A3,m3,c3,D3,md3,cd3,rfl,hn,hb⟩;have HS:=hid hn;have HBU:=hid (show Below wz.heap.size wz u1 from (zae wz _).trans ((It.bdrew0' hb).mono (by simp)));have XB:=hid (zad hb (show (wz.alloc (.cells #[.bool false, .slice none 0 0, .slice none 0 0] 35)).drew.heap[wz.heap.size]? = _ from zal _ _ _));have m0:=zab hb (show (wz.alloc (.cells #[.bool false, .slice none 0 0, .slice none 0 0] 35)).drew.cell? _ = _ from cell_al k0'');have m1:=zab hb (show (wz.alloc (.cells #[.bool false, .slice none 0 0, .slice none 0 0] 35)).drew.cell? _ = _ from cell_al k1'');have m2:=zab hb (show (wz.alloc (.cells #[.bool false, .slice none 0 0, .slice none 0 0] 35)).drew.cell? _ = _ from cell_al u0);have m3:=zab hb (show (wz.alloc (.cells #[.bool false, .slice none 0 0, .slice none 0 0] 35)).drew.cell? _ = _ from cell_al v0);have m4:=zab hb (show (wz.alloc (.cells #[.bool false, .slice none 0 0, .slice none 0 0] 35)).drew.cell? _ = _ from cell_al w0);have m5:=zab hb (show (wz.alloc (.cells #[.bool false, .slice none 0 0, .slice none 0 0] 35)).drew.cell? _ = _ from cell_al y0);have m6:=zab hb (show (wz.alloc (.cells #[.bool false, .slice none 0 0, .slice none 0 0] 35)).drew.cell? _ = _ from cell_al y1);have m7:=zab hb (show (wz.alloc (.cells #[.bool false, .slice none 0 0, .slice none 0 0] 35)).drew.cell? _ = _ from cell_al y2);have m8:=zab hb (show (wz.alloc (.cells #[.bool false, .slice none 0 0, .slice none 0 0] 35)).drew.cell? _ = _ from cell_al z0);have m9:=zab hb (show (wz.alloc (.cells #[.bool false, .slice none 0 0, .slice none 0 0] 35)).drew.cell? _ = _ from cell_al z1);have m10:=zab hb (show (wz.alloc (.cells #[.bool false, .slice none 0 0, .slice none 0 0] 35)).drew.cell? _ = _ from cell_al z2);have m11:=zab hb (show (wz.alloc (.cells #[.bool false, .slice none 0 0, .slice none 0 0] 35)).drew.cell? _ = _ from cell_al t0);have m12:=zab hb (show (wz.alloc (.cells #[.bool false, .slice none 0 0, .slice none 0 0] 35)).drew.cell? _ = _ from cell_al t1);have m13:=zab hb (show (wz.alloc (.cells #[.bool false, .slice none 0 0, .slice none 0 0] 35)).drew.cell? _ = _ from cell_al t2);have XBc0:=zac XB.out 0;have XBc1:=zac XB.out 1;have XBc2:=zac XB.out 2;have XBf0:=zag XB.out 0;have XBf1:=zag XB.out 1;have XBf2:=zag XB.out 2;simp only [List.getElem?_toArray,List.getElem?_cons_zero,List.getElem?_cons_succ] at XBc0 XBc1 XBc2;clear hb hn)
         (try go_wp2_with fail)
         refine hK.out _ _ kp fun hHeld => ?_
         clear hK K
         try simp only [Act.put,pu1,pu2,pu3,pu4,pu5,pu6]
         refine zaw [21,22,23] ?_
         repeat refine tkX (h:=?_)
         refine zao ?_
         refine zay 25 (h:=fun K hK => ?_)
         go_simp
         refine hK.out _ _ ?_
         clear hK K
         try simp only [Act.put,pu1,pu2,pu3,pu4,pu5,pu6]
         refine zay 26 (h:=fun K hK => ?_)
         go_simp
         refine hK.out _ _ ?_
         clear hK K
         try simp only [Act.put,pu1,pu2,pu3,pu4,pu5,pu6]
         refine zaM (h:=?_)
         go_wp2
         go_meet
         case rel => exact zcD.of (((HBU.out.setCell (p:=⟨wz.heap.size,0,none⟩) (Nat.le_refl _) _).setCell (p:=⟨wz.heap.size,1,none⟩) (Nat.le_refl _) _).setCell (p:=⟨wz.heap.size,2,none⟩) (Nat.le_refl _) _) (Nat.le_refl _) XB.out HS.out
       case rest =>
        rename World => wx
        obtain ⟨b7,g3,A3,m3,c3,D3,md3,cd3,rfl,hbz,hb7,hk7,hr7⟩:=hcut
        have HK7:=hid hk7
        have HR7:=hid hr7
        have zGa:=hid (HPz.out.below hbz)
        have zGy:=hid (HWz.out.below hbz)
        have zq3:=hid (HWV.out.below hbz)
        have zIl:=zab hbz k0''
        have x0_41d:=zaa zIl
        have zIq:=zab hbz k1''
        have x1_41d:=zaa zIq
        have zIv:=zab hbz u0
        have x2_41d:=zaa zIv
        have zIA:=zab hbz v0
        have x3_41d:=zaa zIA
        have zIF:=zab hbz w0
        have x4_41d:=zaa zIF
        have zIK:=zab hbz y0
        have zIO:=zab hbz y1
        have zIR:=zab hbz y2
        have zIU:=zab hbz z0
        have zIX:=zab hbz z1
        have zDW:=zab hbz z2
        have zDY:=zab hbz t0
        have x11_41d:=zaa zDY
        have zD2:=zab hbz t1
        have zD3:=zab hbz t2
        have zD4:wx.cell? ⟨b7,0,none⟩ = some (.bool g3):=zac hk7 0
        have zD5:wx.cell? ⟨b7,1,none⟩ = some (.slice A3 m3 c3):=zac hk7 1
        have zD6:wx.cell? ⟨b7,2,none⟩ = some (.slice D3 md3 cd3):=zac hk7 2
        have of0:=zq3.out.fro (c * 3)
        have of1:=zq3.out.fro (c * 3 + 1)
        have of2:=zq3.out.fro (c * 3 + 2)
        have hblb:bw ≠ b7:=by omega
        clear hbz hk7 hr7 hb7
        go_wp2_with fail
        go_cut [] (fun wy => LuP wy H q n lb lc ll' ub uc ul' pb pc { G with lo:=G.lo.set r (rl.set c (x1 / x2)) } ∧ Bel0 H w wy ∧ wy.heap[b7]? = some (.cells #[.bool g3, .slice A3 m3 c3, .slice D3 md3 cd3] 35 (0,0)) ∧ RatS wy g3 (.slice A3 m3 c3) (.slice D3 md3 cd3) (x1 / x2) ∧ wx.heap.size ≤ wy.heap.size)
        case first => as_aux_lemma =>
         refine za2 (S:=fun w' => w'.cell? ⟨q,0,none⟩ = some (.slice (some ⟨lb,0,none⟩) n lc) ∧ w'.cell? ⟨q,1,none⟩ = some (.slice (some ⟨ub,0,none⟩) n uc) ∧ w'.cell? ⟨ub,r,none⟩ = some (.slice (some ⟨bu,0,none⟩) n uc1) ∧ w'.cell? ⟨ub,c,none⟩ = some (.slice (some ⟨bv,0,none⟩) n vc1) ∧ w'.cell? ⟨lb,r,none⟩ = some (.slice (some ⟨bw,0,none⟩) n wc1) ∧ w'.cell? ⟨bu,c * 3,none⟩ = some (.bool ga) ∧ w'.cell? ⟨bu,c * 3 + 1,none⟩ = some (.slice Aa ma ca) ∧ w'.cell? ⟨bu,c * 3 + 2,none⟩ = some (.slice Da mda cda) ∧ w'.cell? ⟨bv,c * 3,none⟩ = some (.bool gb) ∧ w'.cell? ⟨bv,c * 3 + 1,none⟩ = some (.slice Ab mb cb) ∧ w'.cell? ⟨bv,c * 3 + 2,none⟩ = some (.slice Db mdb cdb) ∧ w'.cell? ⟨bw,c * 3,none⟩ = some (.bool gc) ∧ w'.cell? ⟨bw,c * 3 + 1,none⟩ = some (.slice Ac mc cc) ∧ w'.cell? ⟨bw,c * 3 + 2,none⟩ = some (.slice Dc mdc cdc) ∧ w'.cell? ⟨b7,0,none⟩ = some (.bool g3) ∧ w'.cell? ⟨b7,1,none⟩ = some (.slice A3 m3 c3) ∧ w'.cell? ⟨b7,2,none⟩ = some (.slice D3 md3 cd3)) 10 (h:=fun hHeld => ?_)
         refine zaw [0,1,2,3,4,5,6,7,8,9] ?_
         repeat refine tkE (hS:=hHeld) (h:=?_)
         refine zao ?_
         refine zba (h:=fun K hK => ?_)
         go_simp
         refine hK.out _ _ ?_
         clear hK K
         try simp only [Act.put,pu1,pu2,pu3,pu4,pu5,pu6]
         refine za1 (h:=?_)
         go_wp2
         go_meet
         case rel =>
          obtain ⟨cs,hcs⟩:=zq3.out.ratBlk
          exact ⟨(zGa.out.putL HWL.out HGR.out c HR7.out).drew,(zGy.out.set3 hbw0 _ _ _).drew,zwi HK7.out (Ne.symm hblb) _ _ _,(zxz HR7.out hcs _ _ _).drew,zIe _ _ _ _ _ _ _ _⟩
        case rest =>
         rename World => wy
         obtain ⟨hp,hb,hk7,hr7,_⟩:=hcut
         have HPy:=hid hp
         have HWy:=hid hb
         have HK8:=hid hk7
         have HR8:=hid hr7
         obtain ⟨pA,pc1,pl,p0,pV⟩:=HPy.out.up.at_ HGU.out
         obtain ⟨sA,sc1,sl_,s0,sV⟩:=HPy.out.up.at_ (show G.up[c]? = some rc from HGC.out)
         rw [HLR3.out] at p0 pV;rw [← HLR.out,HLR3.out] at s0 sV
         obtain ⟨b1,rfl,_,_⟩:=pV.has (by omega)
         obtain ⟨b2,rfl,_,_⟩:=sV.has (by omega)
         obtain ⟨_,_,_,_,n1,_⟩:=bf4 HPy.out.blk
         have HPV1:=hid pV
         have HSV1:=hid sV
         have HUB0:=hid (HPy.out.ubge (by omega)).1
         have f0:=zac HK8.out 0
         have f1:=zac HK8.out 1
         have f2:=zac HK8.out 2
         have n1_:wy.cell? ⟨q,1,none⟩ = some (.slice (some ⟨ub,0,none⟩) n uc):=n1
         have n1_d:=zaa n1_
         have p0_:wy.cell? ⟨ub,r,none⟩ = some (.slice (some ⟨b1,0,none⟩) n pc1):=p0
         have p0_d:=zaa p0_
         have s0_:wy.cell? ⟨ub,c,none⟩ = some (.slice (some ⟨b2,0,none⟩) n sc1):=s0
         have s0_d:=zaa s0_
         have f0_:wy.cell? ⟨b7,0,none⟩ = some (.bool g3):=f0
         have f0_d:=zaa f0_
         have f1_:wy.cell? ⟨b7,1,none⟩ = some (.slice A3 m3 c3):=f1
         have f1_d:=zaa f1_
         have f2_:wy.cell? ⟨b7,2,none⟩ = some (.slice D3 md3 cd3):=f2
         have f2_d:=zaa f2_
         clear hp hb hk7 hr7 pV sV n1 p0 s0 f0 f1 f2 pl sl_
         as_aux_lemma =>
          go_wp2_with fail
          refine za2 (S:=fun w' => w'.cell? ⟨q,1,none⟩ = some (.slice (some ⟨ub,0,none⟩) n uc) ∧ w'.cell? ⟨ub,r,none⟩ = some (.slice (some ⟨b1,0,none⟩) n pc1) ∧ w'.cell? ⟨ub,c,none⟩ = some (.slice (some ⟨b2,0,none⟩) n sc1) ∧ w'.cell? ⟨b7,0,none⟩ = some (.bool g3) ∧ w'.cell? ⟨b7,1,none⟩ = some (.slice A3 m3 c3) ∧ w'.cell? ⟨b7,2,none⟩ = some (.slice D3 md3 cd3)) 26 (h:=fun hHeld => ?_)
          refine zaw [0,1,2,3,4,5,6,7,8,9,10,11,12,14,15,16,17,18,19,20] ?_
          repeat refine tkE (hS:=hHeld) (h:=?_)
          refine zao ?_
          refine zaN 13 (h:=fun K hK => ?_)
          go_simp
          (go_at_call 15;(with_reducible refine (Rt.neg g3 A3 m3 c3 D3 md3 cd3 (x1 / x2) _ HR8.out.drew).mono ?_);rintro e u1 ⟨g4,A4,m4,c4,D4,md4,cd4,rfl,hn,hb⟩;have zyL:=hid (HPy.out.drew.below hb);have zy8:=hid (HWy.out.drew.below hb);have zyJ:=hid (HPV1.out.drew.below hb);have zyU:=hid (HSV1.out.drew.below hb);have HN4:=hid (show RatS u1 g4 (.slice A4 m4 c4) (.slice D4 md4 cd4) (-(x1 / x2)) from hn);have zDT:=zab hb n1_d;have x0_61d:=zaa zDT;have zD8:=zab hb p0_d;have x1_61d:=zaa zD8;have zEb:=zab hb s0_d;have x2_61d:=zaa zEb;have zEe:=zab hb f0_d;have zEh:=zab hb f1_d;have zEk:=zab hb f2_d;clear hn hb)
          (try go_wp2_with fail)
          refine hK.out _ _ kp fun hHeld => ?_
          clear hK K
          try simp only [Act.put,pu1,pu2,pu3,pu4,pu5,pu6]
          refine zaN 21 (h:=fun K hK => ?_)
          go_simp
          (go_at_call 40;(with_reducible refine (Vc.addTimesS (2 * u) (by have:=HLIM.out;omega) (some ⟨b1,0,none⟩) n pc1 ru g4 A4 m4 c4 D4 md4 cd4 (-(x1 / x2)) (some ⟨b2,0,none⟩) n sc1 rc H H _ zyJ.out HN4.out zyU.out HLR.out (by have:=HN.out;omega) (fun q hq => Nat.le_trans (HZ1.out q hq) (by omega)) (by rw [zhY];exact HX.out) (fun q hq => Nat.le_trans (HZ2.out q hq) (by omega))).mono ?_);rintro e u2 ⟨B5,n5,c5,rfl,hv5,hb⟩;have zB5:=hid (zyL.out.below hb);have zGA:=hid (zy8.out.below hb);have HV5:=hid (show VecS u2 u1.heap.size (.slice B5 n5 c5) (zly ru (-(x1 / x2)) rc) from hv5);have zIm:=zab hb zDT;have x0_62d:=zaa zIm;have zIr:=zab hb zD8;have x1_62d:=zaa zIr;have zIw:=zab hb zEb;have x2_62d:=zaa zIw;have zIB:=zab hb zEe;have zIG:=zab hb zEh;have zIL:=zab hb zEk;have uf:=zB5.out.up.fro r;clear hb hv5)
          (try go_wp2_with fail)
          refine hK.out _ _ kp fun hHeld => ?_
          clear hK K
          try simp only [Act.put,pu1,pu2,pu3,pu4,pu5,pu6]
          refine zaw [22,23] ?_
          repeat refine tkE (hS:=hHeld) (h:=?_)
          refine zao ?_
          refine zfQ (i:=24) (v:=?_) rfl (by kernel_rfl) (fun _ _ _ h => h) (Or.inl ⟨by rfl,?_⟩) ?_
          rotate_left
          ·((intro w hSw;(try dsimp only at hSw);go_simp);(try with_reducible rfl))
          try simp only [Act.put,pu1,pu2,pu3,pu4,pu5,pu6]
          refine zaw [25] ?_
          repeat refine tkE (hS:=hHeld) (h:=?_)
          refine zao ?_
          refine zba (h:=fun K hK => ?_)
          go_simp
          refine hK.out _ _ ?_
          clear hK K
          try simp only [Act.put,pu1,pu2,pu3,pu4,pu5,pu6]
          refine za1 (h:=?_)
          go_wp2
          go_roundw
          case rel =>
           obtain rfl:n5 = n:=by rw [HV5.out.len,zdt HLR.out,HLR3.out]
           have hV:=HV5.out.base (Nat.le_trans zy8.out.le zy8.out.b.size)
           have hk:r < ({ G with lo:=G.lo.set r (rl.set c (x1 / x2)) }:LUv).up.length:=by show r < G.up.length;rw [HGL.out];omega
           have hP:=LuP.putU zB5.out hk hV (B:=u1.heap.size) (fun g hg => (HV5.out.lt hg).1) (fun a ha g hg => LuP.ltL zyL.out a ha g hg) (fun a ha g hg => LuP.ltU zyL.out a ha g hg)
           have hW:=zGA.out.set (o:=r) HUB0.out (.slice B5 n5 c5)
           exact ⟨r + 1,t + 1,_,ll',_,by go_num,by have:=HR.out;omega,rfl,by omega,by rw [← HNX2.out];exact hP,hW⟩
          case measure => simp [intOf];omega
      ·obtain rfl:n = r:=by omega
       have HR:=hid hr
       have HG:=hid hG
       clear hr hG
       have HPz:=hid hp
       have HWz:=hid hb
       obtain ⟨k0'',_,_,_,k1'',_⟩:=bf4 hp.blk
       clear hp hb
       go_wp2
       go_ret
       exact .inl ⟨by rw [HF.out];omega,rfl,by rw [HF.out,zxH HSQ.out,show n - (c + 1) = t by have:=HR.out;omega, ← HG.out];exact ⟨_,_,_,_,_,_,_,_,HPz.out⟩,HWz.out.b⟩
  ·obtain rfl:k = n:=by omega
   have HF:=hid (zl3 (up:=F.up) (c:=c) (k - c) c fun j h1 h2 => HT.out j h1 (by omega))
   have zjH:=hid (HP.out.below hB)
   have zaQ:=hid (BB.out.trans ((hB).mono BB.out.size))
   have zbJ:=zab hB k0
   have x0_1d:=zaa zbJ
   have zbY:=zab hB k1
   have x1_1d:=zaa zbY
   have zcb:=zab hB k2
   have x2_1d:=zaa zcb
   clear hB
   go_wp2
   go_ret
   exact .inr ⟨by rw [HF.out];omega,rfl,zaQ.out.mono HH.out⟩
end Lu
end Go.Proofs.YtdbgbaiekpbaoaaGreatDoor
