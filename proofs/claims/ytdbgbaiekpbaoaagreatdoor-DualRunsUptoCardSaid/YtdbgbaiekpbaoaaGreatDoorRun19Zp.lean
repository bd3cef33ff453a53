/- actuarylaw19.DualRuns hands back true. Conditions: as it says;errors.errorType holds its handle. -/
import Derived.Test.YtdbgbaiekpbaoaaGreatDoorAw19Zp
import Derived.Test.YtdbgbaiekpbaoaaGreatDoorSlv19Zp
import Derived.Test.YtdbgbaiekpbaoaaGreatDoorErrZp
set_option linter.all false
namespace Go.Proofs.YtdbgbaiekpbaoaaGreatDoor
open Go.RowKit Am
open Lib (hid)
attribute [local go_sem ↓] Go.wp_at_zero Go.wp_at_succ
set_option maxHeartbeats 2000000
set_option maxRecDepth 100000
structure RunOk (N nR K:Nat) (A:List (List Rat)) (b c:List Rat) (r:RunOut):Prop where
  bas:Basis nR N A r.cols
  ent:zdi (zaC N A r.cols c) (List.replicate N true) = none
  n:r.n ≤ K
  e1:r.err = true → r.n = K ∧ r.at_ = none ∧ ∃ k,zi5 r.cols (za5 A b r.cols) = some k
  e2:r.err = false → r.at_ = none → zi5 r.cols (za5 A b r.cols) = none ∧ ((za5 A b r.cols).any fun q => decide (q < 0)) = false
  e3:∀ k,r.err = false → r.at_ = some k → k < nR ∧ zi5 r.cols (za5 A b r.cols) = some k ∧ ((zk8 N A r.cols k).any fun q => decide (q < 0)) = false ∧ el (za5 A b r.cols) k < 0
theorem Cheap.runOk {nC nR:Nat} {cost:List Rat} {rows:List PRow} (h:Cheap nC nR cost rows) (K:Nat):RunOk (nC + nR) nR K (zc3 rows) (zg8 rows) (zjD cost rows) (pivs (zKg nC nR cost rows) K (zli nC nR)):=by
 obtain ⟨hB,hr⟩:=h.seq K
 obtain ⟨e1,e2,e3,e4,e5⟩:=zoW (zKg nC nR cost rows) K (zli nC nR)
 have hn:=zLj (zKg nC nR cost rows) K (zli nC nR)
 have hs0:=fun (hx:(pivs (zKg nC nR cost rows) K (zli nC nR)).err = false) ha => h.spec0 (f:=K) hx ha
 have hs1:=fun k (hx:(pivs (zKg nC nR cost rows) K (zli nC nR)).err = false) ha => h.spec (f:=K) (k:=k) hx ha
 have e3':=e3
 generalize pivs (zKg nC nR cost rows) K (zli nC nR) = r at *
 refine ⟨hB,?_,hn,fun he => ?_,fun he ha => ?_,fun k he ha => ?_⟩
 ·unfold zdi
  refine zhz _ _ fun j _ hj e => ?_
  have l:=zKp (A:=zc3 rows) (cols:=r.cols) h.clen
  rw [l] at hj
  exact absurd e.2 (Rat.not_lt.2 (hr j (by omega)))
 ·obtain ⟨n1,k,j,h2⟩:=e3 he
  refine ⟨n1,e5 he,k,?_⟩
  rw [e1,n1]
  unfold zKg zbE at h2
  unfold zKg zbE
  split at h2
  ·cases h2
  ·rename_i k' h1
   split at h2
   ·cases h2
   ·injection h2 with h2 _;rw [← h2];exact h1
 ·have h2:=hs0 he ha
  unfold zbE at h2
  split at h2
  ·rename_i h1
   refine ⟨h1,zNy ?_⟩
   have s:=zdk r.cols (za5 (zc3 rows) (zg8 rows) r.cols) (za5 (zc3 rows) (zg8 rows) r.cols).length
   unfold zi5 at h1
   rw [h1] at s;exact s
  ·split at h2 <;> cases h2
 ·have h2:=hs1 k he ha
  have hk:=zCv hB h2
  unfold zbE at h2
  split at h2
  ·cases h2
  ·rename_i k' h1
   have s:=zdk r.cols (za5 (zc3 rows) (zg8 rows) r.cols) (za5 (zc3 rows) (zg8 rows) r.cols).length
   have h1':=h1
   unfold zi5 at h1'
   rw [h1'] at s
   split at h2
   ·rename_i h3
    injection h2 with h2
    subst h2
    refine ⟨hk,h1,zNy fun j hj => ?_,s.2.1⟩
    have hl:(zk8 (nC + nR) (zc3 rows) r.cols k').length = nC + nR:=zkb _ _ _
    have lp:=zKp (A:=zc3 rows) (cols:=r.cols) h.clen
    rw [hl] at hj
    unfold zhy at h3
    rw [lp,hl,List.length_replicate,Nat.min_self,Nat.min_self] at h3
    have s2:=zdW (zaC (nC + nR) (zc3 rows) r.cols (zjD cost rows)) (zk8 (nC + nR) (zc3 rows) r.cols k') (List.replicate (nC + nR) true) (nC + nR)
    rw [h3] at s2
    exact s2 j hj (by rw [List.getD_eq_getElem?_getD,List.getElem?_replicate,if_pos hj];rfl)
   ·cases h2
section
variable {W0 w:World} {H q:Nat} {rA:Option Addr} {rc:Nat} {lA:List Value} {bA:Option Addr} {bc_:Nat} {kA:Option Addr} {kc:Nat} {eA:Option Addr} {ec m N S own:Nat} {A:List (List Rat)} {b c:List Rat} {left:List Int}
  {tA:Option Addr} {tc:Nat} {cols:List Nat}
namespace Du
theorem right_yes (h:zhi W0 w H q rA rc lA bA bc_ kA kc eA ec m N S own A b c left tA tc cols) (M:Option Addr) (cm H':Nat) (may:List Bool) (hm:BoolsS w H' (.slice M N cm) may) (hcap:zor m S ≤ LIM) (he:zdi (zaC N A cols c) may = none) :
  Calls Tryz.prog 24 #[.pointer (some ⟨q,0,none⟩), .slice kA N kc, .slice M N cm] w fun e w' => e = .returned (.bool true) ∧ Below w.heap.size w w':=by
 refine (right h M cm H' may hm hcap).mono ?_
 rintro e w' ⟨rfl,hb⟩
 exact ⟨by rw [he];rfl,hb⟩
end Du
namespace Tb
theorem right_len (h:zhi W0 w H q rA rc lA bA bc_ kA kc eA ec m N S own A b c left tA tc cols) (sA:Option Addr) (sn sc:Nat) (hne:sn ≠ N) (X:Value) :
  Calls Tryz.prog 24 #[.pointer (some ⟨q,0,none⟩), .slice sA sn sc,X] w fun e w' => e = .returned (.bool false) ∧ Below w.heap.size w w':=by
 have HP:=hid h
 clear h
 go_enter Tryz.func24,Tryz.ntmps24
 go_wp2_with fail
 refine (zMi HP.out sA sn sc hne).mono ?_
 rintro e w1 ⟨rfl,hb⟩
 have HB:=hid hb
 clear hb
 go_wp2
 go_ret
 exact ⟨rfl,HB.out⟩
end Tb
end
namespace Lw
theorem runs (A:Option Addr) (nA cA:Nat) (L:Option Addr) (nL cL:Nat) (cs:List (Int × Int)) (ls:List LineV) (B:Int) (w:World) (hf:zcs w A cs) (hlines:zex w L ls) (hn:nA = cs.length) (hm:nL = ls.length) (hb:nA ≤ cA) (hb2:nL ≤ cL) (hc:cA ≤ 9223372036854775807) (hc2:cL ≤ 9223372036854775807) (hB0:0 ≤ B) (hB1:B < 256) (hg:w.cell? ⟨0,0,none⟩ = some Err.HandleV) :
  Calls Tryz.prog 5 #[.agg #[.slice A nA cA, .slice L nL cL], .int .u8 B] w fun e w' => e = .returned (.bool true) ∧ Below w.heap.size w w':=by
 have HN:=hid hn
 have HM:=hid hm
 have HB1:=hid hb
 have HB2:=hid hb2
 have HB3:=hid hc
 have HB4:=hid hc2
 have HG0:=hid hg
 obtain ⟨K,hK,hK8⟩:∃ K:Nat,B.tmod 6 = (K:Int) ∧ K < 6:=⟨(B % 6).toNat,by rw [Int.tmod_eq_emod_of_nonneg hB0];omega,by omega⟩
 have HK:=hid (show wrap64 (B.tmod 6) = (K:Int) by rw [hK];unfold wrap64;omega)
 clear hn hm hb hb2 hc hc2 hg hK hB0 hB1
 obtain ⟨W,hW⟩:∃ W,(w.alloc (.cells #[.slice A nA cA, .slice L nL cL] 44)) = W:=⟨_,rfl⟩
 have KB0:=hid (show W.heap[w.heap.size]? = some (.cells #[.slice A nA cA, .slice L nL cL] 44 (0,0)) by rw [← hW];exact zam (by simp))
 have BB:=hid (show Below w.heap.size w W by rw [← hW];exact zae w _)
 have HF:=hid (show zcs W A cs by rw [← hW];exact (hf).alloc _)
 have HL:=hid (show zex W L ls by rw [← hW];exact (hlines).alloc _)
 obtain ⟨zaK,zaz,zaL,zaA⟩:=bc2 KB0.out
 have HGW:W.cell? ⟨0,0,none⟩ = some Err.HandleV:=by rw [← hW];exact cell_al HG0.out
 have HGWd:=zaa HGW
 clear hf hlines
 go_enter Tryz.func5,Tryz.ntmps5
 go_wp2_with fail
 clear hW
 with_reducible refine (zzh _ HGW).mono ?_
 rintro e w1 ⟨rfl,hb⟩
 have zaq:=hid (zad hb KB0.out)
 have zMS:=hid (HF.out.below hb)
 have zMV:=hid (HL.out.below hb)
 have zaQ:=hid (BB.out.trans ((hb).mono BB.out.size))
 obtain ⟨zaI,zat,zaJ,zau⟩:=bc2 zaq.out
 have zbJ:=zab hb HGW
 have x0_1d:=zaa zbJ
 clear hb
 go_wp2_with fail
 with_reducible refine (zLV A nA cA L nL cL cs ls _ zMS.out zMV.out HN.out HM.out HB1.out HB2.out HB3.out HB4.out).mono ?_
 rintro e w2 ⟨C,nC,cC,R,nR,cR,T,tc,cost,rows,rfl,hv,hl,hi,hch,hb⟩
 have zaD:=hid (zad hb zaq.out)
 have HC:=hid (show VecS w2 0 (.slice C nC cC) cost from (hv.base (Nat.zero_le _)))
 have HR:=hid (show RowsS w2 0 (.slice R nR cR) rows from (hl.base (Nat.zero_le _)))
 have HI:=hid (show IntsS w2 0 (.slice T nR tc) (zli nC nR) from (hi.base (Nat.zero_le _)))
 have zbj:=hid (zaQ.out.trans ((hb).mono zaQ.out.size))
 obtain ⟨zaU,zaE,zaV,zaF⟩:=bc2 zaD.out
 have zcX:=zab hb zbJ
 have x0_2d:=zaa zcX
 have HCH:=hid hch
 clear hv hl hi hch hb
 have hb3z:=zae w2 (.cells #[.slice C nC cC, .slice R nR cR] 47)
 have zbn:=hid (zad hb3z zaD.out)
 have zEw:=hid (HC.out.below hb3z)
 have zB7:=hid (HR.out.below hb3z)
 have zF0:=hid (HI.out.below hb3z)
 have zcc:=hid (zbj.out.trans ((hb3z).mono zbj.out.size))
 obtain ⟨zdg,zb0,zdh,zb1⟩:=bc2 zbn.out
 have KP:=hid (zal w2 #[.slice C nC cC, .slice R nR cR] 47)
 obtain ⟨zdg,zb0,zdh,zb1⟩:=bc2 zbn.out
 obtain ⟨zhp,zeB,zhr,zeD⟩:=bc2 KP.out
 obtain ⟨N,hN⟩:∃ N,nC + nR = N:=⟨_,rfl⟩
 have HNN:=hid (show nC + cnt rows nR = N by rw [HCH.out.cntR,hN])
 have hN9:N ≤ 9:=by have h1:=HCH.out.g.hc;have h2:=HCH.out.g.hr;omega
 have HBAS:=hid (show Basis nR N (zc3 rows) (zli nC nR) by rw [← hN];exact HCH.out.basis)
 have HENT:=hid (show zdi (zaC N (zc3 rows) (zli nC nR) (zjD cost rows)) (List.replicate N true) = none by rw [← hN];exact HCH.out.enter_none)
 obtain ⟨r,hr⟩:∃ r,pivs (zbE N (zc3 rows) (zg8 rows) (zjD cost rows) (List.replicate N true)) K (zli nC nR) = r:=⟨_,rfl⟩
 have HQ:=hid hr
 have HOK:=hid (show RunOk N nR K (zc3 rows) (zg8 rows) (zjD cost rows) r by rw [← hr, ← hN];exact HCH.out.runOk K)
 have HCAP:=hid (zKB nR HCH.out.g.hr)
 clear hr hN
 go_wp2_with fail
 with_reducible refine (Pb.standardN 1 (Nat.le_refl _) C nC cC R nR cR cost rows N HNN.out _ zEw.out zB7.out (by have:=HCH.out.g.hc;omega) (by have:=HCH.out.g.hr;omega) (fun p hp => ⟨(HCH.out.g.rw_ p hp).1,fun q hq => Nat.le_trans ((HCH.out.g.rw_ p hp).2.1 q hq) (by decide),Nat.le_trans (HCH.out.g.rw_ p hp).2.2 (by decide)⟩) HCH.out.g.kd HCH.out.g.sc (fun p hp => (HCH.out.g.rw_ p hp).2)).mono ?_
 rintro e w3 ⟨rA,rc,lA,bA,bc_,kA,kc,eA,ec,rfl,hst,hb⟩
 have zbo:=hid (zad hb zbn.out)
 have zcE:=hid (zad hb KP.out)
 have zB0:=hid (zF0.out.below hb)
 have HSTD:=hid (show StdP w3 rA rc lA bA bc_ kA kc eA ec nR N 1 (zc3 rows) (zg8 rows) (zjD cost rows) (zca nC rows nR) from hst)
 have zdf:=hid (zcc.out.trans ((hb).mono zcc.out.size))
 obtain ⟨zcj,zbv,zck,zbw⟩:=bc2 zbo.out
 obtain ⟨zdR,zcH,zdS,zcI⟩:=bc2 zcE.out
 clear hst hb
 have hb5z:=zae w3 (.cells #[.slice rA nR rc, .int .i64 (N:Int), .slice bA nR bc_, .slice kA N kc, .int .i64 (nC:Int), .slice eA nR ec] 66)
 have zct:=hid (zad hb5z zbo.out)
 have zd9:=hid (zad hb5z zcE.out)
 have zJQ:=hid (zB0.out.below hb5z)
 have zN8:=hid (HSTD.out.below hb5z)
 have ze3:=hid (zdf.out.trans ((hb5z).mono zdf.out.size))
 obtain ⟨zdP,zcF,zdQ,zcG⟩:=bc2 zct.out
 obtain ⟨zhq,zeC,zhs,zeE⟩:=bc2 zd9.out
 have KS:=hid (zal w3 #[.slice rA nR rc, .int .i64 (N:Int), .slice bA nR bc_, .slice kA N kc, .int .i64 (nC:Int), .slice eA nR ec] 66)
 obtain ⟨zdP,zcF,zdQ,zcG⟩:=bc2 zct.out
 obtain ⟨zhq,zeC,zhs,zeE⟩:=bc2 zd9.out
 obtain ⟨zkt,zgF,zkv,zgH,zkx,zgJ,zlT,zit,zlU,ziu,zlV,ziv⟩:=bc6 KS.out
 clear zaK zaz zaL zaA zaI zat zaJ zau zbJ x0_1d zaU zaE zaV zaF zcX x0_2d zdg zb0 zdh zb1 zhp zeB zhr zeD zcj zbv zck zbw zdR zcH zdS zcI
 go_wp2_with fail
 generalize hwS:(w3.alloc (.cells #[.slice rA nR rc, .int .i64 (N:Int), .slice bA nR bc_, .slice kA N kc, .int .i64 (nC:Int), .slice eA nR ec] 66)) = wS at *
 clear hwS
 with_reducible refine (Tb.new rA rc lA bA bc_ kA kc eA ec nR N 1 nC (zc3 rows) (zg8 rows) (zjD cost rows) (zca nC rows nR) T tc (zli nC nR) 0 _ zN8.out zJQ.out HBAS.out HCAP.out).mono ?_
 rintro e w4 ⟨q,T',tc',rfl,hT,hb⟩
 have zd8:=hid (zad hb zct.out)
 have zig:=hid (zad hb zd9.out)
 have zgv:=hid (zad hb KS.out)
 have HT:=hid (show zhi wS w4 wS.heap.size q rA rc lA bA bc_ kA kc eA ec nR N 1 nC (zc3 rows) (zg8 rows) (zjD cost rows) (zca nC rows nR) T' tc' (zli nC nR) from hT)
 obtain ⟨zhn,zez,zho,zeA⟩:=bc2 zd8.out
 obtain ⟨zlN,zin,zlO,zio⟩:=bc2 zig.out
 obtain ⟨zlQ,ziq,zlR,zir,zlS,zis,zrg,zm5,zrh,zm6,zri,zm7⟩:=bc6 zgv.out
 have HB4':=hid hb
 clear hT hb
 go_wp2_with fail
 with_reducible refine (Du.all N (by omega) _).mono ?_
 rintro e w5 ⟨MA,rfl,hm,hb⟩
 have zew:=hid (zad hb zd8.out)
 have zv1:=hid (zad hb zig.out)
 have zv2:=hid (zad hb zgv.out)
 have zPr:=hid (HT.out.below hb)
 have HMA:=hid (show BoolsS w5 w4.heap.size (.slice MA N N) (List.replicate N true) from hm)
 obtain ⟨zkc,zgw,zkd,zgx⟩:=bc2 zew.out
 obtain ⟨zCI,zzG,zCK,zzJ⟩:=bc2 zv1.out
 obtain ⟨zCW,zzZ,zCX,zz0,zCY,zz1,zCZ,zz2,zC0,zz3,zC1,zz4⟩:=bc6 zv2.out
 have HB5':=hid hb
 clear hm hb
 go_wp2_with fail
 rw [HK.out]
 with_reducible refine (Du.run zPr.out MA N _ HMA.out HCAP.out (K:Int) (by omega) HENT.out).mono ?_
 rintro e w6 ⟨ev,rfl,hev,hT2,hb2,hk2⟩
 rw [show ((K:Int)).toNat = K from Int.toNat_natCast K,HQ.out] at hev hT2 ⊢
 have HEV:=hid hev
 have HB6:=hid (show Below wS.heap.size wS w6 from (HB4'.out.trans (HB5'.out.mono HB4'.out.size)).trans hb2)
 have HT6:=hid hT2
 have HM6:=hid (HMA.out.kept hk2 (by decide))
 clear hev hT2 hb2 hk2
 have zNv:=hid (zad HB6.out zct.out)
 have zNw:=hid (zad HB6.out zd9.out)
 have zNx:=hid (zad HB6.out KS.out)
 have zNB:=hid (ze3.out.trans ((HB6.out).mono ze3.out.size))
 obtain ⟨zOO,zOd,zOR,zOg⟩:=bc2 zNv.out
 obtain ⟨zOU,zOj,zOX,zOm⟩:=bc2 zNw.out
 obtain ⟨zO0,zOp,zO4,zOt,zO8,zOx,zPc,zOB,zPg,zOF,zPk,zOJ⟩:=bc6 zNx.out
 clear zdP zcF zdQ zcG zhq zeC zhs zeE zkt zgF zkv zgH zkx zgJ zlT zit zlU ziu zlV ziv zhn zez zho zeA zlN zin zlO zio zlQ ziq zlR zir zlS zis zrg zm5 zrh zm6 zri zm7 zkc zgw zkd zgx zCI zzG zCK zzJ zCW zzZ zCX zz0 zCY zz1 zCZ zz2 zC0 zz3 zC1 zz4
 have HCC:=hid (show N ≤ kc ∧ kc ≤ maxLen by obtain ⟨_,_,_,hP⟩:=HT6.out;exact hP.stdN.C.form.2.1 |> fun a => ⟨a,hP.stdN.C.form.2.2.1⟩)
 have hkc1:=HCC.out.1
 have hkc2:kc ≤ 9223372036854775807:=by have:=HCC.out.2;unfold maxLen at this;omega
 have hn1:=HOK.out.n
 go_upto_region 10 with fail
 go_cut [92] (fun c wx => c = .bool false ∧ Below w6.heap.size w6 wx)
 case first =>
  have hc1:decide ((r.n:Int) < 0) = false:=by simp
  have hc2:decide (wrap64 (B.tmod 6) < (r.n:Int)) = false:=by rw [HK.out];simp;omega
  go_wp2_with fail
  with_reducible refine (Du.right_yes HT6.out MA N _ (List.replicate N true) HM6.out HCAP.out HOK.out.ent).mono ?_
  rintro e x1 ⟨rfl,hb⟩
  have zM3:=hid (zad hb zNv.out)
  have zM4:=hid (zad hb zNw.out)
  have zM5:=hid (zad hb zNx.out)
  have zMY:=hid (HT6.out.below hb)
  have zNh:=hid (HM6.out.below hb)
  have zNg:=hid (zNB.out.trans ((hb).mono zNB.out.size))
  obtain ⟨zNU,zND,zNV,zNE⟩:=bc2 zM3.out
  obtain ⟨zNW,zNF,zNX,zNG⟩:=bc2 zM4.out
  obtain ⟨zNY,zNH,zNZ,zNI,zN0,zNJ,zN1,zNK,zN2,zNL,zN3,zNM⟩:=bc6 zM5.out
  have HX1:=hid hb
  clear hb
  by_cases hN0:N = 0
  ·subst hN0
   go_wp2_with fail
   with_reducible refine (Du.right_yes zMY.out MA 0 _ (List.replicate 0 true) zNh.out HCAP.out HOK.out.ent).mono ?_
   rintro e x2 ⟨rfl,hb⟩
   have zMZ:=hid (zad hb zM3.out)
   have zM0:=hid (zad hb zM4.out)
   have zM1:=hid (zad hb zM5.out)
   have zM2:=hid (zMY.out.below hb)
   have zNi:=hid (zNh.out.below hb)
   have zNt:=hid (zNg.out.trans ((hb).mono zNg.out.size))
   obtain ⟨zNj,zM6,zNk,zM7⟩:=bc2 zMZ.out
   obtain ⟨zNl,zM8,zNm,zM9⟩:=bc2 zM0.out
   obtain ⟨zNn,zNa,zNo,zNb,zNp,zNc,zNq,zNd,zNr,zNe,zNs,zNf⟩:=bc6 zM1.out
   go_wp2
   go_meet
   exact ⟨rfl,HX1.out.trans (hb.mono HX1.out.size)⟩
  ·by_cases hN1:N = 1
   ·subst hN1
    go_wp2_with fail
    with_reducible refine (Tb.right_len zMY.out kA 0 kc (by decide) (.slice MA 1 1)).mono ?_
    rintro e x2 ⟨rfl,hb⟩
    have zMZ:=hid (zad hb zM3.out)
    have zM0:=hid (zad hb zM4.out)
    have zM1:=hid (zad hb zM5.out)
    have zM2:=hid (zMY.out.below hb)
    have zNi:=hid (zNh.out.below hb)
    have zNt:=hid (zNg.out.trans ((hb).mono zNg.out.size))
    obtain ⟨zNj,zM6,zNk,zM7⟩:=bc2 zMZ.out
    obtain ⟨zNl,zM8,zNm,zM9⟩:=bc2 zM0.out
    obtain ⟨zNn,zNa,zNo,zNb,zNp,zNc,zNq,zNd,zNr,zNe,zNs,zNf⟩:=bc6 zM1.out
    go_wp2
    go_meet
    exact ⟨rfl,HX1.out.trans (hb.mono HX1.out.size)⟩
   ·have hgt:(0:Int) < (N:Int) - 1:=by omega
    have hN4:(N:Int) - 1 ≤ (kc:Int):=by omega
    have hN5:(0:Int) ≤ (N:Int) - 1:=by omega
    go_wp2_with fail
    with_reducible refine (Tb.right_len zMY.out kA (N - 1) kc (by omega) _).mono ?_
    rintro e x2 ⟨rfl,hb⟩
    have zMZ:=hid (zad hb zM3.out)
    have zM0:=hid (zad hb zM4.out)
    have zM1:=hid (zad hb zM5.out)
    have zM2:=hid (zMY.out.below hb)
    have zNi:=hid (zNh.out.below hb)
    have zNt:=hid (zNg.out.trans ((hb).mono zNg.out.size))
    obtain ⟨zNj,zM6,zNk,zM7⟩:=bc2 zMZ.out
    obtain ⟨zNl,zM8,zNm,zM9⟩:=bc2 zM0.out
    obtain ⟨zNn,zNa,zNo,zNb,zNp,zNc,zNq,zNd,zNr,zNe,zNs,zNf⟩:=bc6 zM1.out
    go_wp2
    go_meet
    exact ⟨rfl,HX1.out.trans (hb.mono HX1.out.size)⟩
 case rest =>
  obtain ⟨rfl,hcb⟩:=hcut
  rename World => w7
  have zM3:=hid (zad hcb zNv.out)
  have zM4:=hid (zad hcb zNw.out)
  have zM5:=hid (zad hcb zNx.out)
  have zMY:=hid (HT6.out.below hcb)
  have zNh:=hid (HM6.out.below hcb)
  have zNg:=hid (zNB.out.trans ((hcb).mono zNB.out.size))
  obtain ⟨zNU,zND,zNV,zNE⟩:=bc2 zM3.out
  obtain ⟨zNW,zNF,zNX,zNG⟩:=bc2 zM4.out
  obtain ⟨zNY,zNH,zNZ,zNI,zN0,zNJ,zN1,zNK,zN2,zNL,zN3,zNM⟩:=bc6 zM5.out
  have HB67:=hid hcb
  clear hcb
  rcases HEV.out with ⟨he,rfl⟩ | ⟨he,fb,rfl,hfb⟩
  ·cases hat:r.at_ with
   | none =>
    have hE:=HOK.out.e2 he hat
    have HE1:=hid hE.1
    have HE2:=hid hE.2
    have hp:zbh (none:Option Nat) = -1:=rfl
    rw [hp]
    clear hE he hat hp
    go_upto_region 14 with fail
    go_cut [111] (fun c wx => c = .bool true ∧ wx = w7)
    case first =>
     go_wp2
     go_meet
     exact ⟨by first | rfl | (simp;done) | (simp;omega),rfl⟩
    obtain ⟨rfl,rfl⟩:=hcut
    rename World => w7
    go_wp2_with fail
    with_reducible refine (Tb.feasible zMY.out).mono ?_
    rintro e y1 ⟨rfl,hb⟩
    have zMZ:=hid (zad hb zM3.out)
    have zM0:=hid (zad hb zM4.out)
    have zM1:=hid (zad hb zM5.out)
    have zM2:=hid (zMY.out.below hb)
    have zNi:=hid (zNh.out.below hb)
    have zNt:=hid (zNg.out.trans ((hb).mono zNg.out.size))
    obtain ⟨zNj,zM6,zNk,zM7⟩:=bc2 zMZ.out
    obtain ⟨zNl,zM8,zNm,zM9⟩:=bc2 zM0.out
    obtain ⟨zNn,zNa,zNo,zNb,zNp,zNc,zNq,zNd,zNr,zNe,zNs,zNf⟩:=bc6 zM1.out
    clear hb
    rw [HE2.out]
    go_wp2_with fail
    with_reducible refine (Du.leave zM2.out).mono ?_
    rintro e y2 ⟨rfl,hb⟩
    have zCi:=hid (zad hb zMZ.out)
    have zCk:=hid (zad hb zM0.out)
    have zCm:=hid (zad hb zM1.out)
    have zNP:=hid (zM2.out.below hb)
    have zN7:=hid (zNi.out.below hb)
    have zNC:=hid (zNt.out.trans ((hb).mono zNt.out.size))
    obtain ⟨zGI,zEA,zGL,zEC⟩:=bc2 zCi.out
    obtain ⟨zGR,zEE,zGT,zEF⟩:=bc2 zCk.out
    obtain ⟨zG4,zEK,zG7,zEL,zHa,zEM,zHd,zEN,zHg,zEO,zHj,zEP⟩:=bc6 zCm.out
    clear hb
    rw [HE1.out]
    have hp:zbh (none:Option Nat) = -1:=rfl
    rw [hp]
    go_wp2
    go_ret
    exact ⟨rfl,zNC.out⟩
   | some k =>
    have hE:=HOK.out.e3 k he hat
    have HKR:=hid hE.1
    have HE1:=hid hE.2.1
    have HE2:=hid hE.2.2.1
    have HE3:=hid hE.2.2.2
    have hp:zbh (some k) = (k:Int):=rfl
    have HP9:=hid hp
    rw [hp]
    have hk0:¬ (k:Int) < 0:=by omega
    have hk1:(0:Int) ≤ (k:Int):=Int.natCast_nonneg _
    have hk2:(k:Int) < (nR:Int):=by have:=hE.1;omega
    clear hE he hat hp
    go_upto_region 14 with fail
    go_cut [111] (fun c wx => c = .bool false ∧ wx = w7)
    case first =>
     go_wp2
     go_meet
     exact ⟨by first | rfl | (simp;done) | (simp;omega),rfl⟩
    obtain ⟨rfl,rfl⟩:=hcut
    rename World => w7
    go_wp2_with fail
    with_reducible refine (Tb.line zMY.out k HKR.out HCAP.out).mono ?_
    rintro e y1 ⟨A1,n1,c1,rfl,hv,hb⟩
    have zMZ:=hid (zad hb zM3.out)
    have zM0:=hid (zad hb zM4.out)
    have zM1:=hid (zad hb zM5.out)
    have zM2:=hid (zMY.out.below hb)
    have zNi:=hid (zNh.out.below hb)
    have HLV:=hid (show VecS y1 w7.heap.size (.slice A1 n1 c1) (zk8 N (zc3 rows) r.cols k) from hv)
    have zNt:=hid (zNg.out.trans ((hb).mono zNg.out.size))
    obtain ⟨zNj,zM6,zNk,zM7⟩:=bc2 zMZ.out
    obtain ⟨zNl,zM8,zNm,zM9⟩:=bc2 zM0.out
    obtain ⟨zNn,zNa,zNo,zNb,zNp,zNc,zNq,zNd,zNr,zNe,zNs,zNf⟩:=bc6 zM1.out
    clear hv hb
    go_wp2_with fail
    with_reducible refine (Du.leave zM2.out).mono ?_
    rintro e y2 ⟨rfl,hb⟩
    have zCi:=hid (zad hb zMZ.out)
    have zCk:=hid (zad hb zM0.out)
    have zCm:=hid (zad hb zM1.out)
    have zNP:=hid (zM2.out.below hb)
    have zN7:=hid (zNi.out.below hb)
    have zN6:=hid (HLV.out.below hb)
    have zNC:=hid (zNt.out.trans ((hb).mono zNt.out.size))
    obtain ⟨zGI,zEA,zGL,zEC⟩:=bc2 zCi.out
    obtain ⟨zGR,zEE,zGT,zEF⟩:=bc2 zCk.out
    obtain ⟨zG4,zEK,zG7,zEL,zHa,zEM,zHd,zEN,zHg,zEO,zHj,zEP⟩:=bc6 zCm.out
    clear hb
    rw [HE1.out,HP9.out]
    go_wp2_with fail
    with_reducible refine (Vc.below A1 n1 c1 (zk8 N (zc3 rows) r.cols k) w7.heap.size _ zN6.out).mono ?_
    rintro e y3 ⟨rfl,hb⟩
    have zCj:=hid (zad hb zCi.out)
    have zx3:=hid (zad hb zCk.out)
    have zNS:=hid (zad hb zCm.out)
    have zN9:=hid (zNP.out.below hb)
    have zFP:=hid (zNC.out.trans ((hb).mono zNC.out.size))
    obtain ⟨zGJ,zEB,zGM,zED⟩:=bc2 zCj.out
    obtain ⟨zzF,zws,zzI,zwt⟩:=bc2 zx3.out
    obtain ⟨zO1,zOq,zO5,zOu,zO9,zOy,zPd,zOC,zPh,zOG,zPl,zOK⟩:=bc6 zNS.out
    clear hb
    rw [HE2.out]
    go_wp2_with fail
    with_reducible refine (Tb.values zN9.out).mono ?_
    rintro e y4 ⟨A2,c2,rfl,hv,hb⟩
    have zNQ:=hid (zad hb zCj.out)
    have zNR:=hid (zad hb zx3.out)
    have zNT:=hid (zad hb zNS.out)
    have HVV:=hid (show VecS y4 y3.heap.size (.slice A2 nR c2) (za5 (zc3 rows) (zg8 rows) r.cols) from hv)
    have zN5:=hid (zFP.out.trans ((hb).mono zFP.out.size))
    obtain ⟨zOP,zOe,zOS,zOh⟩:=bc2 zNQ.out
    obtain ⟨zOV,zOk,zOY,zOn⟩:=bc2 zNR.out
    obtain ⟨zO2,zOr,zO6,zOv,zPa,zOz,zPe,zOD,zPi,zOH,zPm,zOL⟩:=bc6 zNT.out
    clear hv hb
    obtain ⟨b2,rfl,hb20,hb21⟩:=HVV.out.has (by have:=HKR.out;omega)
    obtain ⟨ga,Aa,ma,ca,Da,mda,cda,z0,z1,z2,hRa⟩:=HVV.out.at_ (k:=k) (zaH (by rw [← HVV.out.len];exact HKR.out))
    have HRA:=hid hRa
    clear hRa
    go_wp2_with fail
    with_reducible refine (Rt.sign ga Aa ma ca Da mda cda (el (za5 (zc3 rows) (zg8 rows) r.cols) k) _ HRA.out).mono ?_
    rintro e y5 ⟨rfl,hb⟩
    have zOa:=hid (zad hb zNQ.out)
    have zOb:=hid (zad hb zNR.out)
    have zOc:=hid (zad hb zNT.out)
    have zON:=hid (zN5.out.trans ((hb).mono zN5.out.size))
    obtain ⟨zOQ,zOf,zOT,zOi⟩:=bc2 zOa.out
    obtain ⟨zOW,zOl,zOZ,zOo⟩:=bc2 zOb.out
    obtain ⟨zO3,zOs,zO7,zOw,zPb,zOA,zPf,zOE,zPj,zOI,zPn,zOM⟩:=bc6 zOc.out
    clear hb
    have hsg:(el (za5 (zc3 rows) (zg8 rows) r.cols) k).num.sign < 0:=zrN HE3.out
    have hsg2:(el (za5 (zc3 rows) (zg8 rows) r.cols) k).num < 0:=zeh.2 HE3.out
    go_wp2
    go_ret
    exact ⟨by simp [HE3.out,hsg2],zON.out⟩
  ·have hE:=HOK.out.e1 he
   have HE0:=hid hE.1
   obtain ⟨k,hk⟩:=hE.2.2
   have HE1:=hid hk
   have KFB:=hid hfb
   have KF7:=hid (zad (show Below w6.heap.size w6 w7 from HB67.out) hfb)
   have hrn:decide ((r.n:Int) = wrap64 (B.tmod 6)) = true:=by rw [HK.out,HE0.out];simp
   have hrn2:((r.n:Int) == wrap64 (B.tmod 6)) = true:=by rw [HK.out,HE0.out];simp
   clear hE hk hfb he
   go_wp2_with fail
   with_reducible refine (Err.is_pFault fb _ (zac KF7.out 2)).mono ?_
   rintro e y1 ⟨rfl,rfl⟩
   go_wp2_with fail
   with_reducible refine (Du.leave zMY.out).mono ?_
   rintro e y2 ⟨rfl,hb⟩
   have zMZ:=hid (zad hb zM3.out)
   have zM0:=hid (zad hb zM4.out)
   have zM1:=hid (zad hb zM5.out)
   have zM2:=hid (zMY.out.below hb)
   have zNi:=hid (zNh.out.below hb)
   have zNt:=hid (zNg.out.trans ((hb).mono zNg.out.size))
   obtain ⟨zNj,zM6,zNk,zM7⟩:=bc2 zMZ.out
   obtain ⟨zNl,zM8,zNm,zM9⟩:=bc2 zM0.out
   obtain ⟨zNn,zNa,zNo,zNb,zNp,zNc,zNq,zNd,zNr,zNe,zNs,zNf⟩:=bc6 zM1.out
   clear hb
   rw [HE1.out]
   have hp:zbh (some k) = (k:Int):=rfl
   rw [hp]
   have hk1:(0:Int) ≤ (k:Int):=Int.natCast_nonneg _
   go_wp2
   go_ret
   exact ⟨rfl,zNt.out⟩
end Lw
end Go.Proofs.YtdbgbaiekpbaoaaGreatDoor
