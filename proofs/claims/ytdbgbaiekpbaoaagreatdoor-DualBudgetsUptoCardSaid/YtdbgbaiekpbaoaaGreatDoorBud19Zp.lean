/- actuarylaw19.DualBudgets hands back true. Conditions: as it says;errors.errorType holds its handle. -/
import Derived.Test.YtdbgbaiekpbaoaaGreatDoorDuNZp
import Derived.Test.YtdbgbaiekpbaoaaGreatDoorSlv19Zp
set_option linter.all false
namespace Go.Proofs.YtdbgbaiekpbaoaaGreatDoor
open Go.RowKit Am
open Lib (hid)
attribute [local go_sem ↓] Go.wp_at_zero Go.wp_at_succ
set_option maxHeartbeats 2000000
set_option maxRecDepth 100000
theorem zMm (fb:Nat) (K:Int) (w:World) (h0:w.cell? ⟨fb,0,none⟩ = some (.string zve)) (h1:w.cell? ⟨fb,1,none⟩ = some (.int .i64 K)) (h2:w.cell? ⟨fb,2,none⟩ = some (.iface 59 (.int .i64 180))) (hg:w.cell? ⟨0,0,none⟩ = some Err.HandleV) :
  Calls Tryz.prog 19 #[.iface 195 (.pointer (some ⟨fb,0,none⟩)), .int .i64 180, .string { data := #[112,105,118,111,116] }, .int .i64 K] w fun ev w' => ev = .returned (.bool true) ∧ Below w.heap.size w w' :=
 Err.told_Fault fb zve 180 K w h0 h1 h2 hg (by first | decide | kernel_rfl)
namespace Lw
theorem budgets (A:Option Addr) (nA cA:Nat) (L:Option Addr) (nL cL:Nat) (cs:List (Int × Int)) (ls:List LineV) (B:Int) (w:World) (hf:zcs w A cs) (hlines:zex w L ls) (hn:nA = cs.length) (hm:nL = ls.length) (hb:nA ≤ cA) (hb2:nL ≤ cL) (hc:cA ≤ 9223372036854775807) (hc2:cL ≤ 9223372036854775807) (hB0:0 ≤ B) (hB1:B < 256) (hg:w.cell? ⟨0,0,none⟩ = some Err.HandleV) :
  Calls Tryz.prog 4 #[.agg #[.slice A nA cA, .slice L nL cL], .int .u8 B] w fun e w' => e = .returned (.bool true) ∧ Below w.heap.size w w':=by
 have HN:=hid hn
 have HM:=hid hm
 have HB1:=hid hb
 have HB2:=hid hb2
 have HB3:=hid hc
 have HB4:=hid hc2
 have HG0:=hid hg
 obtain ⟨K,hK,hK8⟩:∃ K:Nat,B.tmod 8 = (K:Int) ∧ K < 8:=⟨(B % 8).toNat,by rw [Int.tmod_eq_emod_of_nonneg hB0];omega,by omega⟩
 have HK:=hid hK
 clear hn hm hb hb2 hc hc2 hg hK hB0 hB1
 obtain ⟨W,hW⟩:∃ W,(w.alloc (.cells #[.slice A nA cA, .slice L nL cL] 44)) = W:=⟨_,rfl⟩
 have KB0:=hid (show W.heap[w.heap.size]? = some (.cells #[.slice A nA cA, .slice L nL cL] 44 (0,0)) by rw [← hW];exact zam (by simp))
 have BB:=hid (show Below w.heap.size w W by rw [← hW];exact zae w _)
 have HF:=hid (show zcs W A cs by rw [← hW];exact (hf).alloc _)
 have HL:=hid (show zex W L ls by rw [← hW];exact (hlines).alloc _)
 obtain ⟨zaK,zaz,zaL,zaA⟩:=bc2 KB0.out
 have HGW:W.cell? ⟨0,0,none⟩ = some Err.HandleV:=by rw [← hW];exact cell_al HG0.out
 have HGWd:=zaa HGW
 clear hf hlines
 go_enter Tryz.func4,Tryz.ntmps4
 go_wp2_with fail
 clear hW
 with_reducible refine (zzh _ HGW).mono ?_
 rintro e w1 ⟨rfl,hb⟩
 have zaq:=hid (zad hb KB0.out)
 have zMS:=hid (HF.out.below hb)
 have zMV:=hid (HL.out.below hb)
 have zaQ:=hid (BB.out.trans ((hb).mono BB.out.size))
 obtain ⟨zaI,zat,zaJ,zau⟩:=bc2 zaq.out
 have zbJ:=zab hb HGW
 have x0_1d:=zaa zbJ
 clear hb
 go_wp2_with fail
 with_reducible refine (zLV A nA cA L nL cL cs ls _ zMS.out zMV.out HN.out HM.out HB1.out HB2.out HB3.out HB4.out).mono ?_
 rintro e w2 ⟨C,nC,cC,R,nR,cR,T,tc,cost,rows,rfl,hv,hl,hi,hch,hb⟩
 have zaD:=hid (zad hb zaq.out)
 have HC:=hid (show VecS w2 0 (.slice C nC cC) cost from (hv.base (Nat.zero_le _)))
 have HR:=hid (show RowsS w2 0 (.slice R nR cR) rows from (hl.base (Nat.zero_le _)))
 have HI:=hid (show IntsS w2 0 (.slice T nR tc) (zli nC nR) from (hi.base (Nat.zero_le _)))
 have zbj:=hid (zaQ.out.trans ((hb).mono zaQ.out.size))
 obtain ⟨zaU,zaE,zaV,zaF⟩:=bc2 zaD.out
 have zcX:=zab hb zbJ
 have x0_2d:=zaa zcX
 have HCH:=hid hch
 clear hv hl hi hch hb
 have hb3z:=zae w2 (.cells #[.slice C nC cC, .slice R nR cR] 47)
 have zbn:=hid (zad hb3z zaD.out)
 have zEw:=hid (HC.out.below hb3z)
 have zB7:=hid (HR.out.below hb3z)
 have zF0:=hid (HI.out.below hb3z)
 have zcc:=hid (zbj.out.trans ((hb3z).mono zbj.out.size))
 obtain ⟨zdg,zb0,zdh,zb1⟩:=bc2 zbn.out
 have zdO:=zab hb3z zcX
 have x0_3d:=zaa zdO
 have KP:=hid (zal w2 #[.slice C nC cC, .slice R nR cR] 47)
 obtain ⟨zdg,zb0,zdh,zb1⟩:=bc2 zbn.out
 obtain ⟨zhp,zeB,zhr,zeD⟩:=bc2 KP.out
 have zdO:=zab hb3z zcX
 have x0_3d:=zaa zdO
 obtain ⟨r,hr⟩:∃ r,pivs (zKg nC nR cost rows) 4000 (zli nC nR) = r:=⟨_,rfl⟩
 have HQ:=hid hr
 have HE:=hid (show (pivs (zKg nC nR cost rows) 4000 (zli nC nR)).err = false from HCH.out.ends)
 clear hr
 go_wp2_with fail
 with_reducible refine (Du.solve4 zEw.out zB7.out zF0.out HCH.out HQ.out).mono ?_
 rintro e w3 ⟨P,nP,cP,D,cD,rfl,hp,hd,hb⟩
 have zbo:=hid (zad hb zbn.out)
 have zcE:=hid (zad hb KP.out)
 have zI0:=hid (zEw.out.below hb)
 have zxZ:=hid (zB7.out.below hb)
 have zB0:=hid (zF0.out.below hb)
 have HP:=hid (show VecS w3 0 (.slice P nP cP) (zLF nC nR rows r) from (hp.base (Nat.zero_le _)))
 have HD:=hid (show VecS w3 0 (.slice D nR cD) (zLG cost rows r) from (hd.base (Nat.zero_le _)))
 have zdf:=hid (zcc.out.trans ((hb).mono zcc.out.size))
 obtain ⟨zcj,zbv,zck,zbw⟩:=bc2 zbo.out
 obtain ⟨zdR,zcH,zdS,zcI⟩:=bc2 zcE.out
 have zd6:=zab hb zdO
 have x0_4d:=zaa zd6
 clear hp hd hb
 have hb5z:=zae w3 (.cells #[.int .i64 (zLE r), .slice P nP cP, .slice D nR cD, .slice none 0 0, .int .i64 (r.n:Int)] 53)
 have zct:=hid (zad hb5z zbo.out)
 have zd9:=hid (zad hb5z zcE.out)
 have zMn:=hid (zI0.out.below hb5z)
 have zB8:=hid (zxZ.out.below hb5z)
 have zJQ:=hid (zB0.out.below hb5z)
 have zMK:=hid (HP.out.below hb5z)
 have zJP:=hid (HD.out.below hb5z)
 have ze3:=hid (zdf.out.trans ((hb5z).mono zdf.out.size))
 obtain ⟨zdP,zcF,zdQ,zcG⟩:=bc2 zct.out
 obtain ⟨zhq,zeC,zhs,zeE⟩:=bc2 zd9.out
 have zid:=zab hb5z zd6
 have x0_5d:=zaa zid
 have KR:=hid (zal w3 #[.int .i64 (zLE r), .slice P nP cP, .slice D nR cD, .slice none 0 0, .int .i64 (r.n:Int)] 53)
 obtain ⟨zdP,zcF,zdQ,zcG⟩:=bc2 zct.out
 obtain ⟨zhq,zeC,zhs,zeE⟩:=bc2 zd9.out
 obtain ⟨zkt,zgF,zkv,zgH,zkx,zgJ,zlT,zit,zlU,ziu⟩:=bc5 KR.out
 have zid:=zab hb5z zd6
 have x0_5d:=zaa zid
 clear zaK zaz zaL zaA zaI zat zaJ zau zbJ x0_1d zaU zaE zaV zaF zcX x0_2d zdg zb0 zdh zb1 zdO x0_3d zhp zeB zhr zeD zcj zbv zck zbw zdR zcH zdS zcI zd6 x0_4d
 go_upto_region 5 with fail
 go_cut [9] (fun c wx => c = .int .i64 (K:Int) ∧ wx = (w3.alloc (.cells #[.int .i64 (zLE r), .slice P nP cP, .slice D nR cD, .slice none 0 0, .int .i64 (r.n:Int)] 53)))
 case first =>
  go_wp2
  go_meet
  exact ⟨by have:=HK.out;first | (rw [this];exact congrArg _ (by unfold wrap64;omega)) | (rw [this];unfold IntKind.wrap IntKind.signed IntKind.bits;simp;omega) | (simp [this];done) | (simp [this,IntKind.wrap,IntKind.signed,IntKind.bits];omega),rfl⟩
 obtain ⟨rfl,rfl⟩:=hcut
 go_wp2_with fail
 by_cases hlt:K < r.n
 ·have hlti:(K:Int) < (r.n:Int):=by omega
  with_reducible refine (Du.solveKL zMn.out zB8.out zJQ.out HCH.out HQ.out K hlt).mono ?_
  rintro e w4 ⟨fb,rfl,hf,hb⟩
  have zd8:=hid (zad hb zct.out)
  have zig:=hid (zad hb zd9.out)
  have zgv:=hid (zad hb KR.out)
  have zMq:=hid (zMn.out.below hb)
  have zEy:=hid (zB8.out.below hb)
  have zMw:=hid (zJQ.out.below hb)
  have zMz:=hid (zMK.out.below hb)
  have zMu:=hid (zJP.out.below hb)
  have zlw:=hid (ze3.out.trans ((hb).mono ze3.out.size))
  obtain ⟨zhn,zez,zho,zeA⟩:=bc2 zd8.out
  obtain ⟨zlN,zin,zlO,zio⟩:=bc2 zig.out
  obtain ⟨zlQ,ziq,zlR,zir,zlS,zis,zrg,zm5,zrh,zm6⟩:=bc5 zgv.out
  have zqL:=zab hb zid
  have x0_6d:=zaa zqL
  have KF:=hid hf
  clear hf hb
  have hb7z:=zae w4 (.cells #[.int .i64 0, .slice none 0 0, .slice none 0 0, .slice none 0 0, .int .i64 0] 53)
  have zew:=hid (zad hb7z zd8.out)
  have zv1:=hid (zad hb7z zig.out)
  have zv2:=hid (zad hb7z zgv.out)
  have zMr:=hid (zMq.out.below hb7z)
  have zJZ:=hid (zEy.out.below hb7z)
  have zMx:=hid (zMw.out.below hb7z)
  have zMo:=hid (zMz.out.below hb7z)
  have zMv:=hid (zMu.out.below hb7z)
  have zxW:=hid (zlw.out.trans ((hb7z).mono zlw.out.size))
  obtain ⟨zkc,zgw,zkd,zgx⟩:=bc2 zew.out
  obtain ⟨zCI,zzG,zCK,zzJ⟩:=bc2 zv1.out
  obtain ⟨zCW,zzZ,zCX,zz0,zCY,zz1,zCZ,zz2,zC0,zz3⟩:=bc5 zv2.out
  have zsG:=zab hb7z zqL
  have x0_7d:=zaa zsG
  have KS:=hid (zal w4 #[.int .i64 0, .slice none 0 0, .slice none 0 0, .slice none 0 0, .int .i64 0] 53)
  obtain ⟨zkc,zgw,zkd,zgx⟩:=bc2 zew.out
  obtain ⟨zCI,zzG,zCK,zzJ⟩:=bc2 zv1.out
  obtain ⟨zCW,zzZ,zCX,zz0,zCY,zz1,zCZ,zz2,zC0,zz3⟩:=bc5 zv2.out
  obtain ⟨zL4,zLL,zL6,zLN,zL8,zLP,zMa,zLR,zMc,zLT⟩:=bc5 KS.out
  have zsG:=zab hb7z zqL
  have x0_7d:=zaa zsG
  have KF2:=hid (zad (zae w4 (.cells #[.int .i64 0, .slice none 0 0, .slice none 0 0, .slice none 0 0, .int .i64 0] 53)) KF.out)
  go_wp2_with fail
  with_reducible refine (zMm fb (K:Int) _ (zac KF2.out 0) (zac KF2.out 1) (zac KF2.out 2) zsG).mono ?_
  rintro e w5 ⟨rfl,hb⟩
  have zsO:=hid (zad hb zew.out)
  have zCl:=hid (zad hb zv1.out)
  have zCn:=hid (zad hb zv2.out)
  have zLm:=hid (zad hb KS.out)
  have zMR:=hid (zMr.out.below hb)
  have zMX:=hid (zJZ.out.below hb)
  have zMU:=hid (zMx.out.below hb)
  have zMW:=hid (zMo.out.below hb)
  have zMJ:=hid (zMv.out.below hb)
  have zIZ:=hid (zxW.out.trans ((hb).mono zxW.out.size))
  obtain ⟨zt6,zt7,zt8,zt9⟩:=bc2 zsO.out
  obtain ⟨zCJ,zzH,zCL,zzK⟩:=bc2 zCl.out
  obtain ⟨zJh,zG5,zJj,zG8,zJl,zHb,zJn,zHe,zJp,zHh⟩:=bc5 zCn.out
  obtain ⟨zL5,zLM,zL7,zLO,zL9,zLQ,zMb,zLS,zMd,zLU⟩:=bc5 zLm.out
  have zvD:=zab hb zsG
  have x0_8d:=zaa zvD
  clear hb
  go_wp2
  go_ret
  exact ⟨rfl,zIZ.out⟩
 ·have hlti:¬ (K:Int) < (r.n:Int):=by omega
  have HSZ:=hid (HCH.out.sizes HE.out)
  rw [HQ.out] at HSZ
  with_reducible refine (Du.solveK zMn.out zB8.out zJQ.out HCH.out HQ.out K (by omega) (by omega)).mono ?_
  rintro e w4 ⟨P2,nP2,cP2,D2,cD2,rfl,hp,hd,hb⟩
  have zd8:=hid (zad hb zct.out)
  have zig:=hid (zad hb zd9.out)
  have zgv:=hid (zad hb KR.out)
  have zMq:=hid (zMn.out.below hb)
  have zEy:=hid (zB8.out.below hb)
  have zMw:=hid (zJQ.out.below hb)
  have zMz:=hid (zMK.out.below hb)
  have zMu:=hid (zJP.out.below hb)
  have HP2:=hid (show VecS w4 0 (.slice P2 nP2 cP2) (zLF nC nR rows r) from (hp.base (Nat.zero_le _)))
  have HD2:=hid (show VecS w4 0 (.slice D2 nR cD2) (zLG cost rows r) from (hd.base (Nat.zero_le _)))
  have zlw:=hid (ze3.out.trans ((hb).mono ze3.out.size))
  obtain ⟨zhn,zez,zho,zeA⟩:=bc2 zd8.out
  obtain ⟨zlN,zin,zlO,zio⟩:=bc2 zig.out
  obtain ⟨zlQ,ziq,zlR,zir,zlS,zis,zrg,zm5,zrh,zm6⟩:=bc5 zgv.out
  have zqL:=zab hb zid
  have x0_6d:=zaa zqL
  clear hp hd hb
  have hb7z:=zae w4 (.cells #[.int .i64 (zLE r), .slice P2 nP2 cP2, .slice D2 nR cD2, .slice none 0 0, .int .i64 (r.n:Int)] 53)
  have zew:=hid (zad hb7z zd8.out)
  have zv1:=hid (zad hb7z zig.out)
  have zv2:=hid (zad hb7z zgv.out)
  have zMr:=hid (zMq.out.below hb7z)
  have zJZ:=hid (zEy.out.below hb7z)
  have zMx:=hid (zMw.out.below hb7z)
  have zMo:=hid (zMz.out.below hb7z)
  have zMv:=hid (zMu.out.below hb7z)
  have zMy:=hid (HP2.out.below hb7z)
  have zMs:=hid (HD2.out.below hb7z)
  have zxW:=hid (zlw.out.trans ((hb7z).mono zlw.out.size))
  obtain ⟨zkc,zgw,zkd,zgx⟩:=bc2 zew.out
  obtain ⟨zCI,zzG,zCK,zzJ⟩:=bc2 zv1.out
  obtain ⟨zCW,zzZ,zCX,zz0,zCY,zz1,zCZ,zz2,zC0,zz3⟩:=bc5 zv2.out
  have zsG:=zab hb7z zqL
  have x0_7d:=zaa zsG
  have KS:=hid (zal w4 #[.int .i64 (zLE r), .slice P2 nP2 cP2, .slice D2 nR cD2, .slice none 0 0, .int .i64 (r.n:Int)] 53)
  obtain ⟨zkc,zgw,zkd,zgx⟩:=bc2 zew.out
  obtain ⟨zCI,zzG,zCK,zzJ⟩:=bc2 zv1.out
  obtain ⟨zCW,zzZ,zCX,zz0,zCY,zz1,zCZ,zz2,zC0,zz3⟩:=bc5 zv2.out
  obtain ⟨zL4,zLL,zL6,zLN,zL8,zLP,zMa,zLR,zMc,zLT⟩:=bc5 KS.out
  have zsG:=zab hb7z zqL
  have x0_7d:=zaa zsG
  go_wp2_with fail
  with_reducible refine (zKK (sB nR 1 1) HCH.out.cap P2 nP2 cP2 (zLF nC nR rows r) P nP cP _ zMy.out zMo.out HSZ.out.1).mono ?_
  rintro e w5 ⟨rfl,hb⟩
  have zsO:=hid (zad hb zew.out)
  have zCl:=hid (zad hb zv1.out)
  have zCn:=hid (zad hb zv2.out)
  have zLm:=hid (zad hb KS.out)
  have zMR:=hid (zMr.out.below hb)
  have zMX:=hid (zJZ.out.below hb)
  have zMU:=hid (zMx.out.below hb)
  have zMW:=hid (zMo.out.below hb)
  have zMJ:=hid (zMv.out.below hb)
  have zMt:=hid (zMs.out.below hb)
  have zIZ:=hid (zxW.out.trans ((hb).mono zxW.out.size))
  obtain ⟨zt6,zt7,zt8,zt9⟩:=bc2 zsO.out
  obtain ⟨zCJ,zzH,zCL,zzK⟩:=bc2 zCl.out
  obtain ⟨zJh,zG5,zJj,zG8,zJl,zHb,zJn,zHe,zJp,zHh⟩:=bc5 zCn.out
  obtain ⟨zL5,zLM,zL7,zLO,zL9,zLQ,zMb,zLS,zMd,zLU⟩:=bc5 zLm.out
  have zvD:=zab hb zsG
  have x0_8d:=zaa zvD
  clear hb
  go_wp2_with fail
  with_reducible refine (zKK (sB nR 1 1) HCH.out.cap D2 nR cD2 (zLG cost rows r) D nR cD _ zMt.out zMJ.out HSZ.out.2).mono ?_
  rintro e w6 ⟨rfl,hb⟩
  have zGB:=hid (zad hb zsO.out)
  have zGC:=hid (zad hb zCl.out)
  have zGD:=hid (zad hb zCn.out)
  have zMB:=hid (zad hb zLm.out)
  have zMQ:=hid (zIZ.out.trans ((hb).mono zIZ.out.size))
  obtain ⟨zI5,zGK,zI6,zGN⟩:=bc2 zGB.out
  obtain ⟨zJa,zGS,zJb,zGU⟩:=bc2 zGC.out
  obtain ⟨zJi,zG6,zJk,zG9,zJm,zHc,zJo,zHf,zJq,zHi⟩:=bc5 zGD.out
  obtain ⟨zML,zME,zMM,zMF,zMN,zMG,zMO,zMH,zMP,zMI⟩:=bc5 zMB.out
  have zFF:=zab hb zvD
  have x0_9d:=zaa zFF
  clear hb
  go_wp2
  go_ret
  exact ⟨rfl,zMQ.out⟩
end Lw
end Go.Proofs.YtdbgbaiekpbaoaaGreatDoor
