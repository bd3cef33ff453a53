/- actuarylaw19.DualShows hands back true. Conditions: as it says;errors.errorType holds its handle. -/
import Derived.Test.YtdbgbaiekpbaoaaGreatDoorAw19Zp
import Derived.Test.YtdbgbaiekpbaoaaGreatDoorSvZp
set_option linter.all false
namespace Go.Proofs.YtdbgbaiekpbaoaaGreatDoor
open Go.RowKit Am
open Lib (hid)
attribute [local go_sem ↓] Go.wp_at_zero Go.wp_at_succ
set_option maxHeartbeats 2000000
set_option maxRecDepth 100000
namespace Lw
open Pb (zPu)
open Vc (zMp)
theorem shows (A:Option Addr) (nA cA:Nat) (L:Option Addr) (nL cL:Nat) (cs:List (Int × Int)) (ls:List LineV) (w:World) (hf:zcs w A cs) (hlines:zex w L ls) (hn:nA = cs.length) (hm:nL = ls.length) (hb:nA ≤ cA) (hb2:nL ≤ cL) (hc:cA ≤ 9223372036854775807) (hc2:cL ≤ 9223372036854775807) (hg:w.cell? ⟨0,0,none⟩ = some Err.HandleV) :
  Calls Tryz.prog 7 #[.agg #[.slice A nA cA, .slice L nL cL]] w fun e w' => e = .returned (.bool true) ∧ Below w.heap.size w w':=by
 have HN:=hid hn
 have HM:=hid hm
 have HB1:=hid hb
 have HB2:=hid hb2
 have HB3:=hid hc
 have HB4:=hid hc2
 have HG0:=hid hg
 clear hn hm hb hb2 hc hc2 hg
 obtain ⟨W,hW⟩:∃ W,(w.alloc (.cells #[.slice A nA cA, .slice L nL cL] 44)) = W:=⟨_,rfl⟩
 have KB0:=hid (show W.heap[w.heap.size]? = some (.cells #[.slice A nA cA, .slice L nL cL] 44 (0,0)) by rw [← hW];exact zam (by simp))
 have BB:=hid (show Below w.heap.size w W by rw [← hW];exact zae w _)
 have HF:=hid (show zcs W A cs by rw [← hW];exact (hf).alloc _)
 have HL:=hid (show zex W L ls by rw [← hW];exact (hlines).alloc _)
 have HGW:W.cell? ⟨0,0,none⟩ = some Err.HandleV:=by rw [← hW];exact cell_al HG0.out
 clear hf hlines
 go_enter Tryz.func7,Tryz.ntmps7
 go_wp2_with fail
 clear hW
 with_reducible refine (zzh _ HGW).mono ?_
 rintro e w1 ⟨rfl,hb⟩
 have zaq:=hid (zad hb KB0.out)
 have zMS:=hid (HF.out.below hb)
 have zMV:=hid (HL.out.below hb)
 have zaQ:=hid (BB.out.trans ((hb).mono BB.out.size))
 obtain ⟨zaI,_,zaJ,_⟩:=bc2 zaq.out
 clear hb
 go_wp2_with fail
 with_reducible refine (zLV A nA cA L nL cL cs ls _ zMS.out zMV.out HN.out HM.out HB1.out HB2.out HB3.out HB4.out).mono ?_
 rintro e w2 ⟨C,nC,cC,R,nR,cR,T,tc,cost,rows,rfl,hv,hl,hi,hch,hb⟩
 have HC:=hid (show VecS w2 0 (.slice C nC cC) cost from (hv.base (Nat.zero_le _)))
 have HR:=hid (show RowsS w2 0 (.slice R nR cR) rows from (hl.base (Nat.zero_le _)))
 have HI:=hid (show IntsS w2 0 (.slice T nR tc) (zli nC nR) from (hi.base (Nat.zero_le _)))
 have zbj:=hid (zaQ.out.trans ((hb).mono zaQ.out.size))
 have HCH:=hid hch
 clear hv hl hi hch hb
 have hb3z:=zae w2 (.cells #[.slice C nC cC, .slice R nR cR] 47)
 have zEw:=hid (HC.out.below hb3z)
 have zB7:=hid (HR.out.below hb3z)
 have zF0:=hid (HI.out.below hb3z)
 have zcc:=hid (zbj.out.trans ((hb3z).mono zbj.out.size))
 have KP:=hid (zal w2 #[.slice C nC cC, .slice R nR cR] 47)
 obtain ⟨zdg,_,zdh,_⟩:=bc2 KP.out
 obtain ⟨r,hr⟩:∃ r,pivs (zKg nC nR cost rows) 4000 (zli nC nR) = r:=⟨_,rfl⟩
 have HQ:=hid hr
 have HSH:=hid (HCH.out.shows hr)
 have HNC:=hid (show nC ≤ 1048576 by have:=HCH.out.g.hc;omega)
 have HNR:=hid HCH.out.g.hr
 have HRR:=hid (show Rows nC rows from fun p hp => ⟨(HCH.out.g.rw_ p hp).1,fun q hq => Nat.le_trans ((HCH.out.g.rw_ p hp).2.1 q hq) (by decide),Nat.le_trans (HCH.out.g.rw_ p hp).2.2 (by decide)⟩)
 clear hr
 go_wp2_with fail
 with_reducible refine (Du.solve4 zEw.out zB7.out zF0.out HCH.out HQ.out).mono ?_
 rintro e w3 ⟨P,nP,cP,D,cD,rfl,hp,hd,hb⟩
 have zbo:=hid (zad hb KP.out)
 have zI0:=hid (zEw.out.below hb)
 have zxZ:=hid (zB7.out.below hb)
 have HP:=hid (show VecS w3 0 (.slice P nP cP) (zLF nC nR rows r) from (hp.base (Nat.zero_le _)))
 have HD:=hid (show VecS w3 0 (.slice D nR cD) (zLG cost rows r) from (hd.base (Nat.zero_le _)))
 have zdf:=hid (zcc.out.trans ((hb).mono zcc.out.size))
 clear hp hd hb
 generalize zLG cost rows r = y at HSH HD
 generalize zLF nC nR rows r = x at HSH HP
 have hb5z:=zae w3 (.cells #[.int .i64 (zLE r), .slice P nP cP, .slice D nR cD, .slice none 0 0, .int .i64 (r.n:Int)] 53)
 have zct:=hid (zad hb5z zbo.out)
 have zMn:=hid (zI0.out.below hb5z)
 have zB8:=hid (zxZ.out.below hb5z)
 have zMK:=hid (HP.out.below hb5z)
 have zJP:=hid (HD.out.below hb5z)
 have ze3:=hid (zdf.out.trans ((hb5z).mono zdf.out.size))
 obtain ⟨zdP,_,zdQ,zcG⟩:=bc2 zct.out
 have KR:=hid (zal w3 #[.int .i64 (zLE r), .slice P nP cP, .slice D nR cD, .slice none 0 0, .int .i64 (r.n:Int)] 53)
 obtain ⟨zhq,zeC,zhs,zeE,ziU,zfs,_⟩:=bc5 KR.out
 clear zaI zaJ zdg zdh
 go_upto_region 5 with fail
 generalize hwS:(w3.alloc (.cells #[.int .i64 (zLE r), .slice P nP cP, .slice D nR cD, .slice none 0 0, .int .i64 (r.n:Int)] 53)) = wS at *
 clear hwS
 go_wp2_with (at_make;go_must (refine zdv rfl _ _ rfl nC _ rfl rfl rfl HNC.out wS.heap.size rfl ?_;intro w4 ho hb1;have hzW:=hb1.size;have zd8:=hid (zad hb1 zct.out);have zig:=hid (zad hb1 KR.out);have zMq:=hid (zMn.out.below hb1);have zEy:=hid (zB8.out.below hb1);have zMz:=hid (zMK.out.below hb1);have zMu:=hid (zJP.out.below hb1);have HO:=hid (show VecS w4 wS.heap.size (.slice (some ⟨wS.heap.size,0,none⟩) nC nC) (List.replicate nC 0) from ho);have zlw:=hid (ze3.out.trans ((hb1).mono ze3.out.size));obtain ⟨_,_,zho,zeA⟩:=bc2 zd8.out;obtain ⟨zlN,zin,zlO,zio,zoi,zkf,_⟩:=bc5 zig.out;clear ho hb1))
 generalize hoo:zLE r = oo at *
 have HOO:=hid hoo
 clear hoo
 go_loopw [7,9] (fun ov i wr => ∃ (k:Nat) (S:Option Addr) (cs:Nat) (gs:Bool) (As:Option Addr) (ms cps:Nat) (Ds:Option Addr) (mds cds:Nat),i = .int .i64 k ∧ ov = .slice S nC cs ∧ k ≤ nR ∧ VecS wr wS.heap.size (.slice S nC cs) (zPA nC y rows k) ∧ wr.heap[w4.heap.size]? = some (.cells #[.bool gs, .slice As ms cps, .slice Ds mds cds] 35 (0,0)) ∧ RatS wr gs (.slice As ms cps) (.slice Ds mds cds) (zPV y rows k) ∧ Below w4.heap.size w4 wr)
  (fun _ i _ => nR - (intOf i).toNat)
 case atStart => exact ⟨0,_,_,_,_,_,_,_,_,_,rfl,rfl,Nat.zero_le _,HO.out.alloc _,zal _ _ _,RatS.zero _,zae w4 _⟩
 case round =>
  obtain ⟨k,S,cs,gs,As,ms,cps,Ds,mds,cds,rfl,rfl,hk,hV,hbox,hP,hB⟩:=hrel
  have hnr4:=HNR.out
  by_cases hlt:k < nR
  ·obtain ⟨p,hp⟩:∃ p,rows[k]? = some p:=⟨rows[k]'(by rw [HCH.out.lr];exact hlt),List.getElem?_eq_getElem _⟩
   obtain ⟨q,hq⟩:∃ q,y[k]? = some q:=⟨y[k]'(by rw [HSH.out.ly];exact hlt),List.getElem?_eq_getElem _⟩
   obtain ⟨b,rfl,hb0,hb1⟩:=zEy.out.has (by omega)
   obtain ⟨d,rfl,hd0,hd1⟩:=zMu.out.has (by omega)
   obtain ⟨Q,nq,cq,g,A1,m1,c1,D1,md1,cd1,k0,k1,k2,k3,k4,hvq,hrh⟩:=zEy.out.at_ hp
   obtain ⟨gb,Ab,mb,cb,Db,mdb,cdb,l0,l1,l2,hRb⟩:=zMu.out.at_ hq
   have HPR:=hid (HRR.out p (List.mem_of_getElem? hp))
   have HQZ:=hid (HSH.out.sy q (List.mem_of_getElem? hq))
   have HS1:=hid (show p.kind = 1 → q ≤ 0 by have:=HSH.out.s1 k hlt;rwa [zfC hp,znd hq] at this)
   have HS2:=hid (show p.kind ≠ 1 → 0 ≤ q by have:=HSH.out.s2 k hlt;rwa [zfC hp,znd hq] at this)
   have HKD:=hid (show p.kind = 1 ∨ p.kind = 2 by have h1:=HCH.out.g.kd p (List.mem_of_getElem? hp);have h2:=HCH.out.k3 p (List.mem_of_getElem? hp);omega)
   have HSV:=hid (zQg (n:=nC) hp hq)
   have HSB:=hid (zQd hp hq)
   obtain rfl:nC = nq:=by rw [hvq.len,HPR.out.1]
   generalize hkd:p.kind = kd at k1 HS1 HS2 HKD
   have HCL:=hid (And.intro l0 (And.intro l1 (And.intro l2 k1)))
   have HRB0:=hid hRb
   have hi1:(0:Int) ≤ (k:Int):=Int.natCast_nonneg _
   have hi2:(k:Int) < (nR:Int):=by omega
   have zJZ:=hid (zEy.out.below hB)
   have HV:=hid (show VecS wr wS.heap.size (.slice S nC cs) (zPA nC y rows k) from hV)
   have HPS:=hid (show RatS wr gs (.slice As ms cps) (.slice Ds mds cds) (zPV y rows k) from hP)
   have HRb:=hid (show RatS wr gb (.slice Ab mb cb) (.slice Db mdb cdb) q from (hRb.below hB))
   have HVQ:=hid (show VecS wr 0 (.slice Q nC cq) p.coef from (hvq.below hB))
   have HRH:=hid (show RatS wr g (.slice A1 m1 c1) (.slice D1 md1 cd1) p.rhs from (hrh.below hB))
   have HW:=hid (show Bel w4 wr from Bel.mk hB)
   have zxW:=hid (zlw.out.trans ((hB).mono zlw.out.size))
   have zsG:=zab hB zho
   have x0_7d:=zaa zsG
   have zBv:=zab hB zoi
   have x1_7d:=zaa zBv
   have zBx:wr.cell? ⟨d,k * 3,none⟩ = some (.bool gb):=zab hB l0
   have x2_7d:=zaa zBx
   have zBz:wr.cell? ⟨d,k * 3 + 1,none⟩ = some (.slice Ab mb cb):=zab hB l1
   have x3_7d:=zaa zBz
   have zBB:wr.cell? ⟨d,k * 3 + 2,none⟩ = some (.slice Db mdb cdb):=zab hB l2
   have x4_7d:=zaa zBB
   have zBD:wr.cell? ⟨b,k * 5,none⟩ = some (.slice Q nC cq):=zab hB k0
   have x5_7d:=zaa zBD
   have zBF:wr.cell? ⟨b,k * 5 + 2,none⟩ = some (.bool g):=zab hB k2
   have x6_7d:=zaa zBF
   have zBJ:wr.cell? ⟨b,k * 5 + 3,none⟩ = some (.slice A1 m1 c1):=zab hB k3
   have x7_7d:=zaa zBJ
   have zBO:wr.cell? ⟨b,k * 5 + 4,none⟩ = some (.slice D1 md1 cd1):=zab hB k4
   have x8_7d:=zaa zBO
   have KBO:=hid hbox
   obtain ⟨zkc,_,_,_,zkd,_⟩:=bf3 KBO.out
   have HLV:=hid (show (zPA nC y rows k).length = p.coef.length by rw [zPw HRR.out k (by rw [HCH.out.lr];exact hk),HPR.out.1])
   have HZV:=hid (show ∀ q ∈ zPA nC y rows k,mw q ≤ 10000000 from fun q hq => Nat.le_trans (zPD HRR.out HSH.out.sy k (by rw [HCH.out.lr];exact hk) q hq) (by have:=HNR.out;omega))
   have L1:=hid (show 4 * (mw q + mw p.rhs) + 8 ≤ LIM by have:=HQZ.out;have:=HPR.out.2.2;have:=zaP;omega)
   have L2:=hid (show 4 * (mw (zPV y rows k) + mw (q * p.rhs)) + 8 ≤ LIM by have:=HQZ.out;have:=HPR.out.2.2;have:=zaP;have:=zdI q p.rhs;have:=zQY HRR.out HSH.out.sy k;have:=HNR.out;omega)
   have hzr:w4.heap.size < wr.heap.size:=(Array.getElem?_eq_some_iff.1 hbox).1
   clear hV hbox hP hB hp hq hRb hvq hrh hkd k0 k1 k2 k3 k4 l0 l1 l2
   go_wp2_with fail
   refine zaS (S:=fun w' => w'.cell? ⟨w2.heap.size,1,none⟩ = some (.slice (some ⟨b,0,none⟩) nR cR) ∧ w'.cell? ⟨w3.heap.size,2,none⟩ = some (.slice (some ⟨d,0,none⟩) nR cD) ∧ w'.cell? ⟨d,k * 3,none⟩ = some (.bool gb) ∧ w'.cell? ⟨d,k * 3 + 1,none⟩ = some (.slice Ab mb cb) ∧ w'.cell? ⟨d,k * 3 + 2,none⟩ = some (.slice Db mdb cdb) ∧ w'.cell? ⟨b,k * 5,none⟩ = some (.slice Q nC cq)) [] (h:=fun hHeld => ?_)
   refine zaw [0,1,2,3,4,5,6,7,8,9,10,11] ?_
   repeat refine tkL (hS:=hHeld) (h:=?_)
   refine zao ?_
   refine zaB 12 (h:=fun K hK => ?_)
   go_simp
   (go_at_call 40;(with_reducible refine (zMp S nC cs (zPA nC y rows k) gb Ab mb cb Db mdb cdb q Q nC cq p.coef wS.heap.size 0 _ HV.out.drew HRb.out.drew HVQ.out.drew HLV.out HNC.out HZV.out (Nat.le_trans HQZ.out (by decide)) (fun q hq => Nat.le_trans (HPR.out.2.1 q hq) (by decide))).mono ?_);rintro e v1 ⟨S2,ns2,cs2,rfl,hn,hb⟩;have zsO:=hid (zad hb KBO.out);have zMX:=hid (zJZ.out.drew.below hb);have zQ6:=hid (HV.out.drew.below hb);have zPZ:=hid (HPS.out.drew.below hb);have zGj:=hid (HRb.out.drew.below hb);have zRU:=hid (HRH.out.drew.below hb);have zJ4:=hid (HW.out.drew.below hb);have HV2:=hid (show VecS v1 wr.heap.size (.slice S2 ns2 cs2) (zly (zPA nC y rows k) q p.coef) from hn);have zIZ:=hid (zxW.out.trans ((It.bdrew0' hb).mono zxW.out.size));obtain ⟨zt6,_,_,_,zt8,_,_,_,zya,_⟩:=bf3 zsO.out;have zvD:=zab hb x0_7d;have x0_8d:=zaa zvD;have zD9:=zab hb x1_7d;have x1_8d:=zaa zD9;have zEc:=zab hb x2_7d;have x2_8d:=zaa zEc;have zEf:=zab hb x3_7d;have x3_8d:=zaa zEf;have zEi:=zab hb x4_7d;have x4_8d:=zaa zEi;have zEl:=zab hb x5_7d;have zEn:=zab hb x6_7d;have x6_8d:=zaa zEn;have zEp:=zab hb x7_7d;have x7_8d:=zaa zEp;have zEr:=zab hb x8_7d;have x8_8d:=zaa zEr;clear hn hb)
   (try go_wp2_with fail)
   refine hK.out _ _ kp fun hHeld => ?_
   clear hK K
   try simp only [Act.put,pu1,pu2,pu3,pu4,pu5,pu6]
   refine zaw [13,14,15,16,17] ?_
   repeat refine tkL (hS:=hHeld) (h:=?_)
   refine zao ?_
   refine zaM (h:=?_)
   obtain rfl:nC = ns2:=by rw [HV2.out.len,zdt HLV.out,HLV.out,HPR.out.1]
   go_wp2_with fail
   go_cut [7] (fun ov wy => ∃ (g5:Bool) (A5:Option Addr) (m5 c5:Nat) (D5:Option Addr) (md5 cd5:Nat),ov = .slice S2 nC cs2 ∧ VecS wy wS.heap.size (.slice S2 nC cs2) (zPA nC y rows (k + 1)) ∧ wy.heap[w4.heap.size]? = some (.cells #[.bool g5, .slice A5 m5 c5, .slice D5 md5 cd5] 35 (0,0)) ∧ RatS wy g5 (.slice A5 m5 c5) (.slice D5 md5 cd5) (zPV y rows (k + 1)) ∧ Below w4.heap.size w4 wy)
   case first =>
    refine za2 (S:=fun w' => w'.cell? ⟨w4.heap.size,0,none⟩ = some (.bool gs) ∧ w'.cell? ⟨w4.heap.size,1,none⟩ = some (.slice As ms cps) ∧ w'.cell? ⟨w4.heap.size,2,none⟩ = some (.slice Ds mds cds) ∧ w'.cell? ⟨w2.heap.size,1,none⟩ = some (.slice (some ⟨b,0,none⟩) nR cR) ∧ w'.cell? ⟨w3.heap.size,2,none⟩ = some (.slice (some ⟨d,0,none⟩) nR cD) ∧ w'.cell? ⟨d,k * 3,none⟩ = some (.bool gb) ∧ w'.cell? ⟨d,k * 3 + 1,none⟩ = some (.slice Ab mb cb) ∧ w'.cell? ⟨d,k * 3 + 2,none⟩ = some (.slice Db mdb cdb) ∧ w'.cell? ⟨b,k * 5 + 2,none⟩ = some (.bool g) ∧ w'.cell? ⟨b,k * 5 + 3,none⟩ = some (.slice A1 m1 c1) ∧ w'.cell? ⟨b,k * 5 + 4,none⟩ = some (.slice D1 md1 cd1)) 16 (h:=fun hHeld => ?_)
    refine zaw [0,1,2,3,4,5,6,7,8,9,10,11,12] ?_
    repeat refine tkE (hS:=hHeld) (h:=?_)
    refine zao ?_
    refine zaN 13 (h:=fun K hK => ?_)
    go_simp
    (go_at_call 14;(with_reducible refine (Rt.mul gb Ab mb cb Db mdb cdb q g A1 m1 c1 D1 md1 cd1 p.rhs _ zGj.out.drew zRU.out.drew L1.out).mono ?_);rintro e v2 ⟨g3,A3,m3,c3,D3,md3,cd3,rfl,hn,hb⟩;have zGB:=hid (zad hb zsO.out);have zQ5:=hid (zMX.out.drew.below hb);have zPX:=hid (zPZ.out.drew.below hb);have zJ5:=hid (zJ4.out.drew.below hb);have zRW:=hid (HV2.out.drew.below hb);have HM:=hid (show RatS v2 g3 (.slice A3 m3 c3) (.slice D3 md3 cd3) (q * p.rhs) from hn);have zMQ:=hid (zIZ.out.trans ((It.bdrew0' hb).mono zIZ.out.size));obtain ⟨zI5,_,_,_,zI6,_,_,_,zSy,_⟩:=bf3 zGB.out;have zFF:=zab hb x0_8d;have zFG:=zab hb x1_8d;have zFH:=zab hb x2_8d;have zFI:=zab hb x3_8d;have zFJ:=zab hb x4_8d;have zFK:=zab hb x6_8d;have zFL:=zab hb x7_8d;have zFM:=zab hb x8_8d;clear hn hb)
    (try go_wp2_with fail)
    refine hK.out _ _ kp fun hHeld => ?_
    clear hK K
    try simp only [Act.put,pu1,pu2,pu3,pu4,pu5,pu6]
    refine zaN 14 (h:=fun K hK => ?_)
    go_simp
    (go_at_call 41;(with_reducible refine (Rt.add gs As ms cps Ds mds cds (zPV y rows k) g3 A3 m3 c3 D3 md3 cd3 (q * p.rhs) _ zPX.out HM.out L2.out).mono ?_);rintro e v3 ⟨g4,A4,m4,c4,D4,md4,cd4,rfl,hn,hb⟩;have zPx:=hid (zad hb zGB.out);have zQp:=hid (zQ5.out.below hb);have zPB:=hid (zPX.out.below hb);have zGw:=hid (zJ5.out.below hb);have zRj:=hid (zRW.out.below hb);have HS:=hid (show RatS v3 g4 (.slice A4 m4 c4) (.slice D4 md4 cd4) (zPV y rows k + q * p.rhs) from hn);have zPW:=hid (zMQ.out.trans ((hb).mono zMQ.out.size));obtain ⟨zP0,_,zSq,_,zP1,_,zSr,_,zSu,_,zSs,_⟩:=bf3 zPx.out;have zDS:=zab hb zFF;have zD7:=zab hb zFG;have zEa:=zab hb zFH;have zEd:=zab hb zFI;have zEg:=zab hb zFJ;have zEj:=zab hb zFK;have zEm:=zab hb zFL;have zEo:=zab hb zFM;clear hn hb)
    (try go_wp2_with fail)
    refine hK.out _ _ kp fun hHeld => ?_
    clear hK K
    try simp only [Act.put,pu1,pu2,pu3,pu4,pu5,pu6]
    refine zaw [15] ?_
    repeat refine tkE (hS:=hHeld) (h:=?_)
    refine zao ?_
    refine zba (h:=fun K hK => ?_)
    go_simp
    refine hK.out _ _ ?_
    clear hK K
    try simp only [Act.put,pu1,pu2,pu3,pu4,pu5,pu6]
    refine za1 (h:=?_)
    all_goals
     go_wp2
     go_meet
     case rel => exact ⟨g4,A4,m4,c4,D4,md4,cd4,rfl,by rw [HSV.out];exact (VecS.set3 zRj.out zPx.out (by decide) hzr 0 1 2 _ _ _).base (by omega),zar _ (zar _ (zar _ zPx.out)),by rw [HSB.out];exact HS.out.set3 zPx.out (by decide) _ _ _,(Bel.set3 zGw.out (Nat.le_refl _) _ _ _).b⟩
   case rest =>
    obtain ⟨g5,A5,m5,c5,D5,md5,cd5,rfl,hV,hbox,hP,hB⟩:=hcut
    rename World => wy
    have HV:=hid (show VecS wy wS.heap.size (.slice S2 nC cs2) (zPA nC y rows (k + 1)) from hV)
    have HPS:=hid (show RatS wy g5 (.slice A5 m5 c5) (.slice D5 md5 cd5) (zPV y rows (k + 1)) from hP)
    have HRb:=hid (show RatS wy gb (.slice Ab mb cb) (.slice Db mdb cdb) q from (HRB0.out.below hB))
    have HW:=hid (show Bel w4 wy from Bel.mk hB)
    have zNg:=hid (zlw.out.trans ((hB).mono zlw.out.size))
    have zQh:=zab hB zho
    have zQi:=zab hB zoi
    have zQj:wy.cell? ⟨d,k * 3,none⟩ = some (.bool gb):=zab hB HCL.out.1
    have zQk:wy.cell? ⟨d,k * 3 + 1,none⟩ = some (.slice Ab mb cb):=zab hB HCL.out.2.1
    have zSw:wy.cell? ⟨d,k * 3 + 2,none⟩ = some (.slice Db mdb cdb):=zab hB HCL.out.2.2.1
    have zSn:wy.cell? ⟨b,k * 5 + 1,none⟩ = some (.int .i64 kd):=zab hB HCL.out.2.2.2
    have x5_12d:=zaa zSn
    have KBO:=hid hbox
    clear hbox hP hB hV
    rcases HKD.out with rfl | rfl
    ·have hs:¬ 0 < q:=Rat.not_lt.2 (HS1.out rfl)
     have hs1:decide (0 < q.num) = false:=decide_eq_false fun h => hs ((zPs q).1 h)
     clear hs
     go_wp2_with fail
     with_reducible refine (Rt.sign gb Ab mb cb Db mdb cdb q _ HRb.out).mono ?_
     rintro e v4 ⟨rfl,hb⟩
     have zMZ:=hid (zad hb KBO.out)
     have zQN:=hid (HV.out.below hb)
     have zPY:=hid (HPS.out.below hb)
     have zQO:=hid (HW.out.below hb)
     have zNt:=hid (zNg.out.trans ((hb).mono zNg.out.size))
     have zQZ:=zab hb zQh
     have zSx:=zab hb zSn
     clear hb
     go_wp2
     go_roundw
     case rel => exact ⟨k + 1,S2,cs2,g5,A5,m5,c5,D5,md5,cd5,by go_num,rfl,by omega,zQN.out,zMZ.out,zPY.out,zQO.out.b⟩
     case measure => simp [intOf];omega
    ·have hs:¬ q < 0:=Rat.not_lt.2 (HS2.out (by decide))
     have hs1:decide (q.num < 0) = false:=decide_eq_false fun h => hs ((zvc q).1 h)
     clear hs
     go_wp2_with fail
     with_reducible refine (Rt.sign gb Ab mb cb Db mdb cdb q _ HRb.out).mono ?_
     rintro e v4 ⟨rfl,hb⟩
     have zMZ:=hid (zad hb KBO.out)
     have zQN:=hid (HV.out.below hb)
     have zPY:=hid (HPS.out.below hb)
     have zQO:=hid (HW.out.below hb)
     have zNt:=hid (zNg.out.trans ((hb).mono zNg.out.size))
     have zQZ:=zab hb zQh
     have zSx:=zab hb zSn
     clear hb
     go_wp2
     go_roundw
     case rel => exact ⟨k + 1,S2,cs2,g5,A5,m5,c5,D5,md5,cd5,by go_num,rfl,by omega,zQN.out,zMZ.out,zPY.out,zQO.out.b⟩
     case measure => simp [intOf];omega
  ·obtain rfl:nR = k:=by omega
   have hV2:VecS wr wS.heap.size (.slice S nC cs) (sv nC y rows):=by unfold sv;rw [HCH.out.lr];exact hV
   have hP2:RatS wr gs (.slice As ms cps) (.slice Ds mds cds) (sb y rows):=by unfold sb;rw [HCH.out.lr];exact hP
   have HZV:=hid (show ∀ q ∈ sv nC y rows,mw q ≤ 10000000 from fun q hq => Nat.le_trans (zPD HRR.out HSH.out.sy rows.length (Nat.le_refl _) q hq) (by rw [HCH.out.lr];have:=HNR.out;omega))
   have zew:=hid (zad hB zd8.out)
   have zv1:=hid (zad hB zig.out)
   have zMr:=hid (zMq.out.below hB)
   have zJZ:=hid (zEy.out.below hB)
   have zMo:=hid (zMz.out.below hB)
   have HV:=hid (show VecS wr wS.heap.size (.slice S nC cs) (sv nC y rows) from hV2)
   have HPS:=hid (show RatS wr gs (.slice As ms cps) (.slice Ds mds cds) (sb y rows) from hP2)
   have zxW:=hid (zlw.out.trans ((hB).mono zlw.out.size))
   obtain ⟨zkc,_,zkd,_⟩:=bc2 zew.out
   obtain ⟨zCI,zzG,zCK,zzJ,_⟩:=bc5 zv1.out
   have KBO:=hid hbox
   clear hV hV2 hbox hP hP2 hB
   cases hat:r.at_ with
   | some kk =>
    obtain rfl:oo = 2:=by rw [← HOO.out];unfold zLE;rw [hat]
    obtain ⟨rfl,hn1,hn2⟩:=HSH.out.n1 kk hat
    obtain rfl:nP = 0:=zMo.out.len
    have HN1:=hid hn1
    have hs1:decide (0 < (sb y rows).num) = true:=decide_eq_true ((zPs _).2 hn2)
    clear hat hn1 hn2
    go_wp2_with fail
    with_reducible refine (Rt.int (-1) (by decide) (by decide) _).mono ?_
    rintro e x1 ⟨g6,A6,m6,c6,D6,md6,cd6,rfl,hn,hb⟩
    have zsO:=hid (zad hb zew.out)
    have zCl:=hid (zad hb zv1.out)
    have zCn:=hid (zad hb KBO.out)
    have zQ6:=hid (HV.out.below hb)
    have zPZ:=hid (HPS.out.below hb)
    have HM:=hid (show RatS x1 g6 (.slice A6 m6 c6) (.slice D6 md6 cd6) ((-1:Int):Rat) from hn)
    have zIZ:=hid (zxW.out.trans ((hb).mono zxW.out.size))
    obtain ⟨zt6,_,zt8,_⟩:=bc2 zsO.out
    obtain ⟨_,_,zCL,_⟩:=bc5 zCl.out
    clear hn hb
    go_wp2_with fail
    with_reducible refine (Vc.scale g6 A6 m6 c6 D6 md6 cd6 ((-1:Int):Rat) S nC cs (sv nC y rows) wS.heap.size _ zQ6.out HM.out HNC.out HZV.out (Nat.le_trans (zu9 _ (by constructor <;> decide)) (by decide))).mono ?_
    rintro e x2 ⟨T3,nt3,ct3,rfl,hv,hb⟩
    have zGB:=hid (zad hb zsO.out)
    have zGC:=hid (zad hb zCl.out)
    have zGD:=hid (zad hb zCn.out)
    have zPX:=hid (zPZ.out.below hb)
    have HO3:=hid (show VecS x2 x1.heap.size (.slice T3 nt3 ct3) (scale ((-1:Int):Rat) (sv nC y rows)) from hv)
    have zMQ:=hid (zIZ.out.trans ((hb).mono zIZ.out.size))
    obtain ⟨zI5,_,zI6,_⟩:=bc2 zGB.out
    clear hv hb
    go_wp2_with fail
    with_reducible refine (Vc.below T3 nt3 ct3 _ x1.heap.size _ HO3.out).mono ?_
    rintro e x3 ⟨rfl,hb⟩
    have zPx:=hid (zad hb zGB.out)
    have zPy:=hid (zad hb zGC.out)
    have zPz:=hid (zad hb zGD.out)
    have zPB:=hid (zPX.out.below hb)
    have zPG:=hid (HO3.out.below hb)
    have zPW:=hid (zMQ.out.trans ((hb).mono zMQ.out.size))
    obtain ⟨zP0,_,zP1,_⟩:=bc2 zPx.out
    obtain ⟨zP2,_,zP3,_⟩:=bc5 zPy.out
    obtain ⟨zP4,_,zP5,_,zP6,_⟩:=bc3 zPz.out
    clear hb
    rw [HN1.out]
    go_wp2_with fail
    with_reducible refine (Rt.sign gs As ms cps Ds mds cds (sb y rows) _ zPB.out).mono ?_
    rintro e x4 ⟨rfl,hb⟩
    have zNv:=hid (zad hb zPx.out)
    have zNw:=hid (zad hb zPy.out)
    have zNx:=hid (zad hb zPz.out)
    have zQF:=hid (zPB.out.below hb)
    have zRc:=hid (zPG.out.below hb)
    have zNB:=hid (zPW.out.trans ((hb).mono zPW.out.size))
    obtain ⟨_,_,zOX,_⟩:=bc5 zNw.out
    clear hb
    go_wp2
    go_ret
    exact ⟨rfl,zNB.out⟩
   | none =>
    obtain rfl:oo = 1:=by rw [← HOO.out];unfold zLE;rw [hat]
    have HY1:=hid (HSH.out.y1 hat)
    clear hat
    have HCX:=hid (show cost.length = x.length by rw [HY1.out.1,HCH.out.lc])
    have HLV:=hid (show cost.length = (sv nC y rows).length by rw [HCH.out.lc];exact (zPw HRR.out _ (Nat.le_refl _)).symm)
    have HSC:=hid (show Sm cost from fun q hq => Nat.le_trans (HCH.out.g.sc q hq) (by decide))
    have HSM:=hid (show zA9 (dot cost x) (sb y rows) = true from decide_eq_true HY1.out.2.2.2)
    have HLD:=hid (show 4 * (mw (dot cost x) + mw (sb y rows)) + 8 ≤ LIM by rw [← HY1.out.2.2.2];have:=zDI HSC.out HSH.out.sx (by rw [HCH.out.lc];have:=HCH.out.g.hc;omega);have:=zaP;omega)
    have hcn:nC ≤ 1000:=by have:=HCH.out.g.hc;omega
    have hrn:nR ≤ 1000:=by have:=HNR.out;omega
    go_wp2_with fail
    with_reducible refine (Vc.sub C nC cC cost S nC cs (sv nC y rows) 0 wS.heap.size _ zMr.out HV.out HLV.out HNC.out (fun q hq => Nat.le_trans (HSC.out q hq) (by decide)) HZV.out).mono ?_
    rintro e x1 ⟨T3,nt3,ct3,rfl,hv,hb⟩
    have zsO:=hid (zad hb zew.out)
    have zCl:=hid (zad hb zv1.out)
    have zCn:=hid (zad hb KBO.out)
    have zMR:=hid (zMr.out.below hb)
    have zMX:=hid (zJZ.out.below hb)
    have zMW:=hid (zMo.out.below hb)
    have zQ6:=hid (HV.out.below hb)
    have zPZ:=hid (HPS.out.below hb)
    have HO3:=hid (show VecS x1 wr.heap.size (.slice T3 nt3 ct3) (zly cost ((-1:Int):Rat) (sv nC y rows)) from hv)
    have zIZ:=hid (zxW.out.trans ((hb).mono zxW.out.size))
    obtain ⟨zt6,_,zt8,_⟩:=bc2 zsO.out
    obtain ⟨_,_,zCL,_⟩:=bc5 zCl.out
    clear hv hb
    go_wp2_with fail
    with_reducible refine (zPu C nC cC R nR cR cost rows P nP cP x _ zMR.out zMX.out zMW.out HCX.out hcn HSC.out HSH.out.sx).mono ?_
    rintro e x2 ⟨g7,A7,m7,c7,D7,md7,cd7,rfl,hn,hb⟩
    have zGB:=hid (zad hb zsO.out)
    have zGC:=hid (zad hb zCl.out)
    have zGD:=hid (zad hb zCn.out)
    have zQ3:=hid (zMR.out.below hb)
    have zQ5:=hid (zMX.out.below hb)
    have zQ4:=hid (zMW.out.below hb)
    have zPX:=hid (zPZ.out.below hb)
    have zRR:=hid (HO3.out.below hb)
    have HD7:=hid (show RatS x2 g7 (.slice A7 m7 c7) (.slice D7 md7 cd7) (dot cost x) from hn)
    have zMQ:=hid (zIZ.out.trans ((hb).mono zIZ.out.size))
    obtain ⟨zI5,_,zI6,_⟩:=bc2 zGB.out
    clear hn hb
    have hb10z:=zae x2 (.cells #[.bool g7, .slice A7 m7 c7, .slice D7 md7 cd7] 35)
    have zPx:=hid (zad hb10z zGB.out)
    have zPy:=hid (zad hb10z zGC.out)
    have zPz:=hid (zad hb10z zGD.out)
    have zQl:=hid (zQ3.out.below hb10z)
    have zQp:=hid (zQ5.out.below hb10z)
    have zQo:=hid (zQ4.out.below hb10z)
    have zPB:=hid (zPX.out.below hb10z)
    have zPG:=hid (zRR.out.below hb10z)
    have zQ8:=hid (HD7.out.below hb10z)
    have zPW:=hid (zMQ.out.trans ((hb10z).mono zMQ.out.size))
    obtain ⟨zP0,_,zP1,_⟩:=bc2 zPx.out
    obtain ⟨zP2,_,zP3,_⟩:=bc5 zPy.out
    obtain ⟨zP4,_,zP5,_,zP6,_⟩:=bc3 zPz.out
    have KV:=hid (zal x2 #[.bool g7, .slice A7 m7 c7, .slice D7 md7 cd7] 35)
    go_wp2_with fail
    with_reducible refine (Pb.fits C nC cC R nR cR cost rows P nP cP x _ zQl.out zQp.out zQo.out hcn HRR.out HSH.out.sx hrn).mono ?_
    rintro e x3 ⟨rfl,hb⟩
    have zNv:=hid (zad hb zPx.out)
    have zNw:=hid (zad hb zPy.out)
    have zNx:=hid (zad hb zPz.out)
    have zPH:=hid (zad hb KV.out)
    have zQF:=hid (zPB.out.below hb)
    have zRc:=hid (zPG.out.below hb)
    have zQ9:=hid (zQ8.out.below hb)
    have zNB:=hid (zPW.out.trans ((hb).mono zPW.out.size))
    obtain ⟨_,_,zOX,_⟩:=bc5 zNw.out
    clear hb
    rw [HY1.out.2.1]
    go_wp2_with fail
    with_reducible refine (Vc.below T3 nt3 ct3 _ wr.heap.size _ zRc.out).mono ?_
    rintro e x4 ⟨rfl,hb⟩
    have zM3:=hid (zad hb zNv.out)
    have zM4:=hid (zad hb zNw.out)
    have zM5:=hid (zad hb zNx.out)
    have zRl:=hid (zad hb zPH.out)
    have zSo:=hid (zQF.out.below hb)
    have zSp:=hid (zQ9.out.below hb)
    have zNg:=hid (zNB.out.trans ((hb).mono zNB.out.size))
    obtain ⟨zNY,_,zNZ,_,zN0,_⟩:=bc3 zM5.out
    obtain ⟨zQQ,_,zQT,_,zQW,_⟩:=bc3 zRl.out
    clear hb
    rw [HY1.out.2.2.1]
    go_wp2_with fail
    with_reducible refine (Rt.same g7 A7 m7 c7 D7 md7 cd7 (dot cost x) gs As ms cps Ds mds cds (sb y rows) _ zSp.out zSo.out HLD.out).mono ?_
    rintro e x5 ⟨rfl,hb⟩
    have zMZ:=hid (zad hb zM3.out)
    have zM0:=hid (zad hb zM4.out)
    have zPY:=hid (zSo.out.below hb)
    have zNt:=hid (zNg.out.trans ((hb).mono zNg.out.size))
    obtain ⟨_,_,_,_,_,_,zSv,_⟩:=bc5 zM0.out
    clear hb
    rw [HSM.out]
    go_wp2
    go_ret
    exact ⟨rfl,zNt.out⟩
end Lw
end Go.Proofs.YtdbgbaiekpbaoaaGreatDoor
