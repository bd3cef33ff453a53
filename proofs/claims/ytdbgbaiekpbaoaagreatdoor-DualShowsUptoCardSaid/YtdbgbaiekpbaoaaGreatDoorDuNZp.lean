/- dual.Solve by its contract,from a basis that is not right. Conditions: as it says. -/
import Derived.Test.YtdbgbaiekpbaoaaGreatDoorDuSZp
set_option linter.all false
namespace Go.Proofs.YtdbgbaiekpbaoaaGreatDoor
open Go.RowKit Am
open Lib (hid)
attribute [local go_sem ↓] Go.wp_at_zero Go.wp_at_succ
set_option maxHeartbeats 2000000
set_option maxRecDepth 100000
namespace Du
theorem solve_no (S:Nat) (hS:1 ≤ S) (C:Option Addr) (nc cc:Nat) (R:Option Addr) (nr cr:Nat) (cost:List Rat) (rows:List PRow) (N:Nat) (hN:nc + cnt rows nr = N) (tA:Option Addr) (tc Hc:Nat) (cols:List Nat) (budget:Int) (w:World) (hc:VecS w 0 (.slice C nc cc) cost) (hr:RowsS w 0 (.slice R nr cr) rows) (hb:nc ≤ 24) (hnr:nr ≤ 20) (hrr:Rows nc rows) (hkk:Kinds rows) (zc:∀ q ∈ cost,mw q ≤ S) (zr:∀ p ∈ rows,(∀ q ∈ p.coef,mw q ≤ S) ∧ mw p.rhs ≤ S)
  (hi:IntsS w Hc (.slice tA nr tc) cols) (hB:Basis nr N (zc3 rows) cols) (hcap:zor nr S ≤ LIM) (hb1:budget ≤ 9223372036854775807) (hR:zdi (zaC N (zc3 rows) cols (zjD cost rows)) (List.replicate N true) ≠ none) :
  Calls Tryz.prog 18 #[.agg #[.slice C nc cc, .slice R nr cr], .slice tA nr tc, .int .i64 budget] w fun e w' => e = .returned (.tuple #[.agg #[.int .i64 0, .slice none 0 0, .slice none 0 0, .slice none 0 0, .int .i64 0], .iface 59 (.int .i64 190)]) ∧ Below w.heap.size w w':=by
 have HRR:=hid hrr
 have HKK:=hid hkk
 have HSS:=hid hS
 have HZC:=hid zc
 have HZR:=hid zr
 have HNN:=hid hN
 have HRI:=hid hR
 have HBA:=hid hB
 have HCAP:=hid hcap
 have HNB:=hid hb
 have HNR:=hid hnr
 have HN64:=hid (show N ≤ 64 by have:=zgO rows nr;omega)
 clear hrr hkk hS zc zr hN hb1 hR hB hcap hb hnr
 obtain ⟨W,hW⟩:∃ W,((w.alloc (.cells #[.slice C nc cc, .slice R nr cr] 47)).alloc (.cells #[.int .i64 0, .slice none 0 0, .slice none 0 0, .slice none 0 0, .int .i64 0] 53)) = W:=⟨_,rfl⟩
 have KB0:=hid (show W.heap[w.heap.size]? = some (.cells #[.slice C nc cc, .slice R nr cr] 47 (0,0)) by rw [← hW];exact zak (zam (by simp)))
 have KB1:=hid (show W.heap[w.heap.size + 1]? = some (.cells #[.int .i64 0, .slice none 0 0, .slice none 0 0, .slice none 0 0, .int .i64 0] 53 (0,0)) by rw [← hW];exact zam (by simp))
 have BB:=hid (show Below w.heap.size w W by rw [← hW];exact (zae w _).alloc (by simp) _)
 have HC:=hid (show VecS W 0 (.slice C nc cc) cost by rw [← hW];exact ((hc).alloc _).alloc _)
 have HR:=hid (show RowsS W 0 (.slice R nr cr) rows by rw [← hW];exact ((hr).alloc _).alloc _)
 have HI:=hid (show IntsS W Hc (.slice tA nr tc) cols by rw [← hW];exact ((hi).alloc _).alloc _)
 obtain ⟨zaK,_,zaL,_⟩:=bc2 KB0.out
 clear hc hr hi
 go_enter Tryz.func18,Tryz.ntmps18
 go_wp2_with fail
 clear hW
 with_reducible refine (Pb.standardN S HSS.out C nc cc R nr cr cost rows N HNN.out _ HC.out HR.out HNB.out HNR.out HRR.out HKK.out HZC.out HZR.out).mono ?_
 rintro e w1 ⟨rA,rc,lA,bA,bc_,kA,kc,eA,ec,rfl,hst,hb⟩
 have za0:=hid (zad hb KB1.out)
 have zBZ:=hid (HI.out.below hb)
 have HSTD:=hid (show StdP w1 rA rc lA bA bc_ kA kc eA ec nr N S (zc3 rows) (zg8 rows) (zjD cost rows) (zca nc rows nr) from hst)
 have zaQ:=hid (BB.out.trans ((hb).mono BB.out.size))
 clear hst hb
 have hb2z:=zae w1 (.cells #[.slice rA nr rc, .int .i64 (N:Int), .slice bA nr bc_, .slice kA N kc, .int .i64 (nc:Int), .slice eA nr ec] 66)
 have zbb:=hid (zad hb2z za0.out)
 have zvR:=hid (zBZ.out.below hb2z)
 have zsJ:=hid (HSTD.out.below hb2z)
 have zbj:=hid (zaQ.out.trans ((hb2z).mono zaQ.out.size))
 have KSB:=hid (zal w1 #[.slice rA nr rc, .int .i64 (N:Int), .slice bA nr bc_, .slice kA N kc, .int .i64 (nc:Int), .slice eA nr ec] 66)
 obtain ⟨ze6,_,ze7,_,zfv,_,zky,_,zul,_,zun,_⟩:=bc6 KSB.out
 go_wp2_with fail
 refine (Tb.new rA rc lA bA bc_ kA kc eA ec nr N S nc (zc3 rows) (zg8 rows) (zjD cost rows) (zca nc rows nr) tA tc cols Hc _ zsJ.out zvR.out HBA.out HCAP.out).mono ?_
 rintro e w3 ⟨q,tA',tc',rfl,hT,hb⟩
 have HT:=hid hT
 have HB3:=hid hb
 have s3:=zab hb zky
 clear hT hb
 go_wp2_with fail
 refine zaS (S:=fun w' => w'.cell? ⟨w1.heap.size,3,none⟩ = some (.slice kA N kc)) [] (h:=fun hHeld => ?_)
 refine zaw [0,1,2,3,4,5,7] ?_
 repeat refine tkL (hS:=hHeld) (h:=?_)
 refine zao ?_
 refine zaB 6 (h:=fun K hK => ?_)
 go_simp
 (go_at_call 16;(with_reducible refine (Du.all N HN64.out _).mono ?_);rintro e v1 ⟨MA,rfl,hm,hb⟩;have HM:=hid hm;have HBa:=hid (show Below w3.heap.size w3 v1 from It.bdrew0' hb);have HT1:=hid (HT.out.below HBa.out);have s3a:=zab HBa.out s3;clear hm hb)
 (try go_wp2_with fail)
 refine hK.out _ _ kp fun hHeld => ?_
 clear hK K
 try simp only [Act.put,pu1,pu2,pu3,pu4,pu5,pu6]
 refine zaB 8 (h:=fun K hK => ?_)
 go_simp
 (go_at_call 23;(with_reducible refine (Du.run_no HT1.out MA N _ (List.replicate N true) HM.out HCAP.out budget HRI.out).mono ?_);rintro e v2 ⟨rfl,hb2⟩;have HB2:=hid (show Below (w1.alloc (.cells #[.slice rA nr rc, .int .i64 (N:Int), .slice bA nr bc_, .slice kA N kc, .int .i64 (nc:Int), .slice eA nr ec] 66)).heap.size (w1.alloc (.cells #[.slice rA nr rc, .int .i64 (N:Int), .slice bA nr bc_, .slice kA N kc, .int .i64 (nc:Int), .slice eA nr ec] 66)) v2 from (HB3.out.trans (HBa.out.mono HB3.out.size)).trans (hb2.mono (Nat.le_trans HB3.out.size HBa.out.size)));have s3b:=zab HB2.out zky;clear hb2)
 (try go_wp2_with fail)
 refine hK.out _ _ kp fun hHeld => ?_
 clear hK K
 try simp only [Act.put,pu1,pu2,pu3,pu4,pu5,pu6]
 refine zaw [9,10,11,12,13,14,15] ?_
 repeat refine tkL (hS:=hHeld) (h:=?_)
 refine zao ?_
 refine zaM (h:=?_)
 have zek:=hid (zad HB2.out zbb.out)
 have zcc:=hid (zbj.out.trans ((HB2.out).mono zbj.out.size))
 obtain ⟨zhp,zeB,ziz,_,zhr,zeD,ziA,_,ziT,zfr,ziB,_,zkj,zgz,zkP,_,zkp,zgC,zkS,_⟩:=bf5 zek.out
 clear zaK zaL ze6 ze7 zfv zky zul zun
 clear hHeld
 go_wp2
 refine bodyPost_ret (v := .tuple #[.agg #[.int .i64 0, .slice none 0 0, .slice none 0 0, .slice none 0 0, .int .i64 0], .iface 59 (.int .i64 190)]) (by simp [results,Tryz.results18,go_sem,zhp,zeB,zhr,zeD,ziT,zfr,zkj,zgz,zkp,zgC]) rfl ?_
 exact ⟨rfl,Below.setCell (Below.setCell (Below.setCell (Below.setCell (Below.setCell (zcc.out) (p:=⟨w.heap.size + 1,0,none⟩) (by show w.heap.size ≤ w.heap.size + 1;omega) _) (p:=⟨w.heap.size + 1,1,none⟩) (by show w.heap.size ≤ w.heap.size + 1;omega) _) (p:=⟨w.heap.size + 1,2,none⟩) (by show w.heap.size ≤ w.heap.size + 1;omega) _) (p:=⟨w.heap.size + 1,3,none⟩) (by show w.heap.size ≤ w.heap.size + 1;omega) _) (p:=⟨w.heap.size + 1,4,none⟩) (by show w.heap.size ≤ w.heap.size + 1;omega) _⟩
end Du
end Go.Proofs.YtdbgbaiekpbaoaaGreatDoor
