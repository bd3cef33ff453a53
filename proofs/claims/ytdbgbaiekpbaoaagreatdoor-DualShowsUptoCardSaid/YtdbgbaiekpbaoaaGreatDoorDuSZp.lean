/- dual.Solve by its contract,from a basis. Conditions: as each says. -/
import Derived.Test.YtdbgbaiekpbaoaaGreatDoorStdMZp
import Derived.Test.YtdbgbaiekpbaoaaGreatDoorOpenZp
import Derived.Test.YtdbgbaiekpbaoaaGreatDoorDuRZp
import Derived.Test.YtdbgbaiekpbaoaaGreatDoorBasNZp
set_option linter.all false
namespace Go.Proofs.YtdbgbaiekpbaoaaGreatDoor
open Go.RowKit Am
open Lib (hid)
attribute [local go_sem ↓] Go.wp_at_zero Go.wp_at_succ
set_option maxHeartbeats 2000000
set_option maxRecDepth 100000
theorem Pb.standardN (S:Nat) (hS:1 ≤ S) (C:Option Addr) (nc cc:Nat) (R:Option Addr) (nr cr:Nat) (cost:List Rat) (rows:List PRow) (N:Nat) (hN:nc + cnt rows nr = N) (w:World) (hc:VecS w 0 (.slice C nc cc) cost) (hr:RowsS w 0 (.slice R nr cr) rows) (hb:nc ≤ 24) (hnr:nr ≤ 20) (hrr:Rows nc rows) (hkk:Kinds rows) (zc:∀ q ∈ cost,mw q ≤ S) (zr:∀ p ∈ rows,(∀ q ∈ p.coef,mw q ≤ S) ∧ mw p.rhs ≤ S) :
  Calls Tryz.prog 21 #[.agg #[.slice C nc cc, .slice R nr cr]] w fun e w' => ∃ (rA:Option Addr) (rc:Nat) (lA:List Value) (bA:Option Addr) (bc_:Nat) (kA:Option Addr) (kc:Nat) (eA:Option Addr) (ec:Nat),
   e = .returned (.tuple #[.agg #[.slice rA nr rc, .int .i64 (N:Int), .slice bA nr bc_, .slice kA N kc, .int .i64 (nc:Int), .slice eA nr ec], .nilIface]) ∧
   StdP w' rA rc lA bA bc_ kA kc eA ec nr N S (zc3 rows) (zg8 rows) (zjD cost rows) (zca nc rows nr) ∧ Below w.heap.size w w':=by
 subst hN
 exact Pb.standard S hS C nc cc R nr cr cost rows w hc hr hb hnr hrr hkk zc zr
theorem zqy {w:World} {b:Nat} {cs:Array Value} {t:TypeId} (hb:w.heap[b]? = some (.cells cs t (0,0))) (v0 v1 v2 v3 v4:Value):TKeep t w (((((w.setCell ⟨b,0,none⟩ v0).setCell ⟨b,1,none⟩ v1).setCell ⟨b,2,none⟩ v2).setCell ⟨b,3,none⟩ v3).setCell ⟨b,4,none⟩ v4):=fun k _ hne => by
 have hkb:k ≠ b:=fun e => hne cs (by rw [e];exact hb)
 rw [Below.heap_setCell _ _ _ _ (by exact hkb),Below.heap_setCell _ _ _ _ (by exact hkb),Below.heap_setCell _ _ _ _ (by exact hkb),Below.heap_setCell _ _ _ _ (by exact hkb),Below.heap_setCell _ _ _ _ (by exact hkb)]
theorem zCv {m N:Nat} {A:List (List Rat)} {b c:List Rat} {may:List Bool} {cols:List Nat} (hB:Basis m N A cols) {k:Nat} (h:zbE N A b c may cols = .bad k):k < m:=by
 unfold zbE at h
 have s:=zdk cols (za5 A b cols) (za5 A b cols).length
 split at h
 ·cases h
 ·rename_i k' h1
  unfold zi5 at h1
  rw [h1,(hB.vals_ok b).2] at s
  split at h
  ·injection h with h;subst h;exact s.1
  ·cases h
def zzb (w:World) (N nc nr:Nat) (cost:List Rat) (rows:List PRow) (r:RunOut) (e:Ending) (w':World):Prop :=
  Below w.heap.size w w' ∧
  ((r.err = true ∧ ∃ fb,e = .returned (.tuple #[.agg #[.int .i64 0, .slice none 0 0, .slice none 0 0, .slice none 0 0, .int .i64 0], .iface 195 (.pointer (some ⟨fb,0,none⟩))]) ∧ w'.heap[fb]? = some (.cells #[.string zve, .int .i64 (r.n:Int), .iface 59 (.int .i64 180)] 199 (0,0))) ∨
   (r.err = false ∧ ∃ (k:Nat) (D:Option Addr) (cD:Nat),r.at_ = some k ∧ e = .returned (.tuple #[.agg #[.int .i64 2, .slice none 0 0, .slice D nr cD, .slice none 0 0, .int .i64 (r.n:Int)], .nilIface]) ∧ VecS w' w.heap.size (.slice D nr cD) (scale (-1) (zbf (zc3 rows) r.cols k))) ∨
   (r.err = false ∧ r.at_ = none ∧ ∃ (P:Option Addr) (cP:Nat) (D:Option Addr) (cD:Nat),e = .returned (.tuple #[.agg #[.int .i64 1, .slice P nc cP, .slice D nr cD, .slice none 0 0, .int .i64 (r.n:Int)], .nilIface]) ∧
     VecS w' w.heap.size (.slice P nc cP) ((zh1 N r.cols (za5 (zc3 rows) (zg8 rows) r.cols)).take nc) ∧ VecS w' w.heap.size (.slice D nr cD) (zcl (zc3 rows) r.cols (zjD cost rows))))
namespace Du
theorem solve (S:Nat) (hS:1 ≤ S) (C:Option Addr) (nc cc:Nat) (R:Option Addr) (nr cr:Nat) (cost:List Rat) (rows:List PRow) (N:Nat) (hN:nc + cnt rows nr = N) (tA:Option Addr) (tc Hc:Nat) (cols:List Nat) (budget:Int) (w:World) (hc:VecS w 0 (.slice C nc cc) cost) (hr:RowsS w 0 (.slice R nr cr) rows) (hb:nc ≤ 24) (hnr:nr ≤ 20) (hrr:Rows nc rows) (hkk:Kinds rows) (zc:∀ q ∈ cost,mw q ≤ S) (zr:∀ p ∈ rows,(∀ q ∈ p.coef,mw q ≤ S) ∧ mw p.rhs ≤ S)
  (hi:IntsS w Hc (.slice tA nr tc) cols) (hB:Basis nr N (zc3 rows) cols) (hcap:zor nr S ≤ LIM) (hb1:budget ≤ 9223372036854775807) (hR:zdi (zaC N (zc3 rows) cols (zjD cost rows)) (List.replicate N true) = none) :
  Calls Tryz.prog 18 #[.agg #[.slice C nc cc, .slice R nr cr], .slice tA nr tc, .int .i64 budget] w (zzb w N nc nr cost rows (pivs (zbE N (zc3 rows) (zg8 rows) (zjD cost rows) (List.replicate N true)) budget.toNat cols)):=by
 have HRR:=hid hrr
 have HKK:=hid hkk
 have HSS:=hid hS
 have HZC:=hid zc
 have HZR:=hid zr
 have HNN:=hid hN
 have HBU:=hid hb1
 have HRI:=hid hR
 have HBA:=hid hB
 have HCAP:=hid hcap
 have HNB:=hid hb
 have HNR:=hid hnr
 have HN64:=hid (show N ≤ 64 by have:=zgO rows nr;omega)
 obtain ⟨r,hr_⟩:∃ r,r = pivs (zbE N (zc3 rows) (zg8 rows) (zjD cost rows) (List.replicate N true)) budget.toNat cols:=⟨_,rfl⟩
 have HRR_:=hid hr_
 have HNG:=hid (show N = nc + cnt rows nr from hN.symm)
 have HSP:=hid (show ∀ k,r.err = false → r.at_ = some k → zbE N (zc3 rows) (zg8 rows) (zjD cost rows) (List.replicate N true) r.cols = .bad k by
  intro k h1 h2
  obtain ⟨e1,_,_,e4,_⟩:=zoW (zbE N (zc3 rows) (zg8 rows) (zjD cost rows) (List.replicate N true)) budget.toNat cols
  rw [← hr_] at e1 e4
  rw [e1,e4 h1,h2])
 rw [← hr_]
 clear hrr hkk hS zc zr hN hb1 hR hB hcap hr_ hb hnr
 obtain ⟨W,hW⟩:∃ W,((w.alloc (.cells #[.slice C nc cc, .slice R nr cr] 47)).alloc (.cells #[.int .i64 0, .slice none 0 0, .slice none 0 0, .slice none 0 0, .int .i64 0] 53)) = W:=⟨_,rfl⟩
 have KB0:=hid (show W.heap[w.heap.size]? = some (.cells #[.slice C nc cc, .slice R nr cr] 47 (0,0)) by rw [← hW];exact zak (zam (by simp)))
 have KB1:=hid (show W.heap[w.heap.size + 1]? = some (.cells #[.int .i64 0, .slice none 0 0, .slice none 0 0, .slice none 0 0, .int .i64 0] 53 (0,0)) by rw [← hW];exact zam (by simp))
 have BB:=hid (show Below w.heap.size w W by rw [← hW];exact (zae w _).alloc (by simp) _)
 have HC:=hid (show VecS W 0 (.slice C nc cc) cost by rw [← hW];exact ((hc).alloc _).alloc _)
 have HR:=hid (show RowsS W 0 (.slice R nr cr) rows by rw [← hW];exact ((hr).alloc _).alloc _)
 have HI:=hid (show IntsS W Hc (.slice tA nr tc) cols by rw [← hW];exact ((hi).alloc _).alloc _)
 obtain ⟨zaK,_,zaL,_⟩:=bc2 KB0.out
 clear hc hr hi
 go_enter Tryz.func18,Tryz.ntmps18
 go_wp2_with fail
 clear hW
 with_reducible refine (Pb.standardN S HSS.out C nc cc R nr cr cost rows N HNN.out _ HC.out HR.out HNB.out HNR.out HRR.out HKK.out HZC.out HZR.out).mono ?_
 rintro e w1 ⟨rA,rc,lA,bA,bc_,kA,kc,eA,ec,rfl,hst,hb⟩
 have zaq:=hid (zad hb KB0.out)
 have za0:=hid (zad hb KB1.out)
 have zBZ:=hid (HI.out.below hb)
 have HSTD:=hid (show StdP w1 rA rc lA bA bc_ kA kc eA ec nr N S (zc3 rows) (zg8 rows) (zjD cost rows) (zca nc rows nr) from hst)
 have zaQ:=hid (BB.out.trans ((hb).mono BB.out.size))
 clear hst hb
 have hb2z:=zae w1 (.cells #[.slice rA nr rc, .int .i64 (N:Int), .slice bA nr bc_, .slice kA N kc, .int .i64 (nc:Int), .slice eA nr ec] 66)
 have zaD:=hid (zad hb2z zaq.out)
 have zbb:=hid (zad hb2z za0.out)
 have zvR:=hid (zBZ.out.below hb2z)
 have zsJ:=hid (HSTD.out.below hb2z)
 have zbj:=hid (zaQ.out.trans ((hb2z).mono zaQ.out.size))
 have KSB:=hid (zal w1 #[.slice rA nr rc, .int .i64 (N:Int), .slice bA nr bc_, .slice kA N kc, .int .i64 (nc:Int), .slice eA nr ec] 66)
 obtain ⟨ze6,_,ze7,_,zfv,_,zky,_,zul,_,zun,_⟩:=bc6 KSB.out
 go_wp2_with fail
 have HBX:=hid (show Below w.heap.size w (w1.alloc (.cells #[.slice rA nr rc, .int .i64 (N:Int), .slice bA nr bc_, .slice kA N kc, .int .i64 (nc:Int), .slice eA nr ec] 66)) from zbj.out)
 refine (Tb.new rA rc lA bA bc_ kA kc eA ec nr N S nc (zc3 rows) (zg8 rows) (zjD cost rows) (zca nc rows nr) tA tc cols Hc _ zsJ.out zvR.out HBA.out HCAP.out).mono ?_
 rintro e w3 ⟨q,tA',tc',rfl,hT,hb⟩
 have HT:=hid hT
 have HB3:=hid hb
 have s3:=zab hb zky
 clear hT hb
 go_wp2_with fail
 refine zaS (S:=fun w' => w'.cell? ⟨w1.heap.size,3,none⟩ = some (.slice kA N kc)) [] (h:=fun hHeld => ?_)
 refine zaw [0,1,2,3,4,5,7] ?_
 repeat refine tkL (hS:=hHeld) (h:=?_)
 refine zao ?_
 refine zaB 6 (h:=fun K hK => ?_)
 go_simp
 (go_at_call 16;(with_reducible refine (Du.all N HN64.out _).mono ?_);rintro e v1 ⟨MA,rfl,hm,hb⟩;have HM:=hid hm;have HBa:=hid (show Below w3.heap.size w3 v1 from It.bdrew0' hb);have HT1:=hid (HT.out.below HBa.out);have s3a:=zab HBa.out s3;clear hm hb)
 (try go_wp2_with fail)
 refine hK.out _ _ kp fun hHeld => ?_
 clear hK K
 try simp only [Act.put,pu1,pu2,pu3,pu4,pu5,pu6]
 refine zaB 8 (h:=fun K hK => ?_)
 go_simp
 (go_at_call 23;(with_reducible refine (Du.run HT1.out MA N _ HM.out HCAP.out budget HBU.out HRI.out).mono ?_);rintro e v2 ⟨ev,rfl,hev,hT2,hb2,hk2⟩;rw [← HRR_.out] at *;have HEV:=hid hev;have HT2:=hid hT2;have HB2:=hid (show Below (w1.alloc (.cells #[.slice rA nr rc, .int .i64 (N:Int), .slice bA nr bc_, .slice kA N kc, .int .i64 (nc:Int), .slice eA nr ec] 66)).heap.size (w1.alloc (.cells #[.slice rA nr rc, .int .i64 (N:Int), .slice bA nr bc_, .slice kA N kc, .int .i64 (nc:Int), .slice eA nr ec] 66)) v2 from (HB3.out.trans (HBa.out.mono HB3.out.size)).trans hb2);have s3b:=zab HB2.out zky;have s3bd:=zaa s3b;clear hev hT2 hb2 hk2)
 (try go_wp2_with fail)
 refine hK.out _ _ kp fun hHeld => ?_
 clear hK K
 try simp only [Act.put,pu1,pu2,pu3,pu4,pu5,pu6]
 refine zaw [9,10,11,12,13,14,15] ?_
 repeat refine tkL (hS:=hHeld) (h:=?_)
 refine zao ?_
 refine zaM (h:=?_)
 have zbn:=hid (zad HB2.out zaD.out)
 have zek:=hid (zad HB2.out zbb.out)
 have zoc:=hid (zad HB2.out KSB.out)
 have zcc:=hid (zbj.out.trans ((HB2.out).mono zbj.out.size))
 obtain ⟨zdg,zb0,zdh,zb1⟩:=bc2 zbn.out
 obtain ⟨zhp,zeB,ziz,zfX,zhr,zeD,ziA,zfY,ziT,zfr,ziB,zfZ,zkj,zgz,zkP,zhG,zkp,zgC,zkS,zhJ⟩:=bf5 zek.out
 obtain ⟨zrd,zm2,zre,zm3,zrf,zm4,zuk,zpN,zum,zpP,zuo,zpR⟩:=bc6 zoc.out
 have HT2b:=hid HT2.out.basis
 clear zaK zaL ze6 ze7 zfv zky zul zun
 have hncN:nc ≤ N:=by have:=HNG.out;omega
 obtain ⟨qb2,xA2,xc2,hP2⟩:=HT2.out
 have HCZ:=hid hP2.bas.good.2.2
 have HCC:=hid hP2.stdN.C
 have HZCC:=hid hP2.std.zc
 have HSBL:=hid (show 8 * sB nr S S + 8 ≤ LIM by have h:=zos HCAP.out;unfold pB at h;omega)
 clear hP2 hHeld
 have HBX2:=hid (show Bel w v2 from Bel.mk (HBX.out.trans (HB2.out.mono HBX.out.size)))
 rcases HEV.out with ⟨he,rfl⟩ | ⟨he,fb,rfl,hfb⟩
 ·cases hat:r.at_ with
  | some k =>
   have hp:zbh (some k) = (k:Int):=rfl
   rw [hp]
   have hk0:(0:Int) ≤ (k:Int):=Int.natCast_nonneg _
   have HKN:=hid (zCv HT2b.out (HSP.out k he hat))
   have HHE:=hid he
   have HAT:=hid hat
   clear he hat hp
   go_upto_region 10 with fail
   go_cut [54] (fun c wx => c = .bool true ∧ wx = v2)
   case first =>
    go_wp2
    go_meet
    exact ⟨by first | rfl | (simp;done) | (simp;omega),rfl⟩
   obtain ⟨rfl,rfl⟩:=hcut
   rename World => v2
   go_wp2_with fail
   with_reducible refine (Tb.weights HT2.out k HKN.out HCAP.out).mono ?_
   rintro e v3 ⟨D1,n1,c1,rfl,hv,hb⟩
   have zcE:=hid (zad hb zek.out)
   have zgh:=hid (zad hb zoc.out)
   have zvY:=hid (HT2.out.below hb)
   have zq2:=hid (HBX2.out.below hb)
   have zyG:=hid (HCC.out.below hb)
   have HWV:=hid (show VecS v3 v2.heap.size (.slice D1 n1 c1) (zbf (zc3 rows) r.cols k) from hv)
   have zdf:=hid (zcc.out.trans ((hb).mono zcc.out.size))
   obtain ⟨_,_,_,_,_,_,_,_,zkA,_⟩:=bc6 zgh.out
   clear hv hb
   obtain rfl:nr = n1:=by rw [HWV.out.len,(HT2b.out.weights_ok k).2]
   go_wp2_with fail
   with_reducible refine (Rt.int (-1) (by decide) (by decide) _).mono ?_
   rintro e v4 ⟨g9,A6,m9,c6,D9,md9,cd9,rfl,hn9,hb⟩
   have zd9:=hid (zad hb zcE.out)
   have zgi:=hid (zad hb zgh.out)
   have zGp:=hid (zvY.out.below hb)
   have zxX:=hid (zq2.out.below hb)
   have zFX:=hid (zyG.out.below hb)
   have zGv:=hid (HWV.out.below hb)
   have HRQ:=hid (show RatS v4 g9 (.slice A6 m9 c6) (.slice D9 md9 cd9) (((-1:Int):Int):Rat) from hn9)
   have ze3:=hid (zdf.out.trans ((hb).mono zdf.out.size))
   obtain ⟨zhq,zeC,zgR,_,zhs,zeE,zgS,_,ziU,zfs,zgT,_,zkk,zgA,ziC,_,zkq,zgD,ziD,_⟩:=bf5 zd9.out
   obtain ⟨_,_,_,_,_,_,_,_,zlU,_⟩:=bc6 zgi.out
   clear hn9 hb
   have HV4z:=hid (zxX.out.b.size)
   go_wp2_with fail
   with_reducible refine (Vc.scaleS (sB nr S S) HSBL.out g9 A6 m9 c6 D9 md9 cd9 (((-1:Int):Int):Rat) D1 nr c1 (zbf (zc3 rows) r.cols k) v2.heap.size _ zGv.out HRQ.out (by have:=HNR.out;omega) (ziO HT2b.out HCZ.out HSS.out HKN.out) (Nat.le_trans (show mw (((-1:Int):Int):Rat) ≤ 1 by decide) (zma nr S S))).mono ?_
   rintro e v5 ⟨D2,n2,c2,rfl,hv,hb⟩
   have zig:=hid (zad hb zd9.out)
   have HDV:=hid (show VecS v5 v4.heap.size (.slice D2 n2 c2) (scale (((-1:Int):Int):Rat) (zbf (zc3 rows) r.cols k)) from hv)
   have zlw:=hid (ze3.out.trans ((hb).mono ze3.out.size))
   obtain ⟨zlN,zin,znj,_,zlO,zio,znk,_,zoi,zkf,znl,_,zol,zkl,znm,_,zoo,zkr,znn,_⟩:=bf5 zig.out
   clear hv hb
   obtain rfl:nr = n2:=by rw [HDV.out.len,zfH,(HT2b.out.weights_ok k).2]
   go_wp2
   refine bodyPost_ret (v := .tuple #[.agg #[.int .i64 2, .slice none 0 0, .slice D2 nr c2, .slice none 0 0, .int .i64 (r.n:Int)], .nilIface]) (by simp [results,Tryz.results18,go_sem,zlN,zin,zlO,zio,zoi,zkf,zol,zkl,zoo,zkr]) rfl ?_
   have k1:=zqy zig.out (.int .i64 2) (.slice none 0 0) (.slice D2 nr c2) (.slice none 0 0) (.int .i64 (r.n:Int))
   refine ⟨Below.setCell (Below.setCell (Below.setCell (Below.setCell (Below.setCell (zlw.out) (p:=⟨w.heap.size + 1,0,none⟩) (by show w.heap.size ≤ w.heap.size + 1;omega) _) (p:=⟨w.heap.size + 1,1,none⟩) (by show w.heap.size ≤ w.heap.size + 1;omega) _) (p:=⟨w.heap.size + 1,2,none⟩) (by show w.heap.size ≤ w.heap.size + 1;omega) _) (p:=⟨w.heap.size + 1,3,none⟩) (by show w.heap.size ≤ w.heap.size + 1;omega) _) (p:=⟨w.heap.size + 1,4,none⟩) (by show w.heap.size ≤ w.heap.size + 1;omega) _, .inr (.inl ⟨HHE.out,k,D2,c2,HAT.out,rfl,?_⟩)⟩
   have h:=(HDV.out.base (show w.heap.size ≤ v4.heap.size from HV4z.out)).tk k1 (by decide) (by decide)
   exact h
  | none =>
   have hp:zbh none = -1:=rfl
   rw [hp]
   have HHE:=hid he
   have HAT:=hid hat
   clear he hat hp
   go_upto_region 10 with fail
   go_cut [54] (fun c wx => c = .bool false ∧ wx = v2)
   case first =>
    go_wp2
    go_meet
    exact ⟨by first | rfl | (simp;done) | (simp;omega),rfl⟩
   obtain ⟨rfl,rfl⟩:=hcut
   rename World => v2
   go_wp2_with fail
   with_reducible refine (Tb.duals HT2.out kA kc (zjD cost rows) 0 HCC.out HZCC.out HCAP.out).mono ?_
   rintro e v3 ⟨D1,n1,c1,rfl,hv,hb⟩
   have zcE:=hid (zad hb zek.out)
   have zgh:=hid (zad hb zoc.out)
   have zvY:=hid (HT2.out.below hb)
   have zq2:=hid (HBX2.out.below hb)
   have zyG:=hid (HCC.out.below hb)
   have HDV:=hid (show VecS v3 v2.heap.size (.slice D1 n1 c1) (zcl (zc3 rows) r.cols (zjD cost rows)) from hv)
   have zdf:=hid (zcc.out.trans ((hb).mono zcc.out.size))
   obtain ⟨_,_,_,_,_,_,_,_,zkA,_⟩:=bc6 zgh.out
   clear hv hb
   obtain rfl:nr = n1:=by rw [HDV.out.len];exact (HT2b.out.duals_ok _).2.symm
   go_wp2_with fail
   have HV2z:=hid HBX2.out.b.size
   have HV3z:=hid (zq2.out.b.size)
   refine zaS (S:=fun w' => w'.cell? ⟨w1.heap.size,4,none⟩ = some (.int .i64 (nc:Int))) [8,9] (h:=fun hHeld => ?_)
   refine zaw [0,2,3,5,6] ?_
   repeat refine tkL (hS:=hHeld) (h:=?_)
   refine zao ?_
   refine zaB 1 (h:=fun K hK => ?_)
   go_simp
   (go_at_call 65;(with_reducible refine (Tb.point zvY.out.drew).mono ?_);rintro e v4 ⟨P1,c9,rfl,hv9,hb⟩;have zd9:=hid (zad hb zcE.out);have zgi:=hid (zad hb zgh.out);have zGp:=hid (zvY.out.drew.below hb);have zxX:=hid (zq2.out.drew.below hb);have zFX:=hid (zyG.out.drew.below hb);have zFY:=hid (HDV.out.drew.below hb);have HPV:=hid (show VecS v4 v3.heap.size (.slice P1 N c9) (zh1 N r.cols (za5 (zc3 rows) (zg8 rows) r.cols)) from hv9);have ze3:=hid (zdf.out.trans ((It.bdrew0' hb).mono zdf.out.size));obtain ⟨zhq,zeC,zgR,_,zhs,zeE,zgS,_,ziU,zfs,zgT,_,zkk,zgA,ziC,_,zkq,zgD,ziD,_⟩:=bf5 zd9.out;obtain ⟨_,_,_,_,_,_,_,_,zlU,_⟩:=bc6 zgi.out;have hcp:=HPV.out.form.2.1;have hcp3:nc ≤ c9:=(by omega);have HPC:=hid (HPV.out.cut nc hncN);clear hv9 hb)
   (try go_wp2_with fail)
   refine hK.out _ _ kp fun hHeld => ?_
   clear hK K
   try simp only [Act.put,pu1,pu2,pu3,pu4,pu5,pu6]
   refine zaw [4,7] ?_
   repeat refine tkL (hS:=hHeld) (h:=?_)
   refine zao ?_
   refine zay 8 (h:=fun K hK => ?_)
   go_simp
   refine hK.out _ _ ?_
   clear hK K
   try simp only [Act.put,pu1,pu2,pu3,pu4,pu5,pu6]
   refine zay 9 (h:=fun K hK => ?_)
   go_simp
   refine hK.out _ _ ?_
   clear hK K
   try simp only [Act.put,pu1,pu2,pu3,pu4,pu5,pu6]
   refine zaM (h:=?_)
   go_wp2
   refine bodyPost_ret (v := .tuple #[.agg #[.int .i64 1, .slice P1 nc c9, .slice D1 nr c1, .slice none 0 0, .int .i64 (r.n:Int)], .nilIface]) (by simp [results,Tryz.results18,go_sem,zhq,zeC,zhs,zeE,ziU,zfs,zkk,zgA,zkq,zgD]) rfl ?_
   have k1:=zqy zd9.out (.int .i64 1) (.slice P1 nc c9) (.slice D1 nr c1) (.slice none 0 0) (.int .i64 (r.n:Int))
   refine ⟨Below.setCell (Below.setCell (Below.setCell (Below.setCell (Below.setCell (ze3.out) (p:=⟨w.heap.size + 1,0,none⟩) (by show w.heap.size ≤ w.heap.size + 1;omega) _) (p:=⟨w.heap.size + 1,1,none⟩) (by show w.heap.size ≤ w.heap.size + 1;omega) _) (p:=⟨w.heap.size + 1,2,none⟩) (by show w.heap.size ≤ w.heap.size + 1;omega) _) (p:=⟨w.heap.size + 1,3,none⟩) (by show w.heap.size ≤ w.heap.size + 1;omega) _) (p:=⟨w.heap.size + 1,4,none⟩) (by show w.heap.size ≤ w.heap.size + 1;omega) _, .inr (.inr ⟨HHE.out,HAT.out,P1,c9,D1,c1,rfl,?_,?_⟩)⟩
   ·exact (HPC.out.base (show w.heap.size ≤ v3.heap.size from HV3z.out)).tk k1 (by decide) (by decide)
   ·exact (zFY.out.base (show w.heap.size ≤ v2.heap.size from HV2z.out)).tk k1 (by decide) (by decide)
 ·have HHE:=hid he
  have HFB:=hid hfb
  clear he hfb
  go_wp2
  refine bodyPost_ret (v := .tuple #[.agg #[.int .i64 0, .slice none 0 0, .slice none 0 0, .slice none 0 0, .int .i64 0], .iface 195 (.pointer (some ⟨fb,0,none⟩))]) (by simp [results,Tryz.results18,go_sem,zhp,zeB,zhr,zeD,ziT,zfr,zkj,zgz,zkp,zgC]) rfl ?_
  have k1:=zqy zek.out (.int .i64 0) (.slice none 0 0) (.slice none 0 0) (.slice none 0 0) (.int .i64 0)
  exact ⟨Below.setCell (Below.setCell (Below.setCell (Below.setCell (Below.setCell (zcc.out) (p:=⟨w.heap.size + 1,0,none⟩) (by show w.heap.size ≤ w.heap.size + 1;omega) _) (p:=⟨w.heap.size + 1,1,none⟩) (by show w.heap.size ≤ w.heap.size + 1;omega) _) (p:=⟨w.heap.size + 1,2,none⟩) (by show w.heap.size ≤ w.heap.size + 1;omega) _) (p:=⟨w.heap.size + 1,3,none⟩) (by show w.heap.size ≤ w.heap.size + 1;omega) _) (p:=⟨w.heap.size + 1,4,none⟩) (by show w.heap.size ≤ w.heap.size + 1;omega) _, .inl ⟨HHE.out,fb,rfl,k1.blk HFB.out (by decide)⟩⟩
end Du
end Go.Proofs.YtdbgbaiekpbaoaaGreatDoor
