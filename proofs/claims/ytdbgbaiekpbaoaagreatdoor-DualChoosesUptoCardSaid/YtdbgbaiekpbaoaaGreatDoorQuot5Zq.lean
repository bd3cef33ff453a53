/- quot.DivMod by its contract: a divisor of one word;a number below the divisor. Conditions: as each says. -/
import Derived.Test.YtdbgbaiekpbaoaaGreatDoorQuot1Zq
import Derived.Deep.DeepCutAuto
set_option linter.all false
namespace Go.Proofs.YtdbgbaiekpbaoaaGreatDoor
open Go.RowKit Am
open Lib (hid)
attribute [local go_sem ↓] Go.wp_at_zero Go.wp_at_succ
set_option maxHeartbeats 1000000
set_option maxRecDepth 100000
def zv4 (w:World) (q r:Nat) (b:Bool) (e:Ending) (w':World):Prop := ∃ (A:Option Addr) (m c:Nat) (A':Option Addr) (m' c':Nat),e = .returned (.tuple #[.agg #[.slice A m c], .agg #[.slice A' m' c'], .bool b]) ∧ zas w' (.slice A m c) q ∧ zas w' (.slice A' m' c') r ∧ Below w.heap.size w w'
namespace Qt
theorem zIg (s:Value) (ys:List Nat) (b:Nat) (w:World) (hs:SW w s ys) (h:wd ys 0 = b):Calls Tryz.prog 157 #[.agg #[s], .int .i64 0] w fun e w' => e = .returned (.int .u64 (b:Int)) ∧ Below w.heap.size w w' :=
 (Nt.word s ys 0 (by decide) w hs).mono fun e w' h1 => ⟨by rw [h1.1, ← h];rfl,by rw [h1.2];exact zae w _⟩
theorem zIa (g r:Nat) (w:World) (hr:r < 18446744073709551616) (hc:w.cell? ⟨g,0,none⟩ = some (.int .u64 (r:Int))):Calls Tryz.prog 123 #[.slice (some ⟨g,0,none⟩) 1 1] w (zc0 w r):=by
 have h:SR w (.slice (some ⟨g,0,none⟩) 1 1) [r]:=⟨some ⟨g,0,none⟩,1,rfl,Nat.le_refl _,by omega,by intro z hz;simp at hz;subst hz;exact hr,by simp,fun ad he j u hu => by
  cases he
  match j,hu with
  | 0,hu => simp [wcells] at hu;subst hu;simpa [Addr.add] using hc
  | j + 1,hu => simp [wcells] at hu⟩
 have:=Nt.of _ [r] w h (by have:=zaP;simp;omega)
 simpa [nval] using this
theorem zr5 (A B:Option Addr) (m c m' c' a b:Nat) (w:World) (ha:zas w (.slice A m c) a) (hb:zas w (.slice B m' c') b) (hb0:0 < b) (hb1:wlen b ≤ 1) (hla:wlen a ≤ LIM) :
  Calls Tryz.prog 176 #[.agg #[.slice A m c], .agg #[.slice B m' c']] w (zv4 w (a / b) (a % b) true):=by
 obtain ⟨ys,hy,hcy,hny,hly,hm⟩:=hb.words
 subst hm
 have HA:=hid ha
 have HY:=hid hy
 have hyl:(ys.length:Int) ≤ 1:=by omega

 have HLY:=hid hly
 have HNY:=hid hny
 clear ha hb hy hly hny
 have W0:∃ W,W = (((w.alloc (.cells #[.slice A m c] 31)).alloc (.cells #[.slice B ys.length c'] 31)).alloc (.cells #[.slice none 0 0] 31)).alloc (.cells #[.slice none 0 0] 31):=⟨_,rfl⟩
 obtain ⟨W,hW⟩:=W0
 have hz:W.heap.size = w.heap.size + 1 + 1 + 1 + 1:=by rw [hW];simp
 have k0:W.cell? ⟨w.heap.size,0,none⟩ = some (.slice A m c):=by rw [hW];exact zaf (zaf (zaf (zax rfl rfl)))
 have k1:W.cell? ⟨w.heap.size + 1,0,none⟩ = some (.slice B ys.length c'):=by rw [hW];exact zaf (zaf (zax (by simp) rfl))
 have r2:W.heap[w.heap.size + 1 + 1]? = some (.cells #[.slice none 0 0] 31 (0,0)):=by rw [hW];exact zak (zam (by simp))
 have r3:W.heap[w.heap.size + 1 + 1 + 1]? = some (.cells #[.slice none 0 0] 31 (0,0)):=by rw [hW];exact zam (by simp)
 have hB:Below w.heap.size w W:=by rw [hW];exact (((zae w _).alloc (by simp) _).alloc (by simp;omega) _).alloc (by simp;omega) _
 have HAW:=hid (HA.out.below hB)
 have HYW:=hid (HY.out.below hB)
 have R2:=hid r2
 have R3:=hid r3
 have HB:=hid hB
 have HZ:=hid hz
 clear r2 r3 hB hz

 go_enter Tryz.func176,Tryz.ntmps176
 go_wp2_with fail
 rw [← hW]
 clear hW
 refine (Nt.len (.slice B ys.length c') ys _ HYW.out).mono ?_
 rintro e w' ⟨rfl,rfl⟩
 have k0:=zaf (ob := .cells #[.slice B ys.length c'] 31) k0
 have k1:=zaf (ob := .cells #[.slice B ys.length c'] 31) k1
 go_wp2_with fail
 have hwd:wd ys 0 = b:=by
  have h1:=HLY.out
  have h2:=HNY.out
  match ys,h1 with
  | [],_ => simp [nval] at h2;omega
  | [y],_ => simpa [nval,wd] using h2
  | y :: z :: r,h1 => simp at h1;omega
 have HWD:=hid hwd
 have NA:=hid (HAW.out.alloc (.cells #[.slice B ys.length c'] 31))
 have NY:=hid (HYW.out.alloc (.cells #[.slice B ys.length c'] 31))
 have R2:=hid (show (W.alloc (.cells #[.slice B ys.length c'] 31)).heap[w.heap.size + 1 + 1]? = some (.cells #[.slice none 0 0] 31 (0,0)) from zak R2.out)
 have R3:=hid (show (W.alloc (.cells #[.slice B ys.length c'] 31)).heap[w.heap.size + 1 + 1 + 1]? = some (.cells #[.slice none 0 0] 31 (0,0)) from zak R3.out)
 have HB:=hid (HB.out.alloc HB.out.size (.cells #[.slice B ys.length c'] 31))
 have HZ:=hid (show w.heap.size + 4 ≤ (W.alloc (.cells #[.slice B ys.length c'] 31)).heap.size by have:=HZ.out;simp;omega)
 have HX0:=hid (show 0 < b from hb0)
 have HX1:=hid (show b < 18446744073709551616 by have:=zdM NY.out.2 0;omega)
 have HLA:=hid hla
 clear HAW HYW HA HY hwd hla hb1 hyl hcy hb0
 generalize W.alloc (.cells #[.slice B ys.length c'] 31) = V at *
 have HS:=hid (show ∀ w',Below V.heap.size V w' → ((w'.cell? ⟨w.heap.size,0,none⟩ = some (.slice A m c) ∧ w'.cell? ⟨w.heap.size + 1,0,none⟩ = some (.slice B ys.length c')) ∧ Below V.heap.size V w') from fun w' h => ⟨⟨zab h k0,zab h k1⟩,h⟩)
 go_cut [7,8,9] (fun s7 s8 s9 wr => ∃ (g:Nat) (Q:Option Addr) (mq cq:Nat),s7 = .pointer (some ⟨g,0,none⟩) ∧ s8 = .int .u64 ((a % b:Nat):Int) ∧ s9 = .bool true ∧ Below V.heap.size V wr ∧
  wr.cell? ⟨g,0,none⟩ = some (.slice Q mq cq) ∧ zas wr (.slice Q mq cq) (a / b) ∧ V.heap.size ≤ g)
 case first =>
  go_region_held3 (fun w' => ((w'.cell? ⟨w.heap.size,0,none⟩ = some (.slice A m c) ∧ w'.cell? ⟨w.heap.size + 1,0,none⟩ = some (.slice B ys.length c')) ∧ Below V.heap.size V w'))
   ((refine HS.out _ ?_;repeat (first | exact Below.refl _ _ | exact (by assumption:_ ∧ Below _ _ _).2 | with_reducible refine bdrew ?_ | with_reducible refine al2 ?_ _ | with_reducible refine set2 ?_ (by omega) | with_reducible refine zc1 ?_ (by assumption))))
   (first
    | (go_at_call 157;(with_reducible refine (zIg (.slice B ys.length c') ys b _ (NY.out.below (by assumption:_ ∧ Below _ _ _).2) HWD.out).mono ?_);rintro e u1 ⟨rfl,hb1⟩;have hz1:=hb1.size;(try simp at hz1);have hze1:V.heap.size ≤ u1.heap.size:=(by omega);(try ((first | (have pp:=zan (b:=V.heap.size) (v := .slice none 0 0) (t:=31) hb1 (zal _ _ _);obtain ⟨zb8,⟨zjM,zjP⟩,⟨zjN,zjQ⟩,⟨zjO,zjR⟩,⟨zjS,zjT⟩,zjU,zjV⟩:=pp));have zb8:=hid zb8)))
    | (go_at_call 183;(with_reducible refine (zCw A m c a b _ (NA.out.below (by assumption:_ ∧ Below _ _ _).2) HX0.out HX1.out HLA.out).mono ?_);rintro e u2 ⟨Q,mq,cq,rfl,hq,hb2⟩;have hz2:=hb2.size;(try simp at hz2);have hze2:V.heap.size ≤ u2.heap.size:=(by omega);(try ((first | (have pp:=zan (b:=V.heap.size) (v := .slice none 0 0) (t:=31) hb2 (zb8.out);obtain ⟨zbZ,⟨zfh,zfk⟩,⟨zfi,zfl⟩,⟨zfj,zfm⟩,⟨zfn,zfo⟩,zfp,zfq⟩:=pp) | (have pp:=zan (b:=V.heap.size) (v := .slice none 0 0) (t:=31) hb2 (zak zb8.out);obtain ⟨zbZ,⟨zfh,zfk⟩,⟨zfi,zfl⟩,⟨zfj,zfm⟩,⟨zfn,zfo⟩,zfp,zfq⟩:=pp));have zbZ:=hid zbZ));(try ((first | (have pp:=zan (b:=u1.heap.size) (v := .slice none 0 0) (t:=31) hb2 (zal _ _ _);obtain ⟨zcz,⟨zjY,zj1⟩,⟨zjZ,zj2⟩,⟨zj0,zj3⟩,⟨zj4,zj5⟩,zj6,zj7⟩:=pp));have zcz:=hid zcz));have HQ:=hid hq;clear hq))
  all_goals
   go_wp2
   go_meet
   case rel =>
    refine ⟨_,Q,mq,cq,rfl,rfl,rfl,(by assumption:_ ∧ Below V.heap.size V _).2,?_,?_,?_⟩
    all_goals
     repeat' (first
      | with_reducible exact HQ.out
      | with_reducible assumption
      | with_reducible exact zeo _ _ _
      | with_reducible exact zfx _ _ _ _
      | with_reducible refine zaf ?_
      | with_reducible refine Box.cell ?_
      | with_reducible refine zah ?_ ?_
      | with_reducible exact Box.new _ _
      | with_reducible exact Box.new1 _ _ _
      | with_reducible refine Box.alloc ?_
      | with_reducible refine Box.set ?_
      | exact Box.of zbZ.out
      | exact Box.of zcz.out
      | with_reducible refine zas.alloc ?_ _
      | with_reducible refine zas.setBox ?_ ?_
      | with_reducible refine zas.drew ?_
      | omega)
 case rest =>
  obtain ⟨g,Q,mq,cq,rfl,rfl,rfl,hbV,kq,hQ,hg⟩:=hcut
  rename World => wa
  have NQ:=hid hQ
  have R2:=hid (zad hbV R2.out)
  have R3:=hid (zad hbV R3.out)
  have HZV:=HZ
  have HB:=hid (HB.out.trans (hbV.mono HB.out.size))
  have HZ:=hid (show w.heap.size + 4 ≤ wa.heap.size by have:=HZ.out;have:=hbV.size;omega)
  have hr:=hid (show a % b < 18446744073709551616 by have:=Nat.mod_lt a HX0.out;have:=HX1.out;omega)
  clear hbV hQ hg HS NA NY k0 k1
  generalize a % b = r at *
  generalize a / b = qq at *
  have hcr:Hid ((wa.alloc (.cells #[.int .u64 (r:Int)] 193)).drew.cell? ⟨wa.heap.size,0,none⟩ = some (.int .u64 (r:Int))):=hid (zeo wa _ _)
  have kq0:wa.drew.cell? ⟨g,0,none⟩ = some (.slice Q mq cq):=kq
  have kq1:(wa.alloc (.cells #[.int .u64 (r:Int)] 193)).drew.cell? ⟨g,0,none⟩ = some (.slice Q mq cq):=zaf kq
  go_wp2_with fail
  go_region_with (go_at_call 123;go_loud (refine (zIa wa.heap.size r _ hr.out hcr.out).mono ?_;rintro e w2 ⟨A2,m2,c2,rfl,hs2,hb2⟩;have g1:=hid (zad hb2 (show (wa.alloc (.cells #[.int .u64 (r:Int)] 193)).drew.heap[w.heap.size + 1 + 1]? = some (.cells #[.slice none 0 0] 31 (0,0)) from zak R2.out));have g2:=hid (zad hb2 (show (wa.alloc (.cells #[.int .u64 (r:Int)] 193)).drew.heap[w.heap.size + 1 + 1 + 1]? = some (.cells #[.slice none 0 0] 31 (0,0)) from zak R3.out));have kq2:=zab hb2 kq1;have g3:=zac g1.out 0;have g4:=zag g1.out 0;have g5:=zac g2.out 0;have g6:=zag g2.out 0;simp only [List.getElem?_toArray,List.getElem?_cons_zero] at g3 g5;have HS2:=hid hs2;have HB2:=hid hb2;clear hs2 hb2))
  all_goals
   go_wp2
   refine bodyPost_ret (v := .tuple #[.agg #[.slice Q mq cq], .agg #[.slice A2 m2 c2], .bool true]) (by simp [results,Tryz.results176,go_sem,g3,g5]) rfl ?_
   have hz:=HZ.out
   have nq:zas w2 (.slice Q mq cq) qq:=((NQ.out.alloc (.cells #[.int .u64 (r:Int)] 193)).drew).below HB2.out
   have hb:Below w.heap.size w w2:=bstep (zhk (HB.out.alloc HB.out.size _) 1) HB2.out (by simp;omega)
   exact ⟨_,_,_,_,_,_,rfl,zas.setBox (zas.setBox nq (Box.of g1.out)) (Box.set (Box.of g2.out)),zas.setBox (zas.setBox HS2.out (Box.of g1.out)) (Box.set (Box.of g2.out)),Below.setCell (Below.setCell hb (by simp;omega) _) (by simp;omega) _⟩
end Qt
end Go.Proofs.YtdbgbaiekpbaoaaGreatDoor
