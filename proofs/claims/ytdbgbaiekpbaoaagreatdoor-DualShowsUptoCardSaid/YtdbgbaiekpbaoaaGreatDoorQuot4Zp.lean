/- quot.back by its contract. Conditions: as it says. quot.DivMod by its contract: a divisor of one word;a number below the divisor. Conditions: as each says. quot.DivMod by its contract: a number below the divisor. Conditions: as it says. Copies of words that are the call's own;append of two noughts. Conditions: as each says. Numbers shifted so that the divisor's highest bit is 1. Plain arithmetic. Conditions: as they say. -/
import Derived.Test.YtdbgbaiekpbaoaaGreatDoorProd2Zp
import Derived.Deep.DeepCutAuto
set_option linter.all false
namespace Go.Proofs.YtdbgbaiekpbaoaaGreatDoor
open Go.RowKit Am
open Lib (hid)
attribute [local go_sem ↓] Go.wp_at_zero Go.wp_at_succ
set_option maxHeartbeats 1000000
set_option maxRecDepth 100000
namespace Qt
theorem back (W w:World) (H n cap k cp:Nat) (os vs:List Nat) (A:Option Addr) (c:Nat) (hO:OutC W w H n cap os) (hv:SW W (.slice A vs.length c) vs) (hH:(Value.slice A vs.length c).ownBlock ≠ some H) (ho:Wds os) (hk:k + vs.length < n) (hn:n ≤ 2 * LIM) :
    Calls Tryz.prog 188 #[.slice (some ⟨H,k,none⟩) (vs.length + 1) cp, .agg #[.slice A vs.length c]] w fun e w' => ∃ os':List Nat,e = .returned (.tuple #[]) ∧ OutC W w' H n cap os' ∧
      Wds os' ∧ za8 os os' k (k + vs.length + 1) ∧ ∃ b,nval os' + B64 ^ (k + vs.length + 1) * b = nval os + B64 ^ k * nval vs:=by
  have HO:=hid hO
  have HV:=hid hv
  have HW:=hid ho
  have hvb:vs.length ≤ 9223372036854775806:=by have:=zaP;omega
  clear hO hv ho
  have hb0:OutC W (w.alloc (.cells #[.slice A vs.length c] 31)) H n cap os:=HO.out.alloc _
  have hc0:(w.alloc (.cells #[.slice A vs.length c] 31)).cell? ⟨w.heap.size,0,none⟩ = some (.slice A vs.length c):=zax rfl rfl
  have hlt:=HO.out.lt
  go_enter Tryz.func188,Tryz.ntmps188
  go_wp2_with fail
  generalize hw1:w.alloc (.cells #[.slice A vs.length c] 31) = w1 at *
  clear hw1
  have hne:w.heap.size ≠ H:=by omega
  generalize w.heap.size = B at *
  refine (Nt.len (.slice A vs.length c) vs _ (hb0.keep HV.out hH)).mono ?_
  rintro e w' ⟨rfl,rfl⟩
  have hb1:=hid (hb0.alloc (.cells #[.slice A vs.length c] 31))
  have hc1:=hid (cell_al (ob := .cells #[.slice A vs.length c] 31) hc0)
  clear hb0 hc0
  generalize w1.alloc (.cells #[.slice A vs.length c] 31) = w2 at *
  go_wp2_with fail
  go_loopw [4,8] (fun bv kv wr => ∃ (j Bo:Nat) (os':List Nat),kv = .int .i64 j ∧ bv = .int .u64 Bo ∧ j ≤ vs.length ∧ BackInv os os' vs k j Bo ∧ OutC W wr H n cap os' ∧ wr.cell? ⟨B,0,none⟩ = some (.slice A vs.length c))
    (fun _ kv _ => vs.length - (intOf kv).toNat)
  case atStart => exact ⟨0,0,os,rfl,rfl,Nat.zero_le _,BackInv.start os vs k HW.out,hb1.out,hc1.out⟩
  case round =>
    obtain ⟨j,Bo,os',rfl,rfl,hj,hI,hO,hc⟩:=hrel
    have hBo:Bo ≤ 1:=hI.one
    have HI:=hid hI
    clear hI
    by_cases hjt:j < vs.length
    · have hvr:Hid (SW wr.drew (.slice A vs.length c) vs):=hid (hO.drew.keep HV.out hH)
      have hvj:=zdM HV.out.2 j
      have hoj:=zdM HI.out.wds (k + j)
      have hcell0:wr.drew.cell? ⟨H,k + j,none⟩ = some (.int .u64 ((wd os' (k + j):Nat):Int)):=hO.cell (k:=k + j) (by omega)
      have hcell:(wr.alloc (.cells #[.slice A vs.length c] 31)).drew.cell? ⟨H,k + j,none⟩ = some (.int .u64 ((wd os' (k + j):Nat):Int)):=cell_al (hO.cell (k:=k + j) (by omega))
      have hfro:(wr.alloc (.cells #[.slice A vs.length c] 31)).drew.frozen? ⟨H,k + j,none⟩ = false:=zd1 hO.lt (hO.fro (k + j))
      have hc0:wr.drew.cell? ⟨B,0,none⟩ = some (.slice A vs.length c):=hc
      have hj0:(0:Int) ≤ (j:Int):=Int.natCast_nonneg _
      have hj1:(j:Int) < (vs.length:Int) + 1:=by omega
      have hj2:(j:Int) < (vs.length:Int):=by omega
      have HO2:=hid hO
      have HC:=hid hc
      clear hO hc
      go_wp2_with fail
      go_region_with (first
        | (go_at_call 157;(with_reducible refine (Nt.word (.slice A vs.length c) vs _ hj0 _ hvr.out).mono ?_);rintro e w' ⟨rfl,rfl⟩)
        | (go_at_call 159;(refine (Word.add (wd os' (k + j)) (wd vs j) Bo hoj hvj hBo _).mono ?_);rintro e w' ⟨rfl,rfl⟩))
      all_goals
        (go_wp2
         exact ⟨⟨j + 1,_,_,by go_num,rfl,by omega,HI.out.next HV.out.2 (by rw [← HI.out.out.1,HO2.out.len];omega),((HO2.out.alloc _).store (k + j) _).drew,cell_set hne (cell_al HC.out)⟩,by simp [intOf];omega⟩)
    · obtain rfl:j = vs.length:=by omega
      have hvr:Hid (SW wr (.slice A vs.length c) vs):=hid (hO.keep HV.out hH)
      have hoj:=zdM HI.out.wds (k + vs.length)
      have hcell:=cell_al (ob := .cells #[.slice A vs.length c] 31) (hO.cell (k:=k + vs.length) (by omega))
      have hfro:=zd1 (ob := .cells #[.slice A vs.length c] 31) hO.lt (hO.fro (k + vs.length))
      have hj0:(0:Int) ≤ (vs.length:Int):=Int.natCast_nonneg _
      have hj1:(vs.length:Int) < (vs.length:Int) + 1:=by omega
      have HO2:=hid hO
      clear hO
      have hw:IntKind.u64.wrap (((wd os' (k + vs.length):Nat):Int) + ((Bo:Nat):Int)) = ((zjj (wd os' (k + vs.length)) Bo 0:Nat):Int):=by rw [IntKind.wrap_u64];unfold zjj B64;omega
      have HWR:=hid hw
      clear hw
      go_wp2_with fail
      refine (Nt.len (.slice A vs.length c) vs _ hvr.out).mono ?_
      rintro e w' ⟨rfl,rfl⟩
      go_wp2
      rw [HWR.out]
      have hf:=HI.out.fin (by rw [← HI.out.out.1,HO2.out.len];omega)
      exact bodyPost_end (v := .tuple #[]) (by simp [results,Tryz.results188,go_sem]) rfl ⟨_,rfl,(HO2.out.alloc _).store (k + vs.length) _,hf.1,hf.2.1,hf.2.2⟩
end Qt
def zv4 (w:World) (q r:Nat) (b:Bool) (e:Ending) (w':World):Prop := ∃ (A:Option Addr) (m c:Nat) (A':Option Addr) (m' c':Nat),e = .returned (.tuple #[.agg #[.slice A m c], .agg #[.slice A' m' c'], .bool b]) ∧ zas w' (.slice A m c) q ∧ zas w' (.slice A' m' c') r ∧ Below w.heap.size w w'
namespace Qt
theorem zIg (s:Value) (ys:List Nat) (b:Nat) (w:World) (hs:SW w s ys) (h:wd ys 0 = b):Calls Tryz.prog 157 #[.agg #[s], .int .i64 0] w fun e w' => e = .returned (.int .u64 (b:Int)) ∧ Below w.heap.size w w' :=
 (Nt.word s ys 0 (by decide) w hs).mono fun e w' h1 => ⟨by rw [h1.1, ← h];rfl,by rw [h1.2];exact zae w _⟩
theorem zIa (g r:Nat) (w:World) (hr:r < 18446744073709551616) (hc:w.cell? ⟨g,0,none⟩ = some (.int .u64 (r:Int))):Calls Tryz.prog 123 #[.slice (some ⟨g,0,none⟩) 1 1] w (zc0 w r):=by
 have h:SR w (.slice (some ⟨g,0,none⟩) 1 1) [r]:=⟨some ⟨g,0,none⟩,1,rfl,Nat.le_refl _,by omega,by intro z hz;simp at hz;subst hz;exact hr,by simp,fun ad he j u hu => by
  cases he
  match j,hu with
  | 0,hu => simp [wcells] at hu;subst hu;simpa [Addr.add] using hc
  | j + 1,hu => simp [wcells] at hu⟩
 have:=Nt.of _ [r] w h (by have:=zaP;simp;omega)
 simpa [nval] using this
theorem zr5 (A B:Option Addr) (m c m' c' a b:Nat) (w:World) (ha:zas w (.slice A m c) a) (hb:zas w (.slice B m' c') b) (hb0:0 < b) (hb1:wlen b ≤ 1) (hla:wlen a ≤ LIM) :
  Calls Tryz.prog 176 #[.agg #[.slice A m c], .agg #[.slice B m' c']] w (zv4 w (a / b) (a % b) true):=by
 obtain ⟨ys,hy,hcy,hny,hly,hm⟩:=hb.words
 subst hm
 have HA:=hid ha
 have HY:=hid hy
 have hyl:(ys.length:Int) ≤ 1:=by omega

 have HLY:=hid hly
 have HNY:=hid hny
 clear ha hb hy hly hny
 have W0:∃ W,W = (((w.alloc (.cells #[.slice A m c] 31)).alloc (.cells #[.slice B ys.length c'] 31)).alloc (.cells #[.slice none 0 0] 31)).alloc (.cells #[.slice none 0 0] 31):=⟨_,rfl⟩
 obtain ⟨W,hW⟩:=W0
 have hz:W.heap.size = w.heap.size + 1 + 1 + 1 + 1:=by rw [hW];simp
 have k0:W.cell? ⟨w.heap.size,0,none⟩ = some (.slice A m c):=by rw [hW];exact cell_al (cell_al (cell_al (zax rfl rfl)))
 have k1:W.cell? ⟨w.heap.size + 1,0,none⟩ = some (.slice B ys.length c'):=by rw [hW];exact cell_al (cell_al (zax (by simp) rfl))
 have r2:W.heap[w.heap.size + 1 + 1]? = some (.cells #[.slice none 0 0] 31 (0,0)):=by rw [hW];exact zak (zam (by simp))
 have r3:W.heap[w.heap.size + 1 + 1 + 1]? = some (.cells #[.slice none 0 0] 31 (0,0)):=by rw [hW];exact zam (by simp)
 have hB:Below w.heap.size w W:=by rw [hW];exact (((zae w _).alloc (by simp) _).alloc (by simp;omega) _).alloc (by simp;omega) _
 have HAW:=hid (HA.out.below hB)
 have HYW:=hid (HY.out.below hB)
 have R2:=hid r2
 have R3:=hid r3
 have HB:=hid hB
 have HZ:=hid hz
 clear r2 r3 hB hz

 go_enter Tryz.func176,Tryz.ntmps176
 go_wp2_with fail
 rw [← hW]
 clear hW
 refine (Nt.len (.slice B ys.length c') ys _ HYW.out).mono ?_
 rintro e w' ⟨rfl,rfl⟩
 have k0:=cell_al (ob := .cells #[.slice B ys.length c'] 31) k0
 have k1:=cell_al (ob := .cells #[.slice B ys.length c'] 31) k1
 go_wp2_with fail
 have hwd:wd ys 0 = b:=by
  have h1:=HLY.out
  have h2:=HNY.out
  match ys,h1 with
  | [],_ => simp [nval] at h2;omega
  | [y],_ => simpa [nval,wd] using h2
  | y :: z :: r,h1 => simp at h1;omega
 have HWD:=hid hwd
 have NA:=hid (HAW.out.alloc (.cells #[.slice B ys.length c'] 31))
 have NY:=hid (HYW.out.alloc (.cells #[.slice B ys.length c'] 31))
 have R2:=hid (show (W.alloc (.cells #[.slice B ys.length c'] 31)).heap[w.heap.size + 1 + 1]? = some (.cells #[.slice none 0 0] 31 (0,0)) from zak R2.out)
 have R3:=hid (show (W.alloc (.cells #[.slice B ys.length c'] 31)).heap[w.heap.size + 1 + 1 + 1]? = some (.cells #[.slice none 0 0] 31 (0,0)) from zak R3.out)
 have HB:=hid (HB.out.alloc HB.out.size (.cells #[.slice B ys.length c'] 31))
 have HZ:=hid (show w.heap.size + 4 ≤ (W.alloc (.cells #[.slice B ys.length c'] 31)).heap.size by have:=HZ.out;simp;omega)
 have HX0:=hid (show 0 < b from hb0)
 have HX1:=hid (show b < 18446744073709551616 by have:=zdM NY.out.2 0;omega)
 have HLA:=hid hla
 clear HAW HYW HA HY hwd hla hb1 hyl hcy hb0
 generalize W.alloc (.cells #[.slice B ys.length c'] 31) = V at *
 have HS:=hid (show ∀ w',Below V.heap.size V w' → ((w'.cell? ⟨w.heap.size,0,none⟩ = some (.slice A m c) ∧ w'.cell? ⟨w.heap.size + 1,0,none⟩ = some (.slice B ys.length c')) ∧ Below V.heap.size V w') from fun w' h => ⟨⟨zab h k0,zab h k1⟩,h⟩)
 go_cut [7,8,9] (fun s7 s8 s9 wr => ∃ (g:Nat) (Q:Option Addr) (mq cq:Nat),s7 = .pointer (some ⟨g,0,none⟩) ∧ s8 = .int .u64 ((a % b:Nat):Int) ∧ s9 = .bool true ∧ Below V.heap.size V wr ∧
  wr.cell? ⟨g,0,none⟩ = some (.slice Q mq cq) ∧ zas wr (.slice Q mq cq) (a / b) ∧ V.heap.size ≤ g)
 case first =>
  go_region_held3 (fun w' => ((w'.cell? ⟨w.heap.size,0,none⟩ = some (.slice A m c) ∧ w'.cell? ⟨w.heap.size + 1,0,none⟩ = some (.slice B ys.length c')) ∧ Below V.heap.size V w'))
   ((refine HS.out _ ?_;repeat (first | exact Below.refl _ _ | exact (by assumption:_ ∧ Below _ _ _).2 | with_reducible refine bdrew ?_ | with_reducible refine al2 ?_ _ | with_reducible refine set2 ?_ (by omega) | with_reducible refine zc1 ?_ (by assumption))))
   (first
    | (go_at_call 157;(with_reducible refine (zIg (.slice B ys.length c') ys b _ (NY.out.below (by assumption:_ ∧ Below _ _ _).2) HWD.out).mono ?_);rintro e u1 ⟨rfl,hb1⟩;have hz1:=hb1.size;(try simp at hz1);have hze1:V.heap.size ≤ u1.heap.size:=(by omega);(try ((first | (have pp:=zan (b:=V.heap.size) (v := .slice none 0 0) (t:=31) hb1 (zal _ _ _);obtain ⟨zb8,⟨zjM,zjP⟩,⟨zjN,zjQ⟩,⟨zjO,zjR⟩,⟨zjS,zjT⟩,zjU,zjV⟩:=pp));have zb8:=hid zb8)))
    | (go_at_call 183;(with_reducible refine (zCw A m c a b _ (NA.out.below (by assumption:_ ∧ Below _ _ _).2) HX0.out HX1.out HLA.out).mono ?_);rintro e u2 ⟨Q,mq,cq,rfl,hq,hb2⟩;have hz2:=hb2.size;(try simp at hz2);have hze2:V.heap.size ≤ u2.heap.size:=(by omega);(try ((first | (have pp:=zan (b:=V.heap.size) (v := .slice none 0 0) (t:=31) hb2 (zb8.out);obtain ⟨zbZ,⟨zfh,zfk⟩,⟨zfi,zfl⟩,⟨zfj,zfm⟩,⟨zfn,zfo⟩,zfp,zfq⟩:=pp) | (have pp:=zan (b:=V.heap.size) (v := .slice none 0 0) (t:=31) hb2 (zak zb8.out);obtain ⟨zbZ,⟨zfh,zfk⟩,⟨zfi,zfl⟩,⟨zfj,zfm⟩,⟨zfn,zfo⟩,zfp,zfq⟩:=pp));have zbZ:=hid zbZ));(try ((first | (have pp:=zan (b:=u1.heap.size) (v := .slice none 0 0) (t:=31) hb2 (zal _ _ _);obtain ⟨zcz,⟨zjY,zj1⟩,⟨zjZ,zj2⟩,⟨zj0,zj3⟩,⟨zj4,zj5⟩,zj6,zj7⟩:=pp));have zcz:=hid zcz));have HQ:=hid hq;clear hq))
  all_goals
   go_wp2
   go_meet
   case rel =>
    refine ⟨_,Q,mq,cq,rfl,rfl,rfl,(by assumption:_ ∧ Below V.heap.size V _).2,?_,?_,?_⟩
    all_goals
     repeat' (first
      | with_reducible exact HQ.out
      | with_reducible assumption
      | with_reducible exact zeo _ _ _
      | with_reducible exact zfx _ _ _ _
      | with_reducible refine cell_al ?_
      | with_reducible refine Box.cell ?_
      | with_reducible refine cell_set ?_ ?_
      | with_reducible exact Box.new _ _
      | with_reducible exact Box.new1 _ _ _
      | with_reducible refine Box.alloc ?_
      | with_reducible refine Box.set ?_
      | exact Box.of zbZ.out
      | exact Box.of zcz.out
      | with_reducible refine zas.alloc ?_ _
      | with_reducible refine zas.setBox ?_ ?_
      | with_reducible refine zas.drew ?_
      | omega)
 case rest =>
  obtain ⟨g,Q,mq,cq,rfl,rfl,rfl,hbV,kq,hQ,hg⟩:=hcut
  rename World => wa
  have NQ:=hid hQ
  have R2:=hid (zad hbV R2.out)
  have R3:=hid (zad hbV R3.out)
  have HZV:=HZ
  have HB:=hid (HB.out.trans (hbV.mono HB.out.size))
  have HZ:=hid (show w.heap.size + 4 ≤ wa.heap.size by have:=HZ.out;have:=hbV.size;omega)
  have hr:=hid (show a % b < 18446744073709551616 by have:=Nat.mod_lt a HX0.out;have:=HX1.out;omega)
  clear hbV hQ hg HS NA NY k0 k1
  generalize a % b = r at *
  generalize a / b = qq at *
  have hcr:Hid ((wa.alloc (.cells #[.int .u64 (r:Int)] 193)).drew.cell? ⟨wa.heap.size,0,none⟩ = some (.int .u64 (r:Int))):=hid (zeo wa _ _)
  have kq0:wa.drew.cell? ⟨g,0,none⟩ = some (.slice Q mq cq):=kq
  have kq1:(wa.alloc (.cells #[.int .u64 (r:Int)] 193)).drew.cell? ⟨g,0,none⟩ = some (.slice Q mq cq):=cell_al kq
  go_wp2_with fail
  go_region_with (go_at_call 123;go_loud (refine (zIa wa.heap.size r _ hr.out hcr.out).mono ?_;rintro e w2 ⟨A2,m2,c2,rfl,hs2,hb2⟩;have g1:=hid (zad hb2 (show (wa.alloc (.cells #[.int .u64 (r:Int)] 193)).drew.heap[w.heap.size + 1 + 1]? = some (.cells #[.slice none 0 0] 31 (0,0)) from zak R2.out));have g2:=hid (zad hb2 (show (wa.alloc (.cells #[.int .u64 (r:Int)] 193)).drew.heap[w.heap.size + 1 + 1 + 1]? = some (.cells #[.slice none 0 0] 31 (0,0)) from zak R3.out));have kq2:=zab hb2 kq1;have g3:=zac g1.out 0;have g4:=zag g1.out 0;have g5:=zac g2.out 0;have g6:=zag g2.out 0;simp only [List.getElem?_toArray,List.getElem?_cons_zero] at g3 g5;have HS2:=hid hs2;have HB2:=hid hb2;clear hs2 hb2))
  all_goals
   go_wp2
   refine bodyPost_ret (v := .tuple #[.agg #[.slice Q mq cq], .agg #[.slice A2 m2 c2], .bool true]) (by simp [results,Tryz.results176,go_sem,g3,g5]) rfl ?_
   have hz:=HZ.out
   have nq:zas w2 (.slice Q mq cq) qq:=((NQ.out.alloc (.cells #[.int .u64 (r:Int)] 193)).drew).below HB2.out
   have hb:Below w.heap.size w w2:=bstep (zhk (HB.out.alloc HB.out.size _) 1) HB2.out (by simp;omega)
   exact ⟨_,_,_,_,_,_,rfl,zas.setBox (zas.setBox nq (Box.of g1.out)) (Box.set (Box.of g2.out)),zas.setBox (zas.setBox HS2.out (Box.of g1.out)) (Box.set (Box.of g2.out)),Below.setCell (Below.setCell hb (by simp;omega) _) (by simp;omega) _⟩
end Qt
namespace Qt

theorem zpY (A B:Option Addr) (m c m' c' a b:Nat) (w:World) (ha:zas w (.slice A m c) a) (hb:zas w (.slice B m' c') b) (hb1:¬ wlen b ≤ 1) (hlt:a < b) :
  Calls Tryz.prog 176 #[.agg #[.slice A m c], .agg #[.slice B m' c']] w (zv4 w (a / b) (a % b) true):=by
 obtain ⟨ys,hy,_,_,hly,hm⟩:=hb.words
 subst hm
 have HA:=hid ha
 have HBN:=hid hb
 have HY:=hid hy
 have hyl:¬ (ys.length:Int) ≤ 1:=by omega
 clear ha hb hy hly
 have W0:∃ W,W = (((w.alloc (.cells #[.slice A m c] 31)).alloc (.cells #[.slice B ys.length c'] 31)).alloc (.cells #[.slice none 0 0] 31)).alloc (.cells #[.slice none 0 0] 31):=⟨_,rfl⟩
 obtain ⟨W,hW⟩:=W0
 have hz:W.heap.size = w.heap.size + 1 + 1 + 1 + 1:=by rw [hW];simp
 have k0:W.cell? ⟨w.heap.size,0,none⟩ = some (.slice A m c):=by rw [hW];exact cell_al (cell_al (cell_al (zax rfl rfl)))
 have k1:W.cell? ⟨w.heap.size + 1,0,none⟩ = some (.slice B ys.length c'):=by rw [hW];exact cell_al (cell_al (zax (by simp) rfl))
 have r2:W.heap[w.heap.size + 1 + 1]? = some (.cells #[.slice none 0 0] 31 (0,0)):=by rw [hW];exact zak (zam (by simp))
 have r3:W.heap[w.heap.size + 1 + 1 + 1]? = some (.cells #[.slice none 0 0] 31 (0,0)):=by rw [hW];exact zam (by simp)
 have hB:Below w.heap.size w W:=by rw [hW];exact (((zae w _).alloc (by simp) _).alloc (by simp;omega) _).alloc (by simp;omega) _
 have NA:=hid (HA.out.below hB)
 have NB:=hid (HBN.out.below hB)
 have NY:=hid (HY.out.below hB)
 have R2:=hid r2
 have R3:=hid r3
 have HB:=hid hB
 have HZ:=hid hz
 clear r2 r3 hB hz HA HBN HY
 go_enter Tryz.func176,Tryz.ntmps176
 go_wp2_with fail
 rw [← hW]
 clear hW
 refine (Nt.len (.slice B ys.length c') ys _ NY.out).mono ?_
 rintro e w' ⟨rfl,rfl⟩
 have k0:=cell_al (ob := .cells #[.slice B ys.length c'] 31) k0
 have k1:=cell_al (ob := .cells #[.slice B ys.length c'] 31) k1
 go_wp2_with fail
 refine (Nt.cmp A B m c ys.length c' a b _ (NA.out.alloc _) (NB.out.alloc _)).mono ?_
 rintro e w2 ⟨rfl,hb2⟩
 have hV:Below W.heap.size W w2:=((zae W _).trans (hb2.mono (by simp)))
 have k0:=zab hb2 k0
 have k1:=zab hb2 k1
 have NA:=hid (NA.out.below hV)
 have NB:=hid (NB.out.below hV)
 have NY:=hid (NY.out.below hV)
 have R2:=hid (zad hV R2.out)
 have R3:=hid (zad hV R3.out)
 have HB:=hid (HB.out.trans (hV.mono (by have:=HZ.out;omega)))
 have HZ:=hid (show w.heap.size + 4 ≤ w2.heap.size by have:=HZ.out;have:=hV.size;omega)
 clear hb2 hV
 rw [zeb (show (a:Int) < (b:Int) by omega)]
 go_wp2_with fail
 have g3:=zac R2.out 0
 have g4:=zag R2.out 0
 have g5:=zac R3.out 0
 have g6:=zag R3.out 0
 simp only [List.getElem?_toArray,List.getElem?_cons_zero] at g3 g5
 have hq:a / b = 0:=Nat.div_eq_of_lt hlt
 have hr:a % b = a:=Nat.mod_eq_of_lt hlt
 have HQR:=hid (And.intro hq hr)
 clear hq hr hlt
 go_region
 all_goals
  go_wp2
  refine bodyPost_ret (v := .tuple #[.agg #[.slice none 0 0], .agg #[.slice A m c], .bool true]) (by simp [results,Tryz.results176,go_sem,g3,g5]) rfl ?_
  have hz:=HZ.out
  rw [HQR.out.1,HQR.out.2]
  exact ⟨_,_,_,_,_,_,rfl,zas.zero _,(zas.setBox (zas.setBox NA.out (Box.of R2.out)) (Box.set (Box.of R3.out))).drew,(Below.setCell (Below.setCell HB.out (p:=⟨w.heap.size + 1 + 1,0,none⟩) (by show w.heap.size ≤ w.heap.size + 1 + 1;omega) _) (p:=⟨w.heap.size + 1 + 1 + 1,0,none⟩) (by show w.heap.size ≤ w.heap.size + 1 + 1 + 1;omega) _).drew⟩
end Qt
def zq4 (w:World) (xs:List Nat) (e:Ending) (w':World):Prop := ∃ (A:Option Addr) (m c:Nat),e = .returned (.slice A m c) ∧ w'.ownsRow w.heap.size 193 1 (.slice A m c) xs.length (wcells xs) ∧ Wds xs ∧ Below w.heap.size w w'
theorem zoq {xs:List Nat} (h:Canon xs) (hn:0 < xs.length):wd xs (xs.length - 1) ≠ 0:=by
 have h1:=h (by intro e;subst e;simp at hn)
 rw [List.getLast_eq_getElem] at h1
 unfold wd
 rw [List.getD_eq_getElem?_getD,List.getElem?_eq_getElem (by omega)]
 exact h1
theorem zA5 {w:World} {H g n cap:Nat} {e:TypeId} {size:Nat} {xs:List Value} (h:w.ownsRow H e size (.slice (some ⟨g,0,none⟩) n cap) n xs) (i:Nat) (hi:i ≤ n) :
  w.ownsRow g e size (.slice (some ⟨g,0,none⟩) i cap) i (xs.take (i * size)):=by
 have hl:i * size ≤ n * size:=Nat.mul_le_mul_right _ hi
 refine ⟨by rw [List.length_take,h.1];omega,?_⟩
 rcases h.2 with ⟨h',_⟩ | ⟨g',cap',cur,h',hb,hg,hnc,hcm,hcs,htake⟩
 ·simp at h'
 ·simp only [Value.slice.injEq,Option.some.injEq,Addr.mk.injEq,and_true,true_and] at h'
  obtain ⟨rfl,rfl⟩:=h'
  refine .inr ⟨g,cap,cur,rfl,Nat.le_refl _,hg,by omega,hcm,hcs,?_⟩
  rw [← htake,List.take_take,Nat.min_eq_left hl]
theorem zxt {w:World} {base:Nat} {e:TypeId} {size:Nat} {v:Value} {n:Nat} {xs:List Value} (h:w.ownsRow base e size v n xs) (hn:0 < n):∃ g cp,v = .slice (some ⟨g,0,none⟩) n cp ∧ n ≤ cp ∧ base ≤ g:=by
 rcases h.2 with ⟨_,h0⟩ | ⟨g,cap,cur,rfl,hb,_,hc,_⟩
 ·omega
 ·exact ⟨g,cap,rfl,hc,hb⟩
theorem zfF {B:Nat} {e:TypeId} {k:Nat} {v:Value} {n:Nat} {xs:List Value} {w w':World} (h:w.ownsRow B e k v n xs) (hb:Below w.heap.size w w'):w'.ownsRow B e k v n xs:=by
 refine ⟨h.1,?_⟩
 rcases h.2 with hn | ⟨g,cap,cur,hv,hB,hg,r⟩
 ·exact .inl hn
 ·exact .inr ⟨g,cap,cur,hv,hB,by rw [hb.block g (Array.getElem?_eq_some_iff.1 hg).1];exact hg,r⟩
theorem zxv {w:World} {H g n cap k:Nat} {ys:List Nat} (h:w.ownsRow H 193 1 (.slice (some ⟨g,0,none⟩) n cap) n (wcells ys)) (hk:k ≤ n) :
  w.ownsRow g 193 1 (.slice (some ⟨g,0,none⟩) k cap) k (wcells (ys.take k)):=by
 have:=zA5 h k hk
 rw [Nat.mul_one, ← zg7] at this
 exact this
namespace Nt
theorem zC7 (s:Value) (xs:List Nat) (w:World) (h:SR w s xs) (hb:xs.length ≤ LIM):Calls Tryz.prog 162 #[s] w (zq4 w xs):=by
 obtain ⟨A,c,rfl,hlc,hc9,hw,hnil,hcell⟩:=h
 have hWD:=hid hw
 clear hw
 rcases A with _ | ad
 ·obtain ⟨rfl,rfl⟩:=hnil rfl
  clear hcell hnil
  have hq:=fun (w:World) => Lib.run_eql_slice_nil (P:=Tryz.prog) w 29 193 none 0 0 0 0 Tryz.underlying29
  go_enter Tryz.func162,Tryz.ntmps162
  go_wp2
  go_ret
  exact ⟨_,_,_,rfl,World.ownsRow_nil _ _ _ _,Wds.nil,Below.refl _ _⟩
 ·have HC:=hid (hcell ad rfl)
  clear hcell hnil
  have hq:=fun (w:World) => Lib.run_eql_slice_nil (P:=Tryz.prog) w 29 193 (some ad) xs.length c 0 0 Tryz.underlying29
  obtain ⟨i0,hi,hz0,hz1,hz2⟩:=info_parts zf7
  have hown:=World.ownsRow_made (e:=193) (size:=1) (base:=w.heap.size) w #[] 0 (Nat.le_refl _) (by unfold maxLen;omega) rfl
  have hnews:∀ j u,(wcells xs)[j]? = some u → (w.alloc (.cells #[] 193)).cell? (ad.add j) = some u:=fun j u hu =>
   (World.cell?_alloc_lt w _ _ (World.block_lt_of_cell? w _ (HC.out j u hu))).trans (HC.out j u hu)
  have HO:=hid hown
  have HN:=hid hnews
  have b1:0 + xs.length ≤ maxLen:=by unfold maxLen;omega
  have b2:(0 + xs.length) * 8 ≤ 140737488355328:=by have:=zaP;omega
  have B1:=hid b1
  have B2:=hid b2
  clear hown hnews b1 b2 hb hlc hc9
  go_enter Tryz.func162,Tryz.ntmps162
  go_wp2_with (at_builtin;refine wpList_append_own _ rfl _ _ 29 rfl w.heap.size 193 i0 (.int .u64 0) 1 8 Tryz.underlying29 hi hz0 hz1 hz2 rfl (by decide) _ _ _ rfl HO.out ad xs.length c (wcells xs) rfl (by rw [zdA];omega) HN.out (zgf xs) B1.out B2.out (by simp) ?_;intro v' w1 hown' hgrow hnil')
  go_ret
  rw [Nat.zero_add,List.nil_append] at hown'
  have hs':=SW.of_own hown' hWD.out
  obtain ⟨A',m',c',rfl⟩:=hs'.slice
  exact ⟨A',m',c',rfl,hown',hWD.out,(zae w _).trans ((Below.refl _ _).grown hgrow (by simp) (fun k hk => by cases hk;exact Nat.le_refl _))⟩
theorem wordsF (A:Option Addr) (m c:Nat) (xs:List Nat) (w:World) (h:SW w (.slice A m c) xs) (hb:xs.length ≤ LIM):Calls Tryz.prog 158 #[.agg #[.slice A m c]] w (zq4 w xs):=by
 have h2:=(h.alloc (.cells #[.slice A m c] 31)).reads
 have H2:=hid h2
 have HB:=hid hb
 clear h h2 hb
 go_enter Tryz.func158,Tryz.ntmps158
 go_wp2_with fail
 refine (zC7 _ xs _ H2.out HB.out).mono ?_
 rintro e w1 ⟨A1,m1,c1,rfl,hs1,hw1,hb1⟩
 go_wp2
 go_ret
 exact ⟨_,_,_,rfl,zbu hs1 (by simp),hw1,bstep (zae w _) hb1 (by simp)⟩
end Nt
theorem zH5 (w:World) (n:Nat) (hn:w.heap.size = n) (j:Nat) (u:Value) (h:(wcells [0,0])[j]? = some u):(w.alloc (.cells #[.int .u64 0, .int .u64 0] 193)).cell? ((⟨n,0,none⟩:Addr).add j) = some u:=by
 subst hn
 rw [show (⟨w.heap.size,0,none⟩:Addr).add j = ⟨w.heap.size,j,none⟩ by unfold Addr.add;split <;> simp_all]
 exact (zac (zal w _ _) j).trans (by match j,h with | 0,h => simpa [wcells] using h | 1,h => simpa [wcells] using h | j + 2,h => simp [wcells] at h)
theorem zo4 {ops:Array Oper} {o:Oper} {a:Act} {w:World} {K:Act → World → Prop} {Q:Exit → Act → World → Prop} {E:Prop} (hg:o.guard = none)
  (s x:Operand) (hop:o.op = .call { callee := .builtin .append,args := #[s,x],argTypes := #[29,29] })
  {H n:Nat} {v:Value} {ys xs:List Nat} (hO:w.ownsRow H 193 1 v n (wcells ys)) (hs:a.eval s = v) {ad:Addr} {m c:Nat} (hx:a.eval x = .slice (some ad) m c) (hm:m = xs.length)
  (hnews:∀ j u,(wcells xs)[j]? = some u → w.cell? (ad.add j) = some u) (hl:n + xs.length ≤ 2 * LIM) (hH:H ≤ w.heap.size)
  (hK:∀ v' w',w'.ownsRow H 193 1 v' (n + xs.length) (wcells (ys ++ xs)) → w.grownBy w' v.ownBlock → K (a.put o.dst v') w') :
  if Region.wanted o (yielded ops a.tmps) = true then Oper.wp Tryz.prog o a w K Q else E:=by
 have hw:Region.wanted o (yielded ops a.tmps) = true:=by simp [Region.wanted,hg]
 rw [if_pos hw]
 subst hm
 obtain ⟨i0,hi,hz0,hz1,hz2⟩:=info_parts zf7
 refine wp_append_own w s x 29 hop H 193 i0 (.int .u64 0) 1 8 Tryz.underlying29 hi hz0 hz1 hz2 rfl (by decide) v n _ hs hO ad xs.length c (wcells xs) hx (by rw [zdA];omega) hnews (zgf xs)
  (by unfold maxLen;have:=zaP;omega) (by have:=zaP;omega) hH fun v' w' hown hgrow _ => ?_
 rw [← zia] at hown
 exact hK v' w' hown hgrow
end Go.Proofs.YtdbgbaiekpbaoaaGreatDoor
namespace Go.Proofs.YtdbgbaiekpbaoaaGreatDoor
open Go.RowKit Am
open Lib (hid)
namespace Qt
theorem zrL {ys:List Nat} {L:Nat} (hL:ys.length = L + 1):nval ys = nval (ys.take L) + B64 ^ L * wd ys L:=by
 have h:=zaY ys L (by omega)
 have h2:ys.drop L = [wd ys L]:=by
  rw [List.drop_eq_getElem_cons (by omega),List.drop_of_length_le (by omega)]
  unfold wd
  rw [List.getD_eq_getElem?_getD,List.getElem?_eq_getElem (by omega)]
  rfl
 rw [h2] at h
 simpa [nval] using h
theorem zqo {ys:List Nat} {L top s:Nat} (hw:Wds ys) (hL:ys.length = L + 1) (ht:wd ys L = top) (h0:0 < top) (hs:64 - blen top = s) :
  nval ys * 2 ^ s < B64 ^ (L + 1) ∧ 2 ^ 63 * B64 ^ L ≤ nval ys * 2 ^ s:=by
 have e:=zrL hL
 rw [ht] at e
 have hlo:=zlm ys L hw
 have htl:top < 18446744073709551616:=by rw [← ht];exact zdM hw L
 have hb64:=zmT htl
 have hbp:=zhl h0
 have h1:top < 2 ^ blen top:=zil.1 (Nat.le_refl _)
 have h2:2 ^ (blen top - 1) ≤ top:=znL.1 (by omega)
 have e64:2 ^ blen top * 2 ^ s = B64:=by rw [← Nat.pow_add,show blen top + s = 64 by omega]
 have e63:2 ^ (blen top - 1) * 2 ^ s = 2 ^ 63:=by rw [← Nat.pow_add,show blen top - 1 + s = 63 by omega]
 have hp:0 < 2 ^ s:=Nat.pow_pos (by decide)
 constructor
 ·have h3:nval ys < B64 ^ L * 2 ^ blen top:=by
   have : B64 ^ L * (top + 1) ≤ B64 ^ L * 2 ^ blen top:=Nat.mul_le_mul_left _ h1
   rw [Nat.mul_add,Nat.mul_one] at this
   omega
  have h4:=Nat.mul_lt_mul_of_pos_right h3 hp
  rw [Nat.mul_assoc,e64] at h4
  rw [Nat.pow_succ]
  exact h4
 ·have h3:B64 ^ L * 2 ^ (blen top - 1) ≤ nval ys:=by
   have : B64 ^ L * 2 ^ (blen top - 1) ≤ B64 ^ L * top:=Nat.mul_le_mul_left _ h2
   omega
  have h4:=Nat.mul_le_mul_right (2 ^ s) h3
  rw [Nat.mul_assoc,e63] at h4
  rw [Nat.mul_comm]
  exact h4
theorem zxq {vs:List Nat} {N L:Nat} (hw:Wds vs) (hc:Canon vs) (hn:nval vs = N) (h1:N < B64 ^ (L + 1)) (h2:2 ^ 63 * B64 ^ L ≤ N):vs.length = L + 1 ∧ 9223372036854775808 ≤ wd vs L:=by
 have hlen:=zk7 vs hw hc
 have hp:0 < B64 ^ L:=Nat.pow_pos (by decide)
 have hl:vs.length = L + 1:=by
  rw [hlen,hn]
  have a1:wlen N ≤ L + 1:=zaZ h1
  have a2:¬ wlen N ≤ L:=by
   rw [zfP]
   have : 1 * B64 ^ L ≤ 2 ^ 63 * B64 ^ L:=Nat.mul_le_mul_right _ (by decide)
   omega
  omega
 refine ⟨hl,?_⟩
 have e:=zrL hl
 have hlo:=zlm vs L hw
 rw [hn] at e
 rcases Nat.lt_or_ge (wd vs L) 9223372036854775808 with h | h
 ·exfalso
  have h3:B64 ^ L * (wd vs L + 1) ≤ B64 ^ L * 2 ^ 63:=Nat.mul_le_mul_left _ h
  rw [Nat.mul_add,Nat.mul_one] at h3
  rw [Nat.mul_comm (2 ^ 63)] at h2
  omega
 ·exact h
theorem zw3 {us vs:List Nat} {a s n L:Nat} (hu:us.length = n + 1) (hn:nval us = a * 2 ^ s) (ha:a < B64 ^ n) (hs:s < 64) (hL:L + 1 ≤ n) (hv:2 ^ 63 * B64 ^ L ≤ nval vs):nval (us.drop (n - L)) < nval vs:=by
 have e:=zaY us (n - L) (by omega)
 have h1:a * 2 ^ s < B64 ^ n * 2 ^ s:=Nat.mul_lt_mul_of_pos_right ha (Nat.pow_pos (by decide))
 have h2:B64 ^ n = B64 ^ (n - L) * B64 ^ L:=by rw [← Nat.pow_add];congr 1;omega
 have h3:B64 ^ (n - L) * nval (us.drop (n - L)) < B64 ^ (n - L) * (B64 ^ L * 2 ^ s):=by
  rw [← Nat.mul_assoc, ← h2];omega
 have h4:=Nat.lt_of_mul_lt_mul_left h3
 have h5:B64 ^ L * 2 ^ s ≤ B64 ^ L * 2 ^ 63:=Nat.mul_le_mul_left _ (Nat.pow_le_pow_right (by decide) (by omega))
 rw [Nat.mul_comm (2 ^ 63)] at hv
 omega
theorem zA6 {xs:List Nat} {n:Nat} (h1:n ≤ xs.length) (h2:xs.length ≤ n + 1):nval ((xs ++ [0,0]).take (n + 1)) = nval xs ∧ ((xs ++ [0,0]).take (n + 1)).length = n + 1:=by
 have hl:((xs ++ [0,0]).take (n + 1)).length = n + 1:=by rw [List.length_take,List.length_append];simp;omega
 refine ⟨?_,hl⟩
 rw [List.take_append,zc7]
 rw [List.take_of_length_le (show xs.length ≤ n + 1 by omega)]
 have : nval (([0,0]:List Nat).take (n + 1 - xs.length)) = 0:=by
  rcases (show n + 1 - xs.length = 0 ∨ n + 1 - xs.length = 1 by omega) with h | h <;> rw [h] <;> rfl
 rw [this];simp
theorem unshift {a b s q r:Nat} (h:r + b * 2 ^ s * q = a * 2 ^ s) (hlt:r < b * 2 ^ s):q = a / b ∧ r / 2 ^ s = a % b:=by
 have hp:0 < 2 ^ s:=Nat.pow_pos (by decide)
 have hd:2 ^ s ∣ r:=by
  have h1:2 ^ s ∣ a * 2 ^ s:=Nat.dvd_mul_left _ _
  have h2:2 ^ s ∣ b * 2 ^ s * q:=Nat.dvd_trans (Nat.dvd_mul_left _ _) (Nat.dvd_mul_right _ _)
  rw [← h] at h1
  exact (Nat.dvd_add_left h2).1 h1
 obtain ⟨t,rfl⟩:=hd
 have h3:2 ^ s * (t + b * q) = 2 ^ s * a:=by
  rw [Nat.mul_comm _ a, ← h]
  grind
 have h4:=Nat.eq_of_mul_eq_mul_left hp h3
 have h5:t < b:=by
  rw [Nat.mul_comm b] at hlt
  exact Nat.lt_of_mul_lt_mul_left hlt
 rw [Nat.mul_div_cancel_left _ hp]
 have hb:0 < b:=by omega
 constructor
 ·rw [← h4,Nat.add_mul_div_left _ _ hb,Nat.div_eq_of_lt h5];simp
 ·rw [← h4,Nat.add_mul_mod_self_left,Nat.mod_eq_of_lt h5]
structure DS (w wr:World) (H G gv n nq cu:Nat) (us qs vs:List Nat) (Av:Option Addr) (cv:Nat):Prop where
  u:wr.ownsRow H 193 1 (.slice (some ⟨H,0,none⟩) (n + 1) cu) (n + 1) (wcells us)
  q:wr.ownsRow G 193 1 (.slice (some ⟨G,0,none⟩) nq nq) nq (wcells qs)
  v:wr.heap[gv]? = some (.cells #[.slice Av vs.length cv] 31 (0,0))
  sv:SW wr (.slice Av vs.length cv) vs
  r2:wr.heap[w.heap.size + 1 + 1]? = some (.cells #[.slice none 0 0] 31 (0,0))
  r3:wr.heap[w.heap.size + 1 + 1 + 1]? = some (.cells #[.slice none 0 0] 31 (0,0))
  bel:Below w.heap.size w wr
structure DF (w:World) (H G gv:Nat) (v:Value):Prop where
  hg:H < G
  gh:gv < H
  hw:w.heap.size + 4 ≤ gv
  vh:v.ownBlock ≠ some H
  vg:v.ownBlock ≠ some G
namespace DS
variable {w wr w':World} {H G gv n nq cu:Nat} {us qs us' qs' vs:List Nat} {Av:Option Addr} {cv:Nat}
theorem step (h:DS w wr H G gv n nq cu us qs vs Av cv) (hb:Below wr.heap.size wr w'):DS w w' H G gv n nq cu us qs vs Av cv :=
 ⟨zfF h.u hb,zfF h.q hb,zad hb h.v,h.sv.below hb,zad hb h.r2,zad hb h.r3,h.bel.trans (hb.mono h.bel.size)⟩
theorem blk {x:Nat} {o:Obj} (h:wr.heap[x]? = some o) (hg:wr.grownBy w' (some H)) (hne:x ≠ H):w'.heap[x]? = some o :=
 (hg.block x (Array.getElem?_eq_some_iff.1 h).1 (fun e => hne (Option.some.inj e))).trans h
theorem turnU (h:DS w wr H G gv n nq cu us qs vs Av cv) (f:DF w H G gv (.slice Av vs.length cv)) (hg:wr.grownBy w' (some H)) (hu:w'.ownsRow H 193 1 (.slice (some ⟨H,0,none⟩) (n + 1) cu) (n + 1) (wcells us')):DS w w' H G gv n nq cu us' qs vs Av cv :=
 ⟨hu,h.q.kept hg (.inr (by have:=f.hg;simp [Value.ownBlock];omega)),blk h.v hg (by have:=f.gh;omega),
  h.sv.keep fun k hk => hg.block k (h.sv.block hk) (fun e => f.vh (by rw [hk,e])),
  blk h.r2 hg (by have:=f.gh;have:=f.hw;omega),blk h.r3 hg (by have:=f.gh;have:=f.hw;omega),
  h.bel.grown hg h.bel.size (fun k hk => by cases hk;have:=f.gh;have:=f.hw;omega)⟩
theorem turnQ (h:DS w wr H G gv n nq cu us qs vs Av cv) (f:DF w H G gv (.slice Av vs.length cv)) (hg:wr.grownBy w' (some G)) (hq:w'.ownsRow G 193 1 (.slice (some ⟨G,0,none⟩) nq nq) nq (wcells qs')):DS w w' H G gv n nq cu us qs' vs Av cv :=
 ⟨h.u.kept hg (.inr (by have:=f.hg;simp [Value.ownBlock];omega)),hq,blk h.v hg (by have:=f.gh;have:=f.hg;omega),
  h.sv.keep fun k hk => hg.block k (h.sv.block hk) (fun e => f.vg (by rw [hk,e])),
  blk h.r2 hg (by have:=f.gh;have:=f.hg;have:=f.hw;omega),blk h.r3 hg (by have:=f.gh;have:=f.hg;have:=f.hw;omega),
  h.bel.grown hg h.bel.size (fun k hk => by cases hk;have:=f.gh;have:=f.hg;have:=f.hw;omega)⟩
theorem setQ (h:DS w wr H G gv n nq cu us qs vs Av cv) (f:DF w H G gv (.slice Av vs.length cv)) (k x:Nat):DS w (wr.setCell ⟨G,k,none⟩ (.int .u64 (x:Int))) H G gv n nq cu us (qs.set k x) vs Av cv :=
 h.turnQ f (h.q.stored k _).2 (by rw [ziN];exact (h.q.stored k _).1)
theorem cellU (h:DS w wr H G gv n nq cu us qs vs Av cv) (hl:us.length = n + 1) {k:Nat} (hk:k < n + 1):wr.cell? ⟨H,k,none⟩ = some (.int .u64 ((wd us k:Nat):Int)):=by
 rw [h.u.cellAt k (by omega),zeu (by omega)]
theorem cellQ (h:DS w wr H G gv n nq cu us qs vs Av cv) (hl:qs.length = nq) {k:Nat} (hk:k < nq):wr.cell? ⟨G,k,none⟩ = some (.int .u64 ((wd qs k:Nat):Int)):=by
 rw [h.q.cellAt k (by omega),zeu (by omega)]
theorem cellV (h:DS w wr H G gv n nq cu us qs vs Av cv):wr.cell? ⟨gv,0,none⟩ = some (.slice Av vs.length cv):=zac h.v 0
theorem swQ (h:DS w wr H G gv n nq cu us qs vs Av cv) (hl:qs.length = nq) (hw:Wds qs):SW wr (.slice (some ⟨G,0,none⟩) nq nq) qs:=by
 subst hl;exact SW.of_own h.q hw
theorem swU (h:DS w wr H G gv n nq cu us qs vs Av cv) (hl:us.length = n + 1) (hw:Wds us):SW wr (.slice (some ⟨H,0,none⟩) (n + 1) cu) us:=by
 have hu:=h.u
 rw [← hl] at hu ⊢
 exact SW.of_own hu hw
theorem outC (h:DS w wr H G gv n nq cu us qs vs Av cv) (hl:us.length = n + 1):OutC wr wr H (n + 1) cu us:=⟨h.u,⟨rfl,rfl,rfl,Nat.le_refl _,fun _ _ _ => rfl⟩,hl⟩
theorem ofOut (h:DS w wr H G gv n nq cu us qs vs Av cv) (f:DF w H G gv (.slice Av vs.length cv)) (o:OutC wr w' H (n + 1) cu us'):DS w w' H G gv n nq cu us' qs vs Av cv:=h.turnU f o.bel o.own
end DS
theorem zvl (W:World) (g n c k j:Nat) (K:Int) (hK:K = (j:Int)) (h1:k ≤ j) (h2:j ≤ c) (h3:k < c) :
  (Instr.slice 29 (.slice (some ⟨g,0,none⟩) n c) (some (.int .i64 (k:Int))) (some (.int .i64 K)) none).run Tryz.prog W = .ok (.slice (some ⟨g,k,none⟩) (j - k) (c - k)) W:=by
 subst hK
 have ht':Tryz.prog.underlying 29 = some (.slice (Tryz.prog.elem 29)):=by simp [Program.elem,Tryz.underlying29]
 have he:Tryz.prog.elem 29 = 193:=by simp [Program.elem,Tryz.underlying29]
 rw [run_slice_lh W 29 _ _ _ ht' .i64 .i64 _ _ (by omega) (by omega) (by omega),he]
 have h0:c ≠ k:=by omega
 by_cases h4:k = 0
 ·subst h4;simp [Result.andThen,sliced,Addr.add,h0]
 ·simp [Result.andThen,sliced,Addr.add,h0,h4]
theorem zmb {us os zs:List Nat} {a b:Nat} (h:za8 us os a b) (k:za8 os zs a b):za8 us zs a b:=⟨k.1.trans h.1,fun j hj => (k.2 j hj).trans (h.2 j hj)⟩
theorem zqw {N k q nq:Nat} {us qs us2 vs:List Nat} (hI:LdInv N (nval vs) us qs (k + 1)) (hW:Window us vs k) (hv:Wds vs) (hm:2 ≤ vs.length) (hk:k < qs.length) (hku:k ≤ us.length) (hv1:9223372036854775808 ≤ wd vs (vs.length - 1))
  (hg:GuessIs (wd us (k + vs.length)) (wd us (k + vs.length - 1)) (wd us (k + vs.length - 2)) (wd vs (vs.length - 1)) (wd vs (vs.length - 2)) q)
  (hs:za8 us us2 k (k + vs.length + 1)) (ho:Wds us2) (he:nval us2 + B64 ^ k * (q * nval vs) = nval us + B64 ^ (k + vs.length + 1) * 0):LdInv N (nval vs) us2 (qs.set k q) k:=by
 have _:=nq
 have hgo:=hW.guess hI.wu hv hm (by unfold wd at hv1;omega) hg
 rw [Nat.mul_zero,Nat.add_zero] at he
 exact hI.step hk hku hs ho he hgo.1 hg.lt
theorem zsu {N k q c:Nat} {us qs us2 us3 vs:List Nat} (hI:LdInv N (nval vs) us qs (k + 1)) (hW:Window us vs k) (hv:Wds vs) (hm:2 ≤ vs.length) (hk:k < qs.length) (hku:k ≤ us.length) (hv1:9223372036854775808 ≤ wd vs (vs.length - 1))
  (hg:GuessIs (wd us (k + vs.length)) (wd us (k + vs.length - 1)) (wd us (k + vs.length - 2)) (wd vs (vs.length - 1)) (wd vs (vs.length - 2)) q)
  (hs:za8 us us2 k (k + vs.length + 1)) (ho:Wds us2) (he:nval us2 + B64 ^ k * (q * nval vs) = nval us + B64 ^ (k + vs.length + 1) * 1)
  (hs3:za8 us2 us3 k (k + vs.length + 1)) (ho3:Wds us3) (he3:nval us3 + B64 ^ (k + vs.length + 1) * c = nval us2 + B64 ^ k * nval vs):LdInv N (nval vs) us3 ((qs.set k q).set k (q - 1)) k ∧ 0 < q:=by
 have hgo:=hW.guess hI.wu hv hm (by unfold wd at hv1;omega) hg
 have hnot:¬ q * nval vs ≤ nval (us.drop k):=fun h => by
  have:=zo6 hW ho hs hku he (Nat.le_refl 1) h
  omega
 have hq:0 < q:=by
  rcases Nat.eq_zero_or_pos q with h | h
  ·subst h;simp at hnot
  ·exact h
 have htop:=(hW.z.lt hI.wu).2
 have hbk:=ztX hW ho3 (zmb hs hs3) hku he he3 hq hgo.2 htop
 refine ⟨?_,hq⟩
 rw [List.set_set]
 exact hI.step hk hku (zmb hs hs3) ho3 hbk (by rw [Nat.sub_add_cancel hq];omega) (by have:=hg.lt;omega)
end Qt
end Go.Proofs.YtdbgbaiekpbaoaaGreatDoor
