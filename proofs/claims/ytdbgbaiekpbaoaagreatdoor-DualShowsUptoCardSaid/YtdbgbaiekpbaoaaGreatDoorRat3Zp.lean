/- rat.New by its contract. Conditions: as each says. -/
import Derived.Test.YtdbgbaiekpbaoaaGreatDoorRat2Zp
set_option linter.all false
namespace Go.Proofs.YtdbgbaiekpbaoaaGreatDoor
open Go.RowKit Am
open Lib (hid)
attribute [local go_sem ↓] Go.wp_at_zero Go.wp_at_succ
set_option maxHeartbeats 20000000
set_option maxRecDepth 100000
namespace Rt
theorem newd (g:Bool) (A:Option Addr) (m c:Nat) (x:Int) (g':Bool) (B:Option Addr) (m' c':Nat) (y:Int) (w:World) (h:IntS w g (.slice A m c) x) (h':IntS w g' (.slice B m' c') y) (hy:y ≠ 0) (hla:wlen x.natAbs + 1 ≤ LIM) (hlb:wlen y.natAbs + 1 ≤ LIM) :
  Calls Tryz.prog 56 #[.agg #[.bool g, .slice A m c], .agg #[.bool g', .slice B m' c']] w (zii w (Rat.divInt x y) true):=by
 have hs0:(y.sign == 0) = false:=by rw [show (y.sign == 0) = decide (y.sign = 0) from rfl,decide_eq_false];rw [Int.sign_eq_zero_iff_zero];exact hy
 have HY0:=hid hy
 have HLA:=hid hla
 have HLB:=hid hlb
 clear hy hla hlb
 obtain ⟨W,hW⟩:∃ W,(((w.alloc (.cells #[.bool g, .slice A m c] 33)).alloc (.cells #[.bool g', .slice B m' c'] 33)).alloc (.cells #[.bool false, .slice none 0 0, .slice none 0 0] 35)) = W:=⟨_,rfl⟩
 have KB0:=hid (show W.heap[w.heap.size]? = some (.cells #[.bool g, .slice A m c] 33 (0,0)) by rw [← hW];exact zak (zak (zam (by simp))))
 have KB1:=hid (show W.heap[w.heap.size + 1]? = some (.cells #[.bool g', .slice B m' c'] 33 (0,0)) by rw [← hW];exact zak (zam (by simp)))
 have KB2:=hid (show W.heap[w.heap.size + 1 + 1]? = some (.cells #[.bool false, .slice none 0 0, .slice none 0 0] 35 (0,0)) by rw [← hW];exact zam (by simp))
 have BB:=hid (show Below w.heap.size w W by rw [← hW];exact ((zae w _).alloc (by simp) _).alloc (by simp;omega) _)
 have HZ:=hid (show w.heap.size + 3 ≤ W.heap.size by rw [← hW];simp)
 have HX:=hid (show IntS W g (.slice A m c) x by rw [← hW];exact (((h).alloc _).alloc _).alloc _)
 have HY:=hid (show IntS W g' (.slice B m' c') y by rw [← hW];exact (((h').alloc _).alloc _).alloc _)
 obtain ⟨zbr,_,zbP,_⟩:=bc2 KB1.out
 clear h h'
 go_enter Tryz.func56,Tryz.ntmps56
 go_wp2_with fail
 clear hW
 with_reducible refine (It.sign g' B m' c' y _ HY.out).mono ?_
 rintro e w1 ⟨rfl,hb⟩
 have zaq:=hid (zad hb KB0.out)
 have za0:=hid (zad hb KB1.out)
 have zcu:=hid (zad hb KB2.out)
 have zif:=hid (HX.out.below hb)
 have zx2:=hid (HY.out.below hb)
 have zaQ:=hid (BB.out.trans ((hb).mono BB.out.size))
 obtain ⟨zaI,_,zaJ,_⟩:=bc2 zaq.out
 obtain ⟨zbe,_,zbs,_⟩:=bc2 za0.out
 clear hb
 go_wp2_with fail
 have HS:=hid (show ∀ w',Below w1.heap.size w1 w' → ((w'.cell? ⟨w.heap.size,0,none⟩ = some (.bool g) ∧ w'.cell? ⟨w.heap.size,1,none⟩ = some (.slice A m c) ∧ w'.cell? ⟨w.heap.size + 1,0,none⟩ = some (.bool g') ∧ w'.cell? ⟨w.heap.size + 1,1,none⟩ = some (.slice B m' c')) ∧ Below w1.heap.size w1 w') from fun w' h => ⟨⟨zab h zaI,zab h zaJ,zab h zbe,zab h zbs⟩,h⟩)
 go_cut [6,7] (fun s6 s7 wr => ∃ (n6 n7:Nat) (A2:Option Addr) (m2 c2:Nat) (A3:Option Addr) (m3 c3:Nat),s6 = .pointer (some ⟨n6,0,none⟩) ∧ s7 = .pointer (some ⟨n7,0,none⟩) ∧ Below w1.heap.size w1 wr ∧ wr.cell? ⟨n6,0,none⟩ = some (.slice A2 m2 c2) ∧ wr.cell? ⟨n7,0,none⟩ = some (.slice A3 m3 c3) ∧ zas wr (.slice A2 m2 c2) (x.natAbs / Nat.gcd x.natAbs y.natAbs) ∧ zas wr (.slice A3 m3 c3) (y.natAbs / Nat.gcd x.natAbs y.natAbs) ∧ w1.heap.size ≤ n6 ∧ w1.heap.size ≤ n7)
 case first =>
  go_region_held3 (fun w' => ((w'.cell? ⟨w.heap.size,0,none⟩ = some (.bool g) ∧ w'.cell? ⟨w.heap.size,1,none⟩ = some (.slice A m c) ∧ w'.cell? ⟨w.heap.size + 1,0,none⟩ = some (.bool g') ∧ w'.cell? ⟨w.heap.size + 1,1,none⟩ = some (.slice B m' c')) ∧ Below w1.heap.size w1 w'))
   ((refine HS.out _ ?_;repeat (first | exact Below.refl _ _ | exact (by assumption:_ ∧ Below _ _ _).2 | with_reducible refine bdrew ?_ | with_reducible refine al2 ?_ _ | with_reducible refine set2 ?_ (by omega) | with_reducible refine zc1 ?_ (by assumption))))
   (first
    | (go_at_call 114;(with_reducible refine (It.abs g A m c _).mono ?_);rintro e u1 ⟨rfl,hb1⟩;have hz1:=hb1.size;(try simp at hz1);have hze1:w1.heap.size ≤ u1.heap.size:=(by omega);(try ((first | (have pp:=zan (b:=w1.heap.size) (v := .slice none 0 0) (t:=31) hb1 (zal _ _ _);obtain ⟨zb8,⟨zjM,zjP⟩,⟨zjN,zjQ⟩,⟨zjO,zjR⟩,⟨zjS,zjT⟩,zjU,zjV⟩:=pp) | (have pp:=zan (b:=w1.heap.size) (v := .slice none 0 0) (t:=31) hb1 (zak (zal _ _ _));obtain ⟨zb8,⟨zjM,zjP⟩,⟨zjN,zjQ⟩,⟨zjO,zjR⟩,⟨zjS,zjT⟩,zjU,zjV⟩:=pp) | (have pp:=zan (b:=w1.heap.size) (v := .slice none 0 0) (t:=31) hb1 (zbD _ _ _ _);obtain ⟨zb8,⟨zjM,zjP⟩,⟨zjN,zjQ⟩,⟨zjO,zjR⟩,⟨zjS,zjT⟩,zjU,zjV⟩:=pp));have zb8:=hid zb8));(try ((first | (have pp:=zan (b:=w1.heap.size + 1) (v := .slice none 0 0) (t:=31) hb1 (zal _ _ _);obtain ⟨zjW,⟨zsS,zsV⟩,⟨zsT,zsW⟩,⟨zsU,zsX⟩,⟨zsY,zsZ⟩,zs0,zs1⟩:=pp) | (have pp:=zan (b:=w1.heap.size + 1) (v := .slice none 0 0) (t:=31) hb1 (zak (zal _ _ _));obtain ⟨zjW,⟨zsS,zsV⟩,⟨zsT,zsW⟩,⟨zsU,zsX⟩,⟨zsY,zsZ⟩,zs0,zs1⟩:=pp) | (have pp:=zan (b:=w1.heap.size + 1) (v := .slice none 0 0) (t:=31) hb1 (zbD _ _ _ _);obtain ⟨zjW,⟨zsS,zsV⟩,⟨zsT,zsW⟩,⟨zsU,zsX⟩,⟨zsY,zsZ⟩,zs0,zs1⟩:=pp));have zjW:=hid zjW)))
    | (go_at_call 114;(with_reducible refine (It.abs g' B m' c' _).mono ?_);rintro e u2 ⟨rfl,hb2⟩;have hz2:=hb2.size;(try simp at hz2);have hze2:w1.heap.size ≤ u2.heap.size:=(by omega);(try ((first | (have pp:=zan (b:=w1.heap.size) (v := .slice none 0 0) (t:=31) hb2 (zb8.out);obtain ⟨zbZ,⟨zfh,zfk⟩,⟨zfi,zfl⟩,⟨zfj,zfm⟩,⟨zfn,zfo⟩,zfp,zfq⟩:=pp) | (have pp:=zan (b:=w1.heap.size) (v := .slice none 0 0) (t:=31) hb2 (zak zb8.out);obtain ⟨zbZ,⟨zfh,zfk⟩,⟨zfi,zfl⟩,⟨zfj,zfm⟩,⟨zfn,zfo⟩,zfp,zfq⟩:=pp) | (have pp:=zan (b:=w1.heap.size) (v := .slice none 0 0) (t:=31) hb2 (zak (zak zb8.out));obtain ⟨zbZ,⟨zfh,zfk⟩,⟨zfi,zfl⟩,⟨zfj,zfm⟩,⟨zfn,zfo⟩,zfp,zfq⟩:=pp));have zbZ:=hid zbZ));(try ((first | (have pp:=zan (b:=w1.heap.size + 1) (v := .slice none 0 0) (t:=31) hb2 (zjW.out);obtain ⟨zjX,⟨zs2,zs5⟩,⟨zs3,zs6⟩,⟨zs4,zs7⟩,⟨zs8,zs9⟩,zta,ztb⟩:=pp) | (have pp:=zan (b:=w1.heap.size + 1) (v := .slice none 0 0) (t:=31) hb2 (zak zjW.out);obtain ⟨zjX,⟨zs2,zs5⟩,⟨zs3,zs6⟩,⟨zs4,zs7⟩,⟨zs8,zs9⟩,zta,ztb⟩:=pp) | (have pp:=zan (b:=w1.heap.size + 1) (v := .slice none 0 0) (t:=31) hb2 (zak (zak zjW.out));obtain ⟨zjX,⟨zs2,zs5⟩,⟨zs3,zs6⟩,⟨zs4,zs7⟩,⟨zs8,zs9⟩,zta,ztb⟩:=pp));have zjX:=hid zjX));(try ((first | (have pp:=zan (b:=u1.heap.size) (v := .slice none 0 0) (t:=31) hb2 (zal _ _ _);obtain ⟨zcz,⟨zjY,zj1⟩,⟨zjZ,zj2⟩,⟨zj0,zj3⟩,⟨zj4,zj5⟩,zj6,zj7⟩:=pp) | (have pp:=zan (b:=u1.heap.size) (v := .slice none 0 0) (t:=31) hb2 (zak (zal _ _ _));obtain ⟨zcz,⟨zjY,zj1⟩,⟨zjZ,zj2⟩,⟨zj0,zj3⟩,⟨zj4,zj5⟩,zj6,zj7⟩:=pp) | (have pp:=zan (b:=u1.heap.size) (v := .slice none 0 0) (t:=31) hb2 (zbD _ _ _ _);obtain ⟨zcz,⟨zjY,zj1⟩,⟨zjZ,zj2⟩,⟨zj0,zj3⟩,⟨zj4,zj5⟩,zj6,zj7⟩:=pp));have zcz:=hid zcz));(try ((first | (have pp:=zan (b:=u1.heap.size + 1) (v := .slice none 0 0) (t:=31) hb2 (zal _ _ _);obtain ⟨zj8,⟨ztc,ztf⟩,⟨ztd,ztg⟩,⟨zte,zth⟩,⟨zti,ztj⟩,ztk,ztl⟩:=pp) | (have pp:=zan (b:=u1.heap.size + 1) (v := .slice none 0 0) (t:=31) hb2 (zak (zal _ _ _));obtain ⟨zj8,⟨ztc,ztf⟩,⟨ztd,ztg⟩,⟨zte,zth⟩,⟨zti,ztj⟩,ztk,ztl⟩:=pp) | (have pp:=zan (b:=u1.heap.size + 1) (v := .slice none 0 0) (t:=31) hb2 (zbD _ _ _ _);obtain ⟨zj8,⟨ztc,ztf⟩,⟨ztd,ztg⟩,⟨zte,zth⟩,⟨zti,ztj⟩,ztk,ztl⟩:=pp));have zj8:=hid zj8)))
    | (go_at_call 113;(with_reducible refine (Gc.reduce A B m c m' c' x.natAbs y.natAbs _ (by have h:=(zif.out.below (by assumption:_ ∧ Below _ _ _).2);exact h.abs) (by have h:=(zx2.out.below (by assumption:_ ∧ Below _ _ _).2);exact h.abs) (Int.natAbs_pos.2 HY0.out) HLA.out HLB.out).mono ?_);rintro e u3 ⟨A2,m2,c2,A3,m3,c3,rfl,hn,hn2,hb3⟩;have hz3:=hb3.size;(try simp at hz3);have hze3:w1.heap.size ≤ u3.heap.size:=(by omega);(try ((first | (have pp:=zan (b:=w1.heap.size) (v := .slice none 0 0) (t:=31) hb3 (zbZ.out);obtain ⟨zgm,⟨zmw,zmz⟩,⟨zmx,zmA⟩,⟨zmy,zmB⟩,⟨zmC,zmD⟩,zmE,zmF⟩:=pp) | (have pp:=zan (b:=w1.heap.size) (v := .slice none 0 0) (t:=31) hb3 (zak zbZ.out);obtain ⟨zgm,⟨zmw,zmz⟩,⟨zmx,zmA⟩,⟨zmy,zmB⟩,⟨zmC,zmD⟩,zmE,zmF⟩:=pp) | (have pp:=zan (b:=w1.heap.size) (v := .slice none 0 0) (t:=31) hb3 (zak (zak zbZ.out));obtain ⟨zgm,⟨zmw,zmz⟩,⟨zmx,zmA⟩,⟨zmy,zmB⟩,⟨zmC,zmD⟩,zmE,zmF⟩:=pp));have zgm:=hid zgm));(try ((first | (have pp:=zan (b:=w1.heap.size + 1) (v := .slice none 0 0) (t:=31) hb3 (zjX.out);obtain ⟨zod,⟨ztm,ztp⟩,⟨ztn,ztq⟩,⟨zto,ztr⟩,⟨zts,ztt⟩,ztu,ztv⟩:=pp) | (have pp:=zan (b:=w1.heap.size + 1) (v := .slice none 0 0) (t:=31) hb3 (zak zjX.out);obtain ⟨zod,⟨ztm,ztp⟩,⟨ztn,ztq⟩,⟨zto,ztr⟩,⟨zts,ztt⟩,ztu,ztv⟩:=pp) | (have pp:=zan (b:=w1.heap.size + 1) (v := .slice none 0 0) (t:=31) hb3 (zak (zak zjX.out));obtain ⟨zod,⟨ztm,ztp⟩,⟨ztn,ztq⟩,⟨zto,ztr⟩,⟨zts,ztt⟩,ztu,ztv⟩:=pp));have zod:=hid zod));(try ((first | (have pp:=zan (b:=u1.heap.size) (v := .slice none 0 0) (t:=31) hb3 (zcz.out);obtain ⟨zgn,⟨zmG,zmJ⟩,⟨zmH,zmK⟩,⟨zmI,zmL⟩,⟨zmM,zmN⟩,zmO,zmP⟩:=pp) | (have pp:=zan (b:=u1.heap.size) (v := .slice none 0 0) (t:=31) hb3 (zak zcz.out);obtain ⟨zgn,⟨zmG,zmJ⟩,⟨zmH,zmK⟩,⟨zmI,zmL⟩,⟨zmM,zmN⟩,zmO,zmP⟩:=pp) | (have pp:=zan (b:=u1.heap.size) (v := .slice none 0 0) (t:=31) hb3 (zak (zak zcz.out));obtain ⟨zgn,⟨zmG,zmJ⟩,⟨zmH,zmK⟩,⟨zmI,zmL⟩,⟨zmM,zmN⟩,zmO,zmP⟩:=pp));have zgn:=hid zgn));(try ((first | (have pp:=zan (b:=u1.heap.size + 1) (v := .slice none 0 0) (t:=31) hb3 (zj8.out);obtain ⟨zoe,⟨ztw,ztz⟩,⟨ztx,ztA⟩,⟨zty,ztB⟩,⟨ztC,ztD⟩,ztE,ztF⟩:=pp) | (have pp:=zan (b:=u1.heap.size + 1) (v := .slice none 0 0) (t:=31) hb3 (zak zj8.out);obtain ⟨zoe,⟨ztw,ztz⟩,⟨ztx,ztA⟩,⟨zty,ztB⟩,⟨ztC,ztD⟩,ztE,ztF⟩:=pp) | (have pp:=zan (b:=u1.heap.size + 1) (v := .slice none 0 0) (t:=31) hb3 (zak (zak zj8.out));obtain ⟨zoe,⟨ztw,ztz⟩,⟨ztx,ztA⟩,⟨zty,ztB⟩,⟨ztC,ztD⟩,ztE,ztF⟩:=pp));have zoe:=hid zoe));(try ((first | (have pp:=zan (b:=u2.heap.size) (v := .slice none 0 0) (t:=31) hb3 (zal _ _ _);obtain ⟨zhj,⟨zpp,zps⟩,⟨zpq,zpt⟩,⟨zpr,zpu⟩,⟨zpv,zpw⟩,zpx,zpy⟩:=pp) | (have pp:=zan (b:=u2.heap.size) (v := .slice none 0 0) (t:=31) hb3 (zak (zal _ _ _));obtain ⟨zhj,⟨zpp,zps⟩,⟨zpq,zpt⟩,⟨zpr,zpu⟩,⟨zpv,zpw⟩,zpx,zpy⟩:=pp) | (have pp:=zan (b:=u2.heap.size) (v := .slice none 0 0) (t:=31) hb3 (zbD _ _ _ _);obtain ⟨zhj,⟨zpp,zps⟩,⟨zpq,zpt⟩,⟨zpr,zpu⟩,⟨zpv,zpw⟩,zpx,zpy⟩:=pp));have zhj:=hid zhj));(try ((first | (have pp:=zan (b:=u2.heap.size + 1) (v := .slice none 0 0) (t:=31) hb3 (zal _ _ _);obtain ⟨zof,⟨ztG,ztJ⟩,⟨ztH,ztK⟩,⟨ztI,ztL⟩,⟨ztM,ztN⟩,ztO,ztP⟩:=pp) | (have pp:=zan (b:=u2.heap.size + 1) (v := .slice none 0 0) (t:=31) hb3 (zak (zal _ _ _));obtain ⟨zof,⟨ztG,ztJ⟩,⟨ztH,ztK⟩,⟨ztI,ztL⟩,⟨ztM,ztN⟩,ztO,ztP⟩:=pp) | (have pp:=zan (b:=u2.heap.size + 1) (v := .slice none 0 0) (t:=31) hb3 (zbD _ _ _ _);obtain ⟨zof,⟨ztG,ztJ⟩,⟨ztH,ztK⟩,⟨ztI,ztL⟩,⟨ztM,ztN⟩,ztO,ztP⟩:=pp));have zof:=hid zof));have HN:=hid hn;have HN2:=hid hn2;clear hn hn2)
    | fail)
  all_goals
   go_wp2
   go_meet
   case rel =>
    refine ⟨_,_,A2,m2,c2,A3,m3,c3,rfl,rfl,(by assumption:_ ∧ Below w1.heap.size w1 _).2,?_,?_,?_,?_,?_,?_⟩
    all_goals
     repeat' (first
      | with_reducible exact HN.out
      | with_reducible exact HN2.out
      | with_reducible assumption
      | with_reducible exact zeo _ _ _
      | with_reducible exact zfx _ _ _ _
      | with_reducible refine cell_al ?_
      | with_reducible refine Box.cell ?_
      | with_reducible refine cell_set ?_ ?_
      | with_reducible exact Box.new _ _
      | with_reducible exact Box.new1 _ _ _
      | with_reducible refine Box.alloc ?_
      | with_reducible refine Box.set ?_
      | exact Box.of zgm.out
      | exact Box.of zod.out
      | exact Box.of zgn.out
      | exact Box.of zoe.out
      | exact Box.of zhj.out
      | exact Box.of zof.out
      | with_reducible refine zas.alloc ?_ _
      | with_reducible refine zas.setBox ?_ ?_
      | with_reducible refine zas.drew ?_
      | omega)
 case rest =>
  obtain ⟨n6,n7,A2,m2,c2,A3,m3,c3,rfl,rfl,hbX,k6,k7,hn6,hn7,hg6,hg7⟩:=hcut
  have hw1:w.heap.size + 1 + 1 + 1 ≤ w1.heap.size:=by have:=HZ.out;have:=(Array.getElem?_eq_some_iff.1 zcu.out).1;omega
  have HE:=hid (div_den x y HY0.out)
  have zaD:=hid (zad hbX zaq.out)
  have zbb:=hid (zad hbX za0.out)
  have zih:=hid (zad hbX zcu.out)
  have HN:=hid (show zas wc (.slice A2 m2 c2) (x.natAbs / Nat.gcd x.natAbs y.natAbs) from hn6)
  have HD:=hid (show zas wc (.slice A3 m3 c3) (Rat.divInt x y).den from (HE.out ▸ hn7))
  have zbj:=hid (zaQ.out.trans ((hbX).mono zaQ.out.size))
  obtain ⟨zaU,_,zaV,_⟩:=bc2 zaD.out
  obtain ⟨zbi,_,zbp,_⟩:=bc2 zbb.out
  have zcX:wc.cell? ⟨n6,0,none⟩ = some (.slice A2 m2 c2):=k6
  have x0_2d:=zaa zcX
  have zdq:wc.cell? ⟨n7,0,none⟩ = some (.slice A3 m3 c3):=k7
  have x1_2d:=zaa zdq
  clear hbX hn6 hn7 k6 k7 HS
  have HEQ:=hid (show (if (!(g == g')) = true then -((x.natAbs / Nat.gcd x.natAbs y.natAbs:Nat):Int) else ((x.natAbs / Nat.gcd x.natAbs y.natAbs:Nat):Int)) = (Rat.divInt x y).num by rw [zif.out.neg,zx2.out.neg];exact div_num x y HY0.out)
  generalize Rat.divInt x y = q at *
  go_wp2_with fail
  go_region_held3 (fun w' => w'.cell? ⟨w.heap.size,0,none⟩ = some (.bool g) ∧ w'.cell? ⟨w.heap.size,1,none⟩ = some (.slice A m c) ∧ w'.cell? ⟨w.heap.size + 1,0,none⟩ = some (.bool g') ∧ w'.cell? ⟨w.heap.size + 1,1,none⟩ = some (.slice B m' c') ∧ w'.cell? ⟨n6,0,none⟩ = some (.slice A2 m2 c2) ∧ w'.cell? ⟨n7,0,none⟩ = some (.slice A3 m3 c3))
   (((try go_split_ands);(try simp only [World.cell?_drew]);(repeat' apply And.intro) <;> (repeat (first | with_reducible assumption | with_reducible refine cell_set (by omega) ?_ | with_reducible refine cell_al ?_))))
   (first
    | (go_at_call 116;(with_reducible refine (It.isBelow g A m c _).mono ?_);rintro e v1 ⟨rfl,hb⟩;have zbn:=hid (zad hb zaD.out);have zek:=hid (zad hb zbb.out);have zoc:=hid (zad hb zih.out);have zJU:=hid (HN.out.drew.below hb);have zJN:=hid (HD.out.drew.below hb);have zcc:=hid (zbj.out.trans ((It.bdrew0' hb).mono zbj.out.size));obtain ⟨zdg,_,zdh,_⟩:=bc2 zbn.out;obtain ⟨zhp,_,zhr,_⟩:=bc2 zek.out;have zdO:=zab hb x0_2d;have zfd:=zab hb x1_2d;clear hb)
    | (go_at_call 116;(with_reducible refine (It.isBelow g' B m' c' _).mono ?_);rintro e v2 ⟨rfl,hb⟩;have zbo:=hid (zad hb zbn.out);have zcE:=hid (zad hb zek.out);have zgh:=hid (zad hb zoc.out);have zJV:=hid (zJU.out.below hb);have zJO:=hid (zJN.out.below hb);have zdf:=hid (zcc.out.trans ((hb).mono zcc.out.size));obtain ⟨zcj,_,zck,_⟩:=bc2 zbo.out;obtain ⟨zdR,_,zdS,_⟩:=bc2 zcE.out;have zd6:=zab hb zdO;have zfT:=zab hb zfd;clear hb)
    | (go_at_call 57;(with_reducible refine (It.new (!(g == g')) A2 m2 c2 (x.natAbs / Nat.gcd x.natAbs y.natAbs) _ zJV.out).mono ?_);rintro e v3 ⟨g4,A4,m4,c4,rfl,hi,hb⟩;have zct:=hid (zad hb zbo.out);have zd9:=hid (zad hb zcE.out);have zgi:=hid (zad hb zgh.out);have zJP:=hid (zJO.out.below hb);have HI:=hid (show IntS v3 g4 (.slice A4 m4 c4) q.num from (by rw [HEQ.out] at hi;exact hi));have ze3:=hid (zdf.out.trans ((hb).mono zdf.out.size));obtain ⟨zdP,_,zdQ,_⟩:=bc2 zct.out;obtain ⟨zhq,_,zhs,_⟩:=bc2 zd9.out;have zid:=zab hb zd6;have zlu:=zab hb zfT;clear hi hb)
    | (go_at_call 115;(with_reducible refine (bare g4 A4 m4 c4 A3 m3 c3 q _ HI.out zJP.out).mono ?_);rintro e v4 ⟨g5,A5,m5,c5,D5,md5,cd5,rfl,hi,hb⟩;have zd8:=hid (zad hb zct.out);have zig:=hid (zad hb zd9.out);have zgv:=hid (zad hb zgi.out);have HR:=hid (show RatS v4 g5 (.slice A5 m5 c5) (.slice D5 md5 cd5) q from hi);have zlw:=hid (ze3.out.trans ((hb).mono ze3.out.size));obtain ⟨zhn,_,zho,_⟩:=bc2 zd8.out;obtain ⟨zlN,_,zlO,_⟩:=bc2 zig.out;obtain ⟨zlQ,ziq,zns,_,zlR,zir,znu,_,zlS,zis,znw,_⟩:=bf3 zgv.out;have zqL:=zab hb zid;have zvH:=zab hb zlu;clear hi hb)
    | fail)
  all_goals
   go_wp2
   refine bodyPost_ret (v := .tuple #[.agg #[.bool g5, .slice A5 m5 c5, .slice D5 md5 cd5], .bool true]) (by simp [results,Tryz.results56,go_sem,zlQ,ziq,zlR,zir,zlS,zis]) rfl ?_
   exact ⟨g5,A5,m5,c5,D5,md5,cd5,rfl,HR.out.set3 zgv.out (by decide) _ _ _,Below.setCell (Below.setCell (Below.setCell (zlw.out) (p:=⟨w.heap.size + 1 + 1,0,none⟩) (by show w.heap.size ≤ w.heap.size + 1 + 1;omega) _) (p:=⟨w.heap.size + 1 + 1,1,none⟩) (by show w.heap.size ≤ w.heap.size + 1 + 1;omega) _) (p:=⟨w.heap.size + 1 + 1,2,none⟩) (by show w.heap.size ≤ w.heap.size + 1 + 1;omega) _⟩
end Rt
end Go.Proofs.YtdbgbaiekpbaoaaGreatDoor
