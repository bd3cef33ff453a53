/- vec.AddTimes,Sub,Scale,Dot by their contracts. Conditions: as each says. -/
import Derived.Test.YtdbgbaiekpbaoaaGreatDoorVec4Zp
import Derived.Test.YtdbgbaiekpbaoaaGreatDoorNat3Zp
set_option linter.all false
namespace Go.Proofs.YtdbgbaiekpbaoaaGreatDoor
open Go.RowKit Am
open Lib (hid)
attribute [local go_sem ↓] Go.wp_at_zero Go.wp_at_succ
set_option maxHeartbeats 4000000
set_option maxRecDepth 100000
structure Bel (W w:World):Prop where
  b:Below W.heap.size W w
theorem Bel.below {W w w':World} (h:Bel W w) (hb:Below w.heap.size w w'):Bel W w':=⟨h.b.trans (hb.mono h.b.size)⟩
theorem Bel.alloc {W w:World} (h:Bel W w) (o:Obj):Bel W (w.alloc o):=h.below (zae w o)
theorem Bel.drew {W w:World} (h:Bel W w):Bel W w.drew:=h.below (zap w 1)
theorem Bel.set3 {W w:World} (h:Bel W w) {b i j k:Nat} (hb:W.heap.size ≤ b) (u v x:Value):Bel W (((w.setCell ⟨b,i,none⟩ u).setCell ⟨b,j,none⟩ v).setCell ⟨b,k,none⟩ x):=⟨((h.b.setCell hb u).setCell hb v).setCell hb x⟩
theorem zl9 (n:Nat):(madeCells (Value.agg #[.bool false, .slice none 0 0, .slice none 0 0]).cells (n * 3)).toList = rcells (List.replicate n (false, .slice none 0 0, .slice none 0 0)):=by
 apply List.ext_getElem?
 intro j
 have hz:(Value.agg #[.bool false, .slice none 0 0, .slice none 0 0]).cells = #[.bool false, .slice none 0 0, .slice none 0 0]:=rfl
 rw [hz]
 by_cases hj:j < n * 3
 ·have h1:(madeCells #[.bool false, .slice none 0 0, .slice none 0 0] (n * 3)).toList[j]? = some ([Value.bool false, .slice none 0 0, .slice none 0 0][j % 3]?.getD default):=by
   simp [madeCells,hj]
  have hk:(List.replicate n ((false, .slice none 0 0, .slice none 0 0):RV))[j / 3]? = some (false, .slice none 0 0, .slice none 0 0):=by
   rw [List.getElem?_replicate,if_pos (by omega)]
  obtain ⟨g0,g1,g2⟩:=ziI _ _ _ hk
  rw [h1]
  rcases (by omega:j % 3 = 0 ∨ j % 3 = 1 ∨ j % 3 = 2) with e | e | e
  ·rw [e];rw [show j / 3 * 3 = j by omega] at g0;rw [g0];rfl
  ·rw [e];rw [show j / 3 * 3 + 1 = j by omega] at g1;rw [g1];rfl
  ·rw [e];rw [show j / 3 * 3 + 2 = j by omega] at g2;rw [g2];rfl
 ·rw [List.getElem?_eq_none (by simp [madeCells];omega),List.getElem?_eq_none (by rw [zcC];simp;omega)]
theorem zdv {w:World} {ops:Array Oper} {rest:List Oper} {o:Oper} {a:Act} {Q:Exit → Act → World → Prop}
  (hg:o.guard = none) (l c:Operand) (hop:o.op = Op.makeSlice 26 l c) (n:Nat) (L:Int) (hl:a.eval l = .int .i64 L) (hc:a.eval c = .int .i64 L) (hL:L = (n:Int)) (hb:n ≤ 1048576) (H:Nat) (hH:w.heap.size = H)
  (hK:∀ w1,VecS w1 w.heap.size (.slice (some ⟨H,0,none⟩) n n) (List.replicate n 0) → Below w.heap.size w w1 → wpList Tryz.prog ops Q rest (a.put o.dst (.slice (some ⟨H,0,none⟩) n n)) w1):wpList Tryz.prog ops Q (o :: rest) a w:=by
 obtain ⟨i0,hi,hz0,hz1,hz2⟩:=info_parts ze0
 subst hH
 subst hL
 refine wpList_make_full w hg l c 26 hop w.heap.size 35 i0 _ 3 Tryz.underlying26 hi hz0 hz1 .i64 .i64 n n n hl hc rfl rfl (by rw [hz2];omega) (by unfold maxLen;omega) (Nat.le_refl _) ?_
 intro w1 hown hgrow
 rw [zl9] at hown
 refine hK w1 ⟨List.replicate n (false, .slice none 0 0, .slice none 0 0),by simp,?_,by rw [List.length_replicate];exact hown⟩ ((Below.refl _ _).grown hgrow (Nat.le_refl _) (fun k hk => by cases hk))
 intro k r q h1 h2
 rw [List.getElem?_replicate] at h1 h2
 split at h1
 ·injection h1 with h1
  rw [if_pos ‹_›] at h2
  injection h2 with h2
  subst h1 h2
  exact RatS.zero _
 ·cases h1
def mix (rs:List Rat) (k:Nat):List Rat:=rs.take k ++ List.replicate (rs.length - k) 0
theorem zhW (rs:List Rat):mix rs 0 = List.replicate rs.length 0:=by simp [mix]
theorem zlc (rs:List Rat):mix rs rs.length = rs:=by simp [mix]
theorem zhV {rs:List Rat} {k:Nat} {q:Rat} (h:rs[k]? = some q):(mix rs k).set k q = mix rs (k + 1):=by
 have hk:=(List.getElem?_eq_some_iff.1 h).1
 unfold mix
 rw [List.set_append,if_neg (by rw [List.length_take];omega),List.take_add_one,h,List.length_take,Nat.min_eq_left (Nat.le_of_lt hk),Nat.sub_self,show rs.length - k = (rs.length - (k + 1)) + 1 by omega,List.replicate_succ]
 simp
theorem zld {rs:List Rat} {k:Nat} (h:k < rs.length):(mix rs k)[k]? = some 0:=by
 unfold mix
 rw [List.getElem?_append_right (by rw [List.length_take];omega),List.length_take,Nat.min_eq_left (Nat.le_of_lt h),Nat.sub_self,List.getElem?_replicate,if_pos (by omega)]
theorem zMD {w:World} {b o:Nat} {v:Value} (h:w.cell? ⟨b,o,none⟩ = some v):b < w.heap.size:=World.block_lt_of_cell? w ⟨b,o,none⟩ h
namespace Vc
theorem addTimesS (S:Nat) (hS:12 * S + 8 ≤ LIM) (A:Option Addr) (n c:Nat) (xs:List Rat) (g:Bool) (R:Option Addr) (m cr:Nat) (D:Option Addr) (md cd:Nat) (r:Rat) (B:Option Addr) (n' c':Nat) (ys:List Rat) (H H':Nat) (w:World) (hx:VecS w H (.slice A n c) xs) (hr:RatS w g (.slice R m cr) (.slice D md cd) r) (hy:VecS w H' (.slice B n' c') ys)
  (hl:xs.length = ys.length) (hb:n ≤ 1048576) (zx:∀ q ∈ xs,mw q ≤ S) (zr:mw r ≤ S) (zy:∀ q ∈ ys,mw q ≤ S) :
  Calls Tryz.prog 40 #[.slice A n c, .agg #[.bool g, .slice R m cr, .slice D md cd], .slice B n' c'] w (zcd w (zly xs r ys) true):=by
 have hn:=hx.len
 have hn':=hy.len
 have en:n' = n:=by omega
 subst en
 have HN:=hid hn
 have HL:=hid hl
 have HBN:=hid hb
 have ZX:=hid zx
 have ZR:=hid zr
 have ZY:=hid zy
 have HS0:=hid hS
 have hnb:n' ≤ 9223372036854775807:=by omega
 clear hn hn' hl hb zx zr zy hS
 obtain ⟨W,hW⟩:∃ W,(w.alloc (.cells #[.bool g, .slice R m cr, .slice D md cd] 35)) = W:=⟨_,rfl⟩
 have KB0:=hid (show W.heap[w.heap.size]? = some (.cells #[.bool g, .slice R m cr, .slice D md cd] 35 (0,0)) by rw [← hW];exact zam (by simp))
 have BB:=hid (show Below w.heap.size w W by rw [← hW];exact zae w _)
 have HZ:=hid (show w.heap.size + 1 ≤ W.heap.size by rw [← hW];simp)
 have HA:=hid (show VecS W H (.slice A n' c) xs by rw [← hW];exact (hx).alloc _)
 have HB:=hid (show VecS W H' (.slice B n' c') ys by rw [← hW];exact (hy).alloc _)
 have HR:=hid (show RatS W g (.slice R m cr) (.slice D md cd) r by rw [← hW];exact (hr).alloc _)
 clear hx hr hy
 go_enter Tryz.func40,Tryz.ntmps40
 go_wp2_with (at_make;go_must (refine zdv rfl _ _ rfl n' _ rfl rfl rfl HBN.out W.heap.size rfl ?_;intro w1 ho hb1))
 clear hW
 have HO:=hid ho
 have HB1:=hid hb1
 clear ho hb1
 go_wp2
 go_loopw [20] (fun i wr => ∃ k:Nat,i = .int .i64 k ∧ k ≤ n' ∧ VecS wr W.heap.size (.slice (some ⟨W.heap.size,0,none⟩) n' n') (mix (zly xs r ys) k) ∧ Below W.heap.size W wr)
  (fun i _ => n' - (intOf i).toNat)
 case atStart => exact ⟨0,rfl,Nat.zero_le _,by rw [zhW,zdt HL.out, ← HN.out];exact HO.out,HB1.out⟩
 case round =>
  obtain ⟨k,rfl,hk,hv,hB⟩:=hrel
  by_cases hlt:k < n'
  ·obtain ⟨a,ha⟩:∃ a,xs[k]? = some a:=⟨xs[k]'(by rw [← HN.out];exact hlt),List.getElem?_eq_getElem _⟩
   obtain ⟨b,hb⟩:∃ b,ys[k]? = some b:=⟨ys[k]'(by rw [← HL.out, ← HN.out];exact hlt),List.getElem?_eq_getElem _⟩
   obtain ⟨bx,rfl,hbx0,hbx1⟩:=HA.out.has (by omega)
   obtain ⟨by_,rfl,hby0,hby1⟩:=HB.out.has (by omega)
   obtain ⟨ga,Aa,ma,ca,Da,mda,cda,k0,k1,k2,hRa⟩:=(HA.out.below hB).at_ ha
   obtain ⟨gb,Ab,mb,cb,Db,mdb,cdb,l0,l1,l2,hRb⟩:=(HB.out.below hB).at_ hb
   have zaq:=hid (zad hB KB0.out)
   have zn6:=hid (HR.out.below hB)
   have HRa:=hid (show RatS wr ga (.slice Aa ma ca) (.slice Da mda cda) a from hRa)
   have HRb:=hid (show RatS wr gb (.slice Ab mb cb) (.slice Db mdb cdb) b from hRb)
   have HV:=hid (show VecS wr W.heap.size (.slice (some ⟨W.heap.size,0,none⟩) n' n') (mix (zly xs r ys) k) from hv)
   have HW:=hid (show Bel W wr from Bel.mk hB)
   obtain ⟨zaI,_,zaJ,_,zbC,_⟩:=bc3 zaq.out
   have zbJ:wr.cell? ⟨bx,k * 3,none⟩ = some (.bool ga):=k0
   have x0_1d:=zaa zbJ
   have zbY:wr.cell? ⟨bx,k * 3 + 1,none⟩ = some (.slice Aa ma ca):=k1
   have x1_1d:=zaa zbY
   have zcb:wr.cell? ⟨bx,k * 3 + 2,none⟩ = some (.slice Da mda cda):=k2
   have x2_1d:=zaa zcb
   have zd7:wr.cell? ⟨by_,k * 3,none⟩ = some (.bool gb):=l0
   have x3_1d:=zaa zd7
   have zfb:wr.cell? ⟨by_,k * 3 + 1,none⟩ = some (.slice Ab mb cb):=l1
   have x4_1d:=zaa zfb
   have zfc:wr.cell? ⟨by_,k * 3 + 2,none⟩ = some (.slice Db mdb cdb):=l2
   have x5_1d:=zaa zfc
   have HGET:=hid (zmR (r:=r) ha hb)
   have ZA:=hid (ZX.out a (List.mem_of_getElem? ha))
   have ZB:=hid (ZY.out b (List.mem_of_getElem? hb))
   have hi1:(0:Int) ≤ (k:Int):=Int.natCast_nonneg _
   have hi2:(k:Int) < (n':Int):=by omega
   have L1:=hid (show 4 * (mw r + mw b) + 8 ≤ LIM by have:=ZR.out;have:=ZB.out;have:=HS0.out;omega)
   have L2:=hid (show 4 * (mw a + mw (r * b)) + 8 ≤ LIM by have:=ZR.out;have:=ZB.out;have:=ZA.out;have:=zdI r b;have:=HS0.out;omega)
   have HMIX:=hid (zld (k:=k) (rs:=zly xs r ys) (by rw [zdt HL.out, ← HN.out];exact hlt))
   clear hv hB ha hb k0 k1 k2 l0 l1 l2 hRa hRb
   have hz0:=HZ.out
   go_wp2_with fail
   go_region_held3 (fun w' => w'.cell? ⟨w.heap.size,0,none⟩ = some (.bool g) ∧ w'.cell? ⟨w.heap.size,1,none⟩ = some (.slice R m cr) ∧ w'.cell? ⟨w.heap.size,2,none⟩ = some (.slice D md cd) ∧ w'.cell? ⟨bx,k * 3,none⟩ = some (.bool ga) ∧ w'.cell? ⟨bx,k * 3 + 1,none⟩ = some (.slice Aa ma ca) ∧ w'.cell? ⟨bx,k * 3 + 2,none⟩ = some (.slice Da mda cda) ∧ w'.cell? ⟨by_,k * 3,none⟩ = some (.bool gb) ∧ w'.cell? ⟨by_,k * 3 + 1,none⟩ = some (.slice Ab mb cb) ∧ w'.cell? ⟨by_,k * 3 + 2,none⟩ = some (.slice Db mdb cdb))
    (((try go_split_ands);(try simp only [World.cell?_drew]);(repeat' apply And.intro) <;> (repeat (first | with_reducible assumption | with_reducible refine cell_set (by omega) ?_ | with_reducible refine cell_al ?_))))
    (first
     | (go_at_call 14;(with_reducible refine (Rt.mul g R m cr D md cd r gb Ab mb cb Db mdb cdb b _ zn6.out.drew HRb.out.drew L1.out).mono ?_);rintro e u1 ⟨g1,A1,m1,c1,D1,md1,cd1,rfl,hn,hb⟩;have zaD:=hid (zad hb zaq.out);have zsI:=hid (HRa.out.drew.below hb);have zrY:=hid (HV.out.drew.below hb);have zn7:=hid (HW.out.drew.below hb);have HM:=hid (show RatS u1 g1 (.slice A1 m1 c1) (.slice D1 md1 cd1) (r * b) from hn);obtain ⟨zaU,_,zaV,_,zdr,_⟩:=bc3 zaD.out;have zcX:=zab hb x0_1d;have zdq:=zab hb x1_1d;have zej:=zab hb x2_1d;have zfa:=zab hb x3_1d;have zgt:=zab hb x4_1d;have zhd:=zab hb x5_1d;clear hn hb)
     | (go_at_call 41;(with_reducible refine (Rt.add ga Aa ma ca Da mda cda a g1 A1 m1 c1 D1 md1 cd1 (r * b) _ zsI.out HM.out L2.out).mono ?_);rintro e u2 ⟨g2,A2,m2,c2,D2,md2,cd2,rfl,hn,hb⟩;have zbn:=hid (zad hb zaD.out);have zv0:=hid (zrY.out.below hb);have zrZ:=hid (zn7.out.below hb);have HS:=hid (show RatS u2 g2 (.slice A2 m2 c2) (.slice D2 md2 cd2) (a + r * b) from hn);obtain ⟨zdg,_,zdh,_,zlM,_⟩:=bc3 zbn.out;have zdO:=zab hb zcX;have zfd:=zab hb zdq;have zgl:=zab hb zej;have zg9:=zab hb zfa;have zhb:=zab hb zgt;have zje:=zab hb zhd;have pp:=zv0.out.at_ HMIX.out;obtain ⟨go,Ao,mo,co,Do,mdo,cdo,o0,o1,o2,_⟩:=pp;have of0:=zv0.out.fro (k * 3);have of1:=zv0.out.fro (k * 3 + 1);have of2:=zv0.out.fro (k * 3 + 2);clear hn hb)
     | fail)
   go_wp2
   go_roundw
   case rel => exact ⟨k + 1,by go_num,by omega,by rw [← zhV HGET.out];exact VecS.store zv0.out k HS.out,(Bel.set3 zrZ.out (Nat.le_refl _) _ _ _).b⟩
   case measure => simp [intOf];omega
  ·obtain rfl:k = n':=by omega
   have HV:=hid hv
   have HF:=hid hB
   clear hv hB
   go_wp2
   refine bodyPost_ret (v := .tuple #[.slice (some ⟨W.heap.size,0,none⟩) k k, .bool true]) (by simp [results,Tryz.results40,go_sem]) rfl ?_
   refine ⟨_,_,_,rfl,?_,BB.out.trans (HF.out.mono BB.out.size)⟩
   have h:=HV.out
   rw [show k = (zly xs r ys).length by rw [zdt HL.out, ← HN.out],zlc] at h
   rw [← show k = (zly xs r ys).length by rw [zdt HL.out, ← HN.out]] at h
   exact h.base BB.out.size
theorem zMp (A:Option Addr) (n c:Nat) (xs:List Rat) (g:Bool) (R:Option Addr) (m cr:Nat) (D:Option Addr) (md cd:Nat) (r:Rat) (B:Option Addr) (n' c':Nat) (ys:List Rat) (H H':Nat) (w:World) (hx:VecS w H (.slice A n c) xs) (hr:RatS w g (.slice R m cr) (.slice D md cd) r) (hy:VecS w H' (.slice B n' c') ys)
  (hl:xs.length = ys.length) (hb:n ≤ 1048576) (zx:∀ q ∈ xs,mw q ≤ 10000000) (zr:mw r ≤ 10000000) (zy:∀ q ∈ ys,mw q ≤ 10000000) :
  Calls Tryz.prog 40 #[.slice A n c, .agg #[.bool g, .slice R m cr, .slice D md cd], .slice B n' c'] w (zcd w (zly xs r ys) true) :=
 addTimesS 10000000 (by rw [zaP];decide) A n c xs g R m cr D md cd r B n' c' ys H H' w hx hr hy hl hb zx zr zy
end Vc
end Go.Proofs.YtdbgbaiekpbaoaaGreatDoor
