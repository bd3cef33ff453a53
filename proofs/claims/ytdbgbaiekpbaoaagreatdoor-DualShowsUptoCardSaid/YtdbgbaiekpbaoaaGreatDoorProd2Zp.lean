/- prod.cut and prod.raised by their contracts. Conditions: as each says. prod.Mul by its contract: Karatsuba from 8 words on. Conditions: as each says. prod.Mul by its contract: the long factors. Conditions: as each says. quot.ByWord by its contract. Conditions: as each says. quot.guess by its contract. Conditions: as each says. quot.take by its contract. Conditions: as each says. Conditions: as they say. -/
import Derived.Test.YtdbgbaiekpbaoaaGreatDoorProd1Zp
import Derived.Test.YtdbgbaiekpbaoaaGreatDoorNat3Zp
import Derived.Test.YtdbgbaiekpbaoaaGreatDoorOutZp
import Derived.Deep.DeepCutAuto
import Derived.Test.YtdbgbaiekpbaoaaGreatDoorWordZp
namespace Go.Proofs.YtdbgbaiekpbaoaaGreatDoor
open Go.RowKit Am
open Lib (hid)
attribute [local go_sem ↓] Go.wp_at_zero Go.wp_at_succ
set_option maxHeartbeats 1000000
set_option maxRecDepth 100000
def zpo (w:World) (x y:Nat) (e:Ending) (w':World):Prop := ∃ (A:Option Addr) (m c:Nat) (B:Option Addr) (m' c':Nat),e = .returned (.tuple #[.agg #[.slice A m c], .agg #[.slice B m' c']]) ∧ zas w' (.slice A m c) x ∧ zas w' (.slice B m' c') y ∧ Below w.heap.size w w'
namespace Pr
theorem zxA (W:World) (g n c k:Nat) (h1:k ≤ n) :
  (Instr.slice 29 (.slice (some ⟨g,0,none⟩) n c) (some (.int .i64 (k:Int))) none none).run Tryz.prog W = .ok (.slice (some ⟨g,if c = k then 0 else k,none⟩) (n - k) (c - k)) W:=by
 have ht':Tryz.prog.underlying 29 = some (.slice (Tryz.prog.elem 29)):=by simp [Program.elem,Tryz.underlying29]
 have he:Tryz.prog.elem 29 = 193:=by simp [Program.elem,Tryz.underlying29]
 rw [run_slice_l W 29 _ _ _ ht' .i64 _ (by omega) (by omega),he]
 by_cases h0:c = k
 ·simp [Result.andThen,sliced,h0]
 ·by_cases h3:k = 0
  ·subst h3;simp [Result.andThen,sliced,Addr.add,h0]
  ·simp [Result.andThen,sliced,Addr.add,h0,h3]
theorem run_upto (W:World) (g n c k:Nat) (h1:k ≤ c) (h2:0 < c) :
  (Instr.slice 29 (.slice (some ⟨g,0,none⟩) n c) none (some (.int .i64 (k:Int))) none).run Tryz.prog W = .ok (.slice (some ⟨g,0,none⟩) k c) W:=by
 have ht':Tryz.prog.underlying 29 = some (.slice (Tryz.prog.elem 29)):=by simp [Program.elem,Tryz.underlying29]
 have he:Tryz.prog.elem 29 = 193:=by simp [Program.elem,Tryz.underlying29]
 rw [run_slice_h W 29 _ _ _ ht' .i64 _ (by omega) (by omega),he]
 have h0:c ≠ 0:=by omega
 simp [Result.andThen,sliced,Addr.add,h0]
theorem znN {xs:List Nat} (hw:Wds xs) (k:Nat):nval (xs.take k) = nval xs % B64 ^ k ∧ nval (xs.drop k) = nval xs / B64 ^ k:=by
 by_cases hk:k ≤ xs.length
 ·have e:=zaY xs k hk
  have h1:=zc8 (xs.take k) (fun x hx => hw x (List.mem_of_mem_take hx))
  rw [List.length_take,Nat.min_eq_left hk] at h1
  have hp:0 < B64 ^ k:=Nat.pow_pos (by decide)
  rw [e,Nat.add_mul_mod_self_left,Nat.mod_eq_of_lt h1,Nat.add_mul_div_left _ _ hp,Nat.div_eq_of_lt h1]
  omega
 ·have h1:=zc8 xs hw
  have h2:B64 ^ xs.length ≤ B64 ^ k:=Nat.pow_le_pow_right (by decide) (by omega)
  rw [List.take_of_length_le (by omega),List.drop_eq_nil_of_le (by omega),Nat.mod_eq_of_lt (by omega),Nat.div_eq_of_lt (by omega)]
  exact ⟨rfl,rfl⟩
theorem zv6 {xs:List Nat} (hw:Wds xs) (k:Nat):Wds (xs.take k):=fun x hx => hw x (List.mem_of_mem_take hx)
theorem zv5 {xs:List Nat} (hw:Wds xs) (k:Nat):Wds (xs.drop k):=fun x hx => hw x (List.mem_of_mem_drop hx)
theorem zBn {w:World} {g c:Nat} {xs:List Nat} (h:SW w (.slice (some ⟨g,0,none⟩) xs.length c) xs) {k:Nat} (hk:k ≤ xs.length):SR w (.slice (some ⟨g,0,none⟩) k c) (xs.take k):=by
 obtain ⟨A,c',e,h1,h2,h3,h4,h5⟩:=h.reads
 cases e
 refine ⟨some ⟨g,0,none⟩,c,by rw [List.length_take,Nat.min_eq_left hk],by rw [List.length_take];omega,h2,zv6 h3 k,nofun,fun ad he j u hu => ?_⟩
 cases he
 refine h5 _ rfl j u ?_
 rw [zg7] at hu
 by_cases hj:j < k
 ·rwa [List.getElem?_take_of_lt hj] at hu
 ·rw [List.getElem?_take_eq_none (by omega)] at hu;cases hu
theorem zBm {w:World} {g c:Nat} {xs:List Nat} (h:SW w (.slice (some ⟨g,0,none⟩) xs.length c) xs) {k:Nat} (hk:k ≤ xs.length):SR w (.slice (some ⟨g,if c = k then 0 else k,none⟩) (xs.length - k) (c - k)) (xs.drop k):=by
 obtain ⟨A,c',e,h1,h2,h3,h4,h5⟩:=h.reads
 cases e
 refine ⟨some ⟨g,if c = k then 0 else k,none⟩,c - k,by rw [List.length_drop],by rw [List.length_drop];omega,by omega,zv5 h3 k,nofun,fun ad he j u hu => ?_⟩
 cases he
 have hu':(wcells xs)[k + j]? = some u:=by
  unfold wcells at hu ⊢
  rw [List.map_drop,List.getElem?_drop] at hu
  exact hu
 have hlt:k + j < xs.length:=by
  have:=(List.getElem?_eq_some_iff.1 hu').1
  rwa [zdA] at this
 rw [if_neg (by omega)]
 have:=h5 _ rfl (k + j) u hu'
 have e:(⟨g,0,none⟩:Addr).add (k + j) = (⟨g,k,none⟩:Addr).add j:=by
  unfold Addr.add;simp only []
  split <;> split <;> simp <;> omega
 rwa [e] at this
theorem zrS {w w':World} {s:Value} {xs:List Nat} (h:SR w s xs) (hb:Below w.heap.size w w'):SR w' s xs:=by
 obtain ⟨A,c,h1,h2,h3,h4,h5,h6⟩:=h
 exact ⟨A,c,h1,h2,h3,h4,h5,fun ad he j u hu => by
  have hc:=h6 ad he j u hu
  rw [hb.cell (World.block_lt_of_cell? w _ hc)];exact hc⟩
theorem zvr {w:World} {s:Value} {xs:List Nat} (h:SR w s xs):SR w.drew s xs:=zrS h (zap w 1)
theorem zJE (A:Option Addr) (c k j:Nat) (xs:List Nat) (w:World) (hx:SW w (.slice A xs.length c) xs) (h1:1 ≤ j) (hk:k ≤ LIM) (hla:xs.length ≤ LIM) (hj2:j ≤ xs.length)
  (hj:(xs.length < k ∧ j = xs.length) ∨ (¬ xs.length < k ∧ j = k)) :
  Calls Tryz.prog 119 #[.agg #[.slice A xs.length c], .int .i64 (k:Int)] w (zpo w (nval (xs.take j)) (nval (xs.drop j))):=by
 have HX:=hid hx
 have HLA:=hid hla
 have HK:=hid hk
 have hkb:k ≤ 9223372036854775807:=by have:=zaP;omega
 have hxb:xs.length ≤ 9223372036854775807:=by have:=zaP;omega
 have hif:(if xs.length < k then xs.length else k) = j:=by rcases hj with ⟨h,rfl⟩ | ⟨h,rfl⟩ <;> simp [h]
 have hjb:j ≤ 9223372036854775807:=by omega
 clear hx hla hk
 go_enter Tryz.func119,Tryz.ntmps119
 go_wp2_with fail
 refine (Nt.words A xs.length c xs _ (((HX.out.alloc _).alloc _).alloc _) HLA.out).mono ?_
 rintro e w1 ⟨A1,m1,c1,rfl,hs1,hb1⟩
 rcases hs1.form with ⟨h,rfl⟩ | ⟨g,cap,h,hg,hcap,hm, -⟩
 ·exact absurd (Nat.le_trans h1 hj2) (by decide)
 ·cases h
  unfold maxLen at hm
  have hup:=fun W => run_upto W g xs.length c1 j (by omega) (by omega)
  have r2:=zBm hs1 hj2
  have hfr:=fun W => zxA W g xs.length c1 j (by omega)
  generalize (if c1 = j then 0 else j) = o at r2 hfr
  have l2:xs.length - j = (xs.drop j).length:=by rw [List.length_drop]
  rw [l2] at r2 hfr
  generalize c1 - j = q at r2 hfr
  have HB1:=hid hb1
  have r1:=zBn hs1 hj2
  have R1:=hid r1
  have R2:=hid r2
  have L1:=hid (show (xs.take j).length ≤ LIM by rw [List.length_take];have:=HLA.out;omega)
  have L2:=hid (show (xs.drop j).length ≤ LIM by rw [List.length_drop];have:=HLA.out;omega)
  have kk1:=hid ((hb1.block (w.heap.size + 1) (by simp)).trans (zak (zam (cs := #[.slice none 0 0]) (t:=31) (by simp))))
  have kk2:=hid ((hb1.block (w.heap.size + 1 + 1) (by simp)).trans (zam (cs := #[.slice none 0 0]) (t:=31) (by simp)))
  have hz1:=hb1.size
  simp at hz1
  clear hs1 hb1 r1 r2 l2
  generalize hT:xs.take j = T at *
  generalize hD:xs.drop j = D at *
  clear hif
  rcases hj with ⟨hlt,rfl⟩ | ⟨hlt,rfl⟩
  all_goals
   go_wp2_with fail
   go_region_with (first
    | (go_at_call 123;(with_reducible refine (Nt.of _ _ _ (zvr R1.out) L1.out).mono ?_);rintro e w2 ⟨A2,m2,c2,rfl,hs2,hb2⟩)
    | (go_at_call 123;(with_reducible refine (Nt.of _ _ _ (zrS (zvr R2.out) hb2) L2.out).mono ?_);rintro e w3 ⟨A3,m3,c3,rfl,hs3,hb3⟩;have g1:=hid (zad hb3 (zad hb2 kk1.out));have g2:=hid (zad hb3 (zad hb2 kk2.out));have g3:=zac g1.out 0;have g4:=zag g1.out 0;have g5:=zac g2.out 0;have g6:=zag g2.out 0;simp only [List.getElem?_toArray,List.getElem?_cons_zero] at g3 g5))
   go_goals
   go_wp2
   refine bodyPost_ret (v := .tuple #[.agg #[.slice A2 m2 c2], .agg #[.slice A3 m3 c3]]) (by simp [results,Tryz.results119,go_sem,g3,g5]) rfl ?_
   refine ⟨_,_,_,_,_,_,rfl,((hs2.below hb3).setCell (p:=⟨w.heap.size + 1,0,none⟩) g1.out (by decide) _).setCell (p:=⟨w.heap.size + 1 + 1,0,none⟩) ((Below.heap_setCell _ ⟨w.heap.size + 1,0,none⟩ _ (w.heap.size + 1 + 1) (by simp)).trans g2.out) (by decide) _,(hs3.setCell (p:=⟨w.heap.size + 1,0,none⟩) g1.out (by decide) _).setCell (p:=⟨w.heap.size + 1 + 1,0,none⟩) ((Below.heap_setCell _ ⟨w.heap.size + 1,0,none⟩ _ (w.heap.size + 1 + 1) (by simp)).trans g2.out) (by decide) _,Below.setCell (Below.setCell ?_ (by simp) _) (by simp;omega) _⟩
   have q1:=(((zae w (.cells #[.slice A xs.length c] 31)).alloc (by simp) (.cells #[.slice none 0 0] 31)).alloc (by simp;omega) (.cells #[.slice none 0 0] 31)).trans (HB1.out.mono (by simp;omega))
   have q2:=bstep q1 (zhk (Below.refl _ _) 1) (by omega)
   exact bstep (bstep q2 hb2 (by simp;omega)) hb3 (by have:=hb2.size;simp at this;omega)
theorem cut (A:Option Addr) (m c a k:Nat) (w:World) (ha:zas w (.slice A m c) a) (h1:1 ≤ k) (hk:k ≤ LIM) (hp:1 ≤ wlen a) (hla:wlen a ≤ LIM) :
  Calls Tryz.prog 119 #[.agg #[.slice A m c], .int .i64 (k:Int)] w (zpo w (a % B64 ^ k) (a / B64 ^ k)):=by
 obtain ⟨xs,hx,hcx,rfl,hlx,rfl⟩:=ha.words
 rw [← hlx] at hla hp
 have e:=znN hx.2 k
 by_cases hlt:xs.length < k
 ·have h:=zJE A c k xs.length xs w hx hp hk hla (Nat.le_refl _) (.inl ⟨hlt,rfl⟩)
  have e3:xs.take xs.length = xs.take k:=by rw [List.take_of_length_le (Nat.le_refl _),List.take_of_length_le (Nat.le_of_lt hlt)]
  have e4:xs.drop xs.length = xs.drop k:=by rw [List.drop_eq_nil_of_le (Nat.le_refl _),List.drop_eq_nil_of_le (Nat.le_of_lt hlt)]
  rw [e3,e4,e.1,e.2] at h
  exact h
 ·have h:=zJE A c k k xs w hx h1 hk hla (by omega) (.inr ⟨hlt,rfl⟩)
  rw [e.1,e.2] at h
  exact h
theorem raised (A:Option Addr) (m c a k:Nat) (w:World) (ha:zas w (.slice A m c) a) (hk:k + wlen a ≤ LIM) :
    Calls Tryz.prog 122 #[.agg #[.slice A m c], .int .i64 (k:Int)] w (zc0 w (a * B64 ^ k)):=by
  obtain ⟨xs,hx,hcx,rfl,hlx,rfl⟩:=ha.words
  rw [← hlx] at hk
  have HX:=hid hx
  have HK:=hid hk
  have hk16:k ≤ 16 * LIM:=by have:=zaP;omega
  have HK16:=hid hk16
  have HXL:=hid (show xs.length ≤ LIM by omega)
  have hv:nval (List.replicate k 0 ++ xs) = nval xs * B64 ^ k:=by rw [zc7,zbK,List.length_replicate];simp [Nat.mul_comm]
  have HV:=hid hv
  have hkb:k ≤ 9223372036854775807:=by have:=zaP;omega
  have zm:=zyv k hk16
  clear ha hx hk hlx hk16 hcx hv
  have c0:((w.alloc (.cells #[.slice A xs.length c] 31)).alloc (.cells #[.slice none 0 0] 31)).cell? ⟨w.heap.size,0,none⟩ = some (.slice A xs.length c):=cell_al (zax rfl rfl)
  have k1:((w.alloc (.cells #[.slice A xs.length c] 31)).alloc (.cells #[.slice none 0 0] 31)).heap[w.heap.size + 1]? = some (.cells #[.slice none 0 0] 31 (0,0)):=zam (by simp)
  have hb:Below w.heap.size w ((w.alloc (.cells #[.slice A xs.length c] 31)).alloc (.cells #[.slice none 0 0] 31)):=(zae w _).alloc (by simp) _
  have hz:((w.alloc (.cells #[.slice A xs.length c] 31)).alloc (.cells #[.slice none 0 0] 31)).heap.size = w.heap.size + 1 + 1:=by simp
  have hX1:=(HX.out.alloc (.cells #[.slice A xs.length c] 31)).alloc (.cells #[.slice none 0 0] 31)
  go_enter Tryz.func122,Tryz.ntmps122
  go_wp2_with fail
  generalize ((w.alloc (.cells #[.slice A xs.length c] 31)).alloc (.cells #[.slice none 0 0] 31)) = W at *
  have HX1:=hid hX1
  have HB:=hid hb
  have HZ:=hid hz
  have HK1:=hid k1
  clear hX1 hb hz k1
  have c1:=cell_al (ob := .cells (zrow k) 193) c0
  go_region_law (first
    | (refine znT (by rfl) 158 Tryz.func158 (by kernel_rfl) (by rfl) _ _ (by rfl) _ (by rfl) (Nt.words A xs.length c xs _ (by first | exact HX1.out.drew | exact (HX1.out.alloc _).drew) HXL.out) ?_;rintro e w1 ⟨A1,m1,c1,rfl,hs1,hb1⟩;refine ⟨_,rfl,?_⟩;have HS1:=hid hs1;have HB1:=hid hb1;clear hs1 hb1)
    | (refine zqA (by rfl) _ _ (by rfl) (by first | exact (zn5 W k HK16.out).drew.step HB1.out | exact zn5 _ k HK16.out) (Wds.replicate k) (by rfl) (by rfl) (by first | exact (HS1.out.alloc _).reads | exact HS1.out.reads) HK.out ?_;rintro A2 m2 c2 w2 hs2 hb2;have HS2:=hid hs2;have HB2:=hid hb2;clear hs2 hb2)
    | (refine znT (by rfl) 123 Tryz.func123 (by kernel_rfl) (by rfl) _ _ (by rfl) _ (by rfl) (Nt.of (.slice A2 m2 c2) (List.replicate k 0 ++ xs) _ HS2.out.reads (by rw [List.length_append,List.length_replicate];exact HK.out)) ?_;rintro e w3 ⟨A3,m3,c3,rfl,hs3,hb3⟩;refine ⟨_,rfl,?_⟩;have HS3:=hid hs3;have HB3:=hid hb3;clear hs3 hb3;
       have hz0:=HZ.out;have hz1:=HB1.out.size;try simp at hz1;
       have hz2:=HB2.out.size;try simp at hz2;
       have GB:=hid (show Below w.heap.size w w3 by first
         | exact bstep ((bstep (zhk (HB.out.alloc (by omega) (.cells (zrow k) 193)) 1) HB1.out (by first | omega | (simp;done) | (simp;omega))).trans (HB2.out.mono (by first | omega | (simp;done) | (simp;omega)))) HB3.out (by first | omega | (simp;done) | (simp;omega))
         | exact bstep (((bstep (zhk HB.out 1) HB1.out (by first | omega | (simp;done) | (simp;omega))).alloc (by first | omega | (simp;done) | (simp;omega)) (.cells (zrow k) 193)).trans (HB2.out.mono (by first | omega | (simp;done) | (simp;omega)))) HB3.out (by first | omega | (simp;done) | (simp;omega)));
       have G1:=hid (show w3.heap[w.heap.size + 1]? = some (.cells #[.slice none 0 0] 31 (0,0)) by first
         | exact zad HB3.out ((HB2.out.block _ (by omega)).trans (zad HB1.out (zak HK1.out)))
         | exact zad HB3.out ((HB2.out.block _ (by omega)).trans (zak (zad HB1.out HK1.out))));
       have g3:=zac G1.out 0;have g4:=zag G1.out 0;simp only [List.getElem?_toArray,List.getElem?_cons_zero] at g3;clear hz0 hz1 hz2))
  all_goals
    go_wp2
    refine bodyPost_ret (v := .agg #[.slice A3 m3 c3]) (by simp [results,Tryz.results122,go_sem,g3]) rfl ?_
    have hs3:=HS3.out
    rw [HV.out] at hs3
    exact ⟨_,_,_,rfl,hs3.setCell (p:=⟨w.heap.size + 1,0,none⟩) G1.out (by decide) _,Below.setCell GB.out (by simp) _⟩
end Pr
namespace Pr
theorem zu7 (A B:Option Addr) (m c m' c' a b:Nat) (w:World) (ha:zas w (.slice A m c) a) (hb:zas w (.slice B m' c') b) (hla:wlen a + wlen b ≤ LIM) (hs:wlen a < 8 ∨ wlen b < 8) :
  Calls Tryz.prog 58 #[.agg #[.slice A m c], .agg #[.slice B m' c']] w (zc0 w (a * b)):=by
 obtain ⟨xs,hx,hcx,hvx,hlx,rfl⟩:=ha.words
 obtain ⟨ys,hy,hcy,hvy,hly,rfl⟩:=hb.words
 have HA:=hid ha
 have HB:=hid hb
 have HL:=hid hla
 have HX:=hid hx
 have HY:=hid hy
 rw [← hlx, ← hly] at hs
 obtain ⟨mn,hmn⟩:∃ mn,mn = if ys.length < xs.length then ys.length else xs.length:=⟨_,rfl⟩
 have hm8:(mn:Int) < 8:=by split at hmn <;> omega
 have hmin:(if ys.length < xs.length then (ys.length:Int) else (xs.length:Int)) = (mn:Int):=by rw [hmn];split <;> rfl
 clear hmn hs
 clear ha hb hla hx hy hcx hcy hvx hvy hlx hly
 have c0:(((w.alloc (.cells #[.slice A xs.length c] 31)).alloc (.cells #[.slice B ys.length c'] 31)).alloc (.cells #[.slice none 0 0] 31)).cell? ⟨w.heap.size,0,none⟩ = some (.slice A xs.length c):=cell_al (cell_al (zax rfl rfl))
 have c1:(((w.alloc (.cells #[.slice A xs.length c] 31)).alloc (.cells #[.slice B ys.length c'] 31)).alloc (.cells #[.slice none 0 0] 31)).cell? ⟨w.heap.size + 1,0,none⟩ = some (.slice B ys.length c'):=cell_al (zax (by simp) rfl)
 have k2:(((w.alloc (.cells #[.slice A xs.length c] 31)).alloc (.cells #[.slice B ys.length c'] 31)).alloc (.cells #[.slice none 0 0] 31)).heap[w.heap.size + 1 + 1]? = some (.cells #[.slice none 0 0] 31 (0,0)):=zam (by simp)
 have kb:Below w.heap.size w (((w.alloc (.cells #[.slice A xs.length c] 31)).alloc (.cells #[.slice B ys.length c'] 31)).alloc (.cells #[.slice none 0 0] 31)):=((zae w _).alloc (by simp) _).alloc (by simp;omega) _
 have kz:(((w.alloc (.cells #[.slice A xs.length c] 31)).alloc (.cells #[.slice B ys.length c'] 31)).alloc (.cells #[.slice none 0 0] 31)).heap.size = w.heap.size + 1 + 1 + 1:=by simp
 have hA1:=HA.out.below kb
 have hB1:=HB.out.below kb
 have hX1:=HX.out.below kb
 have hY1:=HY.out.below kb
 go_enter Tryz.func58,Tryz.ntmps58
 go_wp2_with fail
 generalize (((w.alloc (.cells #[.slice A xs.length c] 31)).alloc (.cells #[.slice B ys.length c'] 31)).alloc (.cells #[.slice none 0 0] 31)) = W0 at *
 have HS:=hid (show ∀ w',Below W0.heap.size W0 w' → ((w'.cell? ⟨w.heap.size,0,none⟩ = some (.slice A xs.length c) ∧ w'.cell? ⟨w.heap.size + 1,0,none⟩ = some (.slice B ys.length c')) ∧ Below W0.heap.size W0 w') from fun w' h => ⟨⟨zab h c0,zab h c1⟩,h⟩)
 have HX1:=hid hX1
 have HY1:=hid hY1
 have HA1:=hid hA1
 have HB1:=hid hB1
 have HK2:=hid k2
 have HKB:=hid kb
 have HKZ:=hid kz
 clear hX1 hY1 hA1 hB1 k2 kb kz
 go_region_held3 (fun w' => (w'.cell? ⟨w.heap.size,0,none⟩ = some (.slice A xs.length c) ∧ w'.cell? ⟨w.heap.size + 1,0,none⟩ = some (.slice B ys.length c')) ∧ Below W0.heap.size W0 w')
  ((refine HS.out _ ?_;repeat (first | exact Below.refl _ _ | exact (by assumption:_ ∧ Below _ _ _).2 | with_reducible refine bdrew ?_ | with_reducible refine al2 ?_ _)))
  (first
   | (go_at_call 117;(with_reducible refine (Nt.len (.slice A xs.length c) xs _ (HX1.out.below (by assumption:_ ∧ Below _ _ _).2)).mono ?_);rintro e w' ⟨rfl,rfl⟩)
   | (go_at_call 117;(with_reducible refine (Nt.len (.slice B ys.length c') ys _ (HY1.out.below (by assumption:_ ∧ Below _ _ _).2)).mono ?_);rintro e w' ⟨rfl,rfl⟩))
 go_wp2_with fail
 have hh:=(by assumption:_ ∧ Below W0.heap.size W0 ((W0.alloc (.cells #[.slice A xs.length c] 31)).alloc (.cells #[.slice B ys.length c'] 31)).drew).2
 refine (school A B xs.length c ys.length c' a b _ (HA1.out.below hh) (HB1.out.below hh) HL.out).mono ?_
 rintro e w1 ⟨A1,m1,c1,rfl,hs1,hb1⟩
 have hk:=zad hb1 (zad hh HK2.out)
 have hc:w1.cell? ⟨w.heap.size + 1 + 1,0,none⟩ = some (.slice none 0 0):=zac hk 0
 have hf:=zag hk 0
 have HK3:=hid hk
 have hbb:=hid (bstep (HKB.out.trans (hh.mono (by have:=HKZ.out;omega))) hb1 (by have:=HKZ.out;have:=hh.size;omega))
 have HS1:=hid hs1
 clear hk hs1 hh
 go_wp2
 refine bodyPost_ret (v := .agg #[.slice A1 m1 c1]) (by simp [results,Tryz.results58,go_sem,hc]) rfl ?_
 exact ⟨_,_,_,rfl,HS1.out.setCell (p:=⟨w.heap.size + 1 + 1,0,none⟩) HK3.out (by decide) _,Below.setCell hbb.out (by simp;omega) _⟩
end Pr
end Go.Proofs.YtdbgbaiekpbaoaaGreatDoor
namespace Go.Proofs.YtdbgbaiekpbaoaaGreatDoor
open Go.RowKit Am
open Lib (hid)
attribute [local go_sem ↓] Go.wp_at_zero Go.wp_at_succ
set_option maxHeartbeats 10000000
set_option maxRecDepth 100000
namespace Pr
theorem zA8 (A:Option Addr) (m c a k:Nat) (K:Int) (hK:K = (k:Int)) (w:World) (ha:zas w (.slice A m c) a) (hk:k + wlen a ≤ LIM) :
  Calls Tryz.prog 122 #[.agg #[.slice A m c], .int .i64 K] w (zc0 w (a * B64 ^ k)):=by subst hK;exact raised A m c a k w ha hk
theorem zAW (p q r s:Nat):p * r + q * s ≤ (p + q) * (r + s):=by
 have : (p + q) * (r + s) = p * r + q * s + (p * s + q * r):=by grind
 omega
theorem kara (a b X:Nat) (_:0 < X):a % X * (b % X) + (((a % X + a / X) * (b % X + b / X) - (a % X * (b % X) + a / X * (b / X))) * X + a / X * (b / X) * (X * X)) = a * b:=by
 have e1:=Nat.mod_add_div a X
 have e2:=Nat.mod_add_div b X
 generalize a % X = p at *
 generalize a / X = q at *
 generalize b % X = r at *
 generalize b / X = s at *
 have : (p + q) * (r + s) - (p * r + q * s) = p * s + q * r:=by
  have : (p + q) * (r + s) = p * r + q * s + (p * s + q * r):=by grind
  omega
 rw [this, ← e1, ← e2]
 grind
def zpn (M:Nat):Prop := ∀ (A B:Option Addr) (m c m' c' a b:Nat) (w:World),zas w (.slice A m c) a → zas w (.slice B m' c') b → 4 * wlen a ≤ LIM → 4 * wlen b ≤ LIM → wlen a < M → wlen b < M →
    Calls Tryz.prog 58 #[.agg #[.slice A m c], .agg #[.slice B m' c']] w (zc0 w (a * b))
theorem zA1 (A B:Option Addr) (m c m' c' a b M:Nat) (w:World) (ih:zpn M) (hM:wlen a ≤ M ∧ wlen b ≤ M) (ha:zas w (.slice A m c) a) (hb:zas w (.slice B m' c') b) (hla:4 * wlen a ≤ LIM) (hlb:4 * wlen b ≤ LIM) (h8a:8 ≤ wlen a) (h8b:8 ≤ wlen b) :
  Calls Tryz.prog 58 #[.agg #[.slice A m c], .agg #[.slice B m' c']] w (zc0 w (a * b)):=by
 obtain ⟨xs,hx,hcx,hvx,hlx,rfl⟩:=ha.words
 obtain ⟨ys,hy,hcy,hvy,hly,rfl⟩:=hb.words
 have HA:=hid ha
 have HB:=hid hb
 have HWX:=hid hlx
 have HWY:=hid hly
 unfold zpn at ih
 have IH:=hid ih
 have HX:=hid hx
 have HY:=hid hy
 rw [← hlx] at h8a
 rw [← hly] at h8b
 obtain ⟨mn,hmn⟩:∃ mn,mn = if ys.length < xs.length then ys.length else xs.length:=⟨_,rfl⟩
 have hm8:¬ (mn:Int) < 8:=by split at hmn <;> omega
 have hmin:(if ys.length < xs.length then (ys.length:Int) else (xs.length:Int)) = (mn:Int):=by rw [hmn];split <;> rfl
 obtain ⟨mx,hmx⟩:∃ mx,mx = if xs.length < ys.length then ys.length else xs.length:=⟨_,rfl⟩
 have hmax:(if xs.length < ys.length then (ys.length:Int) else (xs.length:Int)) = (mx:Int):=by rw [hmx];split <;> rfl
 have hmx1:xs.length ≤ mx ∧ ys.length ≤ mx ∧ mx ≤ LIM ∧ mx ≤ M ∧ 4 * mx ≤ LIM:=by have:=zaP;split at hmx <;> omega
 have hmx8:8 ≤ mx:=by omega
 have HMX:=hid hmx1
 have hmxb:mx ≤ 9223372036854775806:=by have:=zaP;omega
 clear hmn hmx hmx1
 clear ih ha hb hx hy hcx hcy hvx hvy hlx hly
 have c0:(((w.alloc (.cells #[.slice A xs.length c] 31)).alloc (.cells #[.slice B ys.length c'] 31)).alloc (.cells #[.slice none 0 0] 31)).cell? ⟨w.heap.size,0,none⟩ = some (.slice A xs.length c):=cell_al (cell_al (zax rfl rfl))
 have c1:(((w.alloc (.cells #[.slice A xs.length c] 31)).alloc (.cells #[.slice B ys.length c'] 31)).alloc (.cells #[.slice none 0 0] 31)).cell? ⟨w.heap.size + 1,0,none⟩ = some (.slice B ys.length c'):=cell_al (zax (by simp) rfl)
 have k2:(((w.alloc (.cells #[.slice A xs.length c] 31)).alloc (.cells #[.slice B ys.length c'] 31)).alloc (.cells #[.slice none 0 0] 31)).heap[w.heap.size + 1 + 1]? = some (.cells #[.slice none 0 0] 31 (0,0)):=zam (by simp)
 have kb:Below w.heap.size w (((w.alloc (.cells #[.slice A xs.length c] 31)).alloc (.cells #[.slice B ys.length c'] 31)).alloc (.cells #[.slice none 0 0] 31)):=((zae w _).alloc (by simp) _).alloc (by simp;omega) _
 have kz:(((w.alloc (.cells #[.slice A xs.length c] 31)).alloc (.cells #[.slice B ys.length c'] 31)).alloc (.cells #[.slice none 0 0] 31)).heap.size = w.heap.size + 1 + 1 + 1:=by simp
 have hA1:=HA.out.below kb
 have hB1:=HB.out.below kb
 have hX1:=HX.out.below kb
 have hY1:=HY.out.below kb
 go_enter Tryz.func58,Tryz.ntmps58
 go_wp2_with fail
 generalize (((w.alloc (.cells #[.slice A xs.length c] 31)).alloc (.cells #[.slice B ys.length c'] 31)).alloc (.cells #[.slice none 0 0] 31)) = W0 at *
 have HS:=hid (show ∀ w',Below W0.heap.size W0 w' → ((w'.cell? ⟨w.heap.size,0,none⟩ = some (.slice A xs.length c) ∧ w'.cell? ⟨w.heap.size + 1,0,none⟩ = some (.slice B ys.length c')) ∧ Below W0.heap.size W0 w') from fun w' h => ⟨⟨zab h c0,zab h c1⟩,h⟩)
 have HX1:=hid hX1
 have HY1:=hid hY1
 have HA1:=hid hA1
 have HB1:=hid hB1
 have HK2:=hid k2
 have HKB:=hid kb
 have HKZ:=hid kz
 clear hX1 hY1 hA1 hB1 k2 kb kz
 have H8A:=hid h8a
 have H8B:=hid h8b
 clear hla hlb h8a h8b
 go_region_held3 (fun w' => (w'.cell? ⟨w.heap.size,0,none⟩ = some (.slice A xs.length c) ∧ w'.cell? ⟨w.heap.size + 1,0,none⟩ = some (.slice B ys.length c')) ∧ Below W0.heap.size W0 w')
  ((refine HS.out _ ?_;repeat (first | exact Below.refl _ _ | exact (by assumption:_ ∧ Below _ _ _).2 | with_reducible refine bdrew ?_ | with_reducible refine al2 ?_ _)))
  (first
   | (go_at_call 117;(with_reducible refine (Nt.len (.slice A xs.length c) xs _ (HX1.out.below (by assumption:_ ∧ Below _ _ _).2)).mono ?_);rintro e w' ⟨rfl,rfl⟩)
   | (go_at_call 117;(with_reducible refine (Nt.len (.slice B ys.length c') ys _ (HY1.out.below (by assumption:_ ∧ Below _ _ _).2)).mono ?_);rintro e w' ⟨rfl,rfl⟩))
 go_wp2_with fail
 go_region_held3 (fun w' => (w'.cell? ⟨w.heap.size,0,none⟩ = some (.slice A xs.length c) ∧ w'.cell? ⟨w.heap.size + 1,0,none⟩ = some (.slice B ys.length c')) ∧ Below W0.heap.size W0 w')
  ((refine HS.out _ ?_;repeat (first | exact Below.refl _ _ | exact (by assumption:_ ∧ Below _ _ _).2 | with_reducible refine bdrew ?_ | with_reducible refine al2 ?_ _)))
  (first
   | (go_at_call 117;(with_reducible refine (Nt.len (.slice A xs.length c) xs _ (HX1.out.below (by assumption:_ ∧ Below _ _ _).2)).mono ?_);rintro e w' ⟨rfl,rfl⟩)
   | (go_at_call 117;(with_reducible refine (Nt.len (.slice B ys.length c') ys _ (HY1.out.below (by assumption:_ ∧ Below _ _ _).2)).mono ?_);rintro e w' ⟨rfl,rfl⟩))
 obtain ⟨k,hk⟩:∃ k,k = (mx + 1) / 2:=⟨_,rfl⟩
 have e1:IntKind.i64.wrap ((IntKind.i64.wrap ((mx:Int) + 1)).tdiv 2) = (k:Int):=by
  rw [IntWalk.i64_in ((mx:Int) + 1) (by omega),Int.tdiv_eq_ediv_of_nonneg (by omega),hk]
  have : ((mx:Int) + 1) / 2 = (((mx + 1) / 2:Nat):Int):=by omega
  rw [this,IntWalk.i64_in _ (by omega)]
 simp only [e1]
 clear e1
 have hk4:4 ≤ k:=by omega
 have hkm:k + 1 < mx:=by omega
 have hk2:mx ≤ 2 * k:=by omega
 clear hk
 have hh:=(by assumption:_ ∧ Below W0.heap.size W0 ((((W0.alloc (.cells #[.slice A xs.length c] 31)).alloc (.cells #[.slice B ys.length c'] 31)).alloc (.cells #[.slice A xs.length c] 31)).alloc (.cells #[.slice B ys.length c'] 31)).drew.drew).2
 generalize hV:((((W0.alloc (.cells #[.slice A xs.length c] 31)).alloc (.cells #[.slice B ys.length c'] 31)).alloc (.cells #[.slice A xs.length c] 31)).alloc (.cells #[.slice B ys.length c'] 31)).drew.drew = w1 at *
 clear hV
 have HK:=hid hk4
 have HKM:=hid hkm
 have HK2M:=hid hk2
 have d1:=zab hh c1
 have HA2:=hid (HA1.out.below hh)
 have HB2:=hid (HB1.out.below hh)
 have D1:=hid d1
 have D2:=hid (zad hh HK2.out)
 have DB:=hid (HKB.out.trans (hh.mono (by have:=HKZ.out;omega)))
 have DZ:=hid (show w.heap.size + 3 ≤ w1.heap.size by have:=hh.size;have:=HKZ.out;omega)
 clear hk2 hkm c0 c1 hmin hmax hm8 HX HY HX1 HY1 HKB HS HK2
 go_wp2_with fail
 have G:(∃ v,v = 1):=⟨1,rfl⟩
 refine (cut A xs.length c a k _ HA2.out (by omega) (by have:=HMX.out;have:=HKM.out;omega) (by rw [← HWX.out];have:=H8A.out;omega) (by have:=HMX.out;rw [← HWX.out];omega)).mono ?_
 rintro e w2 ⟨A1,m1,c1,A2,m2,c2,rfl,ha0,ha1,hb2⟩
 have d3:=cell_al (ob := .cells #[.slice A2 m2 c2] 31) (cell_al (ob := .cells #[.slice A1 m1 c1] 31) (zab hb2 D1.out))
 have HA01:=hid ha0
 have HA02:=hid ha1
 have HBB2:=hid hb2
 have hz2:=hb2.size
 have hz1:=DZ.out
 clear ha0 ha1 hb2 G
 go_wp2_with fail
 refine (cut B ys.length c' b k _ ((HB2.out.below HBB2.out).alloc _ |>.alloc _) (by omega) (by have:=HMX.out;have:=HKM.out;omega) (by rw [← HWY.out];have:=H8B.out;omega) (by have:=HMX.out;rw [← HWY.out];omega)).mono ?_
 rintro e w3 ⟨B1,m3,c3,B2,m4,c4,rfl,hb0,hb1',hb3⟩
 have hz3:=hb3.size
 simp at hz3
 clear d3
 go_wp2_with fail
 have P0:((w3.alloc (.cells #[.slice B1 m3 c3] 31)).alloc (.cells #[.slice B2 m4 c4] 31)).cell? ⟨w2.heap.size,0,none⟩ = some (.slice A1 m1 c1):=cell_al (cell_al (zab hb3 (cell_al (zax rfl rfl))))
 have P1:((w3.alloc (.cells #[.slice B1 m3 c3] 31)).alloc (.cells #[.slice B2 m4 c4] 31)).cell? ⟨w2.heap.size + 1,0,none⟩ = some (.slice A2 m2 c2):=cell_al (cell_al (zab hb3 (zax (by simp) rfl)))
 have P2:((w3.alloc (.cells #[.slice B1 m3 c3] 31)).alloc (.cells #[.slice B2 m4 c4] 31)).cell? ⟨w3.heap.size,0,none⟩ = some (.slice B1 m3 c3):=cell_al (zax rfl rfl)
 have P3:((w3.alloc (.cells #[.slice B1 m3 c3] 31)).alloc (.cells #[.slice B2 m4 c4] 31)).cell? ⟨w3.heap.size + 1,0,none⟩ = some (.slice B2 m4 c4):=zax (by simp) rfl
 have N0:=hid ((((HA01.out.alloc (.cells #[.slice A1 m1 c1] 31)).alloc (.cells #[.slice A2 m2 c2] 31)).below hb3).alloc (.cells #[.slice B1 m3 c3] 31) |>.alloc (.cells #[.slice B2 m4 c4] 31))
 have N1:=hid ((((HA02.out.alloc (.cells #[.slice A1 m1 c1] 31)).alloc (.cells #[.slice A2 m2 c2] 31)).below hb3).alloc (.cells #[.slice B1 m3 c3] 31) |>.alloc (.cells #[.slice B2 m4 c4] 31))
 have N2:=hid ((hb0.alloc (.cells #[.slice B1 m3 c3] 31)).alloc (.cells #[.slice B2 m4 c4] 31))
 have N3:=hid ((hb1'.alloc (.cells #[.slice B1 m3 c3] 31)).alloc (.cells #[.slice B2 m4 c4] 31))
 have ER:=hid (show ((w3.alloc (.cells #[.slice B1 m3 c3] 31)).alloc (.cells #[.slice B2 m4 c4] 31)).heap[w.heap.size + 1 + 1]? = some (.cells #[.slice none 0 0] 31 (0,0)) from zak (zak (zad hb3 (zak (zak (zad HBB2.out D2.out))))))
 have EB:=hid (show Below w.heap.size w ((w3.alloc (.cells #[.slice B1 m3 c3] 31)).alloc (.cells #[.slice B2 m4 c4] 31)) from al2 (al2 (zc1 (al2 (al2 (zc1 DB.out HBB2.out) _) _) hb3) _) _)
 have EZ:=hid (show w.heap.size + 3 ≤ ((w3.alloc (.cells #[.slice B1 m3 c3] 31)).alloc (.cells #[.slice B2 m4 c4] 31)).heap.size by simp;omega)
 generalize hV:(w3.alloc (.cells #[.slice B1 m3 c3] 31)).alloc (.cells #[.slice B2 m4 c4] 31) = V at *
 clear hV hb0 hb1' hb3 hz3 HBB2 HA01 HA02 DB DZ D2 D1 HA2 HB2
 generalize w2.heap.size = p0 at *
 generalize w3.heap.size = q0 at *
 have ha1:wlen (a % B64 ^ k) ≤ k:=zaZ (Nat.mod_lt _ (Nat.pow_pos (by decide)))
 have hb1:wlen (b % B64 ^ k) ≤ k:=zaZ (Nat.mod_lt _ (Nat.pow_pos (by decide)))
 have ha2:wlen (a / B64 ^ k) ≤ mx - k:=zaZ (by
  have h1:=zfD a
  have h2:B64 ^ wlen a ≤ B64 ^ (mx - k) * B64 ^ k:=by rw [← Nat.pow_add];exact Nat.pow_le_pow_right (by decide) (by have:=HMX.out;have:=HWX.out;have:=HKM.out;omega)
  exact (Nat.div_lt_iff_lt_mul (Nat.pow_pos (by decide))).2 (by omega))
 have hb2:wlen (b / B64 ^ k) ≤ mx - k:=zaZ (by
  have h1:=zfD b
  have h2:B64 ^ wlen b ≤ B64 ^ (mx - k) * B64 ^ k:=by rw [← Nat.pow_add];exact Nat.pow_le_pow_right (by decide) (by have:=HMX.out;have:=HWY.out;have:=HKM.out;omega)
  exact (Nat.div_lt_iff_lt_mul (Nat.pow_pos (by decide))).2 (by omega))
 have hM4:4 * mx ≤ LIM:=by have:=HMX.out;omega
 have F0:=hid (show 4 * wlen (a % B64 ^ k) ≤ LIM by have:=HKM.out;omega)
 have F1:=hid (show 4 * wlen (a / B64 ^ k) ≤ LIM by omega)
 have F2:=hid (show 4 * wlen (b % B64 ^ k) ≤ LIM by have:=HKM.out;omega)
 have F3:=hid (show 4 * wlen (b / B64 ^ k) ≤ LIM by omega)
 have hMM:mx ≤ M:=by have:=HMX.out;omega
 have G0:=hid (show wlen (a % B64 ^ k) < M by have:=HKM.out;omega)
 have G1:=hid (show wlen (a / B64 ^ k) < M by have:=HK.out;omega)
 have G2:=hid (show wlen (b % B64 ^ k) < M by have:=HKM.out;omega)
 have G3:=hid (show wlen (b / B64 ^ k) < M by have:=HK.out;omega)
 have HWA:=hid (And.intro ha1 ha2)
 have HWB:=hid (And.intro hb1 hb2)
 have HM4:=hid hM4
 have HMM:=hid hMM
 clear ha1 ha2 hb1 hb2 hM4 hMM
 have HS:=hid (show ∀ w',Below V.heap.size V w' → ((w'.cell? ⟨p0,0,none⟩ = some (.slice A1 m1 c1) ∧ w'.cell? ⟨p0 + 1,0,none⟩ = some (.slice A2 m2 c2) ∧ w'.cell? ⟨q0,0,none⟩ = some (.slice B1 m3 c3) ∧ w'.cell? ⟨q0 + 1,0,none⟩ = some (.slice B2 m4 c4)) ∧ Below V.heap.size V w') from fun w' h => ⟨⟨zab h P0,zab h P1,zab h P2,zab h P3⟩,h⟩)
 go_cut [10,11] (fun s10 s11 wr => ∃ (g0 g1:Nat) (L1:Option Addr) (ml cl:Nat) (L2:Option Addr) (mh ch:Nat),s10 = .pointer (some ⟨g0,0,none⟩) ∧ s11 = .pointer (some ⟨g1,0,none⟩) ∧ Below V.heap.size V wr ∧
  wr.cell? ⟨g0,0,none⟩ = some (.slice L1 ml cl) ∧ wr.cell? ⟨g1,0,none⟩ = some (.slice L2 mh ch) ∧ zas wr (.slice L1 ml cl) (a % B64 ^ k * (b % B64 ^ k)) ∧ zas wr (.slice L2 mh ch) (a / B64 ^ k * (b / B64 ^ k)) ∧ V.heap.size ≤ g0 ∧ V.heap.size ≤ g1)
 case first =>
  go_region_held3 (fun w' => (w'.cell? ⟨p0,0,none⟩ = some (.slice A1 m1 c1) ∧ w'.cell? ⟨p0 + 1,0,none⟩ = some (.slice A2 m2 c2) ∧ w'.cell? ⟨q0,0,none⟩ = some (.slice B1 m3 c3) ∧ w'.cell? ⟨q0 + 1,0,none⟩ = some (.slice B2 m4 c4)) ∧ Below V.heap.size V w')
   ((refine HS.out _ ?_;repeat (first | exact Below.refl _ _ | exact (by assumption:_ ∧ Below _ _ _).2 | with_reducible refine bdrew ?_ | with_reducible refine al2 ?_ _ | with_reducible refine set2 ?_ (by omega) | with_reducible refine zc1 ?_ (by assumption))))
   (first
    | (go_at_call 58;(with_reducible refine (IH.out A1 B1 m1 c1 m3 c3 (a % B64 ^ k) (b % B64 ^ k) _ (N0.out.below (by assumption:_ ∧ Below _ _ _).2) (N2.out.below (by assumption:_ ∧ Below _ _ _).2) F0.out F2.out G0.out G2.out).mono ?_);rintro e u1 ⟨L1,ml,cl,rfl,hl,hbl⟩;have hzl:=hbl.size;(try simp at hzl);have hze:V.heap.size ≤ u1.heap.size:=(by omega);(try ((first | (have pp:=zan (b:=V.heap.size) (v := .slice none 0 0) (t:=31) hbl (zal _ _ _);obtain ⟨X0,⟨X0c,X0f⟩,⟨X0d,X0g⟩,⟨X0e,X0h⟩,⟨X0i,X0j⟩,X0k,X0l⟩:=pp) | (have pp:=zan (b:=V.heap.size) (v := .slice none 0 0) (t:=31) hbl (zak (zal _ _ _));obtain ⟨X0,⟨X0c,X0f⟩,⟨X0d,X0g⟩,⟨X0e,X0h⟩,⟨X0i,X0j⟩,X0k,X0l⟩:=pp) | (have pp:=zan (b:=V.heap.size) (v := .slice none 0 0) (t:=31) hbl (zbD _ _ _ _);obtain ⟨X0,⟨X0c,X0f⟩,⟨X0d,X0g⟩,⟨X0e,X0h⟩,⟨X0i,X0j⟩,X0k,X0l⟩:=pp));have X0:=hid X0));(try ((first | (have pp:=zan (b:=V.heap.size + 1) (v := .slice none 0 0) (t:=31) hbl (zal _ _ _);obtain ⟨X1,⟨X1c,X1f⟩,⟨X1d,X1g⟩,⟨X1e,X1h⟩,⟨X1i,X1j⟩,X1k,X1l⟩:=pp) | (have pp:=zan (b:=V.heap.size + 1) (v := .slice none 0 0) (t:=31) hbl (zak (zal _ _ _));obtain ⟨X1,⟨X1c,X1f⟩,⟨X1d,X1g⟩,⟨X1e,X1h⟩,⟨X1i,X1j⟩,X1k,X1l⟩:=pp) | (have pp:=zan (b:=V.heap.size + 1) (v := .slice none 0 0) (t:=31) hbl (zbD _ _ _ _);obtain ⟨X1,⟨X1c,X1f⟩,⟨X1d,X1g⟩,⟨X1e,X1h⟩,⟨X1i,X1j⟩,X1k,X1l⟩:=pp));have X1:=hid X1));have HL1:=hid hl;clear hl)
    | (go_at_call 58;(with_reducible refine (IH.out A2 B2 m2 c2 m4 c4 (a / B64 ^ k) (b / B64 ^ k) _ (N1.out.below (by assumption:_ ∧ Below _ _ _).2) (N3.out.below (by assumption:_ ∧ Below _ _ _).2) F1.out F3.out G1.out G3.out).mono ?_);rintro e u2 ⟨L2,mh,ch,rfl,hh2,hbh⟩;have hzh:=hbh.size;(try simp at hzh);have hzf:V.heap.size ≤ u2.heap.size:=(by omega);(try ((first | (have pp:=zan (b:=V.heap.size) (v := .slice none 0 0) (t:=31) hbh (X0.out);obtain ⟨Y0,⟨Y0c,Y0f⟩,⟨Y0d,Y0g⟩,⟨Y0e,Y0h⟩,⟨Y0i,Y0j⟩,Y0k,Y0l⟩:=pp) | (have pp:=zan (b:=V.heap.size) (v := .slice none 0 0) (t:=31) hbh (X1.out);obtain ⟨Y0,⟨Y0c,Y0f⟩,⟨Y0d,Y0g⟩,⟨Y0e,Y0h⟩,⟨Y0i,Y0j⟩,Y0k,Y0l⟩:=pp) | (have pp:=zan (b:=V.heap.size) (v := .slice none 0 0) (t:=31) hbh (zak X0.out);obtain ⟨Y0,⟨Y0c,Y0f⟩,⟨Y0d,Y0g⟩,⟨Y0e,Y0h⟩,⟨Y0i,Y0j⟩,Y0k,Y0l⟩:=pp) | (have pp:=zan (b:=V.heap.size) (v := .slice none 0 0) (t:=31) hbh (zak X1.out);obtain ⟨Y0,⟨Y0c,Y0f⟩,⟨Y0d,Y0g⟩,⟨Y0e,Y0h⟩,⟨Y0i,Y0j⟩,Y0k,Y0l⟩:=pp) | (have pp:=zan (b:=V.heap.size) (v := .slice none 0 0) (t:=31) hbh (zak (zak X0.out));obtain ⟨Y0,⟨Y0c,Y0f⟩,⟨Y0d,Y0g⟩,⟨Y0e,Y0h⟩,⟨Y0i,Y0j⟩,Y0k,Y0l⟩:=pp) | (have pp:=zan (b:=V.heap.size) (v := .slice none 0 0) (t:=31) hbh (zal _ _ _);obtain ⟨Y0,⟨Y0c,Y0f⟩,⟨Y0d,Y0g⟩,⟨Y0e,Y0h⟩,⟨Y0i,Y0j⟩,Y0k,Y0l⟩:=pp) | (have pp:=zan (b:=V.heap.size) (v := .slice none 0 0) (t:=31) hbh (zak (zal _ _ _));obtain ⟨Y0,⟨Y0c,Y0f⟩,⟨Y0d,Y0g⟩,⟨Y0e,Y0h⟩,⟨Y0i,Y0j⟩,Y0k,Y0l⟩:=pp) | (have pp:=zan (b:=V.heap.size) (v := .slice none 0 0) (t:=31) hbh (zbD _ _ _ _);obtain ⟨Y0,⟨Y0c,Y0f⟩,⟨Y0d,Y0g⟩,⟨Y0e,Y0h⟩,⟨Y0i,Y0j⟩,Y0k,Y0l⟩:=pp));have Y0:=hid Y0));(try ((first | (have pp:=zan (b:=V.heap.size + 1) (v := .slice none 0 0) (t:=31) hbh (X0.out);obtain ⟨Y1,⟨Y1c,Y1f⟩,⟨Y1d,Y1g⟩,⟨Y1e,Y1h⟩,⟨Y1i,Y1j⟩,Y1k,Y1l⟩:=pp) | (have pp:=zan (b:=V.heap.size + 1) (v := .slice none 0 0) (t:=31) hbh (X1.out);obtain ⟨Y1,⟨Y1c,Y1f⟩,⟨Y1d,Y1g⟩,⟨Y1e,Y1h⟩,⟨Y1i,Y1j⟩,Y1k,Y1l⟩:=pp) | (have pp:=zan (b:=V.heap.size + 1) (v := .slice none 0 0) (t:=31) hbh (zak X0.out);obtain ⟨Y1,⟨Y1c,Y1f⟩,⟨Y1d,Y1g⟩,⟨Y1e,Y1h⟩,⟨Y1i,Y1j⟩,Y1k,Y1l⟩:=pp) | (have pp:=zan (b:=V.heap.size + 1) (v := .slice none 0 0) (t:=31) hbh (zak X1.out);obtain ⟨Y1,⟨Y1c,Y1f⟩,⟨Y1d,Y1g⟩,⟨Y1e,Y1h⟩,⟨Y1i,Y1j⟩,Y1k,Y1l⟩:=pp) | (have pp:=zan (b:=V.heap.size + 1) (v := .slice none 0 0) (t:=31) hbh (zak (zak X0.out));obtain ⟨Y1,⟨Y1c,Y1f⟩,⟨Y1d,Y1g⟩,⟨Y1e,Y1h⟩,⟨Y1i,Y1j⟩,Y1k,Y1l⟩:=pp) | (have pp:=zan (b:=V.heap.size + 1) (v := .slice none 0 0) (t:=31) hbh (zal _ _ _);obtain ⟨Y1,⟨Y1c,Y1f⟩,⟨Y1d,Y1g⟩,⟨Y1e,Y1h⟩,⟨Y1i,Y1j⟩,Y1k,Y1l⟩:=pp) | (have pp:=zan (b:=V.heap.size + 1) (v := .slice none 0 0) (t:=31) hbh (zak (zal _ _ _));obtain ⟨Y1,⟨Y1c,Y1f⟩,⟨Y1d,Y1g⟩,⟨Y1e,Y1h⟩,⟨Y1i,Y1j⟩,Y1k,Y1l⟩:=pp) | (have pp:=zan (b:=V.heap.size + 1) (v := .slice none 0 0) (t:=31) hbh (zbD _ _ _ _);obtain ⟨Y1,⟨Y1c,Y1f⟩,⟨Y1d,Y1g⟩,⟨Y1e,Y1h⟩,⟨Y1i,Y1j⟩,Y1k,Y1l⟩:=pp));have Y1:=hid Y1));(try ((first | (have pp:=zan (b:=u1.heap.size) (v := .slice none 0 0) (t:=31) hbh (X0.out);obtain ⟨Y2,⟨Y2c,Y2f⟩,⟨Y2d,Y2g⟩,⟨Y2e,Y2h⟩,⟨Y2i,Y2j⟩,Y2k,Y2l⟩:=pp) | (have pp:=zan (b:=u1.heap.size) (v := .slice none 0 0) (t:=31) hbh (X1.out);obtain ⟨Y2,⟨Y2c,Y2f⟩,⟨Y2d,Y2g⟩,⟨Y2e,Y2h⟩,⟨Y2i,Y2j⟩,Y2k,Y2l⟩:=pp) | (have pp:=zan (b:=u1.heap.size) (v := .slice none 0 0) (t:=31) hbh (zak X0.out);obtain ⟨Y2,⟨Y2c,Y2f⟩,⟨Y2d,Y2g⟩,⟨Y2e,Y2h⟩,⟨Y2i,Y2j⟩,Y2k,Y2l⟩:=pp) | (have pp:=zan (b:=u1.heap.size) (v := .slice none 0 0) (t:=31) hbh (zak X1.out);obtain ⟨Y2,⟨Y2c,Y2f⟩,⟨Y2d,Y2g⟩,⟨Y2e,Y2h⟩,⟨Y2i,Y2j⟩,Y2k,Y2l⟩:=pp) | (have pp:=zan (b:=u1.heap.size) (v := .slice none 0 0) (t:=31) hbh (zak (zak X0.out));obtain ⟨Y2,⟨Y2c,Y2f⟩,⟨Y2d,Y2g⟩,⟨Y2e,Y2h⟩,⟨Y2i,Y2j⟩,Y2k,Y2l⟩:=pp) | (have pp:=zan (b:=u1.heap.size) (v := .slice none 0 0) (t:=31) hbh (zal _ _ _);obtain ⟨Y2,⟨Y2c,Y2f⟩,⟨Y2d,Y2g⟩,⟨Y2e,Y2h⟩,⟨Y2i,Y2j⟩,Y2k,Y2l⟩:=pp) | (have pp:=zan (b:=u1.heap.size) (v := .slice none 0 0) (t:=31) hbh (zak (zal _ _ _));obtain ⟨Y2,⟨Y2c,Y2f⟩,⟨Y2d,Y2g⟩,⟨Y2e,Y2h⟩,⟨Y2i,Y2j⟩,Y2k,Y2l⟩:=pp) | (have pp:=zan (b:=u1.heap.size) (v := .slice none 0 0) (t:=31) hbh (zbD _ _ _ _);obtain ⟨Y2,⟨Y2c,Y2f⟩,⟨Y2d,Y2g⟩,⟨Y2e,Y2h⟩,⟨Y2i,Y2j⟩,Y2k,Y2l⟩:=pp));have Y2:=hid Y2));(try ((first | (have pp:=zan (b:=u1.heap.size + 1) (v := .slice none 0 0) (t:=31) hbh (X0.out);obtain ⟨Y3,⟨Y3c,Y3f⟩,⟨Y3d,Y3g⟩,⟨Y3e,Y3h⟩,⟨Y3i,Y3j⟩,Y3k,Y3l⟩:=pp) | (have pp:=zan (b:=u1.heap.size + 1) (v := .slice none 0 0) (t:=31) hbh (X1.out);obtain ⟨Y3,⟨Y3c,Y3f⟩,⟨Y3d,Y3g⟩,⟨Y3e,Y3h⟩,⟨Y3i,Y3j⟩,Y3k,Y3l⟩:=pp) | (have pp:=zan (b:=u1.heap.size + 1) (v := .slice none 0 0) (t:=31) hbh (zak X0.out);obtain ⟨Y3,⟨Y3c,Y3f⟩,⟨Y3d,Y3g⟩,⟨Y3e,Y3h⟩,⟨Y3i,Y3j⟩,Y3k,Y3l⟩:=pp) | (have pp:=zan (b:=u1.heap.size + 1) (v := .slice none 0 0) (t:=31) hbh (zak X1.out);obtain ⟨Y3,⟨Y3c,Y3f⟩,⟨Y3d,Y3g⟩,⟨Y3e,Y3h⟩,⟨Y3i,Y3j⟩,Y3k,Y3l⟩:=pp) | (have pp:=zan (b:=u1.heap.size + 1) (v := .slice none 0 0) (t:=31) hbh (zak (zak X0.out));obtain ⟨Y3,⟨Y3c,Y3f⟩,⟨Y3d,Y3g⟩,⟨Y3e,Y3h⟩,⟨Y3i,Y3j⟩,Y3k,Y3l⟩:=pp) | (have pp:=zan (b:=u1.heap.size + 1) (v := .slice none 0 0) (t:=31) hbh (zal _ _ _);obtain ⟨Y3,⟨Y3c,Y3f⟩,⟨Y3d,Y3g⟩,⟨Y3e,Y3h⟩,⟨Y3i,Y3j⟩,Y3k,Y3l⟩:=pp) | (have pp:=zan (b:=u1.heap.size + 1) (v := .slice none 0 0) (t:=31) hbh (zak (zal _ _ _));obtain ⟨Y3,⟨Y3c,Y3f⟩,⟨Y3d,Y3g⟩,⟨Y3e,Y3h⟩,⟨Y3i,Y3j⟩,Y3k,Y3l⟩:=pp) | (have pp:=zan (b:=u1.heap.size + 1) (v := .slice none 0 0) (t:=31) hbh (zbD _ _ _ _);obtain ⟨Y3,⟨Y3c,Y3f⟩,⟨Y3d,Y3g⟩,⟨Y3e,Y3h⟩,⟨Y3i,Y3j⟩,Y3k,Y3l⟩:=pp));have Y3:=hid Y3));have HL2:=hid hh2;clear hh2))
  all_goals
   go_wp2
   go_meet
   case rel =>
    refine ⟨_,_,L1,ml,cl,L2,mh,ch,rfl,rfl,(by assumption:_ ∧ Below V.heap.size V _).2,?_,?_,?_,?_,?_,?_⟩
    all_goals (repeat' (first
     | exact HL2.out | exact HL1.out | assumption
     | with_reducible exact zeo _ _ _ | with_reducible exact zfx _ _ _ _
     | with_reducible refine cell_al ?_ | with_reducible refine Box.cell ?_ | with_reducible refine cell_set ?_ ?_
     | with_reducible exact Box.new _ _ | with_reducible exact Box.new1 _ _ _ | with_reducible refine Box.alloc ?_ | with_reducible refine Box.set ?_
     | exact Box.of Y0.out | exact Box.of Y1.out | exact Box.of Y2.out | exact Box.of Y3.out
     | with_reducible refine zas.alloc ?_ _ | with_reducible refine zas.setBox ?_ ?_ | refine zas.below ?_ hbh | with_reducible refine zas.drew ?_
     | omega))
 case rest =>
  obtain ⟨g0,g1,L1,ml,cl,L2,mh,ch,rfl,rfl,hbV,k0,k1,hL1,hL2,hg0,hg1⟩:=hcut
  rename World => wa
  have P0:=zab hbV P0
  have P1:=zab hbV P1
  have P2:=zab hbV P2
  have P3:=zab hbV P3
  have N0:=hid (N0.out.below hbV)
  have N1:=hid (N1.out.below hbV)
  have N2:=hid (N2.out.below hbV)
  have N3:=hid (N3.out.below hbV)
  have NL1:=hid hL1
  have NL2:=hid hL2
  have EZV:=EZ
  have ER:=hid (zad hbV ER.out)
  have EB:=hid (EB.out.trans (hbV.mono (by have:=EZ.out;omega)))
  have EZ:=hid (show w.heap.size + 3 ≤ wa.heap.size by have:=EZ.out;have:=hbV.size;omega)
  have HG0:=hid (show w.heap.size + 3 ≤ g0 ∧ w.heap.size + 3 ≤ g1 by have:=EZV.out;omega)
  clear hg0 hg1
  have S1:wlen (a % B64 ^ k + a / B64 ^ k) ≤ k + 1:=by have:=zgg (a % B64 ^ k) (a / B64 ^ k);have:=HWA.out;have:=HK2M.out;omega
  have S2:wlen (b % B64 ^ k + b / B64 ^ k) ≤ k + 1:=by have:=zgg (b % B64 ^ k) (b / B64 ^ k);have:=HWB.out;have:=HK2M.out;omega
  have F4:=hid (show 4 * wlen (a % B64 ^ k + a / B64 ^ k) ≤ LIM by have:=HM4.out;have:=HKM.out;omega)
  have F5:=hid (show 4 * wlen (b % B64 ^ k + b / B64 ^ k) ≤ LIM by have:=HM4.out;have:=HKM.out;omega)
  have G4:=hid (show wlen (a % B64 ^ k + a / B64 ^ k) < M by have:=HMM.out;have:=HKM.out;omega)
  have G5:=hid (show wlen (b % B64 ^ k + b / B64 ^ k) < M by have:=HMM.out;have:=HKM.out;omega)
  have Q0:=hid (show wlen (a % B64 ^ k) ≤ LIM by have:=F0.out;omega)
  have Q1:=hid (show wlen (a / B64 ^ k) ≤ LIM by have:=F1.out;omega)
  have Q2:=hid (show wlen (b % B64 ^ k) ≤ LIM by have:=F2.out;omega)
  have Q3:=hid (show wlen (b / B64 ^ k) ≤ LIM by have:=F3.out;omega)
  clear S1 S2 hbV hL1 hL2 HS F0 F1 F2 F3 G0 G1 G2 G3
  go_wp2_with fail
  have HS:=hid (show ∀ w',Below wa.heap.size wa w' → ((w'.cell? ⟨p0,0,none⟩ = some (.slice A1 m1 c1) ∧ w'.cell? ⟨p0 + 1,0,none⟩ = some (.slice A2 m2 c2) ∧ w'.cell? ⟨q0,0,none⟩ = some (.slice B1 m3 c3) ∧ w'.cell? ⟨q0 + 1,0,none⟩ = some (.slice B2 m4 c4) ∧ w'.cell? ⟨g0,0,none⟩ = some (.slice L1 ml cl) ∧ w'.cell? ⟨g1,0,none⟩ = some (.slice L2 mh ch)) ∧ Below wa.heap.size wa w') from fun w' h => ⟨⟨zab h P0,zab h P1,zab h P2,zab h P3,zab h k0,zab h k1⟩,h⟩)
  go_cut [12] (fun s12 wr => ∃ (g2:Nat) (D:Option Addr) (md cd:Nat),s12 = .pointer (some ⟨g2,0,none⟩) ∧ Below wa.heap.size wa wr ∧
   wr.cell? ⟨g2,0,none⟩ = some (.slice D md cd) ∧ zas wr (.slice D md cd) ((a % B64 ^ k + a / B64 ^ k) * (b % B64 ^ k + b / B64 ^ k)))
  case first =>
   go_region_held3 (fun w' => ((w'.cell? ⟨p0,0,none⟩ = some (.slice A1 m1 c1) ∧ w'.cell? ⟨p0 + 1,0,none⟩ = some (.slice A2 m2 c2) ∧ w'.cell? ⟨q0,0,none⟩ = some (.slice B1 m3 c3) ∧ w'.cell? ⟨q0 + 1,0,none⟩ = some (.slice B2 m4 c4) ∧ w'.cell? ⟨g0,0,none⟩ = some (.slice L1 ml cl) ∧ w'.cell? ⟨g1,0,none⟩ = some (.slice L2 mh ch)) ∧ Below wa.heap.size wa w'))
    ((refine HS.out _ ?_;repeat (first | exact Below.refl _ _ | exact (by assumption:_ ∧ Below _ _ _).2 | with_reducible refine bdrew ?_ | with_reducible refine al2 ?_ _ | with_reducible refine set2 ?_ (by omega) | with_reducible refine zc1 ?_ (by assumption))))
    (first
     | (go_at_call 120;(with_reducible refine (Nt.add A1 A2 m1 c1 m2 c2 (a % B64 ^ k) (a / B64 ^ k) _ (N0.out.below (by assumption:_ ∧ Below _ _ _).2) (N1.out.below (by assumption:_ ∧ Below _ _ _).2) Q0.out Q1.out).mono ?_);rintro e u1 ⟨E1,me,ce,rfl,he1,hb1⟩;have hz1:=hb1.size;(try simp at hz1);have hze1:wa.heap.size ≤ u1.heap.size:=(by omega);(try ((first | (have pp:=zan (b:=wa.heap.size) (v := .slice none 0 0) (t:=31) hb1 (zal _ _ _);obtain ⟨zb8,⟨zjM,zjP⟩,⟨zjN,zjQ⟩,⟨zjO,zjR⟩,⟨zjS,zjT⟩,zjU,zjV⟩:=pp));have zb8:=hid zb8));have HE1:=hid he1;clear he1)
     | (go_at_call 120;(with_reducible refine (Nt.add B1 B2 m3 c3 m4 c4 (b % B64 ^ k) (b / B64 ^ k) _ (N2.out.below (by assumption:_ ∧ Below _ _ _).2) (N3.out.below (by assumption:_ ∧ Below _ _ _).2) Q2.out Q3.out).mono ?_);rintro e u2 ⟨E2,mf,cf,rfl,he2,hb2⟩;have hz2:=hb2.size;(try simp at hz2);have hze2:wa.heap.size ≤ u2.heap.size:=(by omega);(try ((first | (have pp:=zan (b:=wa.heap.size) (v := .slice none 0 0) (t:=31) hb2 (zb8.out);obtain ⟨zbZ,⟨zfh,zfk⟩,⟨zfi,zfl⟩,⟨zfj,zfm⟩,⟨zfn,zfo⟩,zfp,zfq⟩:=pp) | (have pp:=zan (b:=wa.heap.size) (v := .slice none 0 0) (t:=31) hb2 (zak zb8.out);obtain ⟨zbZ,⟨zfh,zfk⟩,⟨zfi,zfl⟩,⟨zfj,zfm⟩,⟨zfn,zfo⟩,zfp,zfq⟩:=pp));have zbZ:=hid zbZ));(try ((first | (have pp:=zan (b:=u1.heap.size) (v := .slice none 0 0) (t:=31) hb2 (zal _ _ _);obtain ⟨zcz,⟨zjY,zj1⟩,⟨zjZ,zj2⟩,⟨zj0,zj3⟩,⟨zj4,zj5⟩,zj6,zj7⟩:=pp));have zcz:=hid zcz));have HE2:=hid he2;clear he2)
     | (go_at_call 58;(with_reducible refine (IH.out E1 E2 me ce mf cf _ _ _ (by repeat (first | exact HE1.out | with_reducible refine zas.alloc ?_ _ | with_reducible refine zas.drew ?_ | refine zas.below ?_ hb2)) (by repeat (first | exact HE2.out | with_reducible refine zas.alloc ?_ _ | with_reducible refine zas.drew ?_)) F4.out F5.out G4.out G5.out).mono ?_);rintro e u3 ⟨E3,mg,cg,rfl,he3,hb3⟩;have hz3:=hb3.size;(try simp at hz3);have hze3:wa.heap.size ≤ u3.heap.size:=(by omega);(try ((first | (have pp:=zan (b:=wa.heap.size) (v := .slice none 0 0) (t:=31) hb3 (zbZ.out);obtain ⟨zgm,⟨zmw,zmz⟩,⟨zmx,zmA⟩,⟨zmy,zmB⟩,⟨zmC,zmD⟩,zmE,zmF⟩:=pp) | (have pp:=zan (b:=wa.heap.size) (v := .slice none 0 0) (t:=31) hb3 (zak zbZ.out);obtain ⟨zgm,⟨zmw,zmz⟩,⟨zmx,zmA⟩,⟨zmy,zmB⟩,⟨zmC,zmD⟩,zmE,zmF⟩:=pp));have zgm:=hid zgm));(try ((first | (have pp:=zan (b:=u1.heap.size) (v := .slice none 0 0) (t:=31) hb3 (zcz.out);obtain ⟨zgn,⟨zmG,zmJ⟩,⟨zmH,zmK⟩,⟨zmI,zmL⟩,⟨zmM,zmN⟩,zmO,zmP⟩:=pp) | (have pp:=zan (b:=u1.heap.size) (v := .slice none 0 0) (t:=31) hb3 (zak zcz.out);obtain ⟨zgn,⟨zmG,zmJ⟩,⟨zmH,zmK⟩,⟨zmI,zmL⟩,⟨zmM,zmN⟩,zmO,zmP⟩:=pp));have zgn:=hid zgn));(try ((first | (have pp:=zan (b:=u2.heap.size) (v := .slice none 0 0) (t:=31) hb3 (zal _ _ _);obtain ⟨zhj,⟨zpp,zps⟩,⟨zpq,zpt⟩,⟨zpr,zpu⟩,⟨zpv,zpw⟩,zpx,zpy⟩:=pp));have zhj:=hid zhj));have HE3:=hid he3;clear he3))
   all_goals
    go_wp2
    go_meet
    case rel =>
     refine ⟨_,E3,mg,cg,rfl,(by assumption:_ ∧ Below wa.heap.size wa _).2,?_,?_⟩
     all_goals
      repeat' (first
       | with_reducible exact HE3.out
       | with_reducible assumption
       | with_reducible exact zeo _ _ _
       | with_reducible exact zfx _ _ _ _
       | with_reducible refine cell_al ?_
       | with_reducible refine Box.cell ?_
       | with_reducible refine cell_set ?_ ?_
       | with_reducible exact Box.new _ _
       | with_reducible exact Box.new1 _ _ _
       | with_reducible refine Box.alloc ?_
       | with_reducible refine Box.set ?_
       | exact Box.of zgm.out
       | exact Box.of zgn.out
       | exact Box.of zhj.out
       | with_reducible refine zas.alloc ?_ _
       | with_reducible refine zas.setBox ?_ ?_
       | with_reducible refine zas.drew ?_
       | omega)
  case rest =>
   obtain ⟨g2,D,md,cd,rfl,hbW,k2,hD⟩:=hcut
   rename World => wb
   have k0:=zab hbW k0
   have k1:=zab hbW k1
   have NL1:=hid (NL1.out.below hbW)
   have NL2:=hid (NL2.out.below hbW)
   have ND:=hid hD
   have ER:=hid (zad hbW ER.out)
   have EB:=hid (EB.out.trans (hbW.mono (by have:=EZ.out;omega)))
   have EZ:=hid (show w.heap.size + 3 ≤ wb.heap.size by have:=EZ.out;have:=hbW.size;omega)
   have S3:wlen (a % B64 ^ k * (b % B64 ^ k)) ≤ 2 * k:=by have:=zdy (a % B64 ^ k) (b % B64 ^ k);have:=HWA.out;have:=HWB.out;omega
   have S4:wlen (a / B64 ^ k * (b / B64 ^ k)) ≤ 2 * (mx - k):=by have:=zdy (a / B64 ^ k) (b / B64 ^ k);have:=HWA.out;have:=HWB.out;omega
   have S5:wlen ((a % B64 ^ k + a / B64 ^ k) * (b % B64 ^ k + b / B64 ^ k)) ≤ 2 * (k + 1):=by
    have:=zdy (a % B64 ^ k + a / B64 ^ k) (b % B64 ^ k + b / B64 ^ k)
    have:=zgg (a % B64 ^ k) (a / B64 ^ k);have:=zgg (b % B64 ^ k) (b / B64 ^ k);have:=HWA.out;have:=HWB.out;have:=HK2M.out;omega
   have hle:a % B64 ^ k * (b % B64 ^ k) + a / B64 ^ k * (b / B64 ^ k) ≤ (a % B64 ^ k + a / B64 ^ k) * (b % B64 ^ k + b / B64 ^ k):=zAW _ _ _ _
   have S6:wlen ((a % B64 ^ k + a / B64 ^ k) * (b % B64 ^ k + b / B64 ^ k) - (a % B64 ^ k * (b % B64 ^ k) + a / B64 ^ k * (b / B64 ^ k))) ≤ 2 * (k + 1):=Nat.le_trans (zco (Nat.sub_le _ _)) S5
   have Q4:=hid (show wlen (a % B64 ^ k * (b % B64 ^ k)) ≤ LIM by have:=HM4.out;have:=HKM.out;omega)
   have Q5:=hid (show wlen (a / B64 ^ k * (b / B64 ^ k)) ≤ LIM by have:=HM4.out;have:=HKM.out;omega)
   have Q6:=hid (show wlen ((a % B64 ^ k + a / B64 ^ k) * (b % B64 ^ k + b / B64 ^ k)) ≤ LIM by have:=HM4.out;have:=HKM.out;omega)
   have Q7:=hid hle
   have HV:=hid (kara a b (B64 ^ k) (Nat.pow_pos (by decide)))
   have E2K:B64 ^ (2 * k) = B64 ^ k * B64 ^ k:=by rw [Nat.two_mul,Nat.pow_add]
   have wX:wlen (B64 ^ k) ≤ k + 1:=zaZ (Nat.pow_lt_pow_right (by decide) (by omega))
   have R1:=hid (show k + wlen ((a % B64 ^ k + a / B64 ^ k) * (b % B64 ^ k + b / B64 ^ k) - (a % B64 ^ k * (b % B64 ^ k) + a / B64 ^ k * (b / B64 ^ k))) ≤ LIM by have:=HM4.out;have:=HKM.out;omega)
   have R2:=hid (show 2 * k + wlen (a / B64 ^ k * (b / B64 ^ k)) ≤ LIM by have:=HM4.out;have:=HKM.out;omega)
   generalize a % B64 ^ k * (b % B64 ^ k) = lo at *
   generalize a / B64 ^ k * (b / B64 ^ k) = hi at *
   generalize (a % B64 ^ k + a / B64 ^ k) * (b % B64 ^ k + b / B64 ^ k) = bo at *
   have R3:=hid (show wlen ((bo - (lo + hi)) * B64 ^ k) ≤ 3 * k + 3 by have:=zdy (bo - (lo + hi)) (B64 ^ k);omega)
   have R4:=hid (show wlen (hi * B64 ^ (2 * k)) ≤ 2 * mx + 2 by have h1:=zdy hi (B64 ^ (2 * k));have h2:=zdy (B64 ^ k) (B64 ^ k);rw [← E2K] at h2;have:=HKM.out;omega)
   have R5:=hid (show wlen ((bo - (lo + hi)) * B64 ^ k) ≤ LIM by have:=R3.out;have:=HM4.out;have:=HKM.out;omega)
   have R6:=hid (show wlen (hi * B64 ^ (2 * k)) ≤ LIM by have:=R4.out;have:=HM4.out;omega)
   have R7:=hid (show wlen ((bo - (lo + hi)) * B64 ^ k + hi * B64 ^ (2 * k)) ≤ LIM by have:=zgg ((bo - (lo + hi)) * B64 ^ k) (hi * B64 ^ (2 * k));have:=R3.out;have:=R4.out;have:=HM4.out;have:=HKM.out;omega)
   have HV2:=hid (show lo + ((bo - (lo + hi)) * B64 ^ k + hi * B64 ^ (2 * k)) = a * b by rw [E2K];exact HV.out)
   clear S3 S4 S5 S6 hle hbW hD HS E2K wX HV Q0 Q1 Q2 Q3 F4 F5 G4 G5
   go_wp2_with fail
   have HS:=hid (show ∀ w',Below wb.heap.size wb w' → ((w'.cell? ⟨g0,0,none⟩ = some (.slice L1 ml cl) ∧ w'.cell? ⟨g1,0,none⟩ = some (.slice L2 mh ch) ∧ w'.cell? ⟨g2,0,none⟩ = some (.slice D md cd)) ∧ Below wb.heap.size wb w') from fun w' h => ⟨⟨zab h k0,zab h k1,zab h k2⟩,h⟩)
   go_cut [13,14] (fun s13 s14 wr => ∃ (g3:Nat) (G:Option Addr) (mg cg:Nat),s13 = .pointer (some ⟨g3,0,none⟩) ∧ s14 = .bool true ∧ Below wb.heap.size wb wr ∧
    wr.cell? ⟨g3,0,none⟩ = some (.slice G mg cg) ∧ zas wr (.slice G mg cg) (bo - (lo + hi)) ∧ wb.heap.size ≤ g3)
   case first =>
    go_region_held3 (fun w' => ((w'.cell? ⟨g0,0,none⟩ = some (.slice L1 ml cl) ∧ w'.cell? ⟨g1,0,none⟩ = some (.slice L2 mh ch) ∧ w'.cell? ⟨g2,0,none⟩ = some (.slice D md cd)) ∧ Below wb.heap.size wb w'))
     ((refine HS.out _ ?_;repeat (first | exact Below.refl _ _ | exact (by assumption:_ ∧ Below _ _ _).2 | with_reducible refine bdrew ?_ | with_reducible refine al2 ?_ _ | with_reducible refine set2 ?_ (by omega) | with_reducible refine zc1 ?_ (by assumption))))
     (first
      | (go_at_call 120;(with_reducible refine (Nt.add L1 L2 ml cl mh ch lo hi _ (NL1.out.below (by assumption:_ ∧ Below _ _ _).2) (NL2.out.below (by assumption:_ ∧ Below _ _ _).2) Q4.out Q5.out).mono ?_);rintro e u1 ⟨E1,me,ce,rfl,he1,hb1⟩;have hz1:=hb1.size;(try simp at hz1);have hze1:wb.heap.size ≤ u1.heap.size:=(by omega);(try ((first | (have pp:=zan (b:=wb.heap.size) (v := .slice none 0 0) (t:=31) hb1 (zal _ _ _);obtain ⟨zb8,⟨zjM,zjP⟩,⟨zjN,zjQ⟩,⟨zjO,zjR⟩,⟨zjS,zjT⟩,zjU,zjV⟩:=pp));have zb8:=hid zb8));have HE1:=hid he1;clear he1)
      | (go_at_call 121;(with_reducible refine (Nt.sub_ok D E1 md cd me ce bo (lo + hi) _ (ND.out.below (by assumption:_ ∧ Below _ _ _).2) (by repeat (first | exact HE1.out | with_reducible refine zas.alloc ?_ _ | with_reducible refine zas.drew ?_)) Q7.out Q6.out).mono ?_);rintro e u2 ⟨E2,mf,cf,rfl,he2,hb2⟩;have hz2:=hb2.size;(try simp at hz2);have hze2:wb.heap.size ≤ u2.heap.size:=(by omega);(try ((first | (have pp:=zan (b:=wb.heap.size) (v := .slice none 0 0) (t:=31) hb2 (zb8.out);obtain ⟨zbZ,⟨zfh,zfk⟩,⟨zfi,zfl⟩,⟨zfj,zfm⟩,⟨zfn,zfo⟩,zfp,zfq⟩:=pp) | (have pp:=zan (b:=wb.heap.size) (v := .slice none 0 0) (t:=31) hb2 (zak zb8.out);obtain ⟨zbZ,⟨zfh,zfk⟩,⟨zfi,zfl⟩,⟨zfj,zfm⟩,⟨zfn,zfo⟩,zfp,zfq⟩:=pp));have zbZ:=hid zbZ));(try ((first | (have pp:=zan (b:=u1.heap.size) (v := .slice none 0 0) (t:=31) hb2 (zal _ _ _);obtain ⟨zcz,⟨zjY,zj1⟩,⟨zjZ,zj2⟩,⟨zj0,zj3⟩,⟨zj4,zj5⟩,zj6,zj7⟩:=pp));have zcz:=hid zcz));have HE2:=hid he2;clear he2))
    all_goals
     go_wp2
     go_meet
     case rel =>
      refine ⟨_,E2,mf,cf,rfl,rfl,(by assumption:_ ∧ Below wb.heap.size wb _).2,?_,?_,?_⟩
      all_goals
       repeat' (first
        | with_reducible exact HE2.out
        | with_reducible assumption
        | with_reducible exact zeo _ _ _
        | with_reducible exact zfx _ _ _ _
        | with_reducible refine cell_al ?_
        | with_reducible refine Box.cell ?_
        | with_reducible refine cell_set ?_ ?_
        | with_reducible exact Box.new _ _
        | with_reducible exact Box.new1 _ _ _
        | with_reducible refine Box.alloc ?_
        | with_reducible refine Box.set ?_
        | exact Box.of zbZ.out
        | exact Box.of zcz.out
        | with_reducible refine zas.alloc ?_ _
        | with_reducible refine zas.setBox ?_ ?_
        | with_reducible refine zas.drew ?_
        | omega)
   case rest =>
    obtain ⟨g3,G,mg,cg,rfl,rfl,hbX,k3,hG,hg3⟩:=hcut
    rename World => wd
    have k0:=zab hbX k0
    have k1:=zab hbX k1
    have NL1:=hid (NL1.out.below hbX)
    have NL2:=hid (NL2.out.below hbX)
    have NG:=hid hG
    have EZB:=EZ
    have ER:=hid (zad hbX ER.out)
    have EB:=hid (EB.out.trans (hbX.mono (by have:=EZ.out;omega)))
    have EZ:=hid (show w.heap.size + 3 ≤ wd.heap.size by have:=EZ.out;have:=hbX.size;omega)
    have hg3:w.heap.size + 3 ≤ g3:=by have:=EZB.out;omega
    have hg0:=HG0.out.1
    have hg1:=HG0.out.2
    clear hbX hG HS
    go_wp2_with fail
    obtain ⟨kk,hkk⟩:∃ kk,kk = 2 * k:=⟨_,rfl⟩
    rw [← hkk] at R2 R4 R6 R7 HV2
    have HKI:=hid (show IntKind.i64.wrap (2 * (k:Int)) = (kk:Int) by rw [IntWalk.i64_in _ (by have:=HKM.out;have:=HM4.out;have:=zaP;omega),hkk];omega)
    clear hkk
    go_region_held3 (fun w' => w'.cell? ⟨g0,0,none⟩ = some (.slice L1 ml cl) ∧ w'.cell? ⟨g1,0,none⟩ = some (.slice L2 mh ch) ∧ w'.cell? ⟨g3,0,none⟩ = some (.slice G mg cg))
     (((try go_split_ands);(try simp only [World.cell?_drew]);(repeat' apply And.intro) <;> (first | assumption | exact zab hb1 (by assumption) | exact zab hb2 (by assumption) | exact zab hb3 (by assumption) | exact zab hb4 (by assumption) | exact cell_set (by omega) (by assumption) | exact cell_al (by assumption))))
     (first
      | (go_at_call 122;(with_reducible refine (raised G mg cg (bo - (lo + hi)) k _ (by repeat (first | exact NG.out | with_reducible refine zas.alloc ?_ _ | with_reducible refine zas.drew ?_)) R1.out).mono ?_);rintro e u1 ⟨E1,me,ce,rfl,he1,hb1⟩;have hz1:=hb1.size;(try simp at hz1);have hze1:wd.heap.size ≤ u1.heap.size:=(by omega);have HE1:=hid he1;clear he1)
      | (go_at_call 122;(with_reducible refine (zA8 L2 mh ch hi kk (IntKind.i64.wrap (2 * (k:Int))) HKI.out _ (by repeat (first | exact NL2.out | with_reducible refine zas.alloc ?_ _ | with_reducible refine zas.drew ?_ | refine zas.below ?_ hb1)) R2.out).mono ?_);rintro e u2 ⟨E2,mf,cf,rfl,he2,hb2⟩;have hz2:=hb2.size;(try simp at hz2);have hze2:wd.heap.size ≤ u2.heap.size:=(by omega);have HE2:=hid he2;clear he2)
      | (go_at_call 120;(with_reducible refine (Nt.add E1 E2 me ce mf cf _ _ _ (by repeat (first | exact HE1.out | with_reducible refine zas.alloc ?_ _ | with_reducible refine zas.drew ?_ | refine zas.below ?_ hb2)) (by repeat (first | exact HE2.out | with_reducible refine zas.alloc ?_ _ | with_reducible refine zas.drew ?_)) R5.out R6.out).mono ?_);rintro e u3 ⟨E3,mg3,cg3,rfl,he3,hb3⟩;have hz3:=hb3.size;(try simp at hz3);have hze3:wd.heap.size ≤ u3.heap.size:=(by omega);have HE3:=hid he3;clear he3)
      | (go_at_call 120;(with_reducible refine (Nt.add L1 E3 ml cl mg3 cg3 lo _ _ (by repeat (first | exact NL1.out | with_reducible refine zas.alloc ?_ _ | with_reducible refine zas.drew ?_ | refine zas.below ?_ hb3 | refine zas.below ?_ hb2 | refine zas.below ?_ hb1)) (by repeat (first | exact HE3.out | with_reducible refine zas.alloc ?_ _ | with_reducible refine zas.drew ?_)) Q4.out R7.out).mono ?_);rintro e u4 ⟨E4,mh4,ch4,rfl,he4,hb4⟩;have hz4:=hb4.size;(try simp at hz4);have HE4:=hid he4;have ER4:=hid (zad hb4 (zad hb3 (zad hb2 (zad hb1 ER.out))));have EB4:=hid (zc1 (zc1 (zc1 (zc1 (bdrew EB.out) hb1) hb2) hb3) hb4);have ERc:=zac ER4.out 0;have ERf:=zag ER4.out 0;simp only [List.getElem?_toArray,List.getElem?_cons_zero] at ERc;clear he4))
    all_goals
     go_wp2
     refine bodyPost_ret (v := .agg #[.slice E4 mh4 ch4]) (by simp [results,Tryz.results58,go_sem,ERc]) rfl ?_
     have hs4:=HE4.out
     rw [HV2.out] at hs4
     exact ⟨_,_,_,rfl,hs4.setCell (p:=⟨w.heap.size + 1 + 1,0,none⟩) ER4.out (by decide) _,Below.setCell EB4.out (by simp;omega) _⟩
theorem zrH:∀ M,zpn M
 | 0 => fun _ _ _ _ _ _ _ _ _ _ _ _ _ h _ => absurd h (by omega)
 | M + 1 => fun A B m c m' c' a b w ha hb hla hlb hMa hMb => by
  by_cases h8:wlen a < 8 ∨ wlen b < 8
  ·exact zu7 A B m c m' c' a b w ha hb (by omega) h8
  ·exact zA1 A B m c m' c' a b M w (zrH M) (by omega) ha hb hla hlb (by omega) (by omega)
theorem mul (A B:Option Addr) (m c m' c' a b:Nat) (w:World) (ha:zas w (.slice A m c) a) (hb:zas w (.slice B m' c') b) (hla:4 * wlen a ≤ LIM) (hlb:4 * wlen b ≤ LIM) :
  Calls Tryz.prog 58 #[.agg #[.slice A m c], .agg #[.slice B m' c']] w (zc0 w (a * b)) :=
 zrH (wlen a + wlen b + 1) A B m c m' c' a b w ha hb hla hlb (by omega) (by omega)
end Pr
end Go.Proofs.YtdbgbaiekpbaoaaGreatDoor
namespace Go.Proofs.YtdbgbaiekpbaoaaGreatDoor
open Go.RowKit Am
open Lib (hid)
attribute [local go_sem ↓] Go.wp_at_zero Go.wp_at_succ
set_option maxHeartbeats 1000000
set_option maxRecDepth 100000
namespace Qt
def zsP (w:World) (q r:Nat) (b:Bool) (e:Ending) (w':World):Prop := ∃ (A:Option Addr) (m c:Nat),e = .returned (.tuple #[.agg #[.slice A m c], .int .u64 (r:Int), .bool b]) ∧ zas w' (.slice A m c) q ∧ Below w.heap.size w w'
theorem zCw (A:Option Addr) (m c a x:Nat) (w:World) (ha:zas w (.slice A m c) a) (hx0:0 < x) (hx:x < 18446744073709551616) (hla:wlen a ≤ LIM) :
  Calls Tryz.prog 183 #[.agg #[.slice A m c], .int .u64 (x:Int)] w (zsP w (a / x) (a % x) true):=by
 obtain ⟨xs,hxs,hcx,rfl,hlx,rfl⟩:=ha.words
 rw [← hlx] at hla
 have HX:=hid hxs
 have HLA:=hid hla
 have hxb:((x:Int) == 0) = false:=by rw [beq_eq_false_iff_ne];omega
 have hnb:xs.length ≤ 9223372036854775806:=by have:=zaP;omega
 have g1:=hid (show xs.length ≤ 16 * LIM by have:=zaP;omega)
 clear ha hxs hcx hlx hla
 go_enter Tryz.func183,Tryz.ntmps183
 go_wp2_with fail
 refine (Nt.len (.slice A xs.length c) xs _ ((HX.out.alloc _).alloc _)).mono ?_
 rintro e w' ⟨rfl,rfl⟩
 have c0:(((w.alloc (.cells #[.slice A xs.length c] 31)).alloc (.cells #[.slice none 0 0] 31)).alloc (.cells #[.slice A xs.length c] 31)).cell? ⟨w.heap.size,0,none⟩ = some (.slice A xs.length c):=cell_al (cell_al (zax rfl rfl))
 have k1:(((w.alloc (.cells #[.slice A xs.length c] 31)).alloc (.cells #[.slice none 0 0] 31)).alloc (.cells #[.slice A xs.length c] 31)).heap[w.heap.size + 1]? = some (.cells #[.slice none 0 0] 31 (0,0)):=zak (zam (by simp))
 have kb:Below w.heap.size w (((w.alloc (.cells #[.slice A xs.length c] 31)).alloc (.cells #[.slice none 0 0] 31)).alloc (.cells #[.slice A xs.length c] 31)):=al2 (al2 (zae w _) _) _
 have kz:(((w.alloc (.cells #[.slice A xs.length c] 31)).alloc (.cells #[.slice none 0 0] 31)).alloc (.cells #[.slice A xs.length c] 31)).heap.size = w.heap.size + 1 + 1 + 1:=by simp
 have hx1:=HX.out.below kb
 generalize ((w.alloc (.cells #[.slice A xs.length c] 31)).alloc (.cells #[.slice none 0 0] 31)).alloc (.cells #[.slice A xs.length c] 31) = W at *
 have HX1:=hid hx1
 have HK1:=hid k1
 have HKB:=hid kb
 have HKZ:=hid kz
 clear hx1 k1 kb kz
 go_wp2_with (at_make;go_must (refine zdz rfl _ _ rfl xs.length _ rfl rfl rfl g1.out W.heap.size rfl ?_))
 intro w1 ho
 have HO:=hid ho
 have c1:=ho.old (by have:=HKZ.out;omega) c0
 clear ho
 go_wp2_with (go_at_call 117;(with_reducible refine (Nt.len (.slice A xs.length c) xs _ (HO.out.keep HX1.out (Nat.le_refl _))).mono ?_);rintro e w' ⟨rfl,rfl⟩)
 have hO1:=HO.out.alloc (.cells #[.slice A xs.length c] 31)
 have HO1:=hid hO1
 clear hO1 c1
 go_loopw [8,9] (fun lv kv wr => ∃ (K:Int) (j L:Nat) (os:List Nat),kv = .int .i64 K ∧ lv = .int .u64 L ∧ K + 1 = j ∧ j ≤ xs.length ∧ DivWInv xs os x j L ∧ OutAt W wr W.heap.size xs.length os)
  (fun _ kv _ => (intOf kv + 1).toNat)
 case atStart => exact ⟨_,xs.length,0,List.replicate xs.length 0,rfl,rfl,by omega,Nat.le_refl _,DivWInv.start xs x xs.length xs.length hx0 (Nat.le_refl _) (Nat.le_refl _),HO1.out⟩
 case round =>
  obtain ⟨K,j,L,os,rfl,rfl,hK,hj,hI,hO⟩:=hrel
  have HI:=hid hI
  have hL:=hI.lft
  clear hI
  rcases j with _ | p
  ·obtain rfl:K = -1:=by omega
   have hv:=HI.out.eq
   rw [List.drop_zero,List.drop_zero] at hv
   have hq:nval os = nval xs / x:=by rw [hv,Nat.mul_add_div hx0,Nat.div_eq_of_lt hL,Nat.add_zero]
   have hr:L = nval xs % x:=by rw [hv,Nat.mul_add_mod,Nat.mod_eq_of_lt hL]
   have HQ:=hid hq
   have HR:=hid hr
   have hs:=hO.sw HI.out.wds
   have HS:=hid hs
   have HB:=hid hO.bel
   have HL2:=hid hO.len
   have hsz:=hO.lt
   clear hv hq hr hs hO
   go_wp2_with fail
   refine (Nt.of _ os _ HS.out.reads (by rw [HL2.out];exact HLA.out)).mono ?_
   rintro e w3 ⟨A2,m2,c2,rfl,hs2,hb2⟩
   have hk:=zad hb2 ((HB.out.block (w.heap.size + 1) (by have:=HKZ.out;omega)).trans HK1.out)
   have hc:w3.cell? ⟨w.heap.size + 1,0,none⟩ = some (.slice none 0 0):=zac hk 0
   have hf:=zag hk 0
   have HK3:=hid hk
   clear hk
   go_wp2
   refine bodyPost_ret (v := .tuple #[.agg #[.slice A2 m2 c2], .int .u64 (L:Int), .bool true]) (by simp [results,Tryz.results183,go_sem,hc]) rfl ?_
   rw [HQ.out] at hs2
   rw [HR.out]
   refine ⟨_,_,_,rfl,hs2.setCell (p:=⟨w.heap.size + 1,0,none⟩) HK3.out (by decide) _,Below.setCell ?_ (by simp) _⟩
   exact bstep (HKB.out.trans (HB.out.mono (by have:=HKZ.out;omega))) hb2 (by have:=HKZ.out;omega)
  ·obtain rfl:K = (p:Int):=by omega
   have hXr:=hid (hO.keep HX1.out (Nat.le_refl _))
   have hc0:=hO.old (by have:=HKZ.out;omega) c0
   have hcell:=hO.cell (k:=p) (by omega)
   have hfro:=hO.fro p
   have hw1:=zdM HX.out.2 p
   have hsz:=hO.lt
   have q1:=cell_al (ob := .cells #[.slice A xs.length c] 31) hcell
   have q2:=zd1 (ob := .cells #[.slice A xs.length c] 31) hsz hfro
   have HO2:=hid hO
   have hi1:(0:Int) ≤ (p:Int):=Int.natCast_nonneg _
   have hi2:(p:Int) < (xs.length:Int):=by omega
   clear hO
   go_wp2_with (first
    | (go_at_call 157;(with_reducible refine (Nt.word (.slice A xs.length c) xs _ hi1 _ hXr.out).mono ?_);rintro e w' ⟨rfl,rfl⟩)
    | (go_at_call 190;(refine (Word.div_ok L (wd xs p) x hL hw1 hx _).mono ?_);rintro e w' ⟨rfl,nd,rfl⟩))
   refine ⟨⟨_,p,_,_,rfl,rfl,by omega,by omega,HI.out.next (by rw [HO2.out.len];omega) HX.out.2,?_⟩,by simp [intOf]⟩
   first
    | exact ((HO2.out.alloc _).drewN _).store p _
    | exact ((HO2.out.alloc _).store p _).drewN _
end Qt
namespace Qt
theorem zhR (q v0 r u0:Nat) (h0:u0 < 18446744073709551616):(zdw q v0 0 0 < r ∨ zdw q v0 0 0 = r ∧ zdo q v0 0 0 ≤ u0) ↔ q * v0 ≤ r * B64 + u0:=by
 unfold zdw zdo
 simp only [Nat.add_zero]
 generalize q * v0 = P
 have:=Nat.div_add_mod P B64
 have hB:B64 = 18446744073709551616:=rfl
 have h2:=Nat.mod_lt P (show 0 < B64 by decide)
 rw [hB] at *
 omega
theorem zmQ {x y:Nat} (h:(((zlD x y 0:Nat):Int) == 1) = true):B64 ≤ x + y:=by
 have h1:zlD x y 0 = 1:=by have:=eq_of_beq h;omega
 unfold zlD at h1
 have hB:B64 = 18446744073709551616:=rfl
 rw [hB] at h1 ⊢
 omega
theorem zpz {x y:Nat} (hx:x < 18446744073709551616) (hy:y < 18446744073709551616) (h:(((zlD x y 0:Nat):Int) == 1) = false):zjj x y 0 = x + y ∧ x + y < 18446744073709551616:=by
 have h1:¬ zlD x y 0 = 1:=by have:=ne_of_beq_false h;omega
 unfold zlD at h1
 unfold zjj
 have hB:B64 = 18446744073709551616:=rfl
 rw [hB] at h1 ⊢
 have h2:(x + y + 0) / 18446744073709551616 = 0:=by omega
 omega
theorem zdN {q:Nat} (h:0 < q) (hq:q < 18446744073709551616):IntKind.u64.wrap ((q:Int) - 1) = ((q - 1:Nat):Int):=by
 rw [IntKind.wrap_u64]
 omega
theorem guess (u2 u1 u0 v1 v0:Nat) (w:World) (h2:u2 ≤ v1) (h1:u1 < 18446744073709551616) (h0:u0 < 18446744073709551616) (hv:9223372036854775808 ≤ v1) (hv1:v1 < 18446744073709551616) (hv0:v0 < 18446744073709551616) :
    Calls Tryz.prog 186 #[.int .u64 (u2:Int), .int .u64 (u1:Int), .int .u64 (u0:Int), .int .u64 (v1:Int), .int .u64 (v0:Int)] w fun e w' => (∃ q:Nat,e = .returned (.int .u64 (q:Int)) ∧ GuessIs u2 u1 u0 v1 v0 q) ∧ ∃ n,w' = w.drewN n:=by
  rcases Nat.lt_or_ge u2 v1 with hlt | hge
  · have hst:=hid (GuessInv.start u2 u1 u0 v1 v0 hlt h1 h0)
    go_enter Tryz.func186,Tryz.ntmps186
    go_wp2_with (first
      | (go_at_call 190;(refine (Word.div_ok u2 u1 v1 hlt h1 hv1 _).mono ?_);rintro e w' ⟨rfl,nd,rfl⟩))
    go_loopw [11,12] (fun qv rv wr => ∃ (q r n:Nat),qv = .int .u64 (q:Int) ∧ rv = .int .u64 (r:Int) ∧ GuessInv u2 u1 u0 v1 v0 q r ∧ r < 18446744073709551616 ∧ wr = w.drewN n) (fun qv _ _ => (intOf qv).toNat)
    case atStart => exact ⟨_,_,nd,rfl,rfl,hst.out,by unfold zBV;exact Nat.lt_of_lt_of_le (Nat.mod_lt _ (by omega)) (by omega),rfl⟩
    case round =>
      obtain ⟨q,r,n,rfl,rfl,hI,hr,rfl⟩:=hrel
      have hq:=hI.lt
      have HI:=hid hI
      clear hI hst
      by_cases hc:q * v0 ≤ r * B64 + u0
      · have hd:=hid (HI.out.done hv0 (.inl hc))
        have hcc:=(zhR q v0 r u0 h0).2 hc
        clear hc
        go_wp2_with (first
          | (go_at_call 177;(refine (Word.mul q v0 hq hv0 _).mono ?_);rintro e w' ⟨rfl,rfl⟩))
        all_goals first
          | exact bodyPost_ret (v := .int .u64 (q:Int)) (by simp [results,Tryz.results186,go_sem]) rfl ⟨⟨q,rfl,hd.out⟩,n,rfl⟩
          | (exfalso;omega)
      · have hdn:=HI.out.down (by omega)
        have hq0:=hdn.2
        have HD:=hid hdn.1
        have hcc:¬ (zdw q v0 0 0 < r ∨ zdw q v0 0 0 = r ∧ zdo q v0 0 0 ≤ u0):=fun h => hc ((zhR q v0 r u0 h0).1 h)
        clear hc hdn
        go_wp2_with (first
          | (go_at_call 177;(refine (Word.mul q v0 hq hv0 _).mono ?_);rintro e w' ⟨rfl,rfl⟩)
          | (go_at_call 159;(refine (Word.add r v1 0 hr hv1 (by decide) _).mono ?_);rintro e w' ⟨rfl,rfl⟩))
        all_goals first
          | (have h9:=zmQ (by assumption)
             exact bodyPost_ret (v := .int .u64 (IntKind.u64.wrap ((q:Int) - 1))) (by simp [results,Tryz.results186,go_sem]) rfl ⟨⟨q - 1,by rw [zdN hq0 hq],HD.out.done hv0 (.inr h9)⟩,n,rfl⟩)
          | (have h9:=zpz hr hv1 (by assumption)
             refine ⟨⟨q - 1,r + v1,n,by rw [zdN hq0 hq],by rw [h9.1],HD.out,h9.2,rfl⟩,?_⟩
             rw [zdN hq0 hq]
             simp only [intOf]
             omega)
  · have hev:u2 = v1:=by omega
    have hst:=hid (show GuessInv u2 u1 u0 v1 v0 (B64 - 1) (u1 + v1) by rw [hev];exact GuessInv.start' u1 u0 v1 v0)
    clear hev
    go_enter Tryz.func186,Tryz.ntmps186
    go_wp2_with (first
      | (go_at_call 190;(refine (Word.div_no u2 u1 v1 hge _).mono ?_);rintro e w' ⟨rfl,rfl⟩)
      | (go_at_call 159;(refine (Word.add u1 v1 0 h1 hv1 (by decide) _).mono ?_);rintro e w' ⟨rfl,rfl⟩))
    · have h9:=zmQ (by assumption)
      exact bodyPost_ret (v := .int .u64 18446744073709551615) (by simp [results,Tryz.results186,go_sem]) rfl ⟨⟨B64 - 1,rfl,hst.out.done hv0 (.inr h9)⟩,0,rfl⟩
    · have hb:(((zlD u1 v1 0:Nat):Int) == 1) = false:=by assumption
      have h9:=hid (zpz h1 hv1 hb)
      simp only [hb]
      clear hb
      go_loopw [11,12] (fun qv rv wr => ∃ (q r n:Nat),qv = .int .u64 (q:Int) ∧ rv = .int .u64 (r:Int) ∧ GuessInv u2 u1 u0 v1 v0 q r ∧ r < 18446744073709551616 ∧ wr = w.drewN n) (fun qv _ _ => (intOf qv).toNat)
      case atStart => exact ⟨B64 - 1,u1 + v1,0,rfl,by rw [h9.out.1],hst.out,h9.out.2,rfl⟩
      case round =>
        obtain ⟨q,r,n,rfl,rfl,hI,hr,rfl⟩:=hrel
        have hq:=hI.lt
        have HI:=hid hI
        clear hI hst
        by_cases hc:q * v0 ≤ r * B64 + u0
        · have hd:=hid (HI.out.done hv0 (.inl hc))
          have hcc:=(zhR q v0 r u0 h0).2 hc
          clear hc
          go_wp2_with (first
            | (go_at_call 177;(refine (Word.mul q v0 hq hv0 _).mono ?_);rintro e w' ⟨rfl,rfl⟩))
          all_goals first
            | exact bodyPost_ret (v := .int .u64 (q:Int)) (by simp [results,Tryz.results186,go_sem]) rfl ⟨⟨q,rfl,hd.out⟩,n,rfl⟩
            | (exfalso;omega)
        · have hdn:=HI.out.down (by omega)
          have hq0:=hdn.2
          have HD:=hid hdn.1
          have hcc:¬ (zdw q v0 0 0 < r ∨ zdw q v0 0 0 = r ∧ zdo q v0 0 0 ≤ u0):=fun h => hc ((zhR q v0 r u0 h0).1 h)
          clear hc hdn
          go_wp2_with (first
            | (go_at_call 177;(refine (Word.mul q v0 hq hv0 _).mono ?_);rintro e w' ⟨rfl,rfl⟩)
            | (go_at_call 159;(refine (Word.add r v1 0 hr hv1 (by decide) _).mono ?_);rintro e w' ⟨rfl,rfl⟩))
          all_goals first
            | (have h9:=zmQ (by assumption)
               exact bodyPost_ret (v := .int .u64 (IntKind.u64.wrap ((q:Int) - 1))) (by simp [results,Tryz.results186,go_sem]) rfl ⟨⟨q - 1,by rw [zdN hq0 hq],HD.out.done hv0 (.inr h9)⟩,n,rfl⟩)
            | (have h9:=zpz hr hv1 (by assumption)
               refine ⟨⟨q - 1,r + v1,n,by rw [zdN hq0 hq],by rw [h9.1],HD.out,h9.2,rfl⟩,?_⟩
               rw [zdN hq0 hq]
               simp only [intOf]
               omega)
end Qt
structure OutC (w w1:World) (H n cp:Nat) (os:List Nat):Prop where
  own:w1.ownsRow H 193 1 (.slice (some ⟨H,0,none⟩) n cp) n (wcells os)
  bel:w.grownBy w1 (some H)
  len:os.length = n
theorem zse {w w1 w2:World} {r:Option Nat} (h:w.grownBy w1 r) (hb:Below w1.heap.size w1 w2):w.grownBy w2 r :=
 ⟨hb.os.trans h.os,hb.tape.trans h.tape,hb.output.trans h.output,Nat.le_trans h.size hb.size,fun k hk hr => (hb.block k (Nat.lt_of_lt_of_le hk h.size)).trans (h.block k hk hr)⟩
theorem zqf {a b c:World} {r:Option Nat} (h:a.grownBy b r) (k:b.grownBy c r):a.grownBy c r :=
 ⟨k.os.trans h.os,k.tape.trans h.tape,k.output.trans h.output,Nat.le_trans h.size k.size,fun i hi hr => (k.block i (Nat.lt_of_lt_of_le hi h.size) hr).trans (h.block i hi hr)⟩
namespace OutC
variable {w w1 w2:World} {H n cp:Nat} {os:List Nat}
theorem lt (h:OutC w w1 H n cp os):H < w1.heap.size:=(h.own.lt H rfl).2
theorem step (h:OutC w w1 H n cp os) (hb:Below w1.heap.size w1 w2):OutC w w2 H n cp os :=
 ⟨⟨h.own.1,by
   rcases h.own.2 with h2 | ⟨g,cap,cur,hv,hg,hh,r⟩
   ·exact .inl h2
   ·exact .inr ⟨g,cap,cur,hv,hg,by rw [hb.block g (Array.getElem?_eq_some_iff.1 hh).1];exact hh,r⟩⟩,zse h.bel hb,h.len⟩
theorem alloc (h:OutC w w1 H n cp os) (o:Obj):OutC w (w1.alloc o) H n cp os:=h.step (zae w1 o)
theorem drewN (h:OutC w w1 H n cp os) (k:Nat):OutC w (w1.drewN k) H n cp os:=h.step (zap w1 k)
theorem drew (h:OutC w w1 H n cp os):OutC w w1.drew H n cp os:=h.drewN 1
theorem store (h:OutC w w1 H n cp os) (k v:Nat):OutC w (w1.setCell ⟨H,k,none⟩ (.int .u64 (v:Int))) H n cp (os.set k v) :=
 ⟨by rw [ziN];exact (h.own.stored k _).1,zqf h.bel (h.own.stored k _).2,by rw [List.length_set];exact h.len⟩
theorem cell (h:OutC w w1 H n cp os) {k:Nat} (hk:k < n):w1.cell? ⟨H,k,none⟩ = some (.int .u64 ((wd os k:Nat):Int)):=by
 rw [h.own.cellAt k (by omega),zeu (by rw [h.len];exact hk)]
theorem fro (h:OutC w w1 H n cp os) (k:Nat):w1.frozen? ⟨H,k,none⟩ = false:=h.own.frozenAt k
theorem keep (h:OutC w w1 H n cp os) {s:Value} {xs:List Nat} (hs:SW w s xs) (hH:s.ownBlock ≠ some H):SW w1 s xs :=
 hs.keep fun k hk => h.bel.block k (hs.block hk) (fun e => hH (by rw [hk,e]))
theorem sw (h:OutC w w1 H n cp os) (hw:Wds os):SW w1 (.slice (some ⟨H,0,none⟩) n cp) os:=by
 have:=h.own;have hl:=h.len;subst hl;exact SW.of_own this hw
end OutC
theorem zH8 (b:Nat):((b:Int) == 1) = (b == 1):=by
 by_cases h:b = 1
 ·subst h;rfl
 ·rw [beq_eq_false_iff_ne.2 h,beq_eq_false_iff_ne.2 (by omega)]
namespace Qt
theorem take (W w:World) (H n cap k cp q:Nat) (os vs:List Nat) (A:Option Addr) (c:Nat) (hO:OutC W w H n cap os) (hv:SW W (.slice A vs.length c) vs) (hH:(Value.slice A vs.length c).ownBlock ≠ some H) (ho:Wds os) (hq:q < 18446744073709551616) (hk:k + vs.length < n) (_:vs.length + 1 ≤ cp) (hn:n ≤ 2 * LIM) :
    Calls Tryz.prog 187 #[.slice (some ⟨H,k,none⟩) (vs.length + 1) cp, .agg #[.slice A vs.length c], .int .u64 (q:Int)] w fun e w' => ∃ (b:Nat) (os':List Nat),e = .returned (.bool (b == 1)) ∧ b ≤ 1 ∧ OutC W w' H n cap os' ∧
      Wds os' ∧ za8 os os' k (k + vs.length + 1) ∧ nval os' + B64 ^ k * (q * nval vs) = nval os + B64 ^ (k + vs.length + 1) * b:=by
  have HO:=hid hO
  have HV:=hid hv
  have HW:=hid ho
  have hvb:vs.length ≤ 9223372036854775806:=by have:=zaP;omega
  clear hO hv ho
  have hb0:OutC W (w.alloc (.cells #[.slice A vs.length c] 31)) H n cap os:=HO.out.alloc _
  have hc0:(w.alloc (.cells #[.slice A vs.length c] 31)).cell? ⟨w.heap.size,0,none⟩ = some (.slice A vs.length c):=zax rfl rfl
  have hlt:=HO.out.lt
  go_enter Tryz.func187,Tryz.ntmps187
  go_wp2_with fail
  generalize hw1:w.alloc (.cells #[.slice A vs.length c] 31) = w1 at *
  clear hw1
  have hne:w.heap.size ≠ H:=by omega
  generalize w.heap.size = B at *
  refine (Nt.len (.slice A vs.length c) vs _ (hb0.keep HV.out hH)).mono ?_
  rintro e w' ⟨rfl,rfl⟩
  have hb1:=hid (hb0.alloc (.cells #[.slice A vs.length c] 31))
  have hc1:=hid (cell_al (ob := .cells #[.slice A vs.length c] 31) hc0)
  clear hb0 hc0
  generalize w1.alloc (.cells #[.slice A vs.length c] 31) = w2 at *
  go_wp2_with fail
  go_loopw [7,8,14] (fun ov bv kv wr => ∃ (j V Bo:Nat) (os':List Nat),kv = .int .i64 j ∧ ov = .int .u64 V ∧ bv = .int .u64 Bo ∧ j ≤ vs.length ∧ TakeInv os os' vs k q j V Bo ∧ OutC W wr H n cap os' ∧ wr.cell? ⟨B,0,none⟩ = some (.slice A vs.length c))
    (fun _ _ kv _ => vs.length - (intOf kv).toNat)
  case atStart => exact ⟨0,0,0,os,rfl,rfl,rfl,Nat.zero_le _,TakeInv.start os vs k q HW.out,hb1.out,hc1.out⟩
  case round =>
    obtain ⟨j,V,Bo,os',rfl,rfl,rfl,hj,hI,hO,hc⟩:=hrel
    have hV:V < 18446744073709551616:=hI.ovr
    have hBo:Bo ≤ 1:=hI.one
    have HI:=hid hI
    clear hI
    by_cases hjt:j < vs.length
    · have hvr:=hid (hO.keep HV.out hH)
      have hvj:=zdM HV.out.2 j
      have hoj:=zdM HI.out.wds (k + j)

      have hcell:=cell_al (ob := .cells #[.slice A vs.length c] 31) (hO.cell (k:=k + j) (by omega))
      have hfro:=zd1 (ob := .cells #[.slice A vs.length c] 31) hO.lt (hO.fro (k + j))
      have hj0:(0:Int) ≤ (j:Int):=Int.natCast_nonneg _
      have hj1:(j:Int) < (vs.length:Int) + 1:=by omega
      have HO2:=hid hO
      clear hO
      go_wp2_with (first
        | (go_at_call 157;(with_reducible refine (Nt.word (.slice A vs.length c) vs _ hj0 _ hvr.out).mono ?_);rintro e w' ⟨rfl,rfl⟩)
        | (go_at_call 156;(refine (Word.mulAdd (wd vs j) q V 0 hvj hq hV (by decide) _).mono ?_);rintro e w' ⟨rfl,rfl⟩)
        | (go_at_call 161;(refine (Word.sub (wd os' (k + j)) (zdo (wd vs j) q V 0) Bo hoj (zrG _ _ _ _) hBo _).mono ?_);rintro e w' ⟨rfl,rfl⟩))
      exact ⟨⟨j + 1,_,_,_,by go_num,rfl,rfl,by omega,HI.out.next hq HV.out.2 (by rw [← HI.out.out.1,HO2.out.len];omega),(HO2.out.alloc _).store (k + j) _,cell_set hne (cell_al hc)⟩,by simp [intOf];omega⟩
    · obtain rfl:j = vs.length:=by omega
      have hvr:Hid (SW wr.drew (.slice A vs.length c) vs):=hid (hO.drew.keep HV.out hH)
      have hvr2:Hid (SW (wr.alloc (.cells #[.slice A vs.length c] 31)).drew (.slice A vs.length c) vs):=hid ((hO.alloc (.cells #[.slice A vs.length c] 31)).drew.keep HV.out hH)
      have hoj:=zdM HI.out.wds (k + vs.length)
      have hcell:((wr.alloc (.cells #[.slice A vs.length c] 31)).alloc (.cells #[.slice A vs.length c] 31)).drew.cell? ⟨H,k + vs.length,none⟩ = some (.int .u64 ((wd os' (k + vs.length):Nat):Int)):=cell_al (cell_al (hO.cell (k:=k + vs.length) (by omega)))
      have hfro:((wr.alloc (.cells #[.slice A vs.length c] 31)).alloc (.cells #[.slice A vs.length c] 31)).drew.frozen? ⟨H,k + vs.length,none⟩ = false:=zd1 (zxk hO.lt) (zd1 hO.lt (hO.fro (k + vs.length)))
      have hc0:wr.drew.cell? ⟨B,0,none⟩ = some (.slice A vs.length c):=hc
      have hcc:(wr.alloc (.cells #[.slice A vs.length c] 31)).drew.cell? ⟨B,0,none⟩ = some (.slice A vs.length c):=cell_al hc
      have hj0:(0:Int) ≤ (vs.length:Int):=Int.natCast_nonneg _
      have hj1:(vs.length:Int) < (vs.length:Int) + 1:=by omega
      have HO2:=hid hO
      clear hO
      go_wp2_with fail
      go_region_with (first
        | (go_at_call 117;(first | with_reducible refine (Nt.len (.slice A vs.length c) vs _ hvr.out).mono ?_ | with_reducible refine (Nt.len (.slice A vs.length c) vs _ hvr2.out).mono ?_);rintro e w' ⟨rfl,rfl⟩)
        | (go_at_call 161;(refine (Word.sub (wd os' (k + vs.length)) V Bo hoj hV hBo _).mono ?_);rintro e w' ⟨rfl,rfl⟩))
      all_goals
        (go_wp2
         go_ret
         have hf:=HI.out.fin (by rw [← HI.out.out.1,HO2.out.len];omega)
         exact ⟨_,_,by rw [← zH8];rfl,zBo _ _ _,(((HO2.out.alloc _).alloc _).store (k + vs.length) _).drew,hf.1,hf.2.1,hf.2.2⟩)
end Qt
end Go.Proofs.YtdbgbaiekpbaoaaGreatDoor
