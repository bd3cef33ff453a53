/- prod.cut and prod.raised by their contracts. Conditions: as each says. -/
import Derived.Test.YtdbgbaiekpbaoaaGreatDoorProd1Zp
import Derived.Test.YtdbgbaiekpbaoaaGreatDoorNat3Zp
namespace Go.Proofs.YtdbgbaiekpbaoaaGreatDoor
open Go.RowKit Am
open Lib (hid)
attribute [local go_sem ↓] Go.wp_at_zero Go.wp_at_succ
set_option maxHeartbeats 1000000
set_option maxRecDepth 100000
def zpo (w:World) (x y:Nat) (e:Ending) (w':World):Prop := ∃ (A:Option Addr) (m c:Nat) (B:Option Addr) (m' c':Nat),e = .returned (.tuple #[.agg #[.slice A m c], .agg #[.slice B m' c']]) ∧ zas w' (.slice A m c) x ∧ zas w' (.slice B m' c') y ∧ Below w.heap.size w w'
namespace Pr
theorem zxA (W:World) (g n c k:Nat) (h1:k ≤ n) :
  (Instr.slice 29 (.slice (some ⟨g,0,none⟩) n c) (some (.int .i64 (k:Int))) none none).run Tryz.prog W = .ok (.slice (some ⟨g,if c = k then 0 else k,none⟩) (n - k) (c - k)) W:=by
 have ht':Tryz.prog.underlying 29 = some (.slice (Tryz.prog.elem 29)):=by simp [Program.elem,Tryz.underlying29]
 have he:Tryz.prog.elem 29 = 193:=by simp [Program.elem,Tryz.underlying29]
 rw [run_slice_l W 29 _ _ _ ht' .i64 _ (by omega) (by omega),he]
 by_cases h0:c = k
 ·simp [Result.andThen,sliced,h0]
 ·by_cases h3:k = 0
  ·subst h3;simp [Result.andThen,sliced,Addr.add,h0]
  ·simp [Result.andThen,sliced,Addr.add,h0,h3]
theorem run_upto (W:World) (g n c k:Nat) (h1:k ≤ c) (h2:0 < c) :
  (Instr.slice 29 (.slice (some ⟨g,0,none⟩) n c) none (some (.int .i64 (k:Int))) none).run Tryz.prog W = .ok (.slice (some ⟨g,0,none⟩) k c) W:=by
 have ht':Tryz.prog.underlying 29 = some (.slice (Tryz.prog.elem 29)):=by simp [Program.elem,Tryz.underlying29]
 have he:Tryz.prog.elem 29 = 193:=by simp [Program.elem,Tryz.underlying29]
 rw [run_slice_h W 29 _ _ _ ht' .i64 _ (by omega) (by omega),he]
 have h0:c ≠ 0:=by omega
 simp [Result.andThen,sliced,Addr.add,h0]
theorem znN {xs:List Nat} (hw:Wds xs) (k:Nat):nval (xs.take k) = nval xs % B64 ^ k ∧ nval (xs.drop k) = nval xs / B64 ^ k:=by
 by_cases hk:k ≤ xs.length
 ·have e:=zaY xs k hk
  have h1:=zc8 (xs.take k) (fun x hx => hw x (List.mem_of_mem_take hx))
  rw [List.length_take,Nat.min_eq_left hk] at h1
  have hp:0 < B64 ^ k:=Nat.pow_pos (by decide)
  rw [e,Nat.add_mul_mod_self_left,Nat.mod_eq_of_lt h1,Nat.add_mul_div_left _ _ hp,Nat.div_eq_of_lt h1]
  omega
 ·have h1:=zc8 xs hw
  have h2:B64 ^ xs.length ≤ B64 ^ k:=Nat.pow_le_pow_right (by decide) (by omega)
  rw [List.take_of_length_le (by omega),List.drop_eq_nil_of_le (by omega),Nat.mod_eq_of_lt (by omega),Nat.div_eq_of_lt (by omega)]
  exact ⟨rfl,rfl⟩
theorem zv6 {xs:List Nat} (hw:Wds xs) (k:Nat):Wds (xs.take k):=fun x hx => hw x (List.mem_of_mem_take hx)
theorem zv5 {xs:List Nat} (hw:Wds xs) (k:Nat):Wds (xs.drop k):=fun x hx => hw x (List.mem_of_mem_drop hx)
theorem zBn {w:World} {g c:Nat} {xs:List Nat} (h:SW w (.slice (some ⟨g,0,none⟩) xs.length c) xs) {k:Nat} (hk:k ≤ xs.length):SR w (.slice (some ⟨g,0,none⟩) k c) (xs.take k):=by
 obtain ⟨A,c',e,h1,h2,h3,h4,h5⟩:=h.reads
 cases e
 refine ⟨some ⟨g,0,none⟩,c,by rw [List.length_take,Nat.min_eq_left hk],by rw [List.length_take];omega,h2,zv6 h3 k,nofun,fun ad he j u hu => ?_⟩
 cases he
 refine h5 _ rfl j u ?_
 rw [zg7] at hu
 by_cases hj:j < k
 ·rwa [List.getElem?_take_of_lt hj] at hu
 ·rw [List.getElem?_take_eq_none (by omega)] at hu;cases hu
theorem zBm {w:World} {g c:Nat} {xs:List Nat} (h:SW w (.slice (some ⟨g,0,none⟩) xs.length c) xs) {k:Nat} (hk:k ≤ xs.length):SR w (.slice (some ⟨g,if c = k then 0 else k,none⟩) (xs.length - k) (c - k)) (xs.drop k):=by
 obtain ⟨A,c',e,h1,h2,h3,h4,h5⟩:=h.reads
 cases e
 refine ⟨some ⟨g,if c = k then 0 else k,none⟩,c - k,by rw [List.length_drop],by rw [List.length_drop];omega,by omega,zv5 h3 k,nofun,fun ad he j u hu => ?_⟩
 cases he
 have hu':(wcells xs)[k + j]? = some u:=by
  unfold wcells at hu ⊢
  rw [List.map_drop,List.getElem?_drop] at hu
  exact hu
 have hlt:k + j < xs.length:=by
  have:=(List.getElem?_eq_some_iff.1 hu').1
  rwa [zdA] at this
 rw [if_neg (by omega)]
 have:=h5 _ rfl (k + j) u hu'
 have e:(⟨g,0,none⟩:Addr).add (k + j) = (⟨g,k,none⟩:Addr).add j:=by
  unfold Addr.add;simp only []
  split <;> split <;> simp <;> omega
 rwa [e] at this
theorem zrS {w w':World} {s:Value} {xs:List Nat} (h:SR w s xs) (hb:Below w.heap.size w w'):SR w' s xs:=by
 obtain ⟨A,c,h1,h2,h3,h4,h5,h6⟩:=h
 exact ⟨A,c,h1,h2,h3,h4,h5,fun ad he j u hu => by
  have hc:=h6 ad he j u hu
  rw [hb.cell (World.block_lt_of_cell? w _ hc)];exact hc⟩
theorem zvr {w:World} {s:Value} {xs:List Nat} (h:SR w s xs):SR w.drew s xs:=zrS h (zap w 1)
theorem zJE (A:Option Addr) (c k j:Nat) (xs:List Nat) (w:World) (hx:SW w (.slice A xs.length c) xs) (h1:1 ≤ j) (hk:k ≤ LIM) (hla:xs.length ≤ LIM) (hj2:j ≤ xs.length)
  (hj:(xs.length < k ∧ j = xs.length) ∨ (¬ xs.length < k ∧ j = k)) :
  Calls Tryz.prog 119 #[.agg #[.slice A xs.length c], .int .i64 (k:Int)] w (zpo w (nval (xs.take j)) (nval (xs.drop j))):=by
 have HX:=hid hx
 have HLA:=hid hla
 have HK:=hid hk
 have hkb:k ≤ 9223372036854775807:=by have:=zaP;omega
 have hxb:xs.length ≤ 9223372036854775807:=by have:=zaP;omega
 have hif:(if xs.length < k then xs.length else k) = j:=by rcases hj with ⟨h,rfl⟩ | ⟨h,rfl⟩ <;> simp [h]
 have hjb:j ≤ 9223372036854775807:=by omega
 clear hx hla hk
 go_enter Tryz.func119,Tryz.ntmps119
 go_wp2_with fail
 refine (Nt.words A xs.length c xs _ (((HX.out.alloc _).alloc _).alloc _) HLA.out).mono ?_
 rintro e w1 ⟨A1,m1,c1,rfl,hs1,hb1⟩
 rcases hs1.form with ⟨h,rfl⟩ | ⟨g,cap,h,hg,hcap,hm, -⟩
 ·exact absurd (Nat.le_trans h1 hj2) (by decide)
 ·cases h
  unfold maxLen at hm
  have hup:=fun W => run_upto W g xs.length c1 j (by omega) (by omega)
  have r2:=zBm hs1 hj2
  have hfr:=fun W => zxA W g xs.length c1 j (by omega)
  generalize (if c1 = j then 0 else j) = o at r2 hfr
  have l2:xs.length - j = (xs.drop j).length:=by rw [List.length_drop]
  rw [l2] at r2 hfr
  generalize c1 - j = q at r2 hfr
  have HB1:=hid hb1
  have r1:=zBn hs1 hj2
  have R1:=hid r1
  have R2:=hid r2
  have L1:=hid (show (xs.take j).length ≤ LIM by rw [List.length_take];have:=HLA.out;omega)
  have L2:=hid (show (xs.drop j).length ≤ LIM by rw [List.length_drop];have:=HLA.out;omega)
  have kk1:=hid ((hb1.block (w.heap.size + 1) (by simp)).trans (zak (zam (cs := #[.slice none 0 0]) (t:=31) (by simp))))
  have kk2:=hid ((hb1.block (w.heap.size + 1 + 1) (by simp)).trans (zam (cs := #[.slice none 0 0]) (t:=31) (by simp)))
  have hz1:=hb1.size
  simp at hz1
  clear hs1 hb1 r1 r2 l2
  generalize hT:xs.take j = T at *
  generalize hD:xs.drop j = D at *
  clear hif
  rcases hj with ⟨hlt,rfl⟩ | ⟨hlt,rfl⟩
  all_goals
   go_wp2_with fail
   go_region_with (first
    | (go_at_call 123;(with_reducible refine (Nt.of _ _ _ (zvr R1.out) L1.out).mono ?_);rintro e w2 ⟨A2,m2,c2,rfl,hs2,hb2⟩)
    | (go_at_call 123;(with_reducible refine (Nt.of _ _ _ (zrS (zvr R2.out) hb2) L2.out).mono ?_);rintro e w3 ⟨A3,m3,c3,rfl,hs3,hb3⟩;have g1:=hid (zad hb3 (zad hb2 kk1.out));have g2:=hid (zad hb3 (zad hb2 kk2.out));have g3:=zac g1.out 0;have g4:=zag g1.out 0;have g5:=zac g2.out 0;have g6:=zag g2.out 0;simp only [List.getElem?_toArray,List.getElem?_cons_zero] at g3 g5))
   go_goals
   go_wp2
   refine bodyPost_ret (v := .tuple #[.agg #[.slice A2 m2 c2], .agg #[.slice A3 m3 c3]]) (by simp [results,Tryz.results119,go_sem,g3,g5]) rfl ?_
   refine ⟨_,_,_,_,_,_,rfl,((hs2.below hb3).setCell (p:=⟨w.heap.size + 1,0,none⟩) g1.out (by decide) _).setCell (p:=⟨w.heap.size + 1 + 1,0,none⟩) ((Below.heap_setCell _ ⟨w.heap.size + 1,0,none⟩ _ (w.heap.size + 1 + 1) (by simp)).trans g2.out) (by decide) _,(hs3.setCell (p:=⟨w.heap.size + 1,0,none⟩) g1.out (by decide) _).setCell (p:=⟨w.heap.size + 1 + 1,0,none⟩) ((Below.heap_setCell _ ⟨w.heap.size + 1,0,none⟩ _ (w.heap.size + 1 + 1) (by simp)).trans g2.out) (by decide) _,Below.setCell (Below.setCell ?_ (by simp) _) (by simp;omega) _⟩
   have q1:=(((zae w (.cells #[.slice A xs.length c] 31)).alloc (by simp) (.cells #[.slice none 0 0] 31)).alloc (by simp;omega) (.cells #[.slice none 0 0] 31)).trans (HB1.out.mono (by simp;omega))
   have q2:=bstep q1 (zhk (Below.refl _ _) 1) (by omega)
   exact bstep (bstep q2 hb2 (by simp;omega)) hb3 (by have:=hb2.size;simp at this;omega)
theorem cut (A:Option Addr) (m c a k:Nat) (w:World) (ha:zas w (.slice A m c) a) (h1:1 ≤ k) (hk:k ≤ LIM) (hp:1 ≤ wlen a) (hla:wlen a ≤ LIM) :
  Calls Tryz.prog 119 #[.agg #[.slice A m c], .int .i64 (k:Int)] w (zpo w (a % B64 ^ k) (a / B64 ^ k)):=by
 obtain ⟨xs,hx,hcx,rfl,hlx,rfl⟩:=ha.words
 rw [← hlx] at hla hp
 have e:=znN hx.2 k
 by_cases hlt:xs.length < k
 ·have h:=zJE A c k xs.length xs w hx hp hk hla (Nat.le_refl _) (.inl ⟨hlt,rfl⟩)
  have e3:xs.take xs.length = xs.take k:=by rw [List.take_of_length_le (Nat.le_refl _),List.take_of_length_le (Nat.le_of_lt hlt)]
  have e4:xs.drop xs.length = xs.drop k:=by rw [List.drop_eq_nil_of_le (Nat.le_refl _),List.drop_eq_nil_of_le (Nat.le_of_lt hlt)]
  rw [e3,e4,e.1,e.2] at h
  exact h
 ·have h:=zJE A c k k xs w hx h1 hk hla (by omega) (.inr ⟨hlt,rfl⟩)
  rw [e.1,e.2] at h
  exact h
theorem raised (A:Option Addr) (m c a k:Nat) (w:World) (ha:zas w (.slice A m c) a) (hk:k + wlen a ≤ LIM) :
    Calls Tryz.prog 122 #[.agg #[.slice A m c], .int .i64 (k:Int)] w (zc0 w (a * B64 ^ k)):=by
  obtain ⟨xs,hx,hcx,rfl,hlx,rfl⟩:=ha.words
  rw [← hlx] at hk
  have HX:=hid hx
  have HK:=hid hk
  have hk16:k ≤ 16 * LIM:=by have:=zaP;omega
  have HK16:=hid hk16
  have HXL:=hid (show xs.length ≤ LIM by omega)
  have hv:nval (List.replicate k 0 ++ xs) = nval xs * B64 ^ k:=by rw [zc7,zbK,List.length_replicate];simp [Nat.mul_comm]
  have HV:=hid hv
  have hkb:k ≤ 9223372036854775807:=by have:=zaP;omega
  have zm:=zyv k hk16
  clear ha hx hk hlx hk16 hcx hv
  have c0:((w.alloc (.cells #[.slice A xs.length c] 31)).alloc (.cells #[.slice none 0 0] 31)).cell? ⟨w.heap.size,0,none⟩ = some (.slice A xs.length c):=cell_al (zax rfl rfl)
  have k1:((w.alloc (.cells #[.slice A xs.length c] 31)).alloc (.cells #[.slice none 0 0] 31)).heap[w.heap.size + 1]? = some (.cells #[.slice none 0 0] 31 (0,0)):=zam (by simp)
  have hb:Below w.heap.size w ((w.alloc (.cells #[.slice A xs.length c] 31)).alloc (.cells #[.slice none 0 0] 31)):=(zae w _).alloc (by simp) _
  have hz:((w.alloc (.cells #[.slice A xs.length c] 31)).alloc (.cells #[.slice none 0 0] 31)).heap.size = w.heap.size + 1 + 1:=by simp
  have hX1:=(HX.out.alloc (.cells #[.slice A xs.length c] 31)).alloc (.cells #[.slice none 0 0] 31)
  go_enter Tryz.func122,Tryz.ntmps122
  go_wp2_with fail
  generalize ((w.alloc (.cells #[.slice A xs.length c] 31)).alloc (.cells #[.slice none 0 0] 31)) = W at *
  have HX1:=hid hX1
  have HB:=hid hb
  have HZ:=hid hz
  have HK1:=hid k1
  clear hX1 hb hz k1
  have c1:=cell_al (ob := .cells (zrow k) 193) c0
  go_region_law (first
    | (refine znT (by rfl) 158 Tryz.func158 (by kernel_rfl) (by rfl) _ _ (by rfl) _ (by rfl) (Nt.words A xs.length c xs _ (by first | exact HX1.out.drew | exact (HX1.out.alloc _).drew) HXL.out) ?_;rintro e w1 ⟨A1,m1,c1,rfl,hs1,hb1⟩;refine ⟨_,rfl,?_⟩;have HS1:=hid hs1;have HB1:=hid hb1;clear hs1 hb1)
    | (refine zqA (by rfl) _ _ (by rfl) (by first | exact (zn5 W k HK16.out).drew.step HB1.out | exact zn5 _ k HK16.out) (Wds.replicate k) (by rfl) (by rfl) (by first | exact (HS1.out.alloc _).reads | exact HS1.out.reads) HK.out ?_;rintro A2 m2 c2 w2 hs2 hb2;have HS2:=hid hs2;have HB2:=hid hb2;clear hs2 hb2)
    | (refine znT (by rfl) 123 Tryz.func123 (by kernel_rfl) (by rfl) _ _ (by rfl) _ (by rfl) (Nt.of (.slice A2 m2 c2) (List.replicate k 0 ++ xs) _ HS2.out.reads (by rw [List.length_append,List.length_replicate];exact HK.out)) ?_;rintro e w3 ⟨A3,m3,c3,rfl,hs3,hb3⟩;refine ⟨_,rfl,?_⟩;have HS3:=hid hs3;have HB3:=hid hb3;clear hs3 hb3;
       have hz0:=HZ.out;have hz1:=HB1.out.size;try simp at hz1;
       have hz2:=HB2.out.size;try simp at hz2;
       have GB:=hid (show Below w.heap.size w w3 by first
         | exact bstep ((bstep (zhk (HB.out.alloc (by omega) (.cells (zrow k) 193)) 1) HB1.out (by first | omega | (simp;done) | (simp;omega))).trans (HB2.out.mono (by first | omega | (simp;done) | (simp;omega)))) HB3.out (by first | omega | (simp;done) | (simp;omega))
         | exact bstep (((bstep (zhk HB.out 1) HB1.out (by first | omega | (simp;done) | (simp;omega))).alloc (by first | omega | (simp;done) | (simp;omega)) (.cells (zrow k) 193)).trans (HB2.out.mono (by first | omega | (simp;done) | (simp;omega)))) HB3.out (by first | omega | (simp;done) | (simp;omega)));
       have G1:=hid (show w3.heap[w.heap.size + 1]? = some (.cells #[.slice none 0 0] 31 (0,0)) by first
         | exact zad HB3.out ((HB2.out.block _ (by omega)).trans (zad HB1.out (zak HK1.out)))
         | exact zad HB3.out ((HB2.out.block _ (by omega)).trans (zak (zad HB1.out HK1.out))));
       have g3:=zac G1.out 0;have g4:=zag G1.out 0;simp only [List.getElem?_toArray,List.getElem?_cons_zero] at g3;clear hz0 hz1 hz2))
  all_goals
    go_wp2
    refine bodyPost_ret (v := .agg #[.slice A3 m3 c3]) (by simp [results,Tryz.results122,go_sem,g3]) rfl ?_
    have hs3:=HS3.out
    rw [HV.out] at hs3
    exact ⟨_,_,_,rfl,hs3.setCell (p:=⟨w.heap.size + 1,0,none⟩) G1.out (by decide) _,Below.setCell GB.out (by simp) _⟩
end Pr
end Go.Proofs.YtdbgbaiekpbaoaaGreatDoor
