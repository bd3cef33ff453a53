/- prod.cut and prod.raised by their contracts. Conditions: as each says. -/
import Derived.Test.YtohkhcbocknliaaProd1M
import Derived.Test.YtohkhcbocknliaaNat3M
import Derived.Test.YtohkhcbocknliaaStepM
namespace Go.Proofs.Ytohkhcbocknliaa
open Go.RowKit Am
attribute [local go_sem ↓] Go.wp_at_zero Go.wp_at_succ
set_option maxHeartbeats 1000000
set_option maxRecDepth 100000
/-- Two numbers, each in memory of its own. -/
def RetNat2 (w : World) (x y : Nat) (e : Ending) (w' : World) : Prop := ∃ (A : Option Addr) (m c : Nat) (B : Option Addr) (m' c' : Nat), e = .returned (.tuple #[.agg #[.slice A m c], .agg #[.slice B m' c']]) ∧ NatS w' (.slice A m c) x ∧ NatS w' (.slice B m' c') y ∧ Below w.heap.size w w'
namespace Pr
theorem run_from (W : World) (g n c k : Nat) (h1 : k ≤ n) :
    (Instr.slice 34 (.slice (some ⟨g, 0, none⟩) n c) (some (.int .i64 (k : Int))) none none).run Try.prog W = .ok (.slice (some ⟨g, if c = k then 0 else k, none⟩) (n - k) (c - k)) W := by
  have ht' : Try.prog.underlying 34 = some (.slice (Try.prog.elem 34)) := by simp [Program.elem, Try.underlying34]
  have he : Try.prog.elem 34 = 95 := by simp [Program.elem, Try.underlying34]
  rw [run_slice_l W 34 _ _ _ ht' .i64 _ (by omega) (by omega), he]
  by_cases h0 : c = k
  · simp [Result.andThen, sliced, h0]
  · by_cases h3 : k = 0
    · subst h3; simp [Result.andThen, sliced, Addr.add, h0]
    · simp [Result.andThen, sliced, Addr.add, h0, h3]
theorem run_upto (W : World) (g n c k : Nat) (h1 : k ≤ c) (h2 : 0 < c) :
    (Instr.slice 34 (.slice (some ⟨g, 0, none⟩) n c) none (some (.int .i64 (k : Int))) none).run Try.prog W = .ok (.slice (some ⟨g, 0, none⟩) k c) W := by
  have ht' : Try.prog.underlying 34 = some (.slice (Try.prog.elem 34)) := by simp [Program.elem, Try.underlying34]
  have he : Try.prog.elem 34 = 95 := by simp [Program.elem, Try.underlying34]
  rw [run_slice_h W 34 _ _ _ ht' .i64 _ (by omega) (by omega), he]
  have h0 : c ≠ 0 := by omega
  simp [Result.andThen, sliced, Addr.add, h0]
theorem nval_take_mod {xs : List Nat} (hw : Wds xs) (k : Nat) : nval (xs.take k) = nval xs % B64 ^ k ∧ nval (xs.drop k) = nval xs / B64 ^ k := by
  by_cases hk : k ≤ xs.length
  · have e := nval_take_drop xs k hk
    have h1 := nval_lt (xs.take k) (fun x hx => hw x (List.mem_of_mem_take hx))
    rw [List.length_take, Nat.min_eq_left hk] at h1
    have hp : 0 < B64 ^ k := Nat.pow_pos (by decide)
    rw [e, Nat.add_mul_mod_self_left, Nat.mod_eq_of_lt h1, Nat.add_mul_div_left _ _ hp, Nat.div_eq_of_lt h1]
    omega
  · have h1 := nval_lt xs hw
    have h2 : B64 ^ xs.length ≤ B64 ^ k := Nat.pow_le_pow_right (by decide) (by omega)
    rw [List.take_of_length_le (by omega), List.drop_eq_nil_of_le (by omega), Nat.mod_eq_of_lt (by omega), Nat.div_eq_of_lt (by omega)]
    exact ⟨rfl, rfl⟩
theorem Wds_take {xs : List Nat} (hw : Wds xs) (k : Nat) : Wds (xs.take k) := fun x hx => hw x (List.mem_of_mem_take hx)
theorem Wds_drop {xs : List Nat} (hw : Wds xs) (k : Nat) : Wds (xs.drop k) := fun x hx => hw x (List.mem_of_mem_drop hx)
theorem sr_take {w : World} {g c : Nat} {xs : List Nat} (h : SW w (.slice (some ⟨g, 0, none⟩) xs.length c) xs) {k : Nat} (hk : k ≤ xs.length) : SR w (.slice (some ⟨g, 0, none⟩) k c) (xs.take k) := by
  obtain ⟨A, c', e, h1, h2, h3, h4, h5⟩ := h.reads
  cases e
  refine ⟨some ⟨g, 0, none⟩, c, by rw [List.length_take, Nat.min_eq_left hk], by rw [List.length_take]; omega, h2, Wds_take h3 k, nofun, fun ad he j u hu => ?_⟩
  cases he
  refine h5 _ rfl j u ?_
  rw [wcells_take] at hu
  by_cases hj : j < k
  · rwa [List.getElem?_take_of_lt hj] at hu
  · rw [List.getElem?_take_eq_none (by omega)] at hu; cases hu
theorem sr_drop {w : World} {g c : Nat} {xs : List Nat} (h : SW w (.slice (some ⟨g, 0, none⟩) xs.length c) xs) {k : Nat} (hk : k ≤ xs.length) : SR w (.slice (some ⟨g, if c = k then 0 else k, none⟩) (xs.length - k) (c - k)) (xs.drop k) := by
  obtain ⟨A, c', e, h1, h2, h3, h4, h5⟩ := h.reads
  cases e
  refine ⟨some ⟨g, if c = k then 0 else k, none⟩, c - k, by rw [List.length_drop], by rw [List.length_drop]; omega, by omega, Wds_drop h3 k, nofun, fun ad he j u hu => ?_⟩
  cases he
  have hu' : (wcells xs)[k + j]? = some u := by
    unfold wcells at hu ⊢
    rw [List.map_drop, List.getElem?_drop] at hu
    exact hu
  have hlt : k + j < xs.length := by
    have := (List.getElem?_eq_some_iff.1 hu').1
    rwa [wcells_len] at this
  rw [if_neg (by omega)]
  have := h5 _ rfl (k + j) u hu'
  have e : (⟨g, 0, none⟩ : Addr).add (k + j) = (⟨g, k, none⟩ : Addr).add j := by
    unfold Addr.add; simp only []
    split <;> split <;> simp <;> omega
  rwa [e] at this
theorem sr_below {w w' : World} {s : Value} {xs : List Nat} (h : SR w s xs) (hb : Below w.heap.size w w') : SR w' s xs := by
  obtain ⟨A, c, h1, h2, h3, h4, h5, h6⟩ := h
  exact ⟨A, c, h1, h2, h3, h4, h5, fun ad he j u hu => by
    have hc := h6 ad he j u hu
    rw [hb.cell (World.block_lt_of_cell? w _ hc)]; exact hc⟩
theorem sr_drew {w : World} {s : Value} {xs : List Nat} (h : SR w s xs) : SR w.drew s xs := sr_below h (below_drewN' w 1)
theorem cut1 (A : Option Addr) (c k j : Nat) (xs : List Nat) (w : World) (hx : SW w (.slice A xs.length c) xs) (h1 : 1 ≤ j) (hk : k ≤ LIM) (hla : xs.length ≤ LIM) (hj2 : j ≤ xs.length)
    (hj : (xs.length < k ∧ j = xs.length) ∨ (¬ xs.length < k ∧ j = k)) :
    Calls Try.prog 57 #[.agg #[.slice A xs.length c], .int .i64 (k : Int)] w (RetNat2 w (nval (xs.take j)) (nval (xs.drop j))) := by
  have HX := Lib.hid hx
  have HLA := Lib.hid hla
  have HK := Lib.hid hk
  have hkb : k ≤ 9223372036854775807 := by have := LIM_eq; omega
  have hxb : xs.length ≤ 9223372036854775807 := by have := LIM_eq; omega
  have hif : (if xs.length < k then xs.length else k) = j := by rcases hj with ⟨h, rfl⟩ | ⟨h, rfl⟩ <;> simp [h]
  have hjb : j ≤ 9223372036854775807 := by omega
  clear hx hla hk
  go_enter Try.func57, Try.ntmps57
  go_wp2_with fail
  refine (Nt.words A xs.length c xs _ (((HX.out.alloc _).alloc _).alloc _) HLA.out).mono ?_
  rintro e w1 ⟨A1, m1, c1, rfl, hs1, hb1⟩
  rcases hs1.form with ⟨h, rfl⟩ | ⟨g, cap, h, hg, hcap, hm, -⟩
  · exact absurd (Nat.le_trans h1 hj2) (by decide)
  · cases h
    unfold maxLen at hm
    have hup := fun W => run_upto W g xs.length c1 j (by omega) (by omega)
    have r2 := sr_drop hs1 hj2
    have hfr := fun W => run_from W g xs.length c1 j (by omega)
    generalize (if c1 = j then 0 else j) = o at r2 hfr
    have l2 : xs.length - j = (xs.drop j).length := by rw [List.length_drop]
    rw [l2] at r2 hfr
    generalize c1 - j = q at r2 hfr
    have HB1 := Lib.hid hb1
    have r1 := sr_take hs1 hj2
    have R1 := Lib.hid r1
    have R2 := Lib.hid r2
    have L1 := Lib.hid (show (xs.take j).length ≤ LIM by rw [List.length_take]; have := HLA.out; omega)
    have L2 := Lib.hid (show (xs.drop j).length ≤ LIM by rw [List.length_drop]; have := HLA.out; omega)
    have kk1 := Lib.hid ((hb1.block (w.heap.size + 1) (by simp)).trans (blk_al (blk_nw (cs := #[.slice none 0 0]) (t := 36) (by simp))))
    have kk2 := Lib.hid ((hb1.block (w.heap.size + 1 + 1) (by simp)).trans (blk_nw (cs := #[.slice none 0 0]) (t := 36) (by simp)))
    have hz1 := hb1.size
    simp at hz1
    clear hs1 hb1 r1 r2 l2
    generalize hT : xs.take j = T at *
    generalize hD : xs.drop j = D at *
    clear hif
    rcases hj with ⟨hlt, rfl⟩ | ⟨hlt, rfl⟩
    all_goals
      go_wp2_with fail
      go_region_with (first
        | (go_at_call 59; (with_reducible refine (Nt.of _ _ _ (sr_drew R1.out) L1.out).mono ?_); rintro e w2 ⟨A2, m2, c2, rfl, hs2, hb2⟩)
        | (go_at_call 59; (with_reducible refine (Nt.of _ _ _ (sr_below (sr_drew R2.out) hb2) L2.out).mono ?_); rintro e w3 ⟨A3, m3, c3, rfl, hs3, hb3⟩; have g1 := Lib.hid (keepBlk hb3 (keepBlk hb2 kk1.out)); have g2 := Lib.hid (keepBlk hb3 (keepBlk hb2 kk2.out)); have g3 := blk_cell g1.out 0; have g4 := blk_fro g1.out 0; have g5 := blk_cell g2.out 0; have g6 := blk_fro g2.out 0; simp only [List.getElem?_toArray, List.getElem?_cons_zero] at g3 g5))
      go_goals
      go_wp2
      refine bodyPost_ret (v := .tuple #[.agg #[.slice A2 m2 c2], .agg #[.slice A3 m3 c3]]) (by simp [results, Try.results57, go_sem, g3, g5]) rfl ?_
      refine ⟨_, _, _, _, _, _, rfl, ((hs2.below hb3).setCell (p := ⟨w.heap.size + 1, 0, none⟩) g1.out (by decide) _).setCell (p := ⟨w.heap.size + 1 + 1, 0, none⟩) ((Below.heap_setCell _ ⟨w.heap.size + 1, 0, none⟩ _ (w.heap.size + 1 + 1) (by simp)).trans g2.out) (by decide) _, (hs3.setCell (p := ⟨w.heap.size + 1, 0, none⟩) g1.out (by decide) _).setCell (p := ⟨w.heap.size + 1 + 1, 0, none⟩) ((Below.heap_setCell _ ⟨w.heap.size + 1, 0, none⟩ _ (w.heap.size + 1 + 1) (by simp)).trans g2.out) (by decide) _, Below.setCell (Below.setCell ?_ (by simp) _) (by simp; omega) _⟩
      have q1 := (((below_alloc w (.cells #[.slice A xs.length c] 36)).alloc (by simp) (.cells #[.slice none 0 0] 36)).alloc (by simp; omega) (.cells #[.slice none 0 0] 36)).trans (HB1.out.mono (by simp; omega))
      have q2 := bstep q1 (bdrewN (Below.refl _ _) 1) (by omega)
      exact bstep (bstep q2 hb2 (by simp; omega)) hb3 (by have := hb2.size; simp at this; omega)
theorem cut (A : Option Addr) (m c a k : Nat) (w : World) (ha : NatS w (.slice A m c) a) (h1 : 1 ≤ k) (hk : k ≤ LIM) (hp : 1 ≤ wlen a) (hla : wlen a ≤ LIM) :
    Calls Try.prog 57 #[.agg #[.slice A m c], .int .i64 (k : Int)] w (RetNat2 w (a % B64 ^ k) (a / B64 ^ k)) := by
  obtain ⟨xs, hx, hcx, rfl, hlx, rfl⟩ := ha.words
  rw [← hlx] at hla hp
  have e := nval_take_mod hx.2 k
  by_cases hlt : xs.length < k
  · have h := cut1 A c k xs.length xs w hx hp hk hla (Nat.le_refl _) (.inl ⟨hlt, rfl⟩)
    have e3 : xs.take xs.length = xs.take k := by rw [List.take_of_length_le (Nat.le_refl _), List.take_of_length_le (Nat.le_of_lt hlt)]
    have e4 : xs.drop xs.length = xs.drop k := by rw [List.drop_eq_nil_of_le (Nat.le_refl _), List.drop_eq_nil_of_le (Nat.le_of_lt hlt)]
    rw [e3, e4, e.1, e.2] at h
    exact h
  · have h := cut1 A c k k xs w hx h1 hk hla (by omega) (.inr ⟨hlt, rfl⟩)
    rw [e.1, e.2] at h
    exact h
theorem raised (A : Option Addr) (m c a k : Nat) (w : World) (ha : NatS w (.slice A m c) a) (hk : k + wlen a ≤ LIM) :
    Calls Try.prog 58 #[.agg #[.slice A m c], .int .i64 (k : Int)] w (RetNat w (a * B64 ^ k)) := by
  obtain ⟨xs, hx, hcx, rfl, hlx, rfl⟩ := ha.words
  rw [← hlx] at hk
  have HX := Lib.hid hx
  have HK := Lib.hid hk
  have hk16 : k ≤ 16 * LIM := by have := LIM_eq; omega
  have HK16 := Lib.hid hk16
  have HXL := Lib.hid (show xs.length ≤ LIM by omega)
  have hv : nval (List.replicate k 0 ++ xs) = nval xs * B64 ^ k := by rw [nval_append, nval_replicate, List.length_replicate]; simp [Nat.mul_comm]
  have HV := Lib.hid hv
  have hkb : k ≤ 9223372036854775807 := by have := LIM_eq; omega
  have zm := mk_run k hk16
  clear ha hx hk hlx hk16 hcx hv
  have c0 : ((w.alloc (.cells #[.slice A xs.length c] 36)).alloc (.cells #[.slice none 0 0] 36)).cell? ⟨w.heap.size, 0, none⟩ = some (.slice A xs.length c) := cell_al (cell_nw rfl rfl)
  have k1 : ((w.alloc (.cells #[.slice A xs.length c] 36)).alloc (.cells #[.slice none 0 0] 36)).heap[w.heap.size + 1]? = some (.cells #[.slice none 0 0] 36 (0, 0)) := blk_nw (by simp)
  have hb : Below w.heap.size w ((w.alloc (.cells #[.slice A xs.length c] 36)).alloc (.cells #[.slice none 0 0] 36)) := (below_alloc w _).alloc (by simp) _
  have hz : ((w.alloc (.cells #[.slice A xs.length c] 36)).alloc (.cells #[.slice none 0 0] 36)).heap.size = w.heap.size + 1 + 1 := by simp
  have hX1 := (HX.out.alloc (.cells #[.slice A xs.length c] 36)).alloc (.cells #[.slice none 0 0] 36)
  go_enter Try.func58, Try.ntmps58
  go_wp2_with fail
  generalize ((w.alloc (.cells #[.slice A xs.length c] 36)).alloc (.cells #[.slice none 0 0] 36)) = W at *
  have HX1 := Lib.hid hX1
  have HB := Lib.hid hb
  have HZ := Lib.hid hz
  have HK1 := Lib.hid k1
  clear hX1 hb hz k1
  have c1 := cell_al (ob := .cells (zrow k) 95) c0
  go_region_law (first
    | (refine step_fn (by rfl) 71 Try.func71 (by kernel_rfl) (by rfl) _ _ (by rfl) _ (by rfl) (Nt.words A xs.length c xs _ (by first | exact HX1.out.drew | exact (HX1.out.alloc _).drew) HXL.out) ?_; rintro e w1 ⟨A1, m1, c1, rfl, hs1, hb1⟩; refine ⟨_, rfl, ?_⟩; have HS1 := Lib.hid hs1; have HB1 := Lib.hid hb1; clear hs1 hb1)
    | (refine step_append (by rfl) _ _ (by rfl) (by first | exact (zrow_out W k HK16.out).drew.step HB1.out | exact zrow_out _ k HK16.out) (Wds.replicate k) (by rfl) (by rfl) (by first | exact (HS1.out.alloc _).reads | exact HS1.out.reads) HK.out ?_; rintro A2 m2 c2 w2 hs2 hb2; have HS2 := Lib.hid hs2; have HB2 := Lib.hid hb2; clear hs2 hb2)
    | (refine step_fn (by rfl) 59 Try.func59 (by kernel_rfl) (by rfl) _ _ (by rfl) _ (by rfl) (Nt.of (.slice A2 m2 c2) (List.replicate k 0 ++ xs) _ HS2.out.reads (by rw [List.length_append, List.length_replicate]; exact HK.out)) ?_; rintro e w3 ⟨A3, m3, c3, rfl, hs3, hb3⟩; refine ⟨_, rfl, ?_⟩; have HS3 := Lib.hid hs3; have HB3 := Lib.hid hb3; clear hs3 hb3;
       have hz0 := HZ.out; have hz1 := HB1.out.size; try simp at hz1;
       have hz2 := HB2.out.size; try simp at hz2;
       have GB := Lib.hid (show Below w.heap.size w w3 by first
         | exact bstep ((bstep (bdrewN (HB.out.alloc (by omega) (.cells (zrow k) 95)) 1) HB1.out (by first | omega | (simp; done) | (simp; omega))).trans (HB2.out.mono (by first | omega | (simp; done) | (simp; omega)))) HB3.out (by first | omega | (simp; done) | (simp; omega))
         | exact bstep (((bstep (bdrewN HB.out 1) HB1.out (by first | omega | (simp; done) | (simp; omega))).alloc (by first | omega | (simp; done) | (simp; omega)) (.cells (zrow k) 95)).trans (HB2.out.mono (by first | omega | (simp; done) | (simp; omega)))) HB3.out (by first | omega | (simp; done) | (simp; omega)));
       have G1 := Lib.hid (show w3.heap[w.heap.size + 1]? = some (.cells #[.slice none 0 0] 36 (0, 0)) by first
         | exact keepBlk HB3.out ((HB2.out.block _ (by omega)).trans (keepBlk HB1.out (blk_al HK1.out)))
         | exact keepBlk HB3.out ((HB2.out.block _ (by omega)).trans (blk_al (keepBlk HB1.out HK1.out))));
       have g3 := blk_cell G1.out 0; have g4 := blk_fro G1.out 0; simp only [List.getElem?_toArray, List.getElem?_cons_zero] at g3; clear hz0 hz1 hz2))
  all_goals
    go_wp2
    refine bodyPost_ret (v := .agg #[.slice A3 m3 c3]) (by simp [results, Try.results58, go_sem, g3]) rfl ?_
    have hs3 := HS3.out
    rw [HV.out] at hs3
    exact ⟨_, _, _, rfl, hs3.setCell (p := ⟨w.heap.size + 1, 0, none⟩) G1.out (by decide) _, Below.setCell GB.out (by simp) _⟩
end Pr
end Go.Proofs.Ytohkhcbocknliaa
