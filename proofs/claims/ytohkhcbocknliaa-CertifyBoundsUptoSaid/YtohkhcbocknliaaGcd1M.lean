/- gcd.Of and gcd.Reduce by their contracts. Conditions: as each says. gcd.Reduce by its contract. Conditions: as it says. Conditions: as they say. -/
import Derived.Test.YtohkhcbocknliaaQuot10M
import Derived.Deep.LoopGhost
namespace Go.Proofs.Ytohkhcbocknliaa
open Go.RowKit Am
attribute [local go_sem ↓] Go.wp_at_zero Go.wp_at_succ
set_option maxHeartbeats 1000000
set_option maxRecDepth 100000
namespace Gc
/-- What lies in memory while gcd.Of runs: its two boxes hold x and y. -/
structure GS (w wr : World) (A : Option Addr) (m c : Nat) (B : Option Addr) (m' c' x y : Nat) : Prop where
  ka : wr.heap[w.heap.size]? = some (.cells #[.slice A m c] 36 (0, 0))
  kb : wr.heap[w.heap.size + 1]? = some (.cells #[.slice B m' c'] 36 (0, 0))
  kr : wr.heap[w.heap.size + 1 + 1]? = some (.cells #[.slice none 0 0] 36 (0, 0))
  x : NatS wr (.slice A m c) x
  y : NatS wr (.slice B m' c') y
  bel : Below w.heap.size w wr
theorem GS.step {w wr w' : World} {A : Option Addr} {m c : Nat} {B : Option Addr} {m' c' x y : Nat} (h : GS w wr A m c B m' c' x y) (hb : Below wr.heap.size wr w') : GS w w' A m c B m' c' x y :=
  ⟨keepBlk hb h.ka, keepBlk hb h.kb, keepBlk hb h.kr, h.x.below hb, h.y.below hb, h.bel.trans (hb.mono h.bel.size)⟩
theorem GS.turn {w wr : World} {A : Option Addr} {m c : Nat} {B : Option Addr} {m' c' x y : Nat} (h : GS w wr A m c B m' c' x y) {C : Option Addr} {m3 c3 z : Nat} (hz : NatS wr (.slice C m3 c3) z) :
    GS w ((wr.setCell ⟨w.heap.size, 0, none⟩ (.slice B m' c')).setCell ⟨w.heap.size + 1, 0, none⟩ (.slice C m3 c3)) B m' c' C m3 c3 y z := by
  have b1 : Box wr w.heap.size := Box.of h.ka
  have b2 : Box (wr.setCell ⟨w.heap.size, 0, none⟩ (.slice B m' c')) (w.heap.size + 1) := Box.set (Box.of h.kb)
  have k2 := (Below.heap_setCell wr ⟨w.heap.size, 0, none⟩ (.slice B m' c') (w.heap.size + 1) (by simp)).trans h.kb
  refine ⟨?_, one_setCell k2, ?_, NatS.setBox (NatS.setBox h.y b1) b2, NatS.setBox (NatS.setBox hz b1) b2, Below.setCell (Below.setCell h.bel (p := ⟨w.heap.size, 0, none⟩) (Nat.le_refl _) _) (p := ⟨w.heap.size + 1, 0, none⟩) (by show w.heap.size ≤ w.heap.size + 1; omega) _⟩
  · exact (Below.heap_setCell _ ⟨w.heap.size + 1, 0, none⟩ _ w.heap.size (by simp)).trans (one_setCell h.ka)
  · exact (Below.heap_setCell _ ⟨w.heap.size + 1, 0, none⟩ _ (w.heap.size + 1 + 1) (by simp)).trans ((Below.heap_setCell _ ⟨w.heap.size, 0, none⟩ _ (w.heap.size + 1 + 1) (by simp; omega)).trans h.kr)
theorem of (A B : Option Addr) (m c m' c' a b : Nat) (w : World) (ha : NatS w (.slice A m c) a) (hb : NatS w (.slice B m' c') b) (hla : wlen a + 1 ≤ LIM) (hlb : wlen b + 1 ≤ LIM) :
    Calls Try.prog 67 #[.agg #[.slice A m c], .agg #[.slice B m' c']] w (RetNat w (Nat.gcd a b)) := by
  have HA := Lib.hid ha
  have HB := Lib.hid hb
  have HLA := Lib.hid hla
  have HLB := Lib.hid hlb
  clear ha hb hla hlb
  go_enter Try.func67, Try.ntmps67
  go_wp2_with fail
  have HS := Lib.hid (show GS w (((w.alloc (.cells #[.slice A m c] 36)).alloc (.cells #[.slice B m' c'] 36)).alloc (.cells #[.slice none 0 0] 36)) A m c B m' c' a b from
    ⟨blk_al (blk_al (blk_nw rfl)), blk_al (blk_nw (by simp)), blk_nw (by simp), ((HA.out.alloc _).alloc _).alloc _, ((HB.out.alloc _).alloc _).alloc _, ((below_alloc w _).alloc (by simp) _).alloc (by simp; omega) _⟩)
  generalize ((w.alloc (.cells #[.slice A m c] 36)).alloc (.cells #[.slice B m' c'] 36)).alloc (.cells #[.slice none 0 0] 36) = w1 at *
  go_loopg [] b (fun gg wr => ∃ (A1 : Option Addr) (m1 c1 : Nat) (B1 : Option Addr) (m2 c2 x y : Nat), GS w wr A1 m1 c1 B1 m2 c2 x y ∧ Nat.gcd x y = Nat.gcd a b ∧ wlen x + 1 ≤ LIM ∧ wlen y + 1 ≤ LIM ∧ y ≤ gg)
  case atStart => exact ⟨A, m, c, B, m', c', a, b, HS.out, rfl, HLA.out, HLB.out, Nat.le_refl _⟩
  case round =>
    obtain ⟨A1, m1, c1, B1, m2, c2, x, y, hG, hgcd, hlx, hly, hyg⟩ := hrel
    have HG := Lib.hid hG
    have HGCD := Lib.hid hgcd
    have HLX := Lib.hid hlx
    have HLY := Lib.hid hly
    have HYG := Lib.hid hyg
    have kb := blk_cell hG.kb 0
    simp only [List.getElem?_toArray, List.getElem?_cons_zero] at kb
    clear hG hgcd hlx hly hyg
    rcases Nat.eq_zero_or_pos y with hy0 | hy0
    · have hz : isZ y = true := by rw [hy0]; rfl
      have HY0 := Lib.hid hy0
      have HG2 := Lib.hid (HG.out.step (below_alloc wr (.cells #[.slice B1 m2 c2] 36)))
      have ka2 := blk_cell HG2.out.ka 0
      have kr2 := blk_cell HG2.out.kr 0
      have kf2 := blk_fro HG2.out.kr 0
      simp only [List.getElem?_toArray, List.getElem?_cons_zero] at ka2 kr2
      clear hy0
      go_wp2_with (go_at_call 48; (with_reducible refine (Nt.zero (.slice B1 m2 c2) y _ HG.out.y).mono ?_); rintro e w2 ⟨rfl, rfl⟩)
      refine bodyPost_ret (v := .agg #[.slice A1 m1 c1]) (by simp [results, Try.results67, go_sem, kr2]) rfl ?_
      have hx := HG2.out.x
      have hg := HGCD.out
      rw [HY0.out, Nat.gcd_zero_right] at hg
      rw [hg] at hx
      exact ⟨_, _, _, rfl, NatS.setBox hx (Box.of HG2.out.kr), Below.setCell HG2.out.bel (p := ⟨w.heap.size + 1 + 1, 0, none⟩) (by show w.heap.size ≤ w.heap.size + 1 + 1; omega) _⟩
    · have hz : isZ y = false := isZ_pos hy0
      have HY0 := Lib.hid hy0
      have HG2 := Lib.hid (HG.out.step (below_alloc wr (.cells #[.slice B1 m2 c2] 36)))
      have ka2 := blk_cell HG2.out.ka 0
      have kb2 := blk_cell HG2.out.kb 0
      simp only [List.getElem?_toArray, List.getElem?_cons_zero] at ka2 kb2
      clear hy0
      go_wp2_with (first
        | (go_at_call 48; (with_reducible refine (Nt.zero (.slice B1 m2 c2) y _ HG.out.y).mono ?_); rintro e w2 ⟨rfl, rfl⟩)
        | (go_at_call 76; (with_reducible refine (Qt.mod A1 B1 m1 c1 m2 c2 x y _ HG2.out.x HG2.out.y HY0.out HLX.out).mono ?_); rintro e w3 ⟨A3, m3, c3, rfl, hr, hb3⟩; have HG3 := Lib.hid (HG2.out.step hb3); have HR3 := Lib.hid hr; clear hr hb3))
      have HG4 : Hid (GS w (w3.alloc (.cells #[.slice A3 m3 c3] 36)).drew A1 m1 c1 B1 m2 c2 x y) := Lib.hid (HG3.out.step ((below_alloc w3 _).drew))
      have HR4 : Hid (NatS (w3.alloc (.cells #[.slice A3 m3 c3] 36)).drew (.slice A3 m3 c3) (x % y)) := Lib.hid ((HR3.out.alloc _).drew)
      have kr4 : (w3.alloc (.cells #[.slice A3 m3 c3] 36)).drew.cell? ⟨w3.heap.size, 0, none⟩ = some (.slice A3 m3 c3) := cell_nw rfl rfl
      have hlt : w.heap.size + 3 ≤ w3.heap.size := by
        have := (Array.getElem?_eq_some_iff.1 HG3.out.kr).1
        omega
      have ka4 := blk_cell HG4.out.ka 0
      have kf4 := blk_fro HG4.out.ka 0
      have kb4 := blk_cell HG4.out.kb 0
      have kg4 := blk_fro HG4.out.kb 0
      simp only [List.getElem?_toArray, List.getElem?_cons_zero] at ka4 kb4
      have kr5 : ((w3.alloc (.cells #[.slice A3 m3 c3] 36)).setCell ⟨w.heap.size, 0, none⟩ (.slice B1 m2 c2)).drew.cell? ⟨w3.heap.size, 0, none⟩ = some (.slice A3 m3 c3) := cell_set (by omega) (cell_nw rfl rfl)
      have kb5 : (w3.alloc (.cells #[.slice A3 m3 c3] 36)).cell? ⟨w.heap.size + 1, 0, none⟩ = some (.slice B1 m2 c2) := kb4
      have kg5 : (w3.alloc (.cells #[.slice A3 m3 c3] 36)).frozen? ⟨w.heap.size + 1, 0, none⟩ = false := kg4
      clear ka2 kb2 kb hz
      go_region
      all_goals
        go_wp2
        go_roundg (x % y)
        case measure => have := Nat.mod_lt x HY0.out; have := HYG.out; omega
        case rel =>
          refine ⟨B1, m2, c2, A3, m3, c3, y, x % y, HG4.out.turn HR4.out, ?_, HLY.out, ?_, Nat.le_refl _⟩
          · rw [← HGCD.out, Nat.gcd_comm y, ← Nat.gcd_rec, Nat.gcd_comm]
          · have := wlen_mono (Nat.le_of_lt (Nat.mod_lt x HY0.out)); have := HLY.out; omega
end Gc
end Go.Proofs.Ytohkhcbocknliaa
namespace Go.Proofs.Ytohkhcbocknliaa
open Go.RowKit Am
attribute [local go_sem ↓] Go.wp_at_zero Go.wp_at_succ
set_option maxHeartbeats 1000000
set_option maxRecDepth 100000
namespace Gc
/-- The boxes of two parameters and two results. -/
structure RS (w wr : World) (A : Option Addr) (m c : Nat) (B : Option Addr) (m' c' x y : Nat) : Prop where
  ka : wr.heap[w.heap.size]? = some (.cells #[.slice A m c] 36 (0, 0))
  kb : wr.heap[w.heap.size + 1]? = some (.cells #[.slice B m' c'] 36 (0, 0))
  k2 : wr.heap[w.heap.size + 1 + 1]? = some (.cells #[.slice none 0 0] 36 (0, 0))
  k3 : wr.heap[w.heap.size + 1 + 1 + 1]? = some (.cells #[.slice none 0 0] 36 (0, 0))
  x : NatS wr (.slice A m c) x
  y : NatS wr (.slice B m' c') y
  bel : Below w.heap.size w wr
theorem RS.step {w wr w' : World} {A : Option Addr} {m c : Nat} {B : Option Addr} {m' c' x y : Nat} (h : RS w wr A m c B m' c' x y) (hb : Below wr.heap.size wr w') : RS w w' A m c B m' c' x y :=
  ⟨keepBlk hb h.ka, keepBlk hb h.kb, keepBlk hb h.k2, keepBlk hb h.k3, h.x.below hb, h.y.below hb, h.bel.trans (hb.mono h.bel.size)⟩
theorem blk1 {w : World} {b : Nat} {v : Value} (h : w.heap[b]? = some (.cells #[v] 36 (0, 0))) : w.cell? ⟨b, 0, none⟩ = some v := blk_cell h 0
theorem reduce (A B : Option Addr) (m c m' c' a b : Nat) (w : World) (ha : NatS w (.slice A m c) a) (hb : NatS w (.slice B m' c') b) (hb0 : 0 < b) (hla : wlen a + 1 ≤ LIM) (hlb : wlen b + 1 ≤ LIM) :
    Calls Try.prog 51 #[.agg #[.slice A m c], .agg #[.slice B m' c']] w (RetNat2 w (a / Nat.gcd a b) (b / Nat.gcd a b)) := by
  have HA := Lib.hid ha
  have HB := Lib.hid hb
  have HLA := Lib.hid hla
  have HLB := Lib.hid hlb
  have HG0 := Lib.hid (Nat.gcd_pos_of_pos_right a hb0)
  clear ha hb hla hlb hb0
  go_enter Try.func51, Try.ntmps51
  go_wp2_with fail
  have HS := Lib.hid (show RS w ((((w.alloc (.cells #[.slice A m c] 36)).alloc (.cells #[.slice B m' c'] 36)).alloc (.cells #[.slice none 0 0] 36)).alloc (.cells #[.slice none 0 0] 36)) A m c B m' c' a b from
    ⟨blk_al (blk_al (blk_al (blk_nw rfl))), blk_al (blk_al (blk_nw (by simp))), blk_al (blk_nw (by simp)), blk_nw (by simp), (((HA.out.alloc _).alloc _).alloc _).alloc _, (((HB.out.alloc _).alloc _).alloc _).alloc _, (((below_alloc w _).alloc (by simp) _).alloc (by simp; omega) _).alloc (by simp; omega) _⟩)
  generalize (((w.alloc (.cells #[.slice A m c] 36)).alloc (.cells #[.slice B m' c'] 36)).alloc (.cells #[.slice none 0 0] 36)).alloc (.cells #[.slice none 0 0] 36) = W0 at *
  refine (of A B m c m' c' a b _ HS.out.x HS.out.y HLA.out HLB.out).mono ?_
  rintro e w1 ⟨G1, mg, cg, rfl, hg1, hb1⟩
  have HS1 := Lib.hid ((HS.out.step hb1).step (below_alloc w1 (.cells #[.slice G1 mg cg] 36)))
  have HN1 := Lib.hid (hg1.alloc (.cells #[.slice G1 mg cg] 36))
  have kg1 : (w1.alloc (.cells #[.slice G1 mg cg] 36)).heap[w1.heap.size]? = some (.cells #[.slice G1 mg cg] 36 (0, 0)) := blk_nw rfl
  have KG1 := Lib.hid kg1
  have kgc := blk1 kg1
  clear hg1 hb1 kg1
  have hz : isZ (Nat.gcd a b) = false := isZ_pos HG0.out
  go_wp2_with fail
  generalize w1.alloc (.cells #[.slice G1 mg cg] 36) = W1 at *
  generalize w1.heap.size = gb at *
  refine (Nt.zero (.slice G1 mg cg) (Nat.gcd a b) _ HN1.out).mono ?_
  rintro e w' ⟨rfl, rfl⟩
  rw [hz]
  have HS2 := Lib.hid (HS1.out.step (below_alloc W1 (.cells #[.slice G1 mg cg] 36)))
  have HN2 := Lib.hid (HN1.out.alloc (.cells #[.slice G1 mg cg] 36))
  have KG2 := Lib.hid (keepBlk (below_alloc W1 (.cells #[.slice G1 mg cg] 36)) KG1.out)
  have kg2 := blk1 KG2.out
  have ka2 := blk1 HS2.out.ka
  clear kgc hz
  generalize W1.alloc (.cells #[.slice G1 mg cg] 36) = W2 at *
  go_wp2_with fail
  refine (Qt.div A G1 m c mg cg a (Nat.gcd a b) _ HS2.out.x HN2.out HG0.out HLA.out).mono ?_
  rintro e w3 ⟨X3, m3, c3, rfl, hx3, hb3⟩
  have HS3 := Lib.hid ((HS2.out.step hb3).step (below_alloc w3 (.cells #[.slice X3 m3 c3] 36)))
  have HN3 := Lib.hid ((HN2.out.below hb3).alloc (.cells #[.slice X3 m3 c3] 36))
  have HX3 := Lib.hid (hx3.alloc (.cells #[.slice X3 m3 c3] 36))
  have KG3 := Lib.hid (keepBlk (below_alloc w3 (.cells #[.slice X3 m3 c3] 36)) (keepBlk hb3 KG2.out))
  have kx3 : (w3.alloc (.cells #[.slice X3 m3 c3] 36)).heap[w3.heap.size]? = some (.cells #[.slice X3 m3 c3] 36 (0, 0)) := blk_nw rfl
  have KX3 := Lib.hid kx3
  have HZ3 := Lib.hid (show w.heap.size + 4 ≤ w3.heap.size by have := (Array.getElem?_eq_some_iff.1 HS2.out.k3).1; have := hb3.size; omega)
  have kg3 := blk1 KG3.out
  have kb3 := blk1 HS3.out.kb
  clear kg2 ka2 kx3 hx3 hb3
  go_wp2_with fail
  generalize w3.alloc (.cells #[.slice X3 m3 c3] 36) = W3 at *
  generalize w3.heap.size = xb at *
  refine (Qt.div B G1 m' c' mg cg b (Nat.gcd a b) _ HS3.out.y HN3.out HG0.out HLB.out).mono ?_
  rintro e w4 ⟨Y4, m4, c4, rfl, hy4, hb4⟩
  have HS4 : Hid (RS w (w4.alloc (.cells #[.slice Y4 m4 c4] 36)).drew A m c B m' c' a b) := Lib.hid ((HS3.out.step hb4).step ((below_alloc w4 _).drew))
  have HX4 : Hid (NatS (w4.alloc (.cells #[.slice Y4 m4 c4] 36)).drew (.slice X3 m3 c3) (a / Nat.gcd a b)) := Lib.hid (((HX3.out.below hb4).alloc _).drew)
  have HY4 : Hid (NatS (w4.alloc (.cells #[.slice Y4 m4 c4] 36)).drew (.slice Y4 m4 c4) (b / Nat.gcd a b)) := Lib.hid ((hy4.alloc _).drew)
  have kx4 : (w4.alloc (.cells #[.slice Y4 m4 c4] 36)).drew.cell? ⟨xb, 0, none⟩ = some (.slice X3 m3 c3) := cell_al (blk1 (keepBlk hb4 KX3.out))
  have ky4 : (w4.alloc (.cells #[.slice Y4 m4 c4] 36)).drew.cell? ⟨w4.heap.size, 0, none⟩ = some (.slice Y4 m4 c4) := cell_nw rfl rfl
  have hxw : w.heap.size + 4 ≤ w4.heap.size := by have := (Array.getElem?_eq_some_iff.1 (keepBlk hb4 HS3.out.k3)).1; omega
  have hxb : w.heap.size + 4 ≤ xb := HZ3.out
  have g3 := blk1 HS4.out.k2
  have g4 := blk_fro HS4.out.k2 0
  have g5 := blk1 HS4.out.k3
  have g6 := blk_fro HS4.out.k3 0
  have g3' : (w4.alloc (.cells #[.slice Y4 m4 c4] 36)).cell? ⟨w.heap.size + 1 + 1, 0, none⟩ = some (.slice none 0 0) := g3
  have g5' : (w4.alloc (.cells #[.slice Y4 m4 c4] 36)).cell? ⟨w.heap.size + 1 + 1 + 1, 0, none⟩ = some (.slice none 0 0) := g5
  have g6' : (w4.alloc (.cells #[.slice Y4 m4 c4] 36)).frozen? ⟨w.heap.size + 1 + 1 + 1, 0, none⟩ = false := g6
  have ky5 : ((w4.alloc (.cells #[.slice Y4 m4 c4] 36)).setCell ⟨w.heap.size + 1 + 1, 0, none⟩ (.slice X3 m3 c3)).drew.cell? ⟨w4.heap.size, 0, none⟩ = some (.slice Y4 m4 c4) := cell_set (by omega) (cell_nw rfl rfl)
  clear kg3 kb3 hy4 hb4
  go_wp2_with fail
  go_region
  all_goals
    go_wp2
    refine bodyPost_ret (v := .tuple #[.agg #[.slice X3 m3 c3], .agg #[.slice Y4 m4 c4]]) (by simp [results, Try.results51, go_sem, g3', g5']) rfl ?_
    exact ⟨_, _, _, _, _, _, rfl, NatS.setBox (NatS.setBox HX4.out (Box.of HS4.out.k2)) (Box.set (Box.of HS4.out.k3)), NatS.setBox (NatS.setBox HY4.out (Box.of HS4.out.k2)) (Box.set (Box.of HS4.out.k3)), Below.setCell (Below.setCell HS4.out.bel (p := ⟨w.heap.size + 1 + 1, 0, none⟩) (by show w.heap.size ≤ w.heap.size + 1 + 1; omega) _) (p := ⟨w.heap.size + 1 + 1 + 1, 0, none⟩) (by show w.heap.size ≤ w.heap.size + 1 + 1 + 1; omega) _⟩
end Gc
end Go.Proofs.Ytohkhcbocknliaa
