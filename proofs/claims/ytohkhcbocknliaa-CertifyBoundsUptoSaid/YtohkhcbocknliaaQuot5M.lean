/- quot.DivMod by its contract: a divisor of one word; a number below the divisor. Conditions: as each says. -/
import Derived.Test.YtohkhcbocknliaaQuot3M
import Derived.Deep.DeepCutAuto
namespace Go.Proofs.Ytohkhcbocknliaa
open Go.RowKit Am
attribute [local go_sem ↓] Go.wp_at_zero Go.wp_at_succ
set_option maxHeartbeats 1000000
set_option maxRecDepth 100000
def RetQR (w : World) (q r : Nat) (b : Bool) (e : Ending) (w' : World) : Prop := ∃ (A : Option Addr) (m c : Nat) (A' : Option Addr) (m' c' : Nat), e = .returned (.tuple #[.agg #[.slice A m c], .agg #[.slice A' m' c'], .bool b]) ∧ NatS w' (.slice A m c) q ∧ NatS w' (.slice A' m' c') r ∧ Below w.heap.size w w'
namespace Qt
theorem word0 (s : Value) (ys : List Nat) (b : Nat) (w : World) (hs : SW w s ys) (h : wd ys 0 = b) : Calls Try.prog 64 #[.agg #[s], .int .i64 0] w fun e w' => e = .returned (.int .u64 (b : Int)) ∧ Below w.heap.size w w' :=
  (Nt.word s ys 0 (by decide) w hs).mono fun e w' h1 => ⟨by rw [h1.1, ← h]; rfl, by rw [h1.2]; exact below_alloc w _⟩
theorem ofOne (g r : Nat) (w : World) (hr : r < 18446744073709551616) (hc : w.cell? ⟨g, 0, none⟩ = some (.int .u64 (r : Int))) : Calls Try.prog 59 #[.slice (some ⟨g, 0, none⟩) 1 1] w (RetNat w r) := by
  have h : SR w (.slice (some ⟨g, 0, none⟩) 1 1) [r] := ⟨some ⟨g, 0, none⟩, 1, rfl, Nat.le_refl _, by omega, by intro z hz; simp at hz; subst hz; exact hr, by simp, fun ad he j u hu => by
    cases he
    match j, hu with
    | 0, hu => simp [wcells] at hu; subst hu; simpa [Addr.add] using hc
    | j + 1, hu => simp [wcells] at hu⟩
  have := Nt.of _ [r] w h (by have := LIM_eq; simp; omega)
  simpa [nval] using this
theorem divMod_one (A B : Option Addr) (m c m' c' a b : Nat) (w : World) (ha : NatS w (.slice A m c) a) (hb : NatS w (.slice B m' c') b) (hb0 : 0 < b) (hb1 : wlen b ≤ 1) (hla : wlen a ≤ LIM) :
    Calls Try.prog 77 #[.agg #[.slice A m c], .agg #[.slice B m' c']] w (RetQR w (a / b) (a % b) true) := by
  obtain ⟨ys, hy, hcy, hny, hly, hm⟩ := hb.words
  subst hm
  have HA := Lib.hid ha
  have HY := Lib.hid hy
  have hyl : (ys.length : Int) ≤ 1 := by omega

  have HLY := Lib.hid hly
  have HNY := Lib.hid hny
  clear ha hb hy hly hny
  have W0 : ∃ W, W = (((w.alloc (.cells #[.slice A m c] 36)).alloc (.cells #[.slice B ys.length c'] 36)).alloc (.cells #[.slice none 0 0] 36)).alloc (.cells #[.slice none 0 0] 36) := ⟨_, rfl⟩
  obtain ⟨W, hW⟩ := W0
  have hz : W.heap.size = w.heap.size + 1 + 1 + 1 + 1 := by rw [hW]; simp
  have k0 : W.cell? ⟨w.heap.size, 0, none⟩ = some (.slice A m c) := by rw [hW]; exact cell_al (cell_al (cell_al (cell_nw rfl rfl)))
  have k1 : W.cell? ⟨w.heap.size + 1, 0, none⟩ = some (.slice B ys.length c') := by rw [hW]; exact cell_al (cell_al (cell_nw (by simp) rfl))
  have r2 : W.heap[w.heap.size + 1 + 1]? = some (.cells #[.slice none 0 0] 36 (0, 0)) := by rw [hW]; exact blk_al (blk_nw (by simp))
  have r3 : W.heap[w.heap.size + 1 + 1 + 1]? = some (.cells #[.slice none 0 0] 36 (0, 0)) := by rw [hW]; exact blk_nw (by simp)
  have hB : Below w.heap.size w W := by rw [hW]; exact (((below_alloc w _).alloc (by simp) _).alloc (by simp; omega) _).alloc (by simp; omega) _
  have HAW := Lib.hid (HA.out.below hB)
  have HYW := Lib.hid (HY.out.below hB)
  have R2 := Lib.hid r2
  have R3 := Lib.hid r3
  have HB := Lib.hid hB
  have HZ := Lib.hid hz
  clear r2 r3 hB hz

  go_enter Try.func77, Try.ntmps77
  go_wp2_with fail
  rw [← hW]
  clear hW
  refine (Nt.len (.slice B ys.length c') ys _ HYW.out).mono ?_
  rintro e w' ⟨rfl, rfl⟩
  have k0 := cell_al (ob := .cells #[.slice B ys.length c'] 36) k0
  have k1 := cell_al (ob := .cells #[.slice B ys.length c'] 36) k1
  go_wp2_with fail
  have hwd : wd ys 0 = b := by
    have h1 := HLY.out
    have h2 := HNY.out
    match ys, h1 with
    | [], _ => simp [nval] at h2; omega
    | [y], _ => simpa [nval, wd] using h2
    | y :: z :: r, h1 => simp at h1; omega
  have HWD := Lib.hid hwd
  have NA := Lib.hid (HAW.out.alloc (.cells #[.slice B ys.length c'] 36))
  have NY := Lib.hid (HYW.out.alloc (.cells #[.slice B ys.length c'] 36))
  have R2 := Lib.hid (show (W.alloc (.cells #[.slice B ys.length c'] 36)).heap[w.heap.size + 1 + 1]? = some (.cells #[.slice none 0 0] 36 (0, 0)) from blk_al R2.out)
  have R3 := Lib.hid (show (W.alloc (.cells #[.slice B ys.length c'] 36)).heap[w.heap.size + 1 + 1 + 1]? = some (.cells #[.slice none 0 0] 36 (0, 0)) from blk_al R3.out)
  have HB := Lib.hid (HB.out.alloc HB.out.size (.cells #[.slice B ys.length c'] 36))
  have HZ := Lib.hid (show w.heap.size + 4 ≤ (W.alloc (.cells #[.slice B ys.length c'] 36)).heap.size by have := HZ.out; simp; omega)
  have HX0 := Lib.hid (show 0 < b from hb0)
  have HX1 := Lib.hid (show b < 18446744073709551616 by have := wd_lt NY.out.2 0; omega)
  have HLA := Lib.hid hla
  clear HAW HYW HA HY hwd hla hb1 hyl hcy hb0
  generalize W.alloc (.cells #[.slice B ys.length c'] 36) = V at *
  have HS := Lib.hid (show ∀ w', Below V.heap.size V w' → ((w'.cell? ⟨w.heap.size, 0, none⟩ = some (.slice A m c) ∧ w'.cell? ⟨w.heap.size + 1, 0, none⟩ = some (.slice B ys.length c')) ∧ Below V.heap.size V w') from fun w' h => ⟨⟨keepCell h k0, keepCell h k1⟩, h⟩)
  go_cut [7, 8, 9] (fun s7 s8 s9 wr => ∃ (g : Nat) (Q : Option Addr) (mq cq : Nat), s7 = .pointer (some ⟨g, 0, none⟩) ∧ s8 = .int .u64 ((a % b : Nat) : Int) ∧ s9 = .bool true ∧ Below V.heap.size V wr ∧
    wr.cell? ⟨g, 0, none⟩ = some (.slice Q mq cq) ∧ NatS wr (.slice Q mq cq) (a / b) ∧ V.heap.size ≤ g)
  case first =>
    go_region_held3 (fun w' => ((w'.cell? ⟨w.heap.size, 0, none⟩ = some (.slice A m c) ∧ w'.cell? ⟨w.heap.size + 1, 0, none⟩ = some (.slice B ys.length c')) ∧ Below V.heap.size V w'))
      ((refine HS.out _ ?_; repeat (first | exact Below.refl _ _ | exact (by assumption : _ ∧ Below _ _ _).2 | with_reducible refine bdrew ?_ | with_reducible refine al2 ?_ _ | with_reducible refine set2 ?_ (by omega) | with_reducible refine bstep2 ?_ (by assumption))))
      (first
        | (go_at_call 64; (with_reducible refine (word0 (.slice B ys.length c') ys b _ (NY.out.below (by assumption : _ ∧ Below _ _ _).2) HWD.out).mono ?_); rintro e u1 ⟨rfl, hb1⟩; have hz1 := hb1.size; (try simp at hz1); have hze1 : V.heap.size ≤ u1.heap.size := (by omega); (try ((first | (have pp := keepBox (b := V.heap.size) (v := .slice none 0 0) (t := 36) hb1 (blk_new _ _ _); obtain ⟨X1_0_0, ⟨X1_0_0c, X1_0_0f⟩, ⟨X1_0_0d, X1_0_0g⟩, ⟨X1_0_0e, X1_0_0h⟩, ⟨X1_0_0i, X1_0_0j⟩, X1_0_0k, X1_0_0l⟩ := pp)); have X1_0_0 := Lib.hid X1_0_0)))
        | (go_at_call 80; (with_reducible refine (byWord A m c a b _ (NA.out.below (by assumption : _ ∧ Below _ _ _).2) HX0.out HX1.out HLA.out).mono ?_); rintro e u2 ⟨Q, mq, cq, rfl, hq, hb2⟩; have hz2 := hb2.size; (try simp at hz2); have hze2 : V.heap.size ≤ u2.heap.size := (by omega); (try ((first | (have pp := keepBox (b := V.heap.size) (v := .slice none 0 0) (t := 36) hb2 (X1_0_0.out); obtain ⟨X2_0_0, ⟨X2_0_0c, X2_0_0f⟩, ⟨X2_0_0d, X2_0_0g⟩, ⟨X2_0_0e, X2_0_0h⟩, ⟨X2_0_0i, X2_0_0j⟩, X2_0_0k, X2_0_0l⟩ := pp) | (have pp := keepBox (b := V.heap.size) (v := .slice none 0 0) (t := 36) hb2 (blk_al X1_0_0.out); obtain ⟨X2_0_0, ⟨X2_0_0c, X2_0_0f⟩, ⟨X2_0_0d, X2_0_0g⟩, ⟨X2_0_0e, X2_0_0h⟩, ⟨X2_0_0i, X2_0_0j⟩, X2_0_0k, X2_0_0l⟩ := pp)); have X2_0_0 := Lib.hid X2_0_0)); (try ((first | (have pp := keepBox (b := u1.heap.size) (v := .slice none 0 0) (t := 36) hb2 (blk_new _ _ _); obtain ⟨X2_1_0, ⟨X2_1_0c, X2_1_0f⟩, ⟨X2_1_0d, X2_1_0g⟩, ⟨X2_1_0e, X2_1_0h⟩, ⟨X2_1_0i, X2_1_0j⟩, X2_1_0k, X2_1_0l⟩ := pp)); have X2_1_0 := Lib.hid X2_1_0)); have HQ := Lib.hid hq; clear hq))
    all_goals
      go_wp2
      go_meet
      case rel =>
        refine ⟨_, Q, mq, cq, rfl, rfl, rfl, (by assumption : _ ∧ Below V.heap.size V _).2, ?_, ?_, ?_⟩
        all_goals
          repeat' (first
            | with_reducible exact HQ.out
            | with_reducible assumption
            | with_reducible exact cell_new0 _ _ _
            | with_reducible exact cell_new1 _ _ _ _
            | with_reducible refine cell_al ?_
            | with_reducible refine Box.cell ?_
            | with_reducible refine cell_set ?_ ?_
            | with_reducible exact Box.new _ _
            | with_reducible exact Box.new1 _ _ _
            | with_reducible refine Box.alloc ?_
            | with_reducible refine Box.set ?_
            | exact Box.of X2_0_0.out
            | exact Box.of X2_1_0.out
            | with_reducible refine NatS.alloc ?_ _
            | with_reducible refine NatS.setBox ?_ ?_
            | with_reducible refine NatS.drew ?_
            | omega)
  case rest =>
    obtain ⟨g, Q, mq, cq, rfl, rfl, rfl, hbV, kq, hQ, hg⟩ := hcut
    rename World => wa
    have NQ := Lib.hid hQ
    have R2 := Lib.hid (keepBlk hbV R2.out)
    have R3 := Lib.hid (keepBlk hbV R3.out)
    have HZV := HZ
    have HB := Lib.hid (HB.out.trans (hbV.mono HB.out.size))
    have HZ := Lib.hid (show w.heap.size + 4 ≤ wa.heap.size by have := HZ.out; have := hbV.size; omega)
    have HG := Lib.hid (show w.heap.size + 4 ≤ g by have := HZV.out; omega)
    have hr := Lib.hid (show a % b < 18446744073709551616 by have := Nat.mod_lt a HX0.out; have := HX1.out; omega)
    clear hbV hQ hg HS NA NY k0 k1
    generalize a % b = r at *
    generalize a / b = qq at *
    have hcr : Hid ((wa.alloc (.cells #[.int .u64 (r : Int)] 95)).drew.cell? ⟨wa.heap.size, 0, none⟩ = some (.int .u64 (r : Int))) := Lib.hid (cell_new0 wa _ _)
    have kq0 : wa.drew.cell? ⟨g, 0, none⟩ = some (.slice Q mq cq) := kq
    have kq1 : (wa.alloc (.cells #[.int .u64 (r : Int)] 95)).drew.cell? ⟨g, 0, none⟩ = some (.slice Q mq cq) := cell_al kq
    go_wp2_with fail
    go_region_with (go_at_call 59; go_loud (refine (ofOne wa.heap.size r _ hr.out hcr.out).mono ?_; rintro e w2 ⟨A2, m2, c2, rfl, hs2, hb2⟩; have g1 := Lib.hid (keepBlk hb2 (show (wa.alloc (.cells #[.int .u64 (r : Int)] 95)).drew.heap[w.heap.size + 1 + 1]? = some (.cells #[.slice none 0 0] 36 (0, 0)) from blk_al R2.out)); have g2 := Lib.hid (keepBlk hb2 (show (wa.alloc (.cells #[.int .u64 (r : Int)] 95)).drew.heap[w.heap.size + 1 + 1 + 1]? = some (.cells #[.slice none 0 0] 36 (0, 0)) from blk_al R3.out)); have kq2 := keepCell hb2 kq1; have g3 := blk_cell g1.out 0; have g4 := blk_fro g1.out 0; have g5 := blk_cell g2.out 0; have g6 := blk_fro g2.out 0; simp only [List.getElem?_toArray, List.getElem?_cons_zero] at g3 g5; have HS2 := Lib.hid hs2; have HB2 := Lib.hid hb2; clear hs2 hb2))
    all_goals
      go_wp2
      refine bodyPost_ret (v := .tuple #[.agg #[.slice Q mq cq], .agg #[.slice A2 m2 c2], .bool true]) (by simp [results, Try.results77, go_sem, g3, g5]) rfl ?_
      have hz := HZ.out
      have nq : NatS w2 (.slice Q mq cq) qq := ((NQ.out.alloc (.cells #[.int .u64 (r : Int)] 95)).drew).below HB2.out
      have hb : Below w.heap.size w w2 := bstep (bdrewN (HB.out.alloc HB.out.size _) 1) HB2.out (by simp; omega)
      exact ⟨_, _, _, _, _, _, rfl, NatS.setBox (NatS.setBox nq (Box.of g1.out)) (Box.set (Box.of g2.out)), NatS.setBox (NatS.setBox HS2.out (Box.of g1.out)) (Box.set (Box.of g2.out)), Below.setCell (Below.setCell hb (by simp; omega) _) (by simp; omega) _⟩
end Qt
end Go.Proofs.Ytohkhcbocknliaa
