/- actuarylaw08.Is by its contract, where it says yes. Conditions: as it says. -/
import Derived.Test.YtohkhcbocknliaaCert3M
namespace Go.Proofs.Ytohkhcbocknliaa
set_option linter.unusedSimpArgs false
set_option linter.unusedVariables false
open Go.RowKit Am
attribute [local go_sem ↓] Go.wp_at_zero Go.wp_at_succ
set_option maxHeartbeats 4000000
set_option maxRecDepth 100000
namespace Rt
theorem num_of (g : Bool) (A : Option Addr) (m c : Nat) (D : Option Addr) (md cd : Nat) (q : Rat) (w : World) (h : RatS w g (.slice A m c) (.slice D md cd) q) :
    Calls Try.prog 44 #[.agg #[.bool g, .slice A m c, .slice D md cd]] w (RetInt w q.num) :=
  (num g A m c D md cd q w h).mono (by rintro e w' ⟨rfl, hb⟩; exact ⟨g, A, m, c, rfl, (h.below hb).num, hb⟩)
theorem icmp_same (g : Bool) (A : Option Addr) (m c : Nat) (x : Int) (g' : Bool) (B : Option Addr) (m' c' : Nat) (y : Int) (w : World) (h : IntS w g (.slice A m c) x) (h' : IntS w g' (.slice B m' c') y) (e : x = y) :
    Calls Try.prog 39 #[.agg #[.bool g, .slice A m c], .agg #[.bool g', .slice B m' c']] w fun e w' => e = .returned (.int .i64 0) ∧ Below w.heap.size w w' := by
  have h1 := It.cmp g A m c x g' B m' c' y w h h'
  rw [cmpI_eq e] at h1; exact h1
theorem ncmp_same (A B : Option Addr) (m c m' c' a b : Nat) (w : World) (ha : NatS w (.slice A m c) a) (hb : NatS w (.slice B m' c') b) (e : a = b) :
    Calls Try.prog 45 #[.agg #[.slice A m c], .agg #[.slice B m' c']] w fun e w' => e = .returned (.int .i64 0) ∧ Below w.heap.size w w' := by
  have h1 := Nt.cmp A B m c m' c' a b w ha hb
  rw [cmpI_eq (by rw [e])] at h1; exact h1
end Rt
namespace Lw
theorem is_yes (g : Bool) (A : Option Addr) (m c : Nat) (D : Option Addr) (md cd : Nat) (a : Rat) (p q : Int) (w : World) (h : RatS w g (.slice A m c) (.slice D md cd) a) (hq : q ≠ 0) (hp : I64 p) (hq2 : I64 q) (ha : a = Rat.divInt p q) (hm : mw a ≤ 10000) :
    Calls Try.prog 22 #[.agg #[.bool g, .slice A m c, .slice D md cd], .int .i64 p, .int .i64 q] w fun e w' => e = .returned (.bool true) ∧ Below w.heap.size w w' := by
  have HQ := Lib.hid hq
  have HP := Lib.hid hp
  have HQ2 := Lib.hid hq2
  have HA := Lib.hid ha
  have HL := Lib.hid (show 4 * (mw a + mw (Rat.divInt p q)) + 8 ≤ LIM by rw [← ha]; have := LIM_eq; omega)
  have HN := Lib.hid (show a.num = (Rat.divInt p q).num by rw [ha])
  have HD := Lib.hid (show a.den = (Rat.divInt p q).den by rw [ha])
  clear hq hp hq2 ha hm
  generalize hr : Rat.divInt p q = r at *
  have HR := Lib.hid hr
  clear hr
  obtain ⟨W, hW⟩ : ∃ W, (w.alloc (.cells #[.bool g, .slice A m c, .slice D md cd] 40)) = W := ⟨_, rfl⟩
  have KB0 := Lib.hid (show W.heap[w.heap.size]? = some (.cells #[.bool g, .slice A m c, .slice D md cd] 40 (0, 0)) by rw [← hW]; exact blk_nw (by simp))
  have BB := Lib.hid (show Below w.heap.size w W by rw [← hW]; exact below_alloc w _)
  have HZ := Lib.hid (show w.heap.size + 1 ≤ W.heap.size by rw [← hW]; simp)
  have HX := Lib.hid (show RatS W g (.slice A m c) (.slice D md cd) a by rw [← hW]; exact (h).alloc _)
  obtain ⟨c0_0_0, c0_0_0d, c0_1_0, c0_1_0d, c0_2_0, c0_2_0d⟩ := bc3 KB0.out
  clear h
  go_enter Try.func22, Try.ntmps22
  go_wp2_with fail
  clear hW
  with_reducible refine (Rt.of p q HQ.out HP.out.1 HP.out.2 HQ2.out.1 HQ2.out.2 _).mono ?_
  rintro e w1 ⟨g2, A2, m2, c2, D2, md2, cd2, rfl, hn, hb⟩
  have KB0_1 := Lib.hid (show (w1.alloc (.cells #[.bool g2, .slice A2 m2 c2, .slice D2 md2 cd2] 40)).heap[w.heap.size]? = some (.cells #[.bool g, .slice A m c, .slice D md cd] 40 (0, 0)) from blk_al (keepBlk hb KB0.out))
  have HX_1 := Lib.hid (show RatS (w1.alloc (.cells #[.bool g2, .slice A2 m2 c2, .slice D2 md2 cd2] 40)) g (.slice A m c) (.slice D md cd) a from (HX.out.below hb).alloc _)
  have HY := Lib.hid (show RatS (w1.alloc (.cells #[.bool g2, .slice A2 m2 c2, .slice D2 md2 cd2] 40)) g2 (.slice A2 m2 c2) (.slice D2 md2 cd2) r from ((HR.out ▸ hn)).alloc _)
  have BB_1 := Lib.hid (show Below w.heap.size w (w1.alloc (.cells #[.bool g2, .slice A2 m2 c2, .slice D2 md2 cd2] 40)) from ((BB.out.trans ((hb).mono BB.out.size))).alloc ((BB.out.trans ((hb).mono BB.out.size))).size _)
  have KB1_1 := Lib.hid (show (w1.alloc (.cells #[.bool g2, .slice A2 m2 c2, .slice D2 md2 cd2] 40)).heap[w1.heap.size]? = some (.cells #[.bool g2, .slice A2 m2 c2, .slice D2 md2 cd2] 40 (0, 0)) from blk_nw (by simp))
  obtain ⟨c0_0_1, c0_0_1d, c0_1_1, c0_1_1d, c0_2_1, c0_2_1d⟩ := bc3 KB0_1.out
  obtain ⟨c1_0_1, c1_0_1d, c1_1_1, c1_1_1d, c1_2_1, c1_2_1d⟩ := bc3 KB1_1.out
  clear hn hb
  go_wp2_with fail
  go_region_held3 (fun w' => w'.cell? ⟨w.heap.size, 0, none⟩ = some (.bool g) ∧ w'.cell? ⟨w.heap.size, 1, none⟩ = some (.slice A m c) ∧ w'.cell? ⟨w.heap.size, 2, none⟩ = some (.slice D md cd) ∧ w'.cell? ⟨w1.heap.size, 0, none⟩ = some (.bool g2) ∧ w'.cell? ⟨w1.heap.size, 1, none⟩ = some (.slice A2 m2 c2) ∧ w'.cell? ⟨w1.heap.size, 2, none⟩ = some (.slice D2 md2 cd2))
    (((try go_split_ands); (try simp only [World.cell?_drew]); (repeat' apply And.intro) <;> (repeat (first | with_reducible assumption | with_reducible refine cell_set (by omega) ?_ | with_reducible refine cell_al ?_))))
    (first
      | (go_at_call 12; (with_reducible refine (Ct.same_yes g A m c D md cd a g2 A2 m2 c2 D2 md2 cd2 r _ HX_1.out.drew HY.out.drew HL.out HA.out).mono ?_); rintro e v1 ⟨rfl, hb⟩; have KB0_2 := Lib.hid (keepBlk hb KB0_1.out); have KB1_2 := Lib.hid (keepBlk hb KB1_1.out); have HX_2 := Lib.hid (HX_1.out.drew.below hb); have HY_2 := Lib.hid (HY.out.drew.below hb); have BB_2 := Lib.hid (BB_1.out.trans ((It.bdrew0' hb).mono BB_1.out.size)); obtain ⟨c0_0_2, c0_0_2d, c0_1_2, c0_1_2d, c0_2_2, c0_2_2d⟩ := bc3 KB0_2.out; obtain ⟨c1_0_2, c1_0_2d, c1_1_2, c1_1_2d, c1_2_2, c1_2_2d⟩ := bc3 KB1_2.out; clear hb)
      | (go_at_call 44; (with_reducible refine (Rt.num_of g A m c D md cd a _ HX_2.out).mono ?_); rintro e v2 ⟨g3, A3, m3, c3, rfl, hn, hb⟩; have KB0_3 := Lib.hid (keepBlk hb KB0_2.out); have KB1_3 := Lib.hid (keepBlk hb KB1_2.out); have HX_3 := Lib.hid (HX_2.out.below hb); have HY_3 := Lib.hid (HY_2.out.below hb); have HI := Lib.hid (show IntS v2 g3 (.slice A3 m3 c3) a.num from hn); have BB_3 := Lib.hid (BB_2.out.trans ((hb).mono BB_2.out.size)); obtain ⟨c0_0_3, c0_0_3d, c0_1_3, c0_1_3d, c0_2_3, c0_2_3d⟩ := bc3 KB0_3.out; obtain ⟨c1_0_3, c1_0_3d, c1_1_3, c1_1_3d, c1_2_3, c1_2_3d⟩ := bc3 KB1_3.out; clear hn hb)
      | (go_at_call 44; (with_reducible refine (Rt.num_of g2 A2 m2 c2 D2 md2 cd2 r _ HY_3.out).mono ?_); rintro e v3 ⟨g4, A4, m4, c4, rfl, hn, hb⟩; have KB0_4 := Lib.hid (keepBlk hb KB0_3.out); have KB1_4 := Lib.hid (keepBlk hb KB1_3.out); have HX_4 := Lib.hid (HX_3.out.below hb); have HY_4 := Lib.hid (HY_3.out.below hb); have HI_4 := Lib.hid (HI.out.below hb); have HJ := Lib.hid (show IntS v3 g4 (.slice A4 m4 c4) r.num from hn); have BB_4 := Lib.hid (BB_3.out.trans ((hb).mono BB_3.out.size)); obtain ⟨c0_0_4, c0_0_4d, c0_1_4, c0_1_4d, c0_2_4, c0_2_4d⟩ := bc3 KB0_4.out; obtain ⟨c1_0_4, c1_0_4d, c1_1_4, c1_1_4d, c1_2_4, c1_2_4d⟩ := bc3 KB1_4.out; clear hn hb)
      | (go_at_call 39; (with_reducible refine (Rt.icmp_same g3 A3 m3 c3 a.num g4 A4 m4 c4 r.num _ HI_4.out HJ.out HN.out).mono ?_); rintro e v4 ⟨rfl, hb⟩; have KB0_5 := Lib.hid (keepBlk hb KB0_4.out); have KB1_5 := Lib.hid (keepBlk hb KB1_4.out); have HX_5 := Lib.hid (HX_4.out.below hb); have HY_5 := Lib.hid (HY_4.out.below hb); have HI_5 := Lib.hid (HI_4.out.below hb); have HJ_5 := Lib.hid (HJ.out.below hb); have BB_5 := Lib.hid (BB_4.out.trans ((hb).mono BB_4.out.size)); obtain ⟨c0_0_5, c0_0_5d, c0_1_5, c0_1_5d, c0_2_5, c0_2_5d⟩ := bc3 KB0_5.out; obtain ⟨c1_0_5, c1_0_5d, c1_1_5, c1_1_5d, c1_2_5, c1_2_5d⟩ := bc3 KB1_5.out; clear hb)
      | (go_at_call 38; (with_reducible refine (Rt.den g A m c D md cd a _ HX_5.out).mono ?_); rintro e v5 ⟨A5, m5, c5, rfl, hn, hb⟩; have KB0_6 := Lib.hid (keepBlk hb KB0_5.out); have KB1_6 := Lib.hid (keepBlk hb KB1_5.out); have HX_6 := Lib.hid (HX_5.out.below hb); have HY_6 := Lib.hid (HY_5.out.below hb); have HI_6 := Lib.hid (HI_5.out.below hb); have HJ_6 := Lib.hid (HJ_5.out.below hb); have HK := Lib.hid (show NatS v5 (.slice A5 m5 c5) a.den from hn); have BB_6 := Lib.hid (BB_5.out.trans ((hb).mono BB_5.out.size)); obtain ⟨c0_0_6, c0_0_6d, c0_1_6, c0_1_6d, c0_2_6, c0_2_6d⟩ := bc3 KB0_6.out; obtain ⟨c1_0_6, c1_0_6d, c1_1_6, c1_1_6d, c1_2_6, c1_2_6d⟩ := bc3 KB1_6.out; clear hn hb)
      | (go_at_call 38; (with_reducible refine (Rt.den g2 A2 m2 c2 D2 md2 cd2 r _ HY_6.out).mono ?_); rintro e v6 ⟨A6, m6, c6, rfl, hn, hb⟩; have KB0_7 := Lib.hid (keepBlk hb KB0_6.out); have KB1_7 := Lib.hid (keepBlk hb KB1_6.out); have HX_7 := Lib.hid (HX_6.out.below hb); have HY_7 := Lib.hid (HY_6.out.below hb); have HI_7 := Lib.hid (HI_6.out.below hb); have HJ_7 := Lib.hid (HJ_6.out.below hb); have HK_7 := Lib.hid (HK.out.below hb); have HM := Lib.hid (show NatS v6 (.slice A6 m6 c6) r.den from hn); have BB_7 := Lib.hid (BB_6.out.trans ((hb).mono BB_6.out.size)); obtain ⟨c0_0_7, c0_0_7d, c0_1_7, c0_1_7d, c0_2_7, c0_2_7d⟩ := bc3 KB0_7.out; obtain ⟨c1_0_7, c1_0_7d, c1_1_7, c1_1_7d, c1_2_7, c1_2_7d⟩ := bc3 KB1_7.out; clear hn hb)
      | (go_at_call 45; (with_reducible refine (Rt.ncmp_same A5 A6 m5 c5 m6 c6 a.den r.den _ HK_7.out HM.out HD.out).mono ?_); rintro e v7 ⟨rfl, hb⟩; have KB0_8 := Lib.hid (keepBlk hb KB0_7.out); have KB1_8 := Lib.hid (keepBlk hb KB1_7.out); have HX_8 := Lib.hid (HX_7.out.below hb); have HY_8 := Lib.hid (HY_7.out.below hb); have HI_8 := Lib.hid (HI_7.out.below hb); have HJ_8 := Lib.hid (HJ_7.out.below hb); have HK_8 := Lib.hid (HK_7.out.below hb); have HM_8 := Lib.hid (HM.out.below hb); have BB_8 := Lib.hid (BB_7.out.trans ((hb).mono BB_7.out.size)); obtain ⟨c0_0_8, c0_0_8d, c0_1_8, c0_1_8d, c0_2_8, c0_2_8d⟩ := bc3 KB0_8.out; obtain ⟨c1_0_8, c1_0_8d, c1_1_8, c1_1_8d, c1_2_8, c1_2_8d⟩ := bc3 KB1_8.out; clear hb)
      | fail)
  all_goals
    go_wp2
    go_ret
    exact ⟨rfl, BB_8.out⟩
end Lw
end Go.Proofs.Ytohkhcbocknliaa
