/- quot.take by its contract. Conditions: as each says. quot.back by its contract. Conditions: as it says. Conditions: as they say. -/
import Derived.Test.YtohkhcbocknliaaQuot2M
namespace Go.Proofs.Ytohkhcbocknliaa
open Go.RowKit Am
attribute [local go_sem ↓] Go.wp_at_zero Go.wp_at_succ
set_option maxHeartbeats 1000000
set_option maxRecDepth 100000
/-- In w1 the block H is a row of n words os, the call's own, with room for cp; all else of w is as in w. -/
structure OutC (w w1 : World) (H n cp : Nat) (os : List Nat) : Prop where
  own : w1.ownsRow H 95 1 (.slice (some ⟨H, 0, none⟩) n cp) n (wcells os)
  bel : w.grownBy w1 (some H)
  len : os.length = n
theorem grown_step {w w1 w2 : World} {r : Option Nat} (h : w.grownBy w1 r) (hb : Below w1.heap.size w1 w2) : w.grownBy w2 r :=
  ⟨hb.os.trans h.os, hb.tape.trans h.tape, hb.output.trans h.output, Nat.le_trans h.size hb.size, fun k hk hr => (hb.block k (Nat.lt_of_lt_of_le hk h.size)).trans (h.block k hk hr)⟩
theorem grown_trans {a b c : World} {r : Option Nat} (h : a.grownBy b r) (k : b.grownBy c r) : a.grownBy c r :=
  ⟨k.os.trans h.os, k.tape.trans h.tape, k.output.trans h.output, Nat.le_trans h.size k.size, fun i hi hr => (k.block i (Nat.lt_of_lt_of_le hi h.size) hr).trans (h.block i hi hr)⟩
namespace OutC
variable {w w1 w2 : World} {H n cp : Nat} {os : List Nat}
theorem lt (h : OutC w w1 H n cp os) : H < w1.heap.size := (h.own.lt H rfl).2
theorem step (h : OutC w w1 H n cp os) (hb : Below w1.heap.size w1 w2) : OutC w w2 H n cp os :=
  ⟨⟨h.own.1, by
      rcases h.own.2 with h2 | ⟨g, cap, cur, hv, hg, hh, r⟩
      · exact .inl h2
      · exact .inr ⟨g, cap, cur, hv, hg, by rw [hb.block g (Array.getElem?_eq_some_iff.1 hh).1]; exact hh, r⟩⟩, grown_step h.bel hb, h.len⟩
theorem alloc (h : OutC w w1 H n cp os) (o : Obj) : OutC w (w1.alloc o) H n cp os := h.step (below_alloc w1 o)
theorem drewN (h : OutC w w1 H n cp os) (k : Nat) : OutC w (w1.drewN k) H n cp os := h.step (below_drewN' w1 k)
theorem drew (h : OutC w w1 H n cp os) : OutC w w1.drew H n cp os := h.drewN 1
theorem store (h : OutC w w1 H n cp os) (k v : Nat) : OutC w (w1.setCell ⟨H, k, none⟩ (.int .u64 (v : Int))) H n cp (os.set k v) :=
  ⟨by rw [wcells_set]; exact (h.own.stored k _).1, grown_trans h.bel (h.own.stored k _).2, by rw [List.length_set]; exact h.len⟩
theorem cell (h : OutC w w1 H n cp os) {k : Nat} (hk : k < n) : w1.cell? ⟨H, k, none⟩ = some (.int .u64 ((wd os k : Nat) : Int)) := by
  rw [h.own.cellAt k (by omega), wcells_get (by rw [h.len]; exact hk)]
theorem fro (h : OutC w w1 H n cp os) (k : Nat) : w1.frozen? ⟨H, k, none⟩ = false := h.own.frozenAt k
theorem keep (h : OutC w w1 H n cp os) {s : Value} {xs : List Nat} (hs : SW w s xs) (hH : s.ownBlock ≠ some H) : SW w1 s xs :=
  hs.keep fun k hk => h.bel.block k (hs.block hk) (fun e => hH (by rw [hk, e]))
theorem sw (h : OutC w w1 H n cp os) (hw : Wds os) : SW w1 (.slice (some ⟨H, 0, none⟩) n cp) os := by
  have := h.own; have hl := h.len; subst hl; exact SW.of_own this hw
end OutC
theorem natb1 (b : Nat) : ((b : Int) == 1) = (b == 1) := by
  by_cases h : b = 1
  · subst h; rfl
  · rw [beq_eq_false_iff_ne.2 h, beq_eq_false_iff_ne.2 (by omega)]
namespace Qt
theorem take (W w : World) (H n cap k cp q : Nat) (os vs : List Nat) (A : Option Addr) (c : Nat) (hO : OutC W w H n cap os) (hv : SW W (.slice A vs.length c) vs) (hH : (Value.slice A vs.length c).ownBlock ≠ some H) (ho : Wds os) (hq : q < 18446744073709551616) (hk : k + vs.length < n) (_ : vs.length + 1 ≤ cp) (hn : n ≤ 2 * LIM) :
    Calls Try.prog 84 #[.slice (some ⟨H, k, none⟩) (vs.length + 1) cp, .agg #[.slice A vs.length c], .int .u64 (q : Int)] w fun e w' => ∃ (b : Nat) (os' : List Nat), e = .returned (.bool (b == 1)) ∧ b ≤ 1 ∧ OutC W w' H n cap os' ∧
      Wds os' ∧ SameOut os os' k (k + vs.length + 1) ∧ nval os' + B64 ^ k * (q * nval vs) = nval os + B64 ^ (k + vs.length + 1) * b := by
  have HO := Lib.hid hO
  have HV := Lib.hid hv
  have HW := Lib.hid ho
  have hvb : vs.length ≤ 9223372036854775806 := by have := LIM_eq; omega
  clear hO hv ho
  have hb0 : OutC W (w.alloc (.cells #[.slice A vs.length c] 36)) H n cap os := HO.out.alloc _
  have hc0 : (w.alloc (.cells #[.slice A vs.length c] 36)).cell? ⟨w.heap.size, 0, none⟩ = some (.slice A vs.length c) := cell_nw rfl rfl
  have hlt := HO.out.lt
  go_enter Try.func84, Try.ntmps84
  go_wp2_with fail
  generalize hw1 : w.alloc (.cells #[.slice A vs.length c] 36) = w1 at *
  clear hw1
  have hne : w.heap.size ≠ H := by omega
  generalize w.heap.size = B at *
  refine (Nt.len (.slice A vs.length c) vs _ (hb0.keep HV.out hH)).mono ?_
  rintro e w' ⟨rfl, rfl⟩
  have hb1 := Lib.hid (hb0.alloc (.cells #[.slice A vs.length c] 36))
  have hc1 := Lib.hid (cell_al (ob := .cells #[.slice A vs.length c] 36) hc0)
  clear hb0 hc0
  generalize w1.alloc (.cells #[.slice A vs.length c] 36) = w2 at *
  go_wp2_with fail
  go_loopw [7, 8, 14] (fun ov bv kv wr => ∃ (j V Bo : Nat) (os' : List Nat), kv = .int .i64 j ∧ ov = .int .u64 V ∧ bv = .int .u64 Bo ∧ j ≤ vs.length ∧ TakeInv os os' vs k q j V Bo ∧ OutC W wr H n cap os' ∧ wr.cell? ⟨B, 0, none⟩ = some (.slice A vs.length c))
    (fun _ _ kv _ => vs.length - (intOf kv).toNat)
  case atStart => exact ⟨0, 0, 0, os, rfl, rfl, rfl, Nat.zero_le _, TakeInv.start os vs k q HW.out, hb1.out, hc1.out⟩
  case round =>
    obtain ⟨j, V, Bo, os', rfl, rfl, rfl, hj, hI, hO, hc⟩ := hrel
    have hV : V < 18446744073709551616 := hI.ovr
    have hBo : Bo ≤ 1 := hI.one
    have HI := Lib.hid hI
    clear hI
    by_cases hjt : j < vs.length
    · have hvr := Lib.hid (hO.keep HV.out hH)
      have hvj := wd_lt HV.out.2 j
      have hoj := wd_lt HI.out.wds (k + j)

      have hcell := cell_al (ob := .cells #[.slice A vs.length c] 36) (hO.cell (k := k + j) (by omega))
      have hfro := fro_al (ob := .cells #[.slice A vs.length c] 36) hO.lt (hO.fro (k + j))
      have hj0 : (0 : Int) ≤ (j : Int) := Int.natCast_nonneg _
      have hj1 : (j : Int) < (vs.length : Int) + 1 := by omega
      have HO2 := Lib.hid hO
      clear hO
      go_wp2_with (first
        | (go_at_call 64; (with_reducible refine (Nt.word (.slice A vs.length c) vs _ hj0 _ hvr.out).mono ?_); rintro e w' ⟨rfl, rfl⟩)
        | (go_at_call 70; (refine (Word.mulAdd (wd vs j) q V 0 hvj hq hV (by decide) _).mono ?_); rintro e w' ⟨rfl, rfl⟩)
        | (go_at_call 66; (refine (Word.sub (wd os' (k + j)) (mulLo (wd vs j) q V 0) Bo hoj (mulLo_lt _ _ _ _) hBo _).mono ?_); rintro e w' ⟨rfl, rfl⟩))
      exact ⟨⟨j + 1, _, _, _, by go_num, rfl, rfl, by omega, HI.out.next hq HV.out.2 (by rw [← HI.out.out.1, HO2.out.len]; omega), (HO2.out.alloc _).store (k + j) _, cell_set hne (cell_al hc)⟩, by simp [intOf]; omega⟩
    · obtain rfl : j = vs.length := by omega
      have hvr : Hid (SW wr.drew (.slice A vs.length c) vs) := Lib.hid (hO.drew.keep HV.out hH)
      have hvr2 : Hid (SW (wr.alloc (.cells #[.slice A vs.length c] 36)).drew (.slice A vs.length c) vs) := Lib.hid ((hO.alloc (.cells #[.slice A vs.length c] 36)).drew.keep HV.out hH)
      have hoj := wd_lt HI.out.wds (k + vs.length)
      have hcell : ((wr.alloc (.cells #[.slice A vs.length c] 36)).alloc (.cells #[.slice A vs.length c] 36)).drew.cell? ⟨H, k + vs.length, none⟩ = some (.int .u64 ((wd os' (k + vs.length) : Nat) : Int)) := cell_al (cell_al (hO.cell (k := k + vs.length) (by omega)))
      have hfro : ((wr.alloc (.cells #[.slice A vs.length c] 36)).alloc (.cells #[.slice A vs.length c] 36)).drew.frozen? ⟨H, k + vs.length, none⟩ = false := fro_al (lt_al hO.lt) (fro_al hO.lt (hO.fro (k + vs.length)))
      have hc0 : wr.drew.cell? ⟨B, 0, none⟩ = some (.slice A vs.length c) := hc
      have hcc : (wr.alloc (.cells #[.slice A vs.length c] 36)).drew.cell? ⟨B, 0, none⟩ = some (.slice A vs.length c) := cell_al hc
      have hj0 : (0 : Int) ≤ (vs.length : Int) := Int.natCast_nonneg _
      have hj1 : (vs.length : Int) < (vs.length : Int) + 1 := by omega
      have HO2 := Lib.hid hO
      clear hO
      go_wp2_with fail
      go_region_with (first
        | (go_at_call 55; (first | with_reducible refine (Nt.len (.slice A vs.length c) vs _ hvr.out).mono ?_ | with_reducible refine (Nt.len (.slice A vs.length c) vs _ hvr2.out).mono ?_); rintro e w' ⟨rfl, rfl⟩)
        | (go_at_call 66; (refine (Word.sub (wd os' (k + vs.length)) V Bo hoj hV hBo _).mono ?_); rintro e w' ⟨rfl, rfl⟩))
      all_goals
        (go_wp2
         go_ret
         have hf := HI.out.fin (by rw [← HI.out.out.1, HO2.out.len]; omega)
         exact ⟨_, _, by rw [← natb1]; rfl, subC_le _ _ _, (((HO2.out.alloc _).alloc _).store (k + vs.length) _).drew, hf.1, hf.2.1, hf.2.2⟩)
end Qt
end Go.Proofs.Ytohkhcbocknliaa
namespace Go.Proofs.Ytohkhcbocknliaa
open Go.RowKit Am
attribute [local go_sem ↓] Go.wp_at_zero Go.wp_at_succ
set_option maxHeartbeats 1000000
set_option maxRecDepth 100000
namespace Qt
theorem back (W w : World) (H n cap k cp : Nat) (os vs : List Nat) (A : Option Addr) (c : Nat) (hO : OutC W w H n cap os) (hv : SW W (.slice A vs.length c) vs) (hH : (Value.slice A vs.length c).ownBlock ≠ some H) (ho : Wds os) (hk : k + vs.length < n) (hn : n ≤ 2 * LIM) :
    Calls Try.prog 85 #[.slice (some ⟨H, k, none⟩) (vs.length + 1) cp, .agg #[.slice A vs.length c]] w fun e w' => ∃ os' : List Nat, e = .returned (.tuple #[]) ∧ OutC W w' H n cap os' ∧
      Wds os' ∧ SameOut os os' k (k + vs.length + 1) ∧ ∃ b, nval os' + B64 ^ (k + vs.length + 1) * b = nval os + B64 ^ k * nval vs := by
  have HO := Lib.hid hO
  have HV := Lib.hid hv
  have HW := Lib.hid ho
  have hvb : vs.length ≤ 9223372036854775806 := by have := LIM_eq; omega
  clear hO hv ho
  have hb0 : OutC W (w.alloc (.cells #[.slice A vs.length c] 36)) H n cap os := HO.out.alloc _
  have hc0 : (w.alloc (.cells #[.slice A vs.length c] 36)).cell? ⟨w.heap.size, 0, none⟩ = some (.slice A vs.length c) := cell_nw rfl rfl
  have hlt := HO.out.lt
  go_enter Try.func85, Try.ntmps85
  go_wp2_with fail
  generalize hw1 : w.alloc (.cells #[.slice A vs.length c] 36) = w1 at *
  clear hw1
  have hne : w.heap.size ≠ H := by omega
  generalize w.heap.size = B at *
  refine (Nt.len (.slice A vs.length c) vs _ (hb0.keep HV.out hH)).mono ?_
  rintro e w' ⟨rfl, rfl⟩
  have hb1 := Lib.hid (hb0.alloc (.cells #[.slice A vs.length c] 36))
  have hc1 := Lib.hid (cell_al (ob := .cells #[.slice A vs.length c] 36) hc0)
  clear hb0 hc0
  generalize w1.alloc (.cells #[.slice A vs.length c] 36) = w2 at *
  go_wp2_with fail
  go_loopw [4, 8] (fun bv kv wr => ∃ (j Bo : Nat) (os' : List Nat), kv = .int .i64 j ∧ bv = .int .u64 Bo ∧ j ≤ vs.length ∧ BackInv os os' vs k j Bo ∧ OutC W wr H n cap os' ∧ wr.cell? ⟨B, 0, none⟩ = some (.slice A vs.length c))
    (fun _ kv _ => vs.length - (intOf kv).toNat)
  case atStart => exact ⟨0, 0, os, rfl, rfl, Nat.zero_le _, BackInv.start os vs k HW.out, hb1.out, hc1.out⟩
  case round =>
    obtain ⟨j, Bo, os', rfl, rfl, hj, hI, hO, hc⟩ := hrel
    have hBo : Bo ≤ 1 := hI.one
    have HI := Lib.hid hI
    clear hI
    by_cases hjt : j < vs.length
    · have hvr : Hid (SW wr.drew (.slice A vs.length c) vs) := Lib.hid (hO.drew.keep HV.out hH)
      have hvj := wd_lt HV.out.2 j
      have hoj := wd_lt HI.out.wds (k + j)
      have hcell0 : wr.drew.cell? ⟨H, k + j, none⟩ = some (.int .u64 ((wd os' (k + j) : Nat) : Int)) := hO.cell (k := k + j) (by omega)
      have hcell : (wr.alloc (.cells #[.slice A vs.length c] 36)).drew.cell? ⟨H, k + j, none⟩ = some (.int .u64 ((wd os' (k + j) : Nat) : Int)) := cell_al (hO.cell (k := k + j) (by omega))
      have hfro : (wr.alloc (.cells #[.slice A vs.length c] 36)).drew.frozen? ⟨H, k + j, none⟩ = false := fro_al hO.lt (hO.fro (k + j))
      have hc0 : wr.drew.cell? ⟨B, 0, none⟩ = some (.slice A vs.length c) := hc
      have hcc : (wr.alloc (.cells #[.slice A vs.length c] 36)).drew.cell? ⟨B, 0, none⟩ = some (.slice A vs.length c) := cell_al hc
      have hj0 : (0 : Int) ≤ (j : Int) := Int.natCast_nonneg _
      have hj1 : (j : Int) < (vs.length : Int) + 1 := by omega
      have hj2 : (j : Int) < (vs.length : Int) := by omega
      have HO2 := Lib.hid hO
      have HC := Lib.hid hc
      clear hO hc
      go_wp2_with fail
      go_region_with (first
        | (go_at_call 64; (with_reducible refine (Nt.word (.slice A vs.length c) vs _ hj0 _ hvr.out).mono ?_); rintro e w' ⟨rfl, rfl⟩)
        | (go_at_call 63; (refine (Word.add (wd os' (k + j)) (wd vs j) Bo hoj hvj hBo _).mono ?_); rintro e w' ⟨rfl, rfl⟩))
      all_goals
        (go_wp2
         exact ⟨⟨j + 1, _, _, by go_num, rfl, by omega, HI.out.next HV.out.2 (by rw [← HI.out.out.1, HO2.out.len]; omega), ((HO2.out.alloc _).store (k + j) _).drew, cell_set hne (cell_al HC.out)⟩, by simp [intOf]; omega⟩)
    · obtain rfl : j = vs.length := by omega
      have hvr : Hid (SW wr (.slice A vs.length c) vs) := Lib.hid (hO.keep HV.out hH)
      have hoj := wd_lt HI.out.wds (k + vs.length)
      have hcell := cell_al (ob := .cells #[.slice A vs.length c] 36) (hO.cell (k := k + vs.length) (by omega))
      have hfro := fro_al (ob := .cells #[.slice A vs.length c] 36) hO.lt (hO.fro (k + vs.length))
      have hj0 : (0 : Int) ≤ (vs.length : Int) := Int.natCast_nonneg _
      have hj1 : (vs.length : Int) < (vs.length : Int) + 1 := by omega
      have HO2 := Lib.hid hO
      clear hO
      have hw : IntKind.u64.wrap (((wd os' (k + vs.length) : Nat) : Int) + ((Bo : Nat) : Int)) = ((addW (wd os' (k + vs.length)) Bo 0 : Nat) : Int) := by rw [IntKind.wrap_u64]; unfold addW B64; omega
      have HWR := Lib.hid hw
      clear hw
      go_wp2_with fail
      refine (Nt.len (.slice A vs.length c) vs _ hvr.out).mono ?_
      rintro e w' ⟨rfl, rfl⟩
      go_wp2
      rw [HWR.out]
      have hf := HI.out.fin (by rw [← HI.out.out.1, HO2.out.len]; omega)
      exact bodyPost_end (v := .tuple #[]) (by simp [results, Try.results85, go_sem]) rfl ⟨_, rfl, (HO2.out.alloc _).store (k + vs.length) _, hf.1, hf.2.1, hf.2.2⟩
end Qt
end Go.Proofs.Ytohkhcbocknliaa
