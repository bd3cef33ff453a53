/- Copies of words that are the call's own; append of two noughts. Conditions: as each says. Numbers shifted so that the divisor's highest bit is 1. Plain arithmetic. Conditions: as they say. -/
import Derived.Test.YtohkhcbocknliaaQuot6M
namespace Go.Proofs.Ytohkhcbocknliaa
open Go.RowKit Am
attribute [local go_sem ↓] Go.wp_at_zero Go.wp_at_succ
set_option maxHeartbeats 1000000
set_option maxRecDepth 100000
/-- What a call that hands back words of its own says. -/
def RetFresh (w : World) (xs : List Nat) (e : Ending) (w' : World) : Prop := ∃ (A : Option Addr) (m c : Nat), e = .returned (.slice A m c) ∧ w'.ownsRow w.heap.size 95 1 (.slice A m c) xs.length (wcells xs) ∧ Wds xs ∧ Below w.heap.size w w'
theorem canon_top {xs : List Nat} (h : Canon xs) (hn : 0 < xs.length) : wd xs (xs.length - 1) ≠ 0 := by
  have h1 := h (by intro e; subst e; simp at hn)
  rw [List.getLast_eq_getElem] at h1
  unfold wd
  rw [List.getD_eq_getElem?_getD, List.getElem?_eq_getElem (by omega)]
  exact h1
theorem own_cut {w : World} {H g n cap : Nat} {e : TypeId} {size : Nat} {xs : List Value} (h : w.ownsRow H e size (.slice (some ⟨g, 0, none⟩) n cap) n xs) (i : Nat) (hi : i ≤ n) :
    w.ownsRow g e size (.slice (some ⟨g, 0, none⟩) i cap) i (xs.take (i * size)) := by
  have hl : i * size ≤ n * size := Nat.mul_le_mul_right _ hi
  refine ⟨by rw [List.length_take, h.1]; omega, ?_⟩
  rcases h.2 with ⟨h', _⟩ | ⟨g', cap', cur, h', hb, hg, hnc, hcm, hcs, htake⟩
  · simp at h'
  · simp only [Value.slice.injEq, Option.some.injEq, Addr.mk.injEq, and_true, true_and] at h'
    obtain ⟨rfl, rfl⟩ := h'
    refine .inr ⟨g, cap, cur, rfl, Nat.le_refl _, hg, by omega, hcm, hcs, ?_⟩
    rw [← htake, List.take_take, Nat.min_eq_left hl]
theorem own_form {w : World} {base : Nat} {e : TypeId} {size : Nat} {v : Value} {n : Nat} {xs : List Value} (h : w.ownsRow base e size v n xs) (hn : 0 < n) : ∃ g cp, v = .slice (some ⟨g, 0, none⟩) n cp ∧ n ≤ cp ∧ base ≤ g := by
  rcases h.2 with ⟨_, h0⟩ | ⟨g, cap, cur, rfl, hb, _, hc, _⟩
  · omega
  · exact ⟨g, cap, rfl, hc, hb⟩
theorem row_below {B : Nat} {e : TypeId} {k : Nat} {v : Value} {n : Nat} {xs : List Value} {w w' : World} (h : w.ownsRow B e k v n xs) (hb : Below w.heap.size w w') : w'.ownsRow B e k v n xs := by
  refine ⟨h.1, ?_⟩
  rcases h.2 with hn | ⟨g, cap, cur, hv, hB, hg, r⟩
  · exact .inl hn
  · exact .inr ⟨g, cap, cur, hv, hB, by rw [hb.block g (Array.getElem?_eq_some_iff.1 hg).1]; exact hg, r⟩
theorem own_take {w : World} {H g n cap k : Nat} {ys : List Nat} (h : w.ownsRow H 95 1 (.slice (some ⟨g, 0, none⟩) n cap) n (wcells ys)) (hk : k ≤ n) :
    w.ownsRow g 95 1 (.slice (some ⟨g, 0, none⟩) k cap) k (wcells (ys.take k)) := by
  have := own_cut h k hk
  rw [Nat.mul_one, ← wcells_take] at this
  exact this
namespace Nt
theorem cloneF (s : Value) (xs : List Nat) (w : World) (h : SR w s xs) (hb : xs.length ≤ LIM) : Calls Try.prog 72 #[s] w (RetFresh w xs) := by
  obtain ⟨A, c, rfl, hlc, hc9, hw, hnil, hcell⟩ := h
  have hWD := Lib.hid hw
  clear hw
  rcases A with _ | ad
  · obtain ⟨rfl, rfl⟩ := hnil rfl
    clear hcell hnil
    have hq := fun (w : World) => Lib.run_eql_slice_nil (P := Try.prog) w 34 95 none 0 0 0 0 Try.underlying34
    go_enter Try.func72, Try.ntmps72
    go_wp2
    go_ret
    exact ⟨_, _, _, rfl, World.ownsRow_nil _ _ _ _, Wds.nil, Below.refl _ _⟩
  · have HC := Lib.hid (hcell ad rfl)
    clear hcell hnil
    have hq := fun (w : World) => Lib.run_eql_slice_nil (P := Try.prog) w 34 95 (some ad) xs.length c 0 0 Try.underlying34
    obtain ⟨i0, hi, hz0, hz1, hz2⟩ := info_parts info_u64
    have hown := World.ownsRow_made (e := 95) (size := 1) (base := w.heap.size) w #[] 0 (Nat.le_refl _) (by unfold maxLen; omega) rfl
    have hnews : ∀ j u, (wcells xs)[j]? = some u → (w.alloc (.cells #[] 95)).cell? (ad.add j) = some u := fun j u hu =>
      (World.cell?_alloc_lt w _ _ (World.block_lt_of_cell? w _ (HC.out j u hu))).trans (HC.out j u hu)
    have HO := Lib.hid hown
    have HN := Lib.hid hnews
    have b1 : 0 + xs.length ≤ maxLen := by unfold maxLen; omega
    have b2 : (0 + xs.length) * 8 ≤ 140737488355328 := by have := LIM_eq; omega
    have B1 := Lib.hid b1
    have B2 := Lib.hid b2
    clear hown hnews b1 b2 hb hlc hc9
    go_enter Try.func72, Try.ntmps72
    go_wp2_with (at_builtin; refine wpList_append_own _ rfl _ _ 34 rfl w.heap.size 95 i0 (.int .u64 0) 1 8 Try.underlying34 hi hz0 hz1 hz2 rfl (by decide) _ _ _ rfl HO.out ad xs.length c (wcells xs) rfl (by rw [wcells_len]; omega) HN.out (wcells_one xs) B1.out B2.out (by simp) ?_; intro v' w1 hown' hgrow hnil')
    go_ret
    rw [Nat.zero_add, List.nil_append] at hown'
    have hs' := SW.of_own hown' hWD.out
    obtain ⟨A', m', c', rfl⟩ := hs'.slice
    exact ⟨A', m', c', rfl, hown', hWD.out, (below_alloc w _).trans ((Below.refl _ _).grown hgrow (by simp) (fun k hk => by cases hk; exact Nat.le_refl _))⟩
theorem wordsF (A : Option Addr) (m c : Nat) (xs : List Nat) (w : World) (h : SW w (.slice A m c) xs) (hb : xs.length ≤ LIM) : Calls Try.prog 71 #[.agg #[.slice A m c]] w (RetFresh w xs) := by
  have h2 := (h.alloc (.cells #[.slice A m c] 36)).reads
  have H2 := Lib.hid h2
  have HB := Lib.hid hb
  clear h h2 hb
  go_enter Try.func71, Try.ntmps71
  go_wp2_with fail
  refine (cloneF _ xs _ H2.out HB.out).mono ?_
  rintro e w1 ⟨A1, m1, c1, rfl, hs1, hw1, hb1⟩
  go_wp2
  go_ret
  exact ⟨_, _, _, rfl, ownsRow_base hs1 (by simp), hw1, bstep (below_alloc w _) hb1 (by simp)⟩
end Nt
theorem lit2 (w : World) (n : Nat) (hn : w.heap.size = n) (j : Nat) (u : Value) (h : (wcells [0, 0])[j]? = some u) : (w.alloc (.cells #[.int .u64 0, .int .u64 0] 95)).cell? ((⟨n, 0, none⟩ : Addr).add j) = some u := by
  subst hn
  rw [show (⟨w.heap.size, 0, none⟩ : Addr).add j = ⟨w.heap.size, j, none⟩ by unfold Addr.add; split <;> simp_all]
  exact (blk_cell (blk_new w _ _) j).trans (by match j, h with | 0, h => simpa [wcells] using h | 1, h => simpa [wcells] using h | j + 2, h => simp [wcells] at h)
/-- append of words to a row of the call's own that lies above H. -/
theorem step_appendW {ops : Array Oper} {o : Oper} {a : Act} {w : World} {K : Act → World → Prop} {Q : Exit → Act → World → Prop} {E : Prop} (hg : o.guard = none)
    (s x : Operand) (hop : o.op = .call { callee := .builtin .append, args := #[s, x], argTypes := #[34, 34] })
    {H n : Nat} {v : Value} {ys xs : List Nat} (hO : w.ownsRow H 95 1 v n (wcells ys)) (hs : a.eval s = v) {ad : Addr} {m c : Nat} (hx : a.eval x = .slice (some ad) m c) (hm : m = xs.length)
    (hnews : ∀ j u, (wcells xs)[j]? = some u → w.cell? (ad.add j) = some u) (hl : n + xs.length ≤ 2 * LIM) (hH : H ≤ w.heap.size)
    (hK : ∀ v' w', w'.ownsRow H 95 1 v' (n + xs.length) (wcells (ys ++ xs)) → w.grownBy w' v.ownBlock → K (a.put o.dst v') w') :
    if Region.wanted o (yielded ops a.tmps) = true then Oper.wp Try.prog o a w K Q else E := by
  have hw : Region.wanted o (yielded ops a.tmps) = true := by simp [Region.wanted, hg]
  rw [if_pos hw]
  subst hm
  obtain ⟨i0, hi, hz0, hz1, hz2⟩ := info_parts info_u64
  refine wp_append_own w s x 34 hop H 95 i0 (.int .u64 0) 1 8 Try.underlying34 hi hz0 hz1 hz2 rfl (by decide) v n _ hs hO ad xs.length c (wcells xs) hx (by rw [wcells_len]; omega) hnews (wcells_one xs)
    (by unfold maxLen; have := LIM_eq; omega) (by have := LIM_eq; omega) hH fun v' w' hown hgrow _ => ?_
  rw [← wcells_append] at hown
  exact hK v' w' hown hgrow
end Go.Proofs.Ytohkhcbocknliaa
namespace Go.Proofs.Ytohkhcbocknliaa
open Go.RowKit Am
namespace Qt
theorem nval_top {ys : List Nat} {L : Nat} (hL : ys.length = L + 1) : nval ys = nval (ys.take L) + B64 ^ L * wd ys L := by
  have h := nval_take_drop ys L (by omega)
  have h2 : ys.drop L = [wd ys L] := by
    rw [List.drop_eq_getElem_cons (by omega), List.drop_of_length_le (by omega)]
    unfold wd
    rw [List.getD_eq_getElem?_getD, List.getElem?_eq_getElem (by omega)]
    rfl
  rw [h2] at h
  simpa [nval] using h
/-- the divisor, shifted: of as many words, its top bit 1 -/
theorem norm_bounds {ys : List Nat} {L top s : Nat} (hw : Wds ys) (hL : ys.length = L + 1) (ht : wd ys L = top) (h0 : 0 < top) (hs : 64 - blen top = s) :
    nval ys * 2 ^ s < B64 ^ (L + 1) ∧ 2 ^ 63 * B64 ^ L ≤ nval ys * 2 ^ s := by
  have e := nval_top hL
  rw [ht] at e
  have hlo := take_lt ys L hw
  have htl : top < 18446744073709551616 := by rw [← ht]; exact wd_lt hw L
  have hb64 := blen_64 htl
  have hbp := blen_pos h0
  have h1 : top < 2 ^ blen top := blen_le.1 (Nat.le_refl _)
  have h2 : 2 ^ (blen top - 1) ≤ top := lt_blen.1 (by omega)
  have e64 : 2 ^ blen top * 2 ^ s = B64 := by rw [← Nat.pow_add, show blen top + s = 64 by omega]
  have e63 : 2 ^ (blen top - 1) * 2 ^ s = 2 ^ 63 := by rw [← Nat.pow_add, show blen top - 1 + s = 63 by omega]
  have hp : 0 < 2 ^ s := Nat.pow_pos (by decide)
  constructor
  · have h3 : nval ys < B64 ^ L * 2 ^ blen top := by
      have : B64 ^ L * (top + 1) ≤ B64 ^ L * 2 ^ blen top := Nat.mul_le_mul_left _ h1
      rw [Nat.mul_add, Nat.mul_one] at this
      omega
    have h4 := Nat.mul_lt_mul_of_pos_right h3 hp
    rw [Nat.mul_assoc, e64] at h4
    rw [Nat.pow_succ]
    exact h4
  · have h3 : B64 ^ L * 2 ^ (blen top - 1) ≤ nval ys := by
      have : B64 ^ L * 2 ^ (blen top - 1) ≤ B64 ^ L * top := Nat.mul_le_mul_left _ h2
      omega
    have h4 := Nat.mul_le_mul_right (2 ^ s) h3
    rw [Nat.mul_assoc, e63] at h4
    rw [Nat.mul_comm]
    exact h4
theorem norm_top {vs : List Nat} {N L : Nat} (hw : Wds vs) (hc : Canon vs) (hn : nval vs = N) (h1 : N < B64 ^ (L + 1)) (h2 : 2 ^ 63 * B64 ^ L ≤ N) : vs.length = L + 1 ∧ 9223372036854775808 ≤ wd vs L := by
  have hlen := len_canon vs hw hc
  have hp : 0 < B64 ^ L := Nat.pow_pos (by decide)
  have hl : vs.length = L + 1 := by
    rw [hlen, hn]
    have a1 : wlen N ≤ L + 1 := wlen_le_of_lt h1
    have a2 : ¬ wlen N ≤ L := by
      rw [wlen_spec]
      have : 1 * B64 ^ L ≤ 2 ^ 63 * B64 ^ L := Nat.mul_le_mul_right _ (by decide)
      omega
    omega
  refine ⟨hl, ?_⟩
  have e := nval_top hl
  have hlo := take_lt vs L hw
  rw [hn] at e
  rcases Nat.lt_or_ge (wd vs L) 9223372036854775808 with h | h
  · exfalso
    have h3 : B64 ^ L * (wd vs L + 1) ≤ B64 ^ L * 2 ^ 63 := Nat.mul_le_mul_left _ h
    rw [Nat.mul_add, Nat.mul_one] at h3
    rw [Nat.mul_comm (2 ^ 63)] at h2
    omega
  · exact h
/-- the first window: what stands above it is below the divisor -/
theorem first_lt {us vs : List Nat} {a s n L : Nat} (hu : us.length = n + 1) (hn : nval us = a * 2 ^ s) (ha : a < B64 ^ n) (hs : s < 64) (hL : L + 1 ≤ n) (hv : 2 ^ 63 * B64 ^ L ≤ nval vs) : nval (us.drop (n - L)) < nval vs := by
  have e := nval_take_drop us (n - L) (by omega)
  have hp : 0 < B64 ^ (n - L) := Nat.pow_pos (by decide)
  have h1 : a * 2 ^ s < B64 ^ n * 2 ^ s := Nat.mul_lt_mul_of_pos_right ha (Nat.pow_pos (by decide))
  have h2 : B64 ^ n = B64 ^ (n - L) * B64 ^ L := by rw [← Nat.pow_add]; congr 1; omega
  have h3 : B64 ^ (n - L) * nval (us.drop (n - L)) < B64 ^ (n - L) * (B64 ^ L * 2 ^ s) := by
    rw [← Nat.mul_assoc, ← h2]; omega
  have h4 := Nat.lt_of_mul_lt_mul_left h3
  have h5 : B64 ^ L * 2 ^ s ≤ B64 ^ L * 2 ^ 63 := Nat.mul_le_mul_left _ (Nat.pow_le_pow_right (by decide) (by omega))
  rw [Nat.mul_comm (2 ^ 63)] at hv
  omega
theorem pad_val {xs : List Nat} {n : Nat} (h1 : n ≤ xs.length) (h2 : xs.length ≤ n + 1) : nval ((xs ++ [0, 0]).take (n + 1)) = nval xs ∧ ((xs ++ [0, 0]).take (n + 1)).length = n + 1 := by
  have hl : ((xs ++ [0, 0]).take (n + 1)).length = n + 1 := by rw [List.length_take, List.length_append]; simp; omega
  refine ⟨?_, hl⟩
  rw [List.take_append, nval_append]
  rw [List.take_of_length_le (show xs.length ≤ n + 1 by omega)]
  have : nval (([0, 0] : List Nat).take (n + 1 - xs.length)) = 0 := by
    rcases (show n + 1 - xs.length = 0 ∨ n + 1 - xs.length = 1 by omega) with h | h <;> rw [h] <;> rfl
  rw [this]; simp
/-- what is left and the quotient, out of the shifted ones -/
theorem unshift {a b s q r : Nat} (h : r + b * 2 ^ s * q = a * 2 ^ s) (hlt : r < b * 2 ^ s) : q = a / b ∧ r / 2 ^ s = a % b := by
  have hp : 0 < 2 ^ s := Nat.pow_pos (by decide)
  have hd : 2 ^ s ∣ r := by
    have h1 : 2 ^ s ∣ a * 2 ^ s := Nat.dvd_mul_left _ _
    have h2 : 2 ^ s ∣ b * 2 ^ s * q := Nat.dvd_trans (Nat.dvd_mul_left _ _) (Nat.dvd_mul_right _ _)
    rw [← h] at h1
    exact (Nat.dvd_add_left h2).1 h1
  obtain ⟨t, rfl⟩ := hd
  have h3 : 2 ^ s * (t + b * q) = 2 ^ s * a := by
    rw [Nat.mul_comm _ a, ← h]
    grind
  have h4 := Nat.eq_of_mul_eq_mul_left hp h3
  have h5 : t < b := by
    rw [Nat.mul_comm b] at hlt
    exact Nat.lt_of_mul_lt_mul_left hlt
  rw [Nat.mul_div_cancel_left _ hp]
  have hb : 0 < b := by omega
  constructor
  · rw [← h4, Nat.add_mul_div_left _ _ hb, Nat.div_eq_of_lt h5]; simp
  · rw [← h4, Nat.add_mul_mod_self_left, Nat.mod_eq_of_lt h5]
/-- What lies in memory while DivMod divides: u's words us in the block H, q's words qs in the block G, the divisor's box gv; the boxes of the answers. -/
structure DS (w wr : World) (H G gv n nq cu : Nat) (us qs vs : List Nat) (Av : Option Addr) (cv : Nat) : Prop where
  u : wr.ownsRow H 95 1 (.slice (some ⟨H, 0, none⟩) (n + 1) cu) (n + 1) (wcells us)
  q : wr.ownsRow G 95 1 (.slice (some ⟨G, 0, none⟩) nq nq) nq (wcells qs)
  v : wr.heap[gv]? = some (.cells #[.slice Av vs.length cv] 36 (0, 0))
  sv : SW wr (.slice Av vs.length cv) vs
  r2 : wr.heap[w.heap.size + 1 + 1]? = some (.cells #[.slice none 0 0] 36 (0, 0))
  r3 : wr.heap[w.heap.size + 1 + 1 + 1]? = some (.cells #[.slice none 0 0] 36 (0, 0))
  bel : Below w.heap.size w wr
/-- What of it does not turn. -/
structure DF (w : World) (H G gv : Nat) (v : Value) : Prop where
  hg : H < G
  gh : gv < H
  hw : w.heap.size + 4 ≤ gv
  vh : v.ownBlock ≠ some H
  vg : v.ownBlock ≠ some G
namespace DS
variable {w wr w' : World} {H G gv n nq cu : Nat} {us qs us' qs' vs : List Nat} {Av : Option Addr} {cv : Nat}
theorem step (h : DS w wr H G gv n nq cu us qs vs Av cv) (hb : Below wr.heap.size wr w') : DS w w' H G gv n nq cu us qs vs Av cv :=
  ⟨row_below h.u hb, row_below h.q hb, keepBlk hb h.v, h.sv.below hb, keepBlk hb h.r2, keepBlk hb h.r3, h.bel.trans (hb.mono h.bel.size)⟩
theorem blk {x : Nat} {o : Obj} (h : wr.heap[x]? = some o) (hg : wr.grownBy w' (some H)) (hne : x ≠ H) : w'.heap[x]? = some o :=
  (hg.block x (Array.getElem?_eq_some_iff.1 h).1 (fun e => hne (Option.some.inj e))).trans h
theorem turnU (h : DS w wr H G gv n nq cu us qs vs Av cv) (f : DF w H G gv (.slice Av vs.length cv)) (hg : wr.grownBy w' (some H)) (hu : w'.ownsRow H 95 1 (.slice (some ⟨H, 0, none⟩) (n + 1) cu) (n + 1) (wcells us')) : DS w w' H G gv n nq cu us' qs vs Av cv :=
  ⟨hu, h.q.kept hg (.inr (by have := f.hg; simp [Value.ownBlock]; omega)), blk h.v hg (by have := f.gh; omega),
    h.sv.keep fun k hk => hg.block k (h.sv.block hk) (fun e => f.vh (by rw [hk, e])),
    blk h.r2 hg (by have := f.gh; have := f.hw; omega), blk h.r3 hg (by have := f.gh; have := f.hw; omega),
    h.bel.grown hg h.bel.size (fun k hk => by cases hk; have := f.gh; have := f.hw; omega)⟩
theorem turnQ (h : DS w wr H G gv n nq cu us qs vs Av cv) (f : DF w H G gv (.slice Av vs.length cv)) (hg : wr.grownBy w' (some G)) (hq : w'.ownsRow G 95 1 (.slice (some ⟨G, 0, none⟩) nq nq) nq (wcells qs')) : DS w w' H G gv n nq cu us qs' vs Av cv :=
  ⟨h.u.kept hg (.inr (by have := f.hg; simp [Value.ownBlock]; omega)), hq, blk h.v hg (by have := f.gh; have := f.hg; omega),
    h.sv.keep fun k hk => hg.block k (h.sv.block hk) (fun e => f.vg (by rw [hk, e])),
    blk h.r2 hg (by have := f.gh; have := f.hg; have := f.hw; omega), blk h.r3 hg (by have := f.gh; have := f.hg; have := f.hw; omega),
    h.bel.grown hg h.bel.size (fun k hk => by cases hk; have := f.gh; have := f.hg; have := f.hw; omega)⟩
theorem setQ (h : DS w wr H G gv n nq cu us qs vs Av cv) (f : DF w H G gv (.slice Av vs.length cv)) (k x : Nat) : DS w (wr.setCell ⟨G, k, none⟩ (.int .u64 (x : Int))) H G gv n nq cu us (qs.set k x) vs Av cv :=
  h.turnQ f (h.q.stored k _).2 (by rw [wcells_set]; exact (h.q.stored k _).1)
theorem cellU (h : DS w wr H G gv n nq cu us qs vs Av cv) (hl : us.length = n + 1) {k : Nat} (hk : k < n + 1) : wr.cell? ⟨H, k, none⟩ = some (.int .u64 ((wd us k : Nat) : Int)) := by
  rw [h.u.cellAt k (by omega), wcells_get (by omega)]
theorem cellQ (h : DS w wr H G gv n nq cu us qs vs Av cv) (hl : qs.length = nq) {k : Nat} (hk : k < nq) : wr.cell? ⟨G, k, none⟩ = some (.int .u64 ((wd qs k : Nat) : Int)) := by
  rw [h.q.cellAt k (by omega), wcells_get (by omega)]
theorem cellV (h : DS w wr H G gv n nq cu us qs vs Av cv) : wr.cell? ⟨gv, 0, none⟩ = some (.slice Av vs.length cv) := blk_cell h.v 0
theorem swQ (h : DS w wr H G gv n nq cu us qs vs Av cv) (hl : qs.length = nq) (hw : Wds qs) : SW wr (.slice (some ⟨G, 0, none⟩) nq nq) qs := by
  subst hl; exact SW.of_own h.q hw
theorem swU (h : DS w wr H G gv n nq cu us qs vs Av cv) (hl : us.length = n + 1) (hw : Wds us) : SW wr (.slice (some ⟨H, 0, none⟩) (n + 1) cu) us := by
  have hu := h.u
  rw [← hl] at hu ⊢
  exact SW.of_own hu hw
theorem outC (h : DS w wr H G gv n nq cu us qs vs Av cv) (hl : us.length = n + 1) : OutC wr wr H (n + 1) cu us := ⟨h.u, ⟨rfl, rfl, rfl, Nat.le_refl _, fun _ _ _ => rfl⟩, hl⟩
theorem ofOut (h : DS w wr H G gv n nq cu us qs vs Av cv) (f : DF w H G gv (.slice Av vs.length cv)) (o : OutC wr w' H (n + 1) cu us') : DS w w' H G gv n nq cu us' qs vs Av cv := h.turnU f o.bel o.own
end DS
theorem run_mid (W : World) (g n c k j : Nat) (K : Int) (hK : K = (j : Int)) (h1 : k ≤ j) (h2 : j ≤ c) (h3 : k < c) :
    (Instr.slice 34 (.slice (some ⟨g, 0, none⟩) n c) (some (.int .i64 (k : Int))) (some (.int .i64 K)) none).run Try.prog W = .ok (.slice (some ⟨g, k, none⟩) (j - k) (c - k)) W := by
  subst hK
  have ht' : Try.prog.underlying 34 = some (.slice (Try.prog.elem 34)) := by simp [Program.elem, Try.underlying34]
  have he : Try.prog.elem 34 = 95 := by simp [Program.elem, Try.underlying34]
  rw [run_slice_lh W 34 _ _ _ ht' .i64 .i64 _ _ (by omega) (by omega) (by omega), he]
  have h0 : c ≠ k := by omega
  by_cases h4 : k = 0
  · subst h4; simp [Result.andThen, sliced, Addr.add, h0]
  · simp [Result.andThen, sliced, Addr.add, h0, h4]
theorem same_trans {us os zs : List Nat} {a b : Nat} (h : SameOut us os a b) (k : SameOut os zs a b) : SameOut us zs a b := ⟨k.1.trans h.1, fun j hj => (k.2 j hj).trans (h.2 j hj)⟩
/-- a round in which the guess was right -/
theorem round_right {N k q nq : Nat} {us qs us2 vs : List Nat} (hI : LdInv N (nval vs) us qs (k + 1)) (hW : Window us vs k) (hv : Wds vs) (hm : 2 ≤ vs.length) (hk : k < qs.length) (hku : k ≤ us.length) (hv1 : 9223372036854775808 ≤ wd vs (vs.length - 1))
    (hg : GuessIs (wd us (k + vs.length)) (wd us (k + vs.length - 1)) (wd us (k + vs.length - 2)) (wd vs (vs.length - 1)) (wd vs (vs.length - 2)) q)
    (hs : SameOut us us2 k (k + vs.length + 1)) (ho : Wds us2) (he : nval us2 + B64 ^ k * (q * nval vs) = nval us + B64 ^ (k + vs.length + 1) * 0) : LdInv N (nval vs) us2 (qs.set k q) k := by
  have _ := nq
  have hgo := hW.guess hI.wu hv hm (by unfold wd at hv1; omega) hg
  rw [Nat.mul_zero, Nat.add_zero] at he
  exact hI.step hk hku hs ho he hgo.1 hg.lt
/-- a round in which it was one too great -/
theorem round_back {N k q c : Nat} {us qs us2 us3 vs : List Nat} (hI : LdInv N (nval vs) us qs (k + 1)) (hW : Window us vs k) (hv : Wds vs) (hm : 2 ≤ vs.length) (hk : k < qs.length) (hku : k ≤ us.length) (hv1 : 9223372036854775808 ≤ wd vs (vs.length - 1))
    (hg : GuessIs (wd us (k + vs.length)) (wd us (k + vs.length - 1)) (wd us (k + vs.length - 2)) (wd vs (vs.length - 1)) (wd vs (vs.length - 2)) q)
    (hs : SameOut us us2 k (k + vs.length + 1)) (ho : Wds us2) (he : nval us2 + B64 ^ k * (q * nval vs) = nval us + B64 ^ (k + vs.length + 1) * 1)
    (hs3 : SameOut us2 us3 k (k + vs.length + 1)) (ho3 : Wds us3) (he3 : nval us3 + B64 ^ (k + vs.length + 1) * c = nval us2 + B64 ^ k * nval vs) : LdInv N (nval vs) us3 ((qs.set k q).set k (q - 1)) k ∧ 0 < q := by
  have hgo := hW.guess hI.wu hv hm (by unfold wd at hv1; omega) hg
  have hnot : ¬ q * nval vs ≤ nval (us.drop k) := fun h => by
    have := take_fits hW ho hs hku he (Nat.le_refl 1) h
    omega
  have hq : 0 < q := by
    rcases Nat.eq_zero_or_pos q with h | h
    · subst h; simp at hnot
    · exact h
  have htop := (hW.z.lt hI.wu).2
  have hbk := back_fits hW ho3 (same_trans hs hs3) hku he he3 hq hgo.2 htop
  refine ⟨?_, hq⟩
  rw [List.set_set]
  exact hI.step hk hku (same_trans hs hs3) ho3 hbk (by rw [Nat.sub_add_cancel hq]; omega) (by have := hg.lt; omega)
end Qt
end Go.Proofs.Ytohkhcbocknliaa
