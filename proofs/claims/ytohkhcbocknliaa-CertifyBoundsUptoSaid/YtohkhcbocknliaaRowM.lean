/- CertifyBounds returns true for every input of bulk at most 1048576 (any costs, rows, numbers and worths), and the input reads as it did. Conditions: none beyond the statement's own bound. -/
import Derived.Test.YtohkhcbocknliaaRows
import Derived.Test.YtohkhcbocknliaaMain1M
import Derived.WalkKit
import Derived.ProofKit
import Derived.OpenShut
import Derived.JoinedCond
import Derived.Deep.Slices
namespace Go.Proofs.Ytohkhcbocknliaa
set_option linter.unusedSimpArgs false
set_option linter.unusedVariables false
open Go.ChangeShapes Go.WideShapes Go.ChangeAt Go.RowKit Go.Deep
set_option maxRecDepth 100000
set_option maxHeartbeats 4000000
theorem own : ownKnob Try.prog.godebug = none := by kernel_rfl
theorem laidOut : laidOutB Try.prog = true := by kernel_rfl
theorem cellsFrac : Try.prog.cellsOf 62 = 2 := by kernel_rfl
theorem cellsLine : Try.prog.cellsOf 84 = 4 := by kernel_rfl
theorem cellsInt : Try.prog.cellsOf 3 = 1 := by kernel_rfl
theorem cellsKind : Try.prog.cellsOf 46 = 1 := by kernel_rfl
theorem cellsFracs : Try.prog.cellsOf 22 = 1 := by kernel_rfl
theorem cellsLines : Try.prog.cellsOf 23 = 1 := by kernel_rfl
theorem cellsRaw : Try.prog.cellsOf 25 = 2 := by kernel_rfl
theorem add_none (b o k : Nat) : (⟨b, o, none⟩ : Addr).add k = ⟨b, o + k, none⟩ := by unfold Addr.add; split <;> simp_all
theorem list_of {α : Type} {Q : Nat → α → Prop} : ∀ n : Nat, (∀ i, i < n → ∃ x, Q i x) → ∃ l : List α, l.length = n ∧ ∀ i x, l[i]? = some x → Q i x
  | 0, _ => ⟨[], rfl, fun i x h => by simp at h⟩
  | n + 1, h => by
    obtain ⟨l, hl, hq⟩ := list_of n (fun i hi => h i (by omega))
    obtain ⟨x, hx⟩ := h n (by omega)
    refine ⟨l ++ [x], by simp [hl], fun i y hy => ?_⟩
    rcases Nat.lt_trichotomy i l.length with h1 | h1 | h1
    · rw [List.getElem?_append_left h1] at hy; exact hq i y hy
    · subst h1; rw [List.getElem?_append_right (Nat.le_refl _)] at hy; simp at hy; subst hy; rw [hl]; exact hx
    · rw [List.getElem?_eq_none (by simp; omega)] at hy; cases hy
theorem two_of {l : Array Value} (h : l.toList.length = 2) : ∃ a b, l = #[a, b] := by
  match l, h with
  | ⟨[a, b]⟩, _ => exact ⟨a, b, rfl⟩
theorem one_le {H : Type} (d : DataW H) : 1 ≤ Rows.uptoBulk d := by
  cases d with
  | lit l => cases l <;> simp [Rows.uptoBulk]
  | nil => simp [Rows.uptoBulk]
  | ptr d => simp [Rows.uptoBulk]
  | slice elems spare => simp [Rows.uptoBulk]
  | agg parts => simp [Rows.uptoBulk]
  | iface t d => simp [Rows.uptoBulk]
  | map entries => simp [Rows.uptoBulk]
  | held h => simp [Rows.uptoBulk]
theorem part_le {H : Type} {d : DataW H} {l : List (DataW H)} (h : d ∈ l) : Rows.uptoBulk d ≤ Rows.uptoBulkAll l := by
  induction l with
  | nil => cases h
  | cons x r ih =>
    simp only [Rows.uptoBulkAll]
    cases List.mem_cons.1 h with
    | inl e => subst e; omega
    | inr e => have := ih e; omega
theorem length_le {H : Type} (l : List (DataW H)) : l.length ≤ Rows.uptoBulkAll l := by
  induction l with
  | nil => simp [Rows.uptoBulkAll]
  | cons x r ih => have := one_le x; simp only [Rows.uptoBulkAll, List.length_cons]; omega
theorem i64_of {x : Int} (h : (Lit.int .i64 x).wf = true) : I64 x := by
  simp [Lit.wf, IntKind.min, IntKind.max, IntKind.signed, IntKind.bits] at h
  exact ⟨h.1, h.2⟩
section
variable {H : Type} {enc : TypeId × Value → H} {W : World} {base : Nat} {sp : Nat → Bool} {held : Bool}
theorem frac_of {fuel : Nat} {cs : List Value} {x : DataW H × List MemPlace} (h : DataW.trod enc Try.prog W base sp held fuel 62 cs = some x) : ∃ a b : Int, cs = [.int .i64 a, .int .i64 b] ∧ I64 a ∧ I64 b := by
  obtain ⟨ys, n', _, _, hl, hyl, hg⟩ := DataW.trod_struct Try.underlying62 h
  rw [cellsFrac] at hl
  match cs, hl with
  | [c0, c1], _ =>
    have g0 : DataW.trod enc Try.prog W base sp held n' 3 ([c0, c1].take (Try.prog.cellsOf 3)) = ys[0]? := hg 0 _ rfl
    have g1 : DataW.trod enc Try.prog W base sp held n' 3 ([c1].take (Try.prog.cellsOf 3)) = ys[1]? := hg 1 _ rfl
    rw [cellsInt] at g0 g1
    have hy : ys.length = 2 := hyl
    rw [List.getElem?_eq_getElem (show 0 < ys.length by omega)] at g0
    rw [List.getElem?_eq_getElem (show 1 < ys.length by omega)] at g1
    obtain ⟨a, ha, _, wa⟩ := DataW.trod_int Try.underlying3 g0
    obtain ⟨b, hb, _, wb⟩ := DataW.trod_int Try.underlying3 g1
    simp at ha hb
    subst ha hb
    exact ⟨a, b, rfl, i64_of wa, i64_of wb⟩
theorem fracs_of {fuel : Nat} {cs : List Value} {x : DataW H × List MemPlace} (h : DataW.trod enc Try.prog W base sp held fuel 22 cs = some x) :
    ∃ (A : Option Addr) (n cp : Nat) (ps : List (Int × Int)), cs = [.slice A n cp] ∧ n = ps.length ∧ FracsAt W A ps ∧ n ≤ cp ∧ cp ≤ 9223372036854775807 ∧ n ≤ Rows.uptoBulk x.1 := by
  rcases open_slice Try.underlying22 h with ⟨hcs, hx⟩ | ⟨a, len, cap, m, q, D, Pl, hcs, _, hl, hm, hmm, hx, hel⟩
  · exact ⟨none, 0, 0, [], hcs, rfl, fun k y hy => by simp at hy, Nat.le_refl _, by decide, Nat.zero_le _⟩
  · have spot : 0 < len → a.spot = none := by
      intro h0
      obtain ⟨cs0, hc0, _⟩ := hel 0 (by rw [hmm]; split <;> omega)
      rw [cellsFrac] at hc0
      obtain ⟨_, hcl0, hat0⟩ := World.cells?_some hc0
      have e9 := hat0 0 (by omega)
      rw [List.getElem?_eq_getElem (show 0 < cs0.length by omega)] at e9
      have := World.cell?_spot e9
      simpa [Addr.add] using this
    have key : ∀ i, i < len → ∃ y : Int × Int, I64 y.1 ∧ I64 y.2 ∧ ∃ b o, some a = some ⟨b, o, none⟩ ∧ W.cell? ⟨b, o + i * 2, none⟩ = some (.int .i64 y.1) ∧ W.cell? ⟨b, o + i * 2 + 1, none⟩ = some (.int .i64 y.2) := by
      intro i hi
      have him : i < m := by rw [hmm]; split <;> omega
      obtain ⟨cs', hc, ht⟩ := hel i him
      rw [cellsFrac] at hc
      obtain ⟨_, hcl, hat⟩ := World.cells?_some hc
      obtain ⟨u, v, rfl, wu, wv⟩ := frac_of ht
      have e0 := hat 0 (by omega)
      have e1 := hat 1 (by omega)
      simp only [List.getElem?_cons_zero, List.getElem?_cons_succ] at e0 e1
      have hsp := spot (by omega)
      obtain ⟨b, o, s⟩ := a
      obtain rfl : s = none := hsp
      rw [add_none, add_none] at e0 e1
      exact ⟨(u, v), wu, wv, b, o, rfl, e0, e1⟩
    obtain ⟨ps, hps, hq⟩ := list_of len key
    refine ⟨some a, len, cap, ps, hcs, hps.symm, hq, hl, by unfold maxLen at hm; omega, ?_⟩
    have h1 := length_le ((List.range len).map D)
    rw [List.length_map, List.length_range] at h1
    rw [hx]
    simp only [Rows.uptoBulk]
    omega
theorem lines_of {fuel : Nat} {cs : List Value} {x : DataW H × List MemPlace} (h : DataW.trod enc Try.prog W base sp held fuel 23 cs = some x) (hb : Rows.uptoBulk x.1 ≤ 1048576) :
    ∃ (A : Option Addr) (n cp : Nat) (ls : List LineV), cs = [.slice A n cp] ∧ n = ls.length ∧ LinesAt W A ls ∧ n ≤ cp ∧ cp ≤ 9223372036854775807 := by
  rcases open_slice Try.underlying23 h with ⟨hcs, hx⟩ | ⟨a, len, cap, m, q, D, Pl, hcs, _, hl, hm, hmm, hx, hel⟩
  · exact ⟨none, 0, 0, [], hcs, rfl, fun k y hy => by simp at hy, Nat.le_refl _, by decide⟩
  · have spot : 0 < len → a.spot = none := by
      intro h0
      obtain ⟨cs0, hc0, _⟩ := hel 0 (by rw [hmm]; split <;> omega)
      rw [cellsLine] at hc0
      obtain ⟨_, hcl0, hat0⟩ := World.cells?_some hc0
      have e9 := hat0 0 (by omega)
      rw [List.getElem?_eq_getElem (show 0 < cs0.length by omega)] at e9
      have := World.cell?_spot e9
      simpa [Addr.add] using this
    have key : ∀ i, i < len → ∃ y : LineV, y.coef.length ≤ 1048576 ∧ I64 y.rhs.1 ∧ I64 y.rhs.2 ∧ ∃ b o C cc, some a = some ⟨b, o, none⟩ ∧ FracsAt W C y.coef ∧
        W.cell? ⟨b, o + i * 4, none⟩ = some (.slice C y.coef.length cc) ∧ W.cell? ⟨b, o + i * 4 + 1, none⟩ = some (.int .i64 y.kind) ∧ W.cell? ⟨b, o + i * 4 + 2, none⟩ = some (.int .i64 y.rhs.1) ∧ W.cell? ⟨b, o + i * 4 + 3, none⟩ = some (.int .i64 y.rhs.2) := by
      intro i hi
      have him : i < m := by rw [hmm]; split <;> omega
      obtain ⟨cs', hc, ht⟩ := hel i him
      rw [cellsLine] at hc
      obtain ⟨_, hcl, hat⟩ := World.cells?_some hc
      obtain ⟨ys, n', _, hxy, _, hyl, hg⟩ := DataW.trod_struct Try.underlying84 ht
      match cs', hcl with
      | [c0, c1, c2, c3], _ =>
        have g0 : DataW.trod enc Try.prog W base sp held n' 22 ([c0, c1, c2, c3].take (Try.prog.cellsOf 22)) = ys[0]? := hg 0 _ rfl
        have g1 : DataW.trod enc Try.prog W base sp held n' 46 ([c1, c2, c3].take (Try.prog.cellsOf 46)) = ys[1]? := hg 1 _ rfl
        have g2 : DataW.trod enc Try.prog W base sp held n' 62 ([c2, c3].take (Try.prog.cellsOf 62)) = ys[2]? := hg 2 _ rfl
        rw [cellsFracs] at g0
        rw [cellsKind] at g1
        rw [cellsFrac] at g2
        have hy : ys.length = 3 := hyl
        rw [List.getElem?_eq_getElem (show 0 < ys.length by omega)] at g0
        rw [List.getElem?_eq_getElem (show 1 < ys.length by omega)] at g1
        rw [List.getElem?_eq_getElem (show 2 < ys.length by omega)] at g2
        obtain ⟨C, nC, cC, ps, h0, hn, hf, _, _, hbk⟩ := fracs_of g0
        obtain ⟨kd, h1, _, _⟩ := DataW.trod_int Try.underlying46 g1
        obtain ⟨u, v, h2, wu, wv⟩ := frac_of g2
        simp at h0 h1 h2
        obtain ⟨rfl, rfl⟩ := h2
        subst h0 h1
        have hD : D i = .agg (ys.map (·.1)) := (Prod.mk.inj hxy).1
        have b1 : Rows.uptoBulk (D i) ≤ Rows.uptoBulk x.1 := by
          have := part_le (d := D i) (l := (List.range len).map D) (List.mem_map.2 ⟨i, List.mem_range.2 hi, rfl⟩)
          rw [hx]; simp only [Rows.uptoBulk]; omega
        have b2 : Rows.uptoBulk ys[0].1 ≤ Rows.uptoBulk (D i) := by
          have := part_le (d := ys[0].1) (l := ys.map (·.1)) (List.mem_map.2 ⟨ys[0], List.getElem_mem _, rfl⟩)
          rw [hD]; simp only [Rows.uptoBulk]; omega
        have e0 := hat 0 (by omega)
        have e1 := hat 1 (by omega)
        have e2 := hat 2 (by omega)
        have e3 := hat 3 (by omega)
        simp only [List.getElem?_cons_zero, List.getElem?_cons_succ] at e0 e1 e2 e3
        have hsp := spot (by omega)
        obtain ⟨b, o, s⟩ := a
        obtain rfl : s = none := hsp
        rw [add_none, add_none] at e0 e1 e2 e3
        subst hn
        exact ⟨⟨ps, kd, (u, v)⟩, by show ps.length ≤ 1048576; omega, wu, wv, b, o, C, cC, rfl, hf, e0, e1, e2, e3⟩
    obtain ⟨ls, hls, hq⟩ := list_of len key
    exact ⟨some a, len, cap, ls, hcs, hls.symm, hq, hl, by unfold maxLen at hm; omega⟩
end
theorem law_lifted (os : Os) (started : os.Started) (H : Type) (enc : TypeId × Value → H) (F : Stop.Interp) :
    ReturnsInHanded {} Try.checked os 3 .any ((Rows.OpenSpec.upto Rows.certifyBoundsSpec).pre6 enc Try.prog Try.f3 Rows.certifyBoundsUptoRow.domain false) (((Rows.OpenSpec.upto Rows.certifyBoundsSpec).at F).post enc Try.prog Try.f3 false true false false) := by
  refine returnsInHanded_of_cond (C := Try.checked) (s := Rows.OpenSpec.upto Rows.certifyBoundsSpec) (k := Rows.uptoSmall) rfl own started (by kernel_rfl) Try.func3
    (OpenSpec.witness (enc := enc) (C := Try.checked) (s := Rows.OpenSpec.upto Rows.certifyBoundsSpec) (k := Rows.uptoSmall) rfl false ⟨#[], #[.agg #[.slice none 0 0, .slice none 0 0], .slice none 0 0, .slice none 0 0], []⟩ 8 (by kernel_rfl) (by kernel_rfl) (by kernel_rfl)
      (x := ([.agg [.nil, .nil], .nil, .nil], [], [])) (by kernel_rfl) rfl (by kernel_rfl)) ?_
  intro W base args ds gs before hval hW _ hk _
  have hW' := hW
  obtain ⟨p, q, hA0, hV, rfl, hfz, hnd⟩ := hW
  have hA : DataW.TrodAll enc Try.prog W 0 (fun _ => true) true Try.f3.params.toList args.toList ds p := hA0
  rw [Try.params3] at hA hval
  obtain ⟨v0, v1, v2, d0, d1, d2, p0, p1, p2, hargs, rfl, rfl, h0, h1, h2⟩ := trodAll_three hA
  subst hargs
  obtain ⟨rfl, rfl⟩ := trodVars_none hV
  have hbk : Rows.uptoBulk d0 + (Rows.uptoBulk d1 + (Rows.uptoBulk d2 + 0)) ≤ 1048576 := by
    have h := of_decide_eq_true hk
    simpa only [List.append_nil, Rows.uptoBulkAll] using h
  obtain ⟨csr, rfl, hsz⟩ := okWide_struct Try.underlying25 (hval 0 25 v0 rfl rfl)
  obtain ⟨X, nX, cX, rfl⟩ := okWide_slice Try.underlying22 (hval 1 22 v1 rfl rfl)
  obtain ⟨Y, nY, cY, rfl⟩ := okWide_slice Try.underlying22 (hval 2 22 v2 rfl rfl)
  have hr0 := h0
  have hr1 := h1
  have hr2 := h2
  obtain ⟨f0, h0⟩ := h0
  obtain ⟨f1, h1⟩ := h1
  obtain ⟨f2, h2⟩ := h2
  obtain ⟨X', nX', cX', xs, e1, hnx, hx, _, _, hbx⟩ := fracs_of h1
  obtain ⟨Y', nY', cY', ys, e2, hny, hy, _, _, hby⟩ := fracs_of h2
  dsimp only at hbx hby
  simp [Value.cells] at e1 e2
  obtain ⟨rfl, rfl, rfl⟩ := e1
  obtain ⟨rfl, rfl, rfl⟩ := e2
  obtain ⟨zs, n', _, hxy, hl, hyl, hg⟩ := DataW.trod_struct Try.underlying25 h0
  rw [cellsRaw] at hl
  obtain ⟨c0, c1, rfl⟩ := two_of hl
  have g0 : DataW.trod enc Try.prog W 0 (fun _ => true) true n' 22 ([c0, c1].take (Try.prog.cellsOf 22)) = zs[0]? := hg 0 _ rfl
  have g1 : DataW.trod enc Try.prog W 0 (fun _ => true) true n' 23 ([c1].take (Try.prog.cellsOf 23)) = zs[1]? := hg 1 _ rfl
  rw [cellsFracs] at g0
  rw [cellsLines] at g1
  have hzl : zs.length = 2 := hyl
  rw [List.getElem?_eq_getElem (show 0 < zs.length by omega)] at g0
  rw [List.getElem?_eq_getElem (show 1 < zs.length by omega)] at g1
  have hd : d0 = .agg (zs.map (·.1)) := (Prod.mk.inj hxy).1
  have hb1 : Rows.uptoBulk zs[1].1 ≤ Rows.uptoBulk d0 := by
    have := part_le (d := zs[1].1) (l := zs.map (·.1)) (List.mem_map.2 ⟨zs[1], List.getElem_mem _, rfl⟩)
    rw [hd]; simp only [Rows.uptoBulk]; omega
  obtain ⟨A, nA, cA, cs, a0, hn, hf, hna, hca, _⟩ := fracs_of g0
  obtain ⟨L, nL, cL, ls, a1, hm, hls, hnl, hcl⟩ := lines_of g1 (by omega)
  simp at a0 a1
  subst a0 a1
  have hlt0 : ∀ x ∈ p0, x.block < W.heap.size := fun x hx => hW'.lt x (by simp [hx])
  have hlt1 : ∀ x ∈ p1, x.block < W.heap.size := fun x hx => hW'.lt x (by simp [hx])
  have hlt2 : ∀ x ∈ p2, x.block < W.heap.size := fun x hx => hW'.lt x (by simp [hx])
  have ef : ((Rows.OpenSpec.upto Rows.certifyBoundsSpec).at F).fn H ([d0, d1, d2] ++ []) = { results := [.lit (.bool true)], args := [d0, d1, d2] } := rfl
  refine (Lw.main A nA cA L nL cL X nX cX Y nY cY cs ls xs ys W hf hls hx hy hn hm hna hnl hca hcl hnx hny (by omega) (by omega)).mono fun e W' ⟨he, hb⟩ => ?_
  subst he
  refine ⟨_, rfl, _, _, _, [], (p0 ++ (p1 ++ p2)), [], hW', ?_, ?_, ?_, hb.frame _, fun h => by cases h⟩
  · rw [ef]; exact trodAll_mk1 (shut_bool Try.underlying4 true)
  · rw [ef]
    exact trodAll_mk3 (Below.trod laidOut (by kernel_rfl) (of_decide_eq_true (by kernel_rfl)) hr0 hb hlt0) (Below.trod laidOut (by kernel_rfl) (of_decide_eq_true (by kernel_rfl)) hr1 hb hlt1) (Below.trod laidOut (by kernel_rfl) (of_decide_eq_true (by kernel_rfl)) hr2 hb hlt2)
  · rw [ef]; rfl
theorem certifyBounds_upto : Rows.CertifyBoundsUptoSaid :=
  OpenClaim.holds_of_cond 3 Try.f3 rfl rfl rfl rfl rfl rfl rfl ⟨rfl, rfl, rfl, rfl, rfl⟩ rfl rfl rfl rfl rfl (by kernel_rfl) Try.func3 (by kernel_rfl)
    (of_decide_eq_true (by kernel_rfl)) (by unfold Func.isWrapper; first | (rw [if_pos (by decide +kernel)]; kernel_rfl) | (rw [if_neg (by decide +kernel)]; exact ⟨rfl, rfl⟩))
    (fun os started H enc _ F => law_lifted os started H enc F)
end Go.Proofs.Ytohkhcbocknliaa
