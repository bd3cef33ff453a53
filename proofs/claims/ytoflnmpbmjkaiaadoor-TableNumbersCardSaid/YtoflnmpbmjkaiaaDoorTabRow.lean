/- TableNumbers returns true for every input (any number of sessions, any script), and the input reads as it did; the variable errors.errorType lies as the program's text lays it (tied by the card). Conditions: none beyond the card's own. -/
import Derived.Test.YtoflnmpbmjkaiaaDoorRows
import Derived.Test.YtoflnmpbmjkaiaaDoorCards
import Derived.Test.YtoflnmpbmjkaiaaDoorTie
import Derived.Test.YtoflnmpbmjkaiaaDoorTab8
import Derived.ChangeSame
import Derived.ChangeVars
import Derived.JoinedOf
import Derived.RowKit
import Derived.RowKitTokens
import Derived.LaidLaws
import Derived.LaidHandle
import Derived.Stop.Joined
import Derived.Deep.Slices
import Derived.SevenTiedAt
namespace Go.Proofs.YtoflnmpbmjkaiaaDoor
open Go.ChangeShapes Go.WideShapes Go.RowKit Go.Deep
set_option maxRecDepth 100000
theorem own : ownKnob Tryd.prog.godebug = none := by kernel_rfl
theorem et : Tryd.prog.globalNamed "errors.errorType" = some 0 := by kernel_rfl
theorem rt : (Tryd.prog.cutTypes.find? (·.1 == "internal/reflectlite.rtype")).map (·.2) = some 103 := by kernel_rfl
theorem size : Tryd.prog.types.size = 169 := by kernel_rfl
theorem oneRow : ((List.range 169).filter fun t => Tryd.prog.rowNamed t [101, 114, 114, 111, 114]) = [37] := by kernel_rfl
theorem laidOut : laidOutB Tryd.prog = true := by kernel_rfl
theorem cellsAct : Tryd.prog.cellsOf 35 = 9 := by kernel_rfl
theorem cellsInt : Tryd.prog.cellsOf 3 = 1 := by kernel_rfl
/-- What the condition gives a walk: the variable's one cell. -/
theorem handle_of_laid {W : World} (h : laidMetH Tryd.prog Rows.tableNumbersRow.laid W) : W.cell? ⟨0, 0, none⟩ = some Err.HandleV := by
  have h' : laidMet Tryd.prog [] W ∧ handlesMet Tryd.prog Rows.tableNumbersRow.laid W := h
  obtain ⟨name, u, ty, e1, e2, e3, e4, e5⟩ := h'.2 _ (List.mem_singleton.2 rfl)
  have en : name = [101, 114, 114, 111, 114] := (Option.some.inj e1).symm
  subst en
  obtain rfl := Option.some.inj (rt.symm.trans e2)
  have hm : ty ∈ (List.range 169).filter fun t => Tryd.prog.rowNamed t [101, 114, 114, 111, 114] := List.mem_filter.2 ⟨List.mem_range.2 (by rw [← size]; exact e3), e4⟩
  rw [oneRow] at hm
  obtain rfl := List.mem_singleton.1 hm
  have hh : typeHandle Tryd.prog 37 = .pointer (some ⟨1, 37, none⟩) := by kernel_rfl
  rw [hh] at e5
  simpa using World.var?_cell et e5 0
/-- A world that meets the condition: the settled one, the variable's cell laid. -/
noncomputable def laidWorld (os : Os) : World :=
  let w0 := World.holding Tryd.prog os ⟨#[], #[], []⟩
  { w0 with heap := w0.heap.modify 0 fun
      | .cells _ t frozen => .cells #[Err.HandleV] t frozen
      | o => o }
theorem laidWorld_met (os : Os) (args : Array Value) : laidMetH Tryd.prog Rows.tableNumbersRow.laid ((laidWorld os).forCall (fun _ _ => 0) ⟨#[], args, []⟩).memory :=
  laidMetH_of_parts (laidMet_nil _ _) (by kernel_rfl)
theorem add_none (b o k : Nat) : (⟨b, o, none⟩ : Addr).add k = ⟨b, o + k, none⟩ := by unfold Addr.add; split <;> simp_all
theorem script_of {H : Type} {enc : TypeId × Value → H} {W : World} {base : Nat} {sp : Nat → Bool} {held : Bool} {A : Option Addr} {n cp : Nat} {d : DataW H} {p : List MemPlace}
    (h : DataW.Trod enc Tryd.prog W base sp held 22 (.slice A n cp) d p) : Tb.Script W A n ∧ n ≤ 9223372036854775807 := by
  obtain ⟨fuel, hf⟩ := h
  rcases open_slice Tryd.underlying22 hf with ⟨hcs, _⟩ | ⟨a, len, cap, m, q, D, Pl, hcs, _, hl, hm, hmm, _, hel⟩
  · simp [Value.cells] at hcs
    obtain ⟨rfl, rfl, rfl⟩ := hcs
    exact ⟨fun i hi => absurd hi (Nat.not_lt_zero _), by omega⟩
  · simp [Value.cells] at hcs
    obtain ⟨rfl, rfl, rfl⟩ := hcs
    refine ⟨?_, by simp only [maxLen] at hm; omega⟩
    intro i hi
    have him : i < m := by rw [hmm]; split <;> omega
    obtain ⟨cs', hc, ht⟩ := hel i him
    rw [cellsAct] at hc
    obtain ⟨_, hcl, hat⟩ := World.cells?_some hc
    obtain ⟨ys, n', _, _, _, hyl, hg⟩ := DataW.trod_struct Tryd.underlying35 ht
    match cs', hcl with
    | [c0, c1, c2, c3, c4, c5, c6, c7, c8], _ =>
      have g0 : DataW.trod enc Tryd.prog W base sp held n' 3 ([c0, c1, c2, c3, c4, c5, c6, c7, c8].take (Tryd.prog.cellsOf 3)) = ys[0]? := hg 0 _ rfl
      have g1 : DataW.trod enc Tryd.prog W base sp held n' 3 ([c1, c2, c3, c4, c5, c6, c7, c8].take (Tryd.prog.cellsOf 3)) = ys[1]? := hg 1 _ rfl
      rw [cellsInt] at g0 g1
      have e0 := hat 0 (by omega)
      have e1 := hat 1 (by omega)
      simp only [List.getElem?_cons_zero, List.getElem?_cons_succ, List.take_succ_cons, List.take_zero] at e0 e1 g0 g1
      have hy3 : ys.length = 3 := hyl
      rw [List.getElem?_eq_getElem (show 0 < ys.length by omega)] at g0
      rw [List.getElem?_eq_getElem (show 1 < ys.length by omega)] at g1
      obtain ⟨x0, hx0, _, _⟩ := DataW.trod_int Tryd.underlying3 g0
      obtain ⟨x1, hx1, _, _⟩ := DataW.trod_int Tryd.underlying3 g1
      simp only [List.cons.injEq, and_true] at hx0 hx1
      subst hx0
      subst hx1
      have hsp : a.spot = none := by
        obtain ⟨cs0, hc0, _⟩ := hel 0 (by omega)
        rw [cellsAct] at hc0
        obtain ⟨_, hcl0, hat0⟩ := World.cells?_some hc0
        have e9 := hat0 0 (by omega)
        rw [List.getElem?_eq_getElem (show 0 < cs0.length by omega)] at e9
        have := World.cell?_spot e9
        simpa [Addr.add] using this
      obtain ⟨b, o, s⟩ := a
      obtain rfl : s = none := hsp
      have a0 : ((⟨b, o, none⟩ : Addr).add (i * 9)).add 0 = ⟨b, o + i * 9, none⟩ := by rw [add_none, add_none]; rfl
      have a1 : ((⟨b, o, none⟩ : Addr).add (i * 9)).add 1 = ⟨b, o + i * 9 + 1, none⟩ := by rw [add_none, add_none]
      rw [a0] at e0
      rw [a1] at e1
      exact ⟨b, o, x0, x1, rfl, World.block_lt_of_cell? W _ e0, e0, e1⟩
theorem law_lifted (os : Os) (started : os.Started) (H : Type) (enc : TypeId × Value → H) :
    ReturnsInHanded {} Tryd.checked os 3 .any (fun w args => (Rows.tableNumbersSpec.pre enc Tryd.prog Tryd.f3 [] false w args ∧ laidMetH Tryd.prog Rows.tableNumbersRow.laid w) ∧ sizedMet enc Tryd.prog Tryd.f3 (OpenSpec.ofChange Rows.tableNumbersSpec) false w args)
      (Rows.tableNumbersSpec.post enc Tryd.prog Tryd.f3 false true false false) := by
  refine returnsInHanded_of_change_and (C := Tryd.checked) (X := fun w _ => laidMetH Tryd.prog Rows.tableNumbersRow.laid w) (fun _ _ _ hh h => h.of_heap hh) own started (by kernel_rfl) Tryd.func3
    (ChangeSpec.witness_at (enc := enc) (C := Tryd.checked) (os := os) (X := fun w _ => laidMetH Tryd.prog Rows.tableNumbersRow.laid w) false (laidWorld os) #[.int .u8 0, .slice none 0 0] 8 rfl (by kernel_rfl) (by kernel_rfl) (by kernel_rfl) (by kernel_rfl) (by kernel_rfl) (laidWorld_met os _)) ?_
  intro W base args ds gs before hval0 hW _ _ hL _
  have hval : ∀ (j : Nat) t v, Tryd.f3.params[j]? = some t → args[j]? = some v → Value.okWide Tryd.prog W .any base t v := hval0
  have hW' := hW
  obtain ⟨p, q, hA0, hV0, rfl, hfz, hnd⟩ := hW
  have hA : DataW.TrodAll enc Tryd.prog W 0 (fun _ => true) true Tryd.f3.params.toList args.toList ds p := hA0
  have hV : DataW.TrodVars enc Tryd.prog W (fun _ => true) [] gs q := hV0
  rw [Tryd.params3] at hA hval
  obtain ⟨v0, v1, d0, d1, p0, p1, rfl, rfl, rfl, h0, h1⟩ := trodAll_two hA
  obtain ⟨n, rfl, rfl, rfl, hwn⟩ := open_int Tryd.underlying5 (hval 0 5 v0 rfl rfl) h0
  obtain ⟨A, len, cp, rfl⟩ := okWide_slice Tryd.underlying22 (hval 1 22 v1 rfl rfl)
  have hg := handle_of_laid hL
  have hsc := script_of h1
  have hn : 0 ≤ n ∧ n ≤ 255 := by
    have := hwn
    simp [Lit.wf, IntKind.min, IntKind.max, IntKind.signed, IntKind.bits] at this
    omega
  obtain ⟨s, rfl⟩ : ∃ s : Nat, n = (s : Int) := ⟨n.toNat, by omega⟩
  obtain ⟨rfl, rfl⟩ : gs = [] ∧ q = [] := by
    cases gs with
    | nil => exact ⟨rfl, hV⟩
    | cons g r => exact absurd hV (by intro h; cases h)
  have hlt : ∀ x ∈ p1, x.block < W.heap.size := fun x hx => hW'.lt x (by simp [hx])
  have e1 : Rows.tableNumbersSpec.fn H ([.lit (.int .u8 (s : Int)), d1] ++ []) = { results := [.lit (.bool true)], args := [.lit (.int .u8 (s : Int)), d1] } := by simp [Rows.tableNumbersSpec]
  refine (Tb.law s (by omega) A len cp W hsc.2 hsc.1 hg).mono fun e W' ⟨he, hb⟩ => ?_
  subst he
  refine ⟨_, rfl, _, _, _, [], [] ++ p1, [], hW', ?_, ?_, ?_, hb.frame _, fun h => by cases h⟩
  · rw [e1]; exact trodAll_mk1 (shut_bool Tryd.underlying4 true)
  · rw [e1]; exact trodAll_mk2 (shut_int Tryd.underlying5 hwn) (Below.trod laidOut (by kernel_rfl) (of_decide_eq_true (by kernel_rfl)) h1 hb hlt)
  · rw [e1]; rfl
theorem tableNumbers_said : Rows.TableNumbersSaid :=
  OpenClaim.holds_of_wide 3 Tryd.f3 rfl rfl rfl rfl rfl rfl rfl ⟨rfl, rfl, rfl, rfl, rfl⟩ rfl rfl rfl rfl rfl (by kernel_rfl) Tryd.func3 (by kernel_rfl)
    (of_decide_eq_true (by kernel_rfl)) (by unfold Func.isWrapper; rw [if_neg (of_decide_eq_false (by kernel_rfl))]; exact ⟨rfl, rfl⟩)
    (fun os started H enc _ => law_lifted os started H enc)
theorem tableNumbers_card_holds : Rows.TableNumbersCardSaid :=
  Claim7.holds_tied_plain_at .later [] [.handle] true (true, "1ae57e8f7496d843f94920202c17be2c80e980d6d6a4454fb8d7f3c0e4bb0f1a") true
    tableNumbers_said (fun _ h => by cases h) (by kernel_rfl) (fun _ h => by cases h) tableNumbers_row_tie rfl ⟨rfl, rfl⟩ (by kernel_rfl) rfl
    (fun f fn hf hfn => by
      obtain rfl : f = 3 := Option.some.inj ((show Tryd.prog.funcNamed "actuary/actuarylaw29.TableNumbers" = some 3 by kernel_rfl).symm.trans hf) |>.symm
      obtain rfl : fn = Tryd.f3 := (Option.some.inj (Tryd.func3.symm.trans hfn)).symm
      exact ⟨by kernel_rfl, fun j t ht => by
        rw [Tryd.params3] at ht
        match j, ht with
        | 0, ht => simp at ht; subst ht; exact (show Tryd.prog.wantsStandIn 5 = false by kernel_rfl)
        | 1, ht => simp at ht; subst ht; exact (show Tryd.prog.wantsStandIn 22 = false by kernel_rfl)
        | j + 2, ht => simp at ht⟩)
    (by kernel_rfl)

end Go.Proofs.YtoflnmpbmjkaiaaDoor
