/- PrimalSolves returns true for every input (any small problem), and the input reads as it did; the variable errors.errorType lies as the program's text lays it (tied by the card). Conditions: none beyond the card's own. -/
import Derived.Test.YtbpjabgfcbjjmaaGreatDoorRowKZc
import Derived.Test.YtbpjabgfcbjjmaaGreatDoorZoZc
import Derived.Test.YtbpjabgfcbjjmaaGreatDoorPv18Zc
import Derived.JoinedOf
import Derived.RowKitTokens
import Derived.Deep.Slices
namespace Go.Proofs.YtbpjabgfcbjjmaaGreatDoor
open Go.ChangeShapes Go.WideShapes Go.ChangeAt Go.RowKit Go.Deep
set_option maxRecDepth 100000
set_option maxHeartbeats 4000000
theorem pw_lifted (os : Os) (started : os.Started) (H : Type) (enc : TypeId × Value → H) :
    ReturnsInHanded {} Tryz.checked os 4 .any (fun w args => (Rows.primalSolvesSpec.pre enc Tryz.prog Tryz.f4 [] false w args ∧ laidMetH Tryz.prog Rows.primalSolvesRow.laid w) ∧ sizedMet enc Tryz.prog Tryz.f4 (OpenSpec.ofChange Rows.primalSolvesSpec) false w args) (Rows.primalSolvesSpec.post enc Tryz.prog Tryz.f4 false true false false) := by
  refine returnsInHanded_of_change_and (C := Tryz.checked) (X := fun w _ => laidMetH Tryz.prog Rows.primalSolvesRow.laid w) (fun _ _ _ hh h => h.of_heap hh) own started (by kernel_rfl) Tryz.func4
    (ChangeSpec.witness_at (enc := enc) (C := Tryz.checked) (os := os) (X := fun w _ => laidMetH Tryz.prog Rows.primalSolvesRow.laid w) false (laidWorld os) #[.agg #[.int .u8 0, .int .i8 0, .int .i8 0, .int .i8 0, .slice none 0 0]] 8 rfl (by kernel_rfl) (by kernel_rfl) (by kernel_rfl) (by kernel_rfl) (by kernel_rfl) (znG os _)) ?_
  intro W base args ds gs before hval0 hW _ _ hL _
  have hval : ∀ (j : Nat) t v, Tryz.f4.params[j]? = some t → args[j]? = some v → Value.okWide Tryz.prog W .any base t v := hval0
  have hW' := hW
  obtain ⟨p, q, hA0, hV, rfl, hfz, hnd⟩ := hW
  have hA : DataW.TrodAll enc Tryz.prog W 0 (fun _ => true) true Tryz.f4.params.toList args.toList ds p := hA0
  rw [Tryz.params4] at hA hval
  obtain ⟨v0, vs0, d0, ds0, p0, q0, hargs, rfl, rfl, h0, r0⟩ := trodAll_cons hA
  obtain ⟨rfl, rfl, rfl⟩ := trodAll_nil r0
  obtain rfl : args = #[v0] := by cases args; simp_all
  have hV1 : DataW.TrodVars enc Tryz.prog W (fun _ => true) [] gs q := hV
  obtain ⟨rfl, rfl⟩ : gs = [] ∧ q = [] := by
    cases gs with
    | nil => exact ⟨rfl, hV1⟩
    | cons g r => exact absurd hV1 (by intro h; cases h)
  obtain ⟨csr0, rfl, _⟩ := okWide_struct Tryz.underlying26 (hval 0 26 v0 rfl rfl)
  have hr0 := h0
  obtain ⟨f0, h0⟩ := h0
  obtain ⟨cl, c0, c1, c2, A, nL, cL, ls, e0, hsm, hn, hcl, hnl⟩ := y4Z h0
  obtain ⟨l0⟩ := csr0
  have e0 : l0 = [.int .u8 cl, .int .i8 c0, .int .i8 c1, .int .i8 c2, .slice A nL cL] := e0
  subst e0
  have hlt0 : ∀ x ∈ p0, x.block < W.heap.size := fun x hx => hW'.lt x (by simp [hx])
  have ef : Rows.primalSolvesSpec.fn H ([d0] ++ []) = { results := [.lit (.bool true)], args := [d0] } := by simp [Rows.primalSolvesSpec]
  refine (Lw.solves18 cl c0 c1 c2 A nL cL ls W hsm hn hcl hnl (zlF hL)).mono fun e W' ⟨he, hb⟩ => ?_
  subst he
  refine ⟨_, rfl, _, _, _, [], (p0 ++ []), [], hW', ?_, ?_, ?_, hb.frame _, fun h => by cases h⟩
  · rw [ef]; exact trodAll_mk1 (shut_bool Tryz.underlying4 true)
  · rw [ef]
    exact trodAll_cons_mk (Below.trod zqj (by kernel_rfl) (of_decide_eq_true (by kernel_rfl)) hr0 hb hlt0) trodAll_mk0
  · rw [ef]; rfl
theorem pw_first : Rows.PrimalSolvesSaid :=
  OpenClaim.holds_of_wide 4 Tryz.f4 rfl rfl rfl rfl rfl rfl rfl ⟨rfl, rfl, rfl, rfl, rfl⟩ rfl rfl rfl rfl rfl (by kernel_rfl) Tryz.func4 (by kernel_rfl)
    (of_decide_eq_true (by kernel_rfl)) (by unfold Func.isWrapper; first | (rw [if_pos (by decide +kernel)]; kernel_rfl) | (rw [if_neg (by decide +kernel)]; exact ⟨rfl, rfl⟩))
    (fun os started H enc _ => pw_lifted os started H enc)
theorem pw_plain (f : FuncId) (fn : Func) (hf : Tryz.pinned.checked.prog.funcNamed "actuary/actuarylaw18.PrimalSolves" = some f) (hfn : Tryz.pinned.checked.prog.funcs[f]? = some fn) :
    true = Tryz.pinned.checked.prog.looks [] ∧ ∀ (j : Nat) t, fn.params[j]? = some t → Tryz.pinned.checked.prog.wantsStandIn t = false := by
  obtain rfl : f = 4 := Option.some.inj ((show Tryz.prog.funcNamed "actuary/actuarylaw18.PrimalSolves" = some 4 by kernel_rfl).symm.trans hf) |>.symm
  obtain rfl : fn = Tryz.f4 := (Option.some.inj (Tryz.func4.symm.trans hfn)).symm
  refine ⟨by kernel_rfl, fun j t ht => ?_⟩
  rw [Tryz.params4] at ht
  match j, ht with
  | 0, ht => simp at ht; subst ht; exact (show Tryz.prog.wantsStandIn 26 = false by kernel_rfl)
  | j + 1, ht => simp at ht
theorem primalSolves_card : Rows.PrimalSolvesCardSaid :=
  Claim7.holds_tied_plain_at .later [] _ _ _ _ pw_first (fun _ h => by cases h) (by kernel_rfl) (fun _ h => by cases h) primalSolves_row_tie rfl ⟨rfl, rfl⟩ (by kernel_rfl) rfl pw_plain (by kernel_rfl)
end Go.Proofs.YtbpjabgfcbjjmaaGreatDoor
