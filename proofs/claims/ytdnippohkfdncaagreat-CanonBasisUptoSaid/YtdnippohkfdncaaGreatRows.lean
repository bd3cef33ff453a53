/-
  No cell of these rows narrows 'for every input' (looked for: loops, veiled, ifaces, maps, wideKeys, modest, calm, conditions, laid).
  DERIVED. THE GIVEN ROWS OF THIS SEAT. 6 by the template 'for every input the law returns true; each argument reads behind the call as it read before'; 0 by the template 'total and deterministic' (their statements: YtdnippohkfdncaaGreatTotals.lean).
  GIVEN WITH THE SEED: the statements are not yours to turn. If you find one false, say at which input.
  Laid BY PROGRAM, IN A SANDBOX (cutbox-rows.mjs): the forced cells as the released guide's own fill.sh prints them over the translation fb30bfd9dcef0f4d… (all of the seat's roots in one cut). By AI agents, Wed Nov 11 2026. No macro, syntax, notation, axiom, sorry.
-/
import Derived.Test.YtdnippohkfdncaaGreatChecked
import GoSem.Claim
import GoSem.ClaimJoined
import GoSem.ClaimMapViews
import Derived.JoinedTies
import Derived.KernelRfl
namespace Go.Proofs.YtdnippohkfdncaaGreat
/- THE CELL 'sum', in the pinned program and in every row, IS THE sha256 OF THE DUMP (.gsa) THAT YtdnippohkfdncaaGreatProg.lean LOADS. Nothing in Lean hashes anything: it is a label: what it is worth is what the hold of that sum in a sandbox is worth. -/
noncomputable def Tryz.pinned : Pinned := { name := "ytdnippohkfdncaagreat", sum := "fb30bfd9dcef0f4d90fb5bcaef5306443bca44a52e672e74e9c989816ce34d3f", checked := Tryz.checked }
namespace Rows
def none {H : Type} : Left H := { results := [], args := [] }

/-- 'actuarylaw21.CanonAnswers': WHATEVER THE INPUT: true; the input reads as it did. -/
def canonAnswersSpec : ChangeSpec := { name := "canonAnswers", fn := fun _ => fun
  | [d] => { results := [.lit (.bool true)], args := [d] }
  | _ => none }
def canonAnswersRow : OpenClaim := { program := "ytdnippohkfdncaagreat", sum := "fb30bfd9dcef0f4d90fb5bcaef5306443bca44a52e672e74e9c989816ce34d3f", func := "actuary/actuarylaw21.CanonAnswers", spec := "canonAnswers", recurses := true, apart := false }
def CanonAnswersSaid : Prop := canonAnswersRow.holds Tryz.pinned (OpenSpec.ofChange canonAnswersSpec)

/-- ITS FALSE NEIGHBOUR: 'it returns false'. Refute it at one input. -/
def canonAnswersWrong : ChangeSpec := { name := "canonAnswers", fn := fun _ => fun
  | [d] => { results := [.lit (.bool false)], args := [d] }
  | _ => none }
def CanonAnswersWrongFalsely : Prop := canonAnswersRow.holds Tryz.pinned (OpenSpec.ofChange canonAnswersWrong)

/-- 'actuarylaw21.CanonTurns': WHATEVER THE INPUT: true; the input reads as it did. -/
def canonTurnsSpec : ChangeSpec := { name := "canonTurns", fn := fun _ => fun
  | [d1, d2, d3, d4] => { results := [.lit (.bool true)], args := [d1, d2, d3, d4] }
  | _ => none }
def canonTurnsRow : OpenClaim := { program := "ytdnippohkfdncaagreat", sum := "fb30bfd9dcef0f4d90fb5bcaef5306443bca44a52e672e74e9c989816ce34d3f", func := "actuary/actuarylaw21.CanonTurns", spec := "canonTurns", recurses := true, apart := false }
def CanonTurnsSaid : Prop := canonTurnsRow.holds Tryz.pinned (OpenSpec.ofChange canonTurnsSpec)

/-- ITS FALSE NEIGHBOUR: 'it returns false'. Refute it at one input. -/
def canonTurnsWrong : ChangeSpec := { name := "canonTurns", fn := fun _ => fun
  | [d1, d2, d3, d4] => { results := [.lit (.bool false)], args := [d1, d2, d3, d4] }
  | _ => none }
def CanonTurnsWrongFalsely : Prop := canonTurnsRow.holds Tryz.pinned (OpenSpec.ofChange canonTurnsWrong)

/-- 'actuarylaw21.CanonBasis': WHATEVER THE INPUT: true; the input reads as it did. -/
def canonBasisSpec : ChangeSpec := { name := "canonBasis", fn := fun _ => fun
  | [d] => { results := [.lit (.bool true)], args := [d] }
  | _ => none }
def canonBasisRow : OpenClaim := { program := "ytdnippohkfdncaagreat", sum := "fb30bfd9dcef0f4d90fb5bcaef5306443bca44a52e672e74e9c989816ce34d3f", func := "actuary/actuarylaw21.CanonBasis", spec := "canonBasis", recurses := true, apart := false }
def CanonBasisSaid : Prop := canonBasisRow.holds Tryz.pinned (OpenSpec.ofChange canonBasisSpec)

/-- ITS FALSE NEIGHBOUR: 'it returns false'. Refute it at one input. -/
def canonBasisWrong : ChangeSpec := { name := "canonBasis", fn := fun _ => fun
  | [d] => { results := [.lit (.bool false)], args := [d] }
  | _ => none }
def CanonBasisWrongFalsely : Prop := canonBasisRow.holds Tryz.pinned (OpenSpec.ofChange canonBasisWrong)

/-- 'actuarylaw21.CanonFrom': WHATEVER THE INPUT: true; the input reads as it did. -/
def canonFromSpec : ChangeSpec := { name := "canonFrom", fn := fun _ => fun
  | [d1, d2] => { results := [.lit (.bool true)], args := [d1, d2] }
  | _ => none }
def canonFromRow : OpenClaim := { program := "ytdnippohkfdncaagreat", sum := "fb30bfd9dcef0f4d90fb5bcaef5306443bca44a52e672e74e9c989816ce34d3f", func := "actuary/actuarylaw21.CanonFrom", spec := "canonFrom", inPlace := ["internal/reflectlite.TypeOf"], unfollowed := true, recurses := true, apart := false }
def CanonFromSaid : Prop := canonFromRow.holds Tryz.pinned (OpenSpec.ofChange canonFromSpec)

/-- ITS FALSE NEIGHBOUR: 'it returns false'. Refute it at one input. -/
def canonFromWrong : ChangeSpec := { name := "canonFrom", fn := fun _ => fun
  | [d1, d2] => { results := [.lit (.bool false)], args := [d1, d2] }
  | _ => none }
def CanonFromWrongFalsely : Prop := canonFromRow.holds Tryz.pinned (OpenSpec.ofChange canonFromWrong)

/-- 'actuarylaw21.CanonBudgets': WHATEVER THE INPUT: true; the input reads as it did. -/
def canonBudgetsSpec : ChangeSpec := { name := "canonBudgets", fn := fun _ => fun
  | [d1, d2] => { results := [.lit (.bool true)], args := [d1, d2] }
  | _ => none }
def canonBudgetsRow : OpenClaim := { program := "ytdnippohkfdncaagreat", sum := "fb30bfd9dcef0f4d90fb5bcaef5306443bca44a52e672e74e9c989816ce34d3f", func := "actuary/actuarylaw21.CanonBudgets", spec := "canonBudgets", inPlace := ["internal/reflectlite.TypeOf"], unfollowed := true, recurses := true, apart := false }
def CanonBudgetsSaid : Prop := canonBudgetsRow.holds Tryz.pinned (OpenSpec.ofChange canonBudgetsSpec)

/-- ITS FALSE NEIGHBOUR: 'it returns false'. Refute it at one input. -/
def canonBudgetsWrong : ChangeSpec := { name := "canonBudgets", fn := fun _ => fun
  | [d1, d2] => { results := [.lit (.bool false)], args := [d1, d2] }
  | _ => none }
def CanonBudgetsWrongFalsely : Prop := canonBudgetsRow.holds Tryz.pinned (OpenSpec.ofChange canonBudgetsWrong)

/-- 'actuarylaw21.CanonLeast': WHATEVER THE INPUT: true; the input reads as it did. -/
def canonLeastSpec : ChangeSpec := { name := "canonLeast", fn := fun _ => fun
  | [d1, d2] => { results := [.lit (.bool true)], args := [d1, d2] }
  | _ => none }
def canonLeastRow : OpenClaim := { program := "ytdnippohkfdncaagreat", sum := "fb30bfd9dcef0f4d90fb5bcaef5306443bca44a52e672e74e9c989816ce34d3f", func := "actuary/actuarylaw21.CanonLeast", spec := "canonLeast", recurses := true, apart := false }
def CanonLeastSaid : Prop := canonLeastRow.holds Tryz.pinned (OpenSpec.ofChange canonLeastSpec)

/-- ITS FALSE NEIGHBOUR: 'it returns false'. Refute it at one input. -/
def canonLeastWrong : ChangeSpec := { name := "canonLeast", fn := fun _ => fun
  | [d1, d2] => { results := [.lit (.bool false)], args := [d1, d2] }
  | _ => none }
def CanonLeastWrongFalsely : Prop := canonLeastRow.holds Tryz.pinned (OpenSpec.ofChange canonLeastWrong)

/- THE SECOND FORM. 'bulk': how many values and letters a reading holds, each counted each time it is reached (what is shared counts as often as it is met; a slice's spare places count too). A statement '..UptoSaid' is the law's where the arguments, and the package variables that the reading takes, are together of bulk at most 1048576: NARROWER than '..Said'. Prove '..Said' where nothing that the law and all that it calls make is longer than what came in: it says more and counts as full. Else prove '..UptoSaid'. A law counts once. -/
mutual
def uptoBulk {H : Type} : DataW H → Nat
  | .lit (.string bytes) => bytes.length + 1
  | .lit _ => 1
  | .nil => 1
  | .ptr d => uptoBulk d + 1
  | .slice elems spare => uptoBulkAll elems + uptoBulkAll spare + 1
  | .agg parts => uptoBulkAll parts + 1
  | .iface _ d => uptoBulk d + 1
  | .map entries => uptoBulkEntries entries + 1
  | .held _ => 1
def uptoBulkAll {H : Type} : List (DataW H) → Nat
  | [] => 0
  | d :: r => uptoBulk d + uptoBulkAll r
def uptoBulkEntries {H : Type} : List (Lit × DataW H) → Nat
  | [] => 0
  | x :: r => uptoBulkEntry x + uptoBulkEntries r
def uptoBulkEntry {H : Type} : Lit × DataW H → Nat
  | (.string bytes, d) => bytes.length + uptoBulk d + 1
  | (_, d) => uptoBulk d + 1
 end
def uptoSmall : (H : Type) → List (DataW H) → Bool := fun _ ds => decide (uptoBulkAll ds ≤ 1048576)
def OpenSpec.upto (s : _root_.Go.ChangeSpec) : _root_.Go.OpenSpec := { _root_.Go.OpenSpec.ofChange s with cond := some uptoSmall }

/-- 'actuarylaw21.CanonAnswers', WHERE WHAT IT READS IS OF BULK AT MOST 1048576: true; the input reads as it did. -/
def canonAnswersUptoRow : OpenClaim := { program := "ytdnippohkfdncaagreat", sum := "fb30bfd9dcef0f4d90fb5bcaef5306443bca44a52e672e74e9c989816ce34d3f", func := "actuary/actuarylaw21.CanonAnswers", spec := "canonAnswers", recurses := true, apart := false, narrowed := true }
def CanonAnswersUptoSaid : Prop := canonAnswersUptoRow.holds Tryz.pinned (OpenSpec.upto canonAnswersSpec)

/-- 'actuarylaw21.CanonTurns', WHERE WHAT IT READS IS OF BULK AT MOST 1048576: true; the input reads as it did. -/
def canonTurnsUptoRow : OpenClaim := { program := "ytdnippohkfdncaagreat", sum := "fb30bfd9dcef0f4d90fb5bcaef5306443bca44a52e672e74e9c989816ce34d3f", func := "actuary/actuarylaw21.CanonTurns", spec := "canonTurns", recurses := true, apart := false, narrowed := true }
def CanonTurnsUptoSaid : Prop := canonTurnsUptoRow.holds Tryz.pinned (OpenSpec.upto canonTurnsSpec)

/-- 'actuarylaw21.CanonBasis', WHERE WHAT IT READS IS OF BULK AT MOST 1048576: true; the input reads as it did. -/
def canonBasisUptoRow : OpenClaim := { program := "ytdnippohkfdncaagreat", sum := "fb30bfd9dcef0f4d90fb5bcaef5306443bca44a52e672e74e9c989816ce34d3f", func := "actuary/actuarylaw21.CanonBasis", spec := "canonBasis", recurses := true, apart := false, narrowed := true }
def CanonBasisUptoSaid : Prop := canonBasisUptoRow.holds Tryz.pinned (OpenSpec.upto canonBasisSpec)

/-- 'actuarylaw21.CanonFrom', WHERE WHAT IT READS IS OF BULK AT MOST 1048576: true; the input reads as it did. -/
def canonFromUptoRow : OpenClaim := { program := "ytdnippohkfdncaagreat", sum := "fb30bfd9dcef0f4d90fb5bcaef5306443bca44a52e672e74e9c989816ce34d3f", func := "actuary/actuarylaw21.CanonFrom", spec := "canonFrom", inPlace := ["internal/reflectlite.TypeOf"], unfollowed := true, recurses := true, apart := false, narrowed := true }
def CanonFromUptoSaid : Prop := canonFromUptoRow.holds Tryz.pinned (OpenSpec.upto canonFromSpec)

/-- 'actuarylaw21.CanonBudgets', WHERE WHAT IT READS IS OF BULK AT MOST 1048576: true; the input reads as it did. -/
def canonBudgetsUptoRow : OpenClaim := { program := "ytdnippohkfdncaagreat", sum := "fb30bfd9dcef0f4d90fb5bcaef5306443bca44a52e672e74e9c989816ce34d3f", func := "actuary/actuarylaw21.CanonBudgets", spec := "canonBudgets", inPlace := ["internal/reflectlite.TypeOf"], unfollowed := true, recurses := true, apart := false, narrowed := true }
def CanonBudgetsUptoSaid : Prop := canonBudgetsUptoRow.holds Tryz.pinned (OpenSpec.upto canonBudgetsSpec)

/-- 'actuarylaw21.CanonLeast', WHERE WHAT IT READS IS OF BULK AT MOST 1048576: true; the input reads as it did. -/
def canonLeastUptoRow : OpenClaim := { program := "ytdnippohkfdncaagreat", sum := "fb30bfd9dcef0f4d90fb5bcaef5306443bca44a52e672e74e9c989816ce34d3f", func := "actuary/actuarylaw21.CanonLeast", spec := "canonLeast", recurses := true, apart := false, narrowed := true }
def CanonLeastUptoSaid : Prop := canonLeastUptoRow.holds Tryz.pinned (OpenSpec.upto canonLeastSpec)

end Rows
end Go.Proofs.YtdnippohkfdncaaGreat
