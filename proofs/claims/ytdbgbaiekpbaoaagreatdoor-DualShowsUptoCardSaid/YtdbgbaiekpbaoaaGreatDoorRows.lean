/-
  NARROWER THAN 'FOR EVERY INPUT', by the rows' own cells (each row's printed sentence says how): DualChooses: laid · DualBudgets: laid · DualRuns: laid · DualSolves: laid · DualShows: laid · DualPrimal: laid.
  DERIVED. THE GIVEN ROWS OF THIS SEAT. 6 by the template 'for every input the law returns true; each argument reads behind the call as it read before'; 0 by the template 'total and deterministic' (their statements: YtdbgbaiekpbaoaaGreatDoorTotals.lean).
  GIVEN WITH THE SEED: the statements are not yours to turn. If you find one false, say at which input.
  Laid BY PROGRAM, IN A SANDBOX (cutbox-rows.mjs): the forced cells as the released guide's own fill.sh prints them over the translation e8933314d7f088b6… (all of the seat's roots in one cut). By AI agents, Wed Nov 11 2026. No macro, syntax, notation, axiom, sorry.
-/
import Derived.Test.YtdbgbaiekpbaoaaGreatDoorChecked
import GoSem.Claim
import GoSem.ClaimJoined
import GoSem.ClaimMapViews
import Derived.JoinedTies
import Derived.KernelRfl
namespace Go.Proofs.YtdbgbaiekpbaoaaGreatDoor
/- THE CELL 'sum', in the pinned program and in every row, IS THE sha256 OF THE DUMP (.gsa) THAT YtdbgbaiekpbaoaaGreatDoorProg.lean LOADS. Nothing in Lean hashes anything: it is a label: what it is worth is what the hold of that sum in a sandbox is worth. -/
noncomputable def Tryz.pinned : Pinned := { name := "ytdbgbaiekpbaoaagreatdoor", sum := "e8933314d7f088b60078165d56bd1b0bba26e7680c3b6472d7ff0067f4fbc37b", checked := Tryz.checked }
namespace Rows
def none {H : Type} : Left H := { results := [], args := [] }

/- WHAT THE LISTED PACKAGE-LEVEL VARIABLES READ AS WHEN THE CALL BEGINS. Each datum BY PROGRAM (the guide's laid-datum.mjs) off the statement by which the dump's own 'gosem.cut.vars' lays the variable. In a bare row this is a premise. The card (YtdbgbaiekpbaoaaGreatDoorCards.lean) ties it to the program's text. -/
def laid_errors_errorType {H : Type} : DataW H := .iface "internal/reflectlite.rtype" (.agg [.ptr (.lit (.string [101, 114, 114, 111, 114]))])

/-- 'actuarylaw19.DualChooses': WHATEVER THE INPUT: true; the input reads as it did. -/
def dualChoosesSpec : ChangeSpec := { name := "dualChooses", fn := fun _ => fun
  | [d1, d2, d3, d4] => { results := [.lit (.bool true)], args := [d1, d2, d3, d4] }
  | _ => none }
def dualChoosesRow : OpenClaim := { program := "ytdbgbaiekpbaoaagreatdoor", sum := "e8933314d7f088b60078165d56bd1b0bba26e7680c3b6472d7ff0067f4fbc37b", func := "actuary/actuarylaw19.DualChooses", spec := "dualChooses", inPlace := ["internal/reflectlite.ValueOf", "(internal/reflectlite.Value).Type", "(internal/reflectlite.Value).IsNil", "internal/reflectlite.TypeOf", "(internal/reflectlite.Value).Elem", "(internal/reflectlite.Value).Set"], unfollowed := true, recurses := true, named := ["errors.errorType"], apart := false, laid := [("errors.errorType", laid_errors_errorType)] }
def DualChoosesSaid : Prop := dualChoosesRow.holds Tryz.pinned (OpenSpec.ofChange dualChoosesSpec)

/-- ITS FALSE NEIGHBOUR: 'it returns false'. Refute it at one input. -/
def dualChoosesWrong : ChangeSpec := { name := "dualChooses", fn := fun _ => fun
  | [d1, d2, d3, d4] => { results := [.lit (.bool false)], args := [d1, d2, d3, d4] }
  | _ => none }
def DualChoosesWrongFalsely : Prop := dualChoosesRow.holds Tryz.pinned (OpenSpec.ofChange dualChoosesWrong)

/-- 'actuarylaw19.DualBudgets': WHATEVER THE INPUT: true; the input reads as it did. -/
def dualBudgetsSpec : ChangeSpec := { name := "dualBudgets", fn := fun _ => fun
  | [d1, d2] => { results := [.lit (.bool true)], args := [d1, d2] }
  | _ => none }
def dualBudgetsRow : OpenClaim := { program := "ytdbgbaiekpbaoaagreatdoor", sum := "e8933314d7f088b60078165d56bd1b0bba26e7680c3b6472d7ff0067f4fbc37b", func := "actuary/actuarylaw19.DualBudgets", spec := "dualBudgets", inPlace := ["internal/reflectlite.ValueOf", "(internal/reflectlite.Value).Type", "(internal/reflectlite.Value).IsNil", "internal/reflectlite.TypeOf", "(internal/reflectlite.Value).Elem", "(internal/reflectlite.Value).Set"], unfollowed := true, recurses := true, named := ["errors.errorType"], apart := false, laid := [("errors.errorType", laid_errors_errorType)] }
def DualBudgetsSaid : Prop := dualBudgetsRow.holds Tryz.pinned (OpenSpec.ofChange dualBudgetsSpec)

/-- ITS FALSE NEIGHBOUR: 'it returns false'. Refute it at one input. -/
def dualBudgetsWrong : ChangeSpec := { name := "dualBudgets", fn := fun _ => fun
  | [d1, d2] => { results := [.lit (.bool false)], args := [d1, d2] }
  | _ => none }
def DualBudgetsWrongFalsely : Prop := dualBudgetsRow.holds Tryz.pinned (OpenSpec.ofChange dualBudgetsWrong)

/-- 'actuarylaw19.DualRuns': WHATEVER THE INPUT: true; the input reads as it did. -/
def dualRunsSpec : ChangeSpec := { name := "dualRuns", fn := fun _ => fun
  | [d1, d2] => { results := [.lit (.bool true)], args := [d1, d2] }
  | _ => none }
def dualRunsRow : OpenClaim := { program := "ytdbgbaiekpbaoaagreatdoor", sum := "e8933314d7f088b60078165d56bd1b0bba26e7680c3b6472d7ff0067f4fbc37b", func := "actuary/actuarylaw19.DualRuns", spec := "dualRuns", inPlace := ["internal/reflectlite.ValueOf", "(internal/reflectlite.Value).Type", "(internal/reflectlite.Value).IsNil", "internal/reflectlite.TypeOf", "(internal/reflectlite.Value).Elem", "(internal/reflectlite.Value).Set"], unfollowed := true, recurses := true, named := ["errors.errorType"], apart := false, laid := [("errors.errorType", laid_errors_errorType)] }
def DualRunsSaid : Prop := dualRunsRow.holds Tryz.pinned (OpenSpec.ofChange dualRunsSpec)

/-- ITS FALSE NEIGHBOUR: 'it returns false'. Refute it at one input. -/
def dualRunsWrong : ChangeSpec := { name := "dualRuns", fn := fun _ => fun
  | [d1, d2] => { results := [.lit (.bool false)], args := [d1, d2] }
  | _ => none }
def DualRunsWrongFalsely : Prop := dualRunsRow.holds Tryz.pinned (OpenSpec.ofChange dualRunsWrong)

/-- 'actuarylaw19.DualSolves': WHATEVER THE INPUT: true; the input reads as it did. -/
def dualSolvesSpec : ChangeSpec := { name := "dualSolves", fn := fun _ => fun
  | [d1, d2] => { results := [.lit (.bool true)], args := [d1, d2] }
  | _ => none }
def dualSolvesRow : OpenClaim := { program := "ytdbgbaiekpbaoaagreatdoor", sum := "e8933314d7f088b60078165d56bd1b0bba26e7680c3b6472d7ff0067f4fbc37b", func := "actuary/actuarylaw19.DualSolves", spec := "dualSolves", inPlace := ["internal/reflectlite.ValueOf", "(internal/reflectlite.Value).Type", "(internal/reflectlite.Value).IsNil", "internal/reflectlite.TypeOf", "(internal/reflectlite.Value).Elem", "(internal/reflectlite.Value).Set"], unfollowed := true, recurses := true, named := ["errors.errorType"], apart := false, laid := [("errors.errorType", laid_errors_errorType)] }
def DualSolvesSaid : Prop := dualSolvesRow.holds Tryz.pinned (OpenSpec.ofChange dualSolvesSpec)

/-- ITS FALSE NEIGHBOUR: 'it returns false'. Refute it at one input. -/
def dualSolvesWrong : ChangeSpec := { name := "dualSolves", fn := fun _ => fun
  | [d1, d2] => { results := [.lit (.bool false)], args := [d1, d2] }
  | _ => none }
def DualSolvesWrongFalsely : Prop := dualSolvesRow.holds Tryz.pinned (OpenSpec.ofChange dualSolvesWrong)

/-- 'actuarylaw19.DualShows': WHATEVER THE INPUT: true; the input reads as it did. -/
def dualShowsSpec : ChangeSpec := { name := "dualShows", fn := fun _ => fun
  | [d] => { results := [.lit (.bool true)], args := [d] }
  | _ => none }
def dualShowsRow : OpenClaim := { program := "ytdbgbaiekpbaoaagreatdoor", sum := "e8933314d7f088b60078165d56bd1b0bba26e7680c3b6472d7ff0067f4fbc37b", func := "actuary/actuarylaw19.DualShows", spec := "dualShows", inPlace := ["internal/reflectlite.ValueOf", "(internal/reflectlite.Value).Type", "(internal/reflectlite.Value).IsNil", "internal/reflectlite.TypeOf", "(internal/reflectlite.Value).Elem", "(internal/reflectlite.Value).Set"], unfollowed := true, recurses := true, named := ["errors.errorType"], apart := false, laid := [("errors.errorType", laid_errors_errorType)] }
def DualShowsSaid : Prop := dualShowsRow.holds Tryz.pinned (OpenSpec.ofChange dualShowsSpec)

/-- ITS FALSE NEIGHBOUR: 'it returns false'. Refute it at one input. -/
def dualShowsWrong : ChangeSpec := { name := "dualShows", fn := fun _ => fun
  | [d] => { results := [.lit (.bool false)], args := [d] }
  | _ => none }
def DualShowsWrongFalsely : Prop := dualShowsRow.holds Tryz.pinned (OpenSpec.ofChange dualShowsWrong)

/-- 'actuarylaw19.DualPrimal': WHATEVER THE INPUT: true; the input reads as it did. -/
def dualPrimalSpec : ChangeSpec := { name := "dualPrimal", fn := fun _ => fun
  | [d] => { results := [.lit (.bool true)], args := [d] }
  | _ => none }
def dualPrimalRow : OpenClaim := { program := "ytdbgbaiekpbaoaagreatdoor", sum := "e8933314d7f088b60078165d56bd1b0bba26e7680c3b6472d7ff0067f4fbc37b", func := "actuary/actuarylaw19.DualPrimal", spec := "dualPrimal", inPlace := ["internal/reflectlite.ValueOf", "(internal/reflectlite.Value).Type", "(internal/reflectlite.Value).IsNil", "internal/reflectlite.TypeOf", "(internal/reflectlite.Value).Elem", "(internal/reflectlite.Value).Set"], unfollowed := true, recurses := true, named := ["errors.errorType"], apart := false, laid := [("errors.errorType", laid_errors_errorType)] }
def DualPrimalSaid : Prop := dualPrimalRow.holds Tryz.pinned (OpenSpec.ofChange dualPrimalSpec)

/-- ITS FALSE NEIGHBOUR: 'it returns false'. Refute it at one input. -/
def dualPrimalWrong : ChangeSpec := { name := "dualPrimal", fn := fun _ => fun
  | [d] => { results := [.lit (.bool false)], args := [d] }
  | _ => none }
def DualPrimalWrongFalsely : Prop := dualPrimalRow.holds Tryz.pinned (OpenSpec.ofChange dualPrimalWrong)

/- THE SECOND FORM. 'bulk': how many values and letters a reading holds, each counted each time it is reached (what is shared counts as often as it is met; a slice's spare places count too). A statement '..UptoSaid' is the law's where the arguments, and the package variables that the reading takes, are together of bulk at most 1048576: NARROWER than '..Said'. Prove '..Said' where nothing that the law and all that it calls make is longer than what came in: it says more and counts as full. Else prove '..UptoSaid'. A law counts once. -/
mutual
def uptoBulk {H : Type} : DataW H → Nat
  | .lit (.string bytes) => bytes.length + 1
  | .lit _ => 1
  | .nil => 1
  | .ptr d => uptoBulk d + 1
  | .slice elems spare => uptoBulkAll elems + uptoBulkAll spare + 1
  | .agg parts => uptoBulkAll parts + 1
  | .iface _ d => uptoBulk d + 1
  | .map entries => uptoBulkEntries entries + 1
  | .held _ => 1
def uptoBulkAll {H : Type} : List (DataW H) → Nat
  | [] => 0
  | d :: r => uptoBulk d + uptoBulkAll r
def uptoBulkEntries {H : Type} : List (Lit × DataW H) → Nat
  | [] => 0
  | x :: r => uptoBulkEntry x + uptoBulkEntries r
def uptoBulkEntry {H : Type} : Lit × DataW H → Nat
  | (.string bytes, d) => bytes.length + uptoBulk d + 1
  | (_, d) => uptoBulk d + 1
 end
def uptoSmall : (H : Type) → List (DataW H) → Bool := fun _ ds => decide (uptoBulkAll ds ≤ 1048576)
def OpenSpec.upto (s : _root_.Go.ChangeSpec) : _root_.Go.OpenSpec := { _root_.Go.OpenSpec.ofChange s with cond := some uptoSmall }

/-- 'actuarylaw19.DualChooses', WHERE WHAT IT READS IS OF BULK AT MOST 1048576: true; the input reads as it did. -/
def dualChoosesUptoRow : OpenClaim := { program := "ytdbgbaiekpbaoaagreatdoor", sum := "e8933314d7f088b60078165d56bd1b0bba26e7680c3b6472d7ff0067f4fbc37b", func := "actuary/actuarylaw19.DualChooses", spec := "dualChooses", inPlace := ["internal/reflectlite.ValueOf", "(internal/reflectlite.Value).Type", "(internal/reflectlite.Value).IsNil", "internal/reflectlite.TypeOf", "(internal/reflectlite.Value).Elem", "(internal/reflectlite.Value).Set"], unfollowed := true, recurses := true, named := ["errors.errorType"], apart := false, laid := [("errors.errorType", laid_errors_errorType)], narrowed := true }
def DualChoosesUptoSaid : Prop := dualChoosesUptoRow.holds Tryz.pinned (OpenSpec.upto dualChoosesSpec)

/-- 'actuarylaw19.DualBudgets', WHERE WHAT IT READS IS OF BULK AT MOST 1048576: true; the input reads as it did. -/
def dualBudgetsUptoRow : OpenClaim := { program := "ytdbgbaiekpbaoaagreatdoor", sum := "e8933314d7f088b60078165d56bd1b0bba26e7680c3b6472d7ff0067f4fbc37b", func := "actuary/actuarylaw19.DualBudgets", spec := "dualBudgets", inPlace := ["internal/reflectlite.ValueOf", "(internal/reflectlite.Value).Type", "(internal/reflectlite.Value).IsNil", "internal/reflectlite.TypeOf", "(internal/reflectlite.Value).Elem", "(internal/reflectlite.Value).Set"], unfollowed := true, recurses := true, named := ["errors.errorType"], apart := false, laid := [("errors.errorType", laid_errors_errorType)], narrowed := true }
def DualBudgetsUptoSaid : Prop := dualBudgetsUptoRow.holds Tryz.pinned (OpenSpec.upto dualBudgetsSpec)

/-- 'actuarylaw19.DualRuns', WHERE WHAT IT READS IS OF BULK AT MOST 1048576: true; the input reads as it did. -/
def dualRunsUptoRow : OpenClaim := { program := "ytdbgbaiekpbaoaagreatdoor", sum := "e8933314d7f088b60078165d56bd1b0bba26e7680c3b6472d7ff0067f4fbc37b", func := "actuary/actuarylaw19.DualRuns", spec := "dualRuns", inPlace := ["internal/reflectlite.ValueOf", "(internal/reflectlite.Value).Type", "(internal/reflectlite.Value).IsNil", "internal/reflectlite.TypeOf", "(internal/reflectlite.Value).Elem", "(internal/reflectlite.Value).Set"], unfollowed := true, recurses := true, named := ["errors.errorType"], apart := false, laid := [("errors.errorType", laid_errors_errorType)], narrowed := true }
def DualRunsUptoSaid : Prop := dualRunsUptoRow.holds Tryz.pinned (OpenSpec.upto dualRunsSpec)

/-- 'actuarylaw19.DualSolves', WHERE WHAT IT READS IS OF BULK AT MOST 1048576: true; the input reads as it did. -/
def dualSolvesUptoRow : OpenClaim := { program := "ytdbgbaiekpbaoaagreatdoor", sum := "e8933314d7f088b60078165d56bd1b0bba26e7680c3b6472d7ff0067f4fbc37b", func := "actuary/actuarylaw19.DualSolves", spec := "dualSolves", inPlace := ["internal/reflectlite.ValueOf", "(internal/reflectlite.Value).Type", "(internal/reflectlite.Value).IsNil", "internal/reflectlite.TypeOf", "(internal/reflectlite.Value).Elem", "(internal/reflectlite.Value).Set"], unfollowed := true, recurses := true, named := ["errors.errorType"], apart := false, laid := [("errors.errorType", laid_errors_errorType)], narrowed := true }
def DualSolvesUptoSaid : Prop := dualSolvesUptoRow.holds Tryz.pinned (OpenSpec.upto dualSolvesSpec)

/-- 'actuarylaw19.DualShows', WHERE WHAT IT READS IS OF BULK AT MOST 1048576: true; the input reads as it did. -/
def dualShowsUptoRow : OpenClaim := { program := "ytdbgbaiekpbaoaagreatdoor", sum := "e8933314d7f088b60078165d56bd1b0bba26e7680c3b6472d7ff0067f4fbc37b", func := "actuary/actuarylaw19.DualShows", spec := "dualShows", inPlace := ["internal/reflectlite.ValueOf", "(internal/reflectlite.Value).Type", "(internal/reflectlite.Value).IsNil", "internal/reflectlite.TypeOf", "(internal/reflectlite.Value).Elem", "(internal/reflectlite.Value).Set"], unfollowed := true, recurses := true, named := ["errors.errorType"], apart := false, laid := [("errors.errorType", laid_errors_errorType)], narrowed := true }
def DualShowsUptoSaid : Prop := dualShowsUptoRow.holds Tryz.pinned (OpenSpec.upto dualShowsSpec)

/-- 'actuarylaw19.DualPrimal', WHERE WHAT IT READS IS OF BULK AT MOST 1048576: true; the input reads as it did. -/
def dualPrimalUptoRow : OpenClaim := { program := "ytdbgbaiekpbaoaagreatdoor", sum := "e8933314d7f088b60078165d56bd1b0bba26e7680c3b6472d7ff0067f4fbc37b", func := "actuary/actuarylaw19.DualPrimal", spec := "dualPrimal", inPlace := ["internal/reflectlite.ValueOf", "(internal/reflectlite.Value).Type", "(internal/reflectlite.Value).IsNil", "internal/reflectlite.TypeOf", "(internal/reflectlite.Value).Elem", "(internal/reflectlite.Value).Set"], unfollowed := true, recurses := true, named := ["errors.errorType"], apart := false, laid := [("errors.errorType", laid_errors_errorType)], narrowed := true }
def DualPrimalUptoSaid : Prop := dualPrimalUptoRow.holds Tryz.pinned (OpenSpec.upto dualPrimalSpec)

end Rows
end Go.Proofs.YtdbgbaiekpbaoaaGreatDoor
