/-
  NARROWER THAN 'FOR EVERY INPUT', by the rows' own cells (each row's printed sentence says how): DualSolves: laid · PrimalSolves: laid.
  DERIVED. THE GIVEN ROWS OF THIS SEAT. 2 by the template 'for every input the law returns true; each argument reads behind the call as it read before'; 0 by the template 'total and deterministic' (their statements: YtbpjabgfcbjjmaaGreatDoorTotals.lean).
  GIVEN WITH THE SEED: the statements are not yours to turn. If you find one false, say at which input.
  Laid BY PROGRAM, IN A SANDBOX (cutbox-rows.mjs): the forced cells as the released guide's own fill.sh prints them over the translation 110e1deb08a63d33… (all of the seat's roots in one cut). By AI agents, Wed Nov 11 2026. No macro, syntax, notation, axiom, sorry.
-/
import Derived.Test.YtbpjabgfcbjjmaaGreatDoorChecked
import GoSem.Claim
import GoSem.ClaimJoined
import GoSem.ClaimMapViews
import Derived.JoinedTies
import Derived.KernelRfl
namespace Go.Proofs.YtbpjabgfcbjjmaaGreatDoor
/- THE CELL 'sum', in the pinned program and in every row, IS THE sha256 OF THE DUMP (.gsa) THAT YtbpjabgfcbjjmaaGreatDoorProg.lean LOADS. Nothing in Lean hashes anything: it is a label: what it is worth is what the hold of that sum in a sandbox is worth. -/
noncomputable def Tryz.pinned : Pinned := { name := "ytbpjabgfcbjjmaagreatdoor", sum := "110e1deb08a63d330a47ad4f2aa1eba7e73cf1b4f92cdab37b0559a4f2eb7a19", checked := Tryz.checked }
namespace Rows
def none {H : Type} : Left H := { results := [], args := [] }

/- WHAT THE LISTED PACKAGE-LEVEL VARIABLES READ AS WHEN THE CALL BEGINS. Each datum BY PROGRAM (the guide's laid-datum.mjs) off the statement by which the dump's own 'gosem.cut.vars' lays the variable. In a bare row this is a premise. The card (YtbpjabgfcbjjmaaGreatDoorCards.lean) ties it to the program's text. -/
def laid_errors_errorType {H : Type} : DataW H := .iface "internal/reflectlite.rtype" (.agg [.ptr (.lit (.string [101, 114, 114, 111, 114]))])

/-- 'actuarylaw19.DualSolves': WHATEVER THE INPUT: true; the input reads as it did. -/
def dualSolvesSpec : ChangeSpec := { name := "dualSolves", fn := fun _ => fun
  | [d1, d2] => { results := [.lit (.bool true)], args := [d1, d2] }
  | _ => none }
def dualSolvesRow : OpenClaim := { program := "ytbpjabgfcbjjmaagreatdoor", sum := "110e1deb08a63d330a47ad4f2aa1eba7e73cf1b4f92cdab37b0559a4f2eb7a19", func := "actuary/actuarylaw19.DualSolves", spec := "dualSolves", inPlace := ["internal/reflectlite.ValueOf", "(internal/reflectlite.Value).Type", "(internal/reflectlite.Value).IsNil", "internal/reflectlite.TypeOf", "(internal/reflectlite.Value).Elem", "(internal/reflectlite.Value).Set"], unfollowed := true, recurses := true, named := ["errors.errorType"], apart := false, laid := [("errors.errorType", laid_errors_errorType)] }
def DualSolvesSaid : Prop := dualSolvesRow.holds Tryz.pinned (OpenSpec.ofChange dualSolvesSpec)

/-- ITS FALSE NEIGHBOUR: 'it returns false'. Refute it at one input. -/
def dualSolvesWrong : ChangeSpec := { name := "dualSolves", fn := fun _ => fun
  | [d1, d2] => { results := [.lit (.bool false)], args := [d1, d2] }
  | _ => none }
def DualSolvesWrongFalsely : Prop := dualSolvesRow.holds Tryz.pinned (OpenSpec.ofChange dualSolvesWrong)

/-- 'actuarylaw18.PrimalSolves': WHATEVER THE INPUT: true; the input reads as it did. -/
def primalSolvesSpec : ChangeSpec := { name := "primalSolves", fn := fun _ => fun
  | [d] => { results := [.lit (.bool true)], args := [d] }
  | _ => none }
def primalSolvesRow : OpenClaim := { program := "ytbpjabgfcbjjmaagreatdoor", sum := "110e1deb08a63d330a47ad4f2aa1eba7e73cf1b4f92cdab37b0559a4f2eb7a19", func := "actuary/actuarylaw18.PrimalSolves", spec := "primalSolves", inPlace := ["internal/reflectlite.ValueOf", "(internal/reflectlite.Value).Type", "(internal/reflectlite.Value).IsNil", "internal/reflectlite.TypeOf", "(internal/reflectlite.Value).Elem", "(internal/reflectlite.Value).Set"], unfollowed := true, recurses := true, named := ["errors.errorType"], apart := false, laid := [("errors.errorType", laid_errors_errorType)] }
def PrimalSolvesSaid : Prop := primalSolvesRow.holds Tryz.pinned (OpenSpec.ofChange primalSolvesSpec)

/-- ITS FALSE NEIGHBOUR: 'it returns false'. Refute it at one input. -/
def primalSolvesWrong : ChangeSpec := { name := "primalSolves", fn := fun _ => fun
  | [d] => { results := [.lit (.bool false)], args := [d] }
  | _ => none }
def PrimalSolvesWrongFalsely : Prop := primalSolvesRow.holds Tryz.pinned (OpenSpec.ofChange primalSolvesWrong)

/- THE SECOND FORM. 'bulk': how many values and letters a reading holds, each counted each time it is reached (what is shared counts as often as it is met; a slice's spare places count too). A statement '..UptoSaid' is the law's where the arguments, and the package variables that the reading takes, are together of bulk at most 1048576: NARROWER than '..Said'. Prove '..Said' where nothing that the law and all that it calls make is longer than what came in: it says more and counts as full. Else prove '..UptoSaid'. A law counts once. -/
mutual
def uptoBulk {H : Type} : DataW H → Nat
  | .lit (.string bytes) => bytes.length + 1
  | .lit _ => 1
  | .nil => 1
  | .ptr d => uptoBulk d + 1
  | .slice elems spare => uptoBulkAll elems + uptoBulkAll spare + 1
  | .agg parts => uptoBulkAll parts + 1
  | .iface _ d => uptoBulk d + 1
  | .map entries => uptoBulkEntries entries + 1
  | .held _ => 1
def uptoBulkAll {H : Type} : List (DataW H) → Nat
  | [] => 0
  | d :: r => uptoBulk d + uptoBulkAll r
def uptoBulkEntries {H : Type} : List (Lit × DataW H) → Nat
  | [] => 0
  | x :: r => uptoBulkEntry x + uptoBulkEntries r
def uptoBulkEntry {H : Type} : Lit × DataW H → Nat
  | (.string bytes, d) => bytes.length + uptoBulk d + 1
  | (_, d) => uptoBulk d + 1
 end
def uptoSmall : (H : Type) → List (DataW H) → Bool := fun _ ds => decide (uptoBulkAll ds ≤ 1048576)
def OpenSpec.upto (s : _root_.Go.ChangeSpec) : _root_.Go.OpenSpec := { _root_.Go.OpenSpec.ofChange s with cond := some uptoSmall }

/-- 'actuarylaw19.DualSolves', WHERE WHAT IT READS IS OF BULK AT MOST 1048576: true; the input reads as it did. -/
def dualSolvesUptoRow : OpenClaim := { program := "ytbpjabgfcbjjmaagreatdoor", sum := "110e1deb08a63d330a47ad4f2aa1eba7e73cf1b4f92cdab37b0559a4f2eb7a19", func := "actuary/actuarylaw19.DualSolves", spec := "dualSolves", inPlace := ["internal/reflectlite.ValueOf", "(internal/reflectlite.Value).Type", "(internal/reflectlite.Value).IsNil", "internal/reflectlite.TypeOf", "(internal/reflectlite.Value).Elem", "(internal/reflectlite.Value).Set"], unfollowed := true, recurses := true, named := ["errors.errorType"], apart := false, laid := [("errors.errorType", laid_errors_errorType)], narrowed := true }
def DualSolvesUptoSaid : Prop := dualSolvesUptoRow.holds Tryz.pinned (OpenSpec.upto dualSolvesSpec)

/-- 'actuarylaw18.PrimalSolves', WHERE WHAT IT READS IS OF BULK AT MOST 1048576: true; the input reads as it did. -/
def primalSolvesUptoRow : OpenClaim := { program := "ytbpjabgfcbjjmaagreatdoor", sum := "110e1deb08a63d330a47ad4f2aa1eba7e73cf1b4f92cdab37b0559a4f2eb7a19", func := "actuary/actuarylaw18.PrimalSolves", spec := "primalSolves", inPlace := ["internal/reflectlite.ValueOf", "(internal/reflectlite.Value).Type", "(internal/reflectlite.Value).IsNil", "internal/reflectlite.TypeOf", "(internal/reflectlite.Value).Elem", "(internal/reflectlite.Value).Set"], unfollowed := true, recurses := true, named := ["errors.errorType"], apart := false, laid := [("errors.errorType", laid_errors_errorType)], narrowed := true }
def PrimalSolvesUptoSaid : Prop := primalSolvesUptoRow.holds Tryz.pinned (OpenSpec.upto primalSolvesSpec)

end Rows
end Go.Proofs.YtbpjabgfcbjjmaaGreatDoor
