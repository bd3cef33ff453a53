/-
  NARROWER THAN 'FOR EVERY INPUT', by the rows' own cells (each row's printed sentence says how): DualPrimal: laid · CanonSame: laid.
  DERIVED. THE GIVEN ROWS OF THIS SEAT. 2 by the template 'for every input the law returns true; each argument reads behind the call as it read before'; 0 by the template 'total and deterministic' (their statements: YtbhfhkcdfmmmiaaGreatDoorTotals.lean).
  GIVEN WITH THE SEED: the statements are not yours to turn. If you find one false, say at which input.
  Laid BY PROGRAM, IN A SANDBOX (cutbox-rows.mjs): the forced cells as the released guide's own fill.sh prints them over the translation ba9d8e7b3cd08b2d… (all of the seat's roots in one cut). By AI agents, Wed Nov 11 2026. No macro, syntax, notation, axiom, sorry.
-/
import Derived.Test.YtbhfhkcdfmmmiaaGreatDoorChecked
import GoSem.Claim
import GoSem.ClaimJoined
import GoSem.ClaimMapViews
import Derived.JoinedTies
import Derived.KernelRfl
namespace Go.Proofs.YtbhfhkcdfmmmiaaGreatDoor
/- THE CELL 'sum', in the pinned program and in every row, IS THE sha256 OF THE DUMP (.gsa) THAT YtbhfhkcdfmmmiaaGreatDoorProg.lean LOADS. Nothing in Lean hashes anything: it is a label: what it is worth is what the hold of that sum in a sandbox is worth. -/
noncomputable def Tryz.pinned : Pinned := { name := "ytbhfhkcdfmmmiaagreatdoor", sum := "ba9d8e7b3cd08b2d3eca68bc6b26ebc1d9b13ac9df1f9bfed4e426d14b880f3e", checked := Tryz.checked }
namespace Rows
def none {H : Type} : Left H := { results := [], args := [] }

/- WHAT THE LISTED PACKAGE-LEVEL VARIABLES READ AS WHEN THE CALL BEGINS. Each datum BY PROGRAM (the guide's laid-datum.mjs) off the statement by which the dump's own 'gosem.cut.vars' lays the variable. In a bare row this is a premise. The card (YtbhfhkcdfmmmiaaGreatDoorCards.lean) ties it to the program's text. -/
def laid_errors_errorType {H : Type} : DataW H := .iface "internal/reflectlite.rtype" (.agg [.ptr (.lit (.string [101, 114, 114, 111, 114]))])

/-- 'actuarylaw19.DualPrimal': WHATEVER THE INPUT: true; the input reads as it did. -/
def dualPrimalSpec : ChangeSpec := { name := "dualPrimal", fn := fun _ => fun
  | [d] => { results := [.lit (.bool true)], args := [d] }
  | _ => none }
def dualPrimalRow : OpenClaim := { program := "ytbhfhkcdfmmmiaagreatdoor", sum := "ba9d8e7b3cd08b2d3eca68bc6b26ebc1d9b13ac9df1f9bfed4e426d14b880f3e", func := "actuary/actuarylaw19.DualPrimal", spec := "dualPrimal", inPlace := ["internal/reflectlite.ValueOf", "(internal/reflectlite.Value).Type", "(internal/reflectlite.Value).IsNil", "internal/reflectlite.TypeOf", "(internal/reflectlite.Value).Elem", "(internal/reflectlite.Value).Set"], unfollowed := true, recurses := true, named := ["errors.errorType"], apart := false, laid := [("errors.errorType", laid_errors_errorType)] }
def DualPrimalSaid : Prop := dualPrimalRow.holds Tryz.pinned (OpenSpec.ofChange dualPrimalSpec)

/-- ITS FALSE NEIGHBOUR: 'it returns false'. Refute it at one input. -/
def dualPrimalWrong : ChangeSpec := { name := "dualPrimal", fn := fun _ => fun
  | [d] => { results := [.lit (.bool false)], args := [d] }
  | _ => none }
def DualPrimalWrongFalsely : Prop := dualPrimalRow.holds Tryz.pinned (OpenSpec.ofChange dualPrimalWrong)

/-- 'actuarylaw21.CanonSame': WHATEVER THE INPUT: true; the input reads as it did. -/
def canonSameSpec : ChangeSpec := { name := "canonSame", fn := fun _ => fun
  | [d1, d2] => { results := [.lit (.bool true)], args := [d1, d2] }
  | _ => none }
def canonSameRow : OpenClaim := { program := "ytbhfhkcdfmmmiaagreatdoor", sum := "ba9d8e7b3cd08b2d3eca68bc6b26ebc1d9b13ac9df1f9bfed4e426d14b880f3e", func := "actuary/actuarylaw21.CanonSame", spec := "canonSame", inPlace := ["internal/reflectlite.ValueOf", "(internal/reflectlite.Value).Type", "(internal/reflectlite.Value).IsNil", "internal/reflectlite.TypeOf", "(internal/reflectlite.Value).Elem", "(internal/reflectlite.Value).Set"], unfollowed := true, recurses := true, named := ["errors.errorType"], apart := false, laid := [("errors.errorType", laid_errors_errorType)] }
def CanonSameSaid : Prop := canonSameRow.holds Tryz.pinned (OpenSpec.ofChange canonSameSpec)

/-- ITS FALSE NEIGHBOUR: 'it returns false'. Refute it at one input. -/
def canonSameWrong : ChangeSpec := { name := "canonSame", fn := fun _ => fun
  | [d1, d2] => { results := [.lit (.bool false)], args := [d1, d2] }
  | _ => none }
def CanonSameWrongFalsely : Prop := canonSameRow.holds Tryz.pinned (OpenSpec.ofChange canonSameWrong)

/- THE SECOND FORM. 'bulk': how many values and letters a reading holds, each counted each time it is reached (what is shared counts as often as it is met; a slice's spare places count too). A statement '..UptoSaid' is the law's where the arguments, and the package variables that the reading takes, are together of bulk at most 1048576: NARROWER than '..Said'. Prove '..Said' where nothing that the law and all that it calls make is longer than what came in: it says more and counts as full. Else prove '..UptoSaid'. A law counts once. -/
mutual
def uptoBulk {H : Type} : DataW H → Nat
  | .lit (.string bytes) => bytes.length + 1
  | .lit _ => 1
  | .nil => 1
  | .ptr d => uptoBulk d + 1
  | .slice elems spare => uptoBulkAll elems + uptoBulkAll spare + 1
  | .agg parts => uptoBulkAll parts + 1
  | .iface _ d => uptoBulk d + 1
  | .map entries => uptoBulkEntries entries + 1
  | .held _ => 1
def uptoBulkAll {H : Type} : List (DataW H) → Nat
  | [] => 0
  | d :: r => uptoBulk d + uptoBulkAll r
def uptoBulkEntries {H : Type} : List (Lit × DataW H) → Nat
  | [] => 0
  | x :: r => uptoBulkEntry x + uptoBulkEntries r
def uptoBulkEntry {H : Type} : Lit × DataW H → Nat
  | (.string bytes, d) => bytes.length + uptoBulk d + 1
  | (_, d) => uptoBulk d + 1
 end
def uptoSmall : (H : Type) → List (DataW H) → Bool := fun _ ds => decide (uptoBulkAll ds ≤ 1048576)
def OpenSpec.upto (s : _root_.Go.ChangeSpec) : _root_.Go.OpenSpec := { _root_.Go.OpenSpec.ofChange s with cond := some uptoSmall }

/-- 'actuarylaw19.DualPrimal', WHERE WHAT IT READS IS OF BULK AT MOST 1048576: true; the input reads as it did. -/
def dualPrimalUptoRow : OpenClaim := { program := "ytbhfhkcdfmmmiaagreatdoor", sum := "ba9d8e7b3cd08b2d3eca68bc6b26ebc1d9b13ac9df1f9bfed4e426d14b880f3e", func := "actuary/actuarylaw19.DualPrimal", spec := "dualPrimal", inPlace := ["internal/reflectlite.ValueOf", "(internal/reflectlite.Value).Type", "(internal/reflectlite.Value).IsNil", "internal/reflectlite.TypeOf", "(internal/reflectlite.Value).Elem", "(internal/reflectlite.Value).Set"], unfollowed := true, recurses := true, named := ["errors.errorType"], apart := false, laid := [("errors.errorType", laid_errors_errorType)], narrowed := true }
def DualPrimalUptoSaid : Prop := dualPrimalUptoRow.holds Tryz.pinned (OpenSpec.upto dualPrimalSpec)

/-- 'actuarylaw21.CanonSame', WHERE WHAT IT READS IS OF BULK AT MOST 1048576: true; the input reads as it did. -/
def canonSameUptoRow : OpenClaim := { program := "ytbhfhkcdfmmmiaagreatdoor", sum := "ba9d8e7b3cd08b2d3eca68bc6b26ebc1d9b13ac9df1f9bfed4e426d14b880f3e", func := "actuary/actuarylaw21.CanonSame", spec := "canonSame", inPlace := ["internal/reflectlite.ValueOf", "(internal/reflectlite.Value).Type", "(internal/reflectlite.Value).IsNil", "internal/reflectlite.TypeOf", "(internal/reflectlite.Value).Elem", "(internal/reflectlite.Value).Set"], unfollowed := true, recurses := true, named := ["errors.errorType"], apart := false, laid := [("errors.errorType", laid_errors_errorType)], narrowed := true }
def CanonSameUptoSaid : Prop := canonSameUptoRow.holds Tryz.pinned (OpenSpec.upto canonSameSpec)

end Rows
end Go.Proofs.YtbhfhkcdfmmmiaaGreatDoor
