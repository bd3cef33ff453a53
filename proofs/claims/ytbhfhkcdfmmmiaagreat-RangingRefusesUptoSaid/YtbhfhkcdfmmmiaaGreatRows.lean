/-
  No cell of these rows narrows 'for every input' (looked for: loops, veiled, ifaces, maps, wideKeys, modest, calm, conditions, laid).
  DERIVED. THE GIVEN ROWS OF THIS SEAT. 7 by the template 'for every input the law returns true; each argument reads behind the call as it read before'; 0 by the template 'total and deterministic' (their statements: YtbhfhkcdfmmmiaaGreatTotals.lean).
  GIVEN WITH THE SEED: the statements are not yours to turn. If you find one false, say at which input.
  Laid BY PROGRAM, IN A SANDBOX (cutbox-rows.mjs): the forced cells as the released guide's own fill.sh prints them over the translation 119c454e578d4874… (all of the seat's roots in one cut). By AI agents, Wed Nov 11 2026. No macro, syntax, notation, axiom, sorry.
-/
import Derived.Test.YtbhfhkcdfmmmiaaGreatChecked
import GoSem.Claim
import GoSem.ClaimJoined
import GoSem.ClaimMapViews
import Derived.JoinedTies
import Derived.KernelRfl
namespace Go.Proofs.YtbhfhkcdfmmmiaaGreat
/- THE CELL 'sum', in the pinned program and in every row, IS THE sha256 OF THE DUMP (.gsa) THAT YtbhfhkcdfmmmiaaGreatProg.lean LOADS. Nothing in Lean hashes anything: it is a label: what it is worth is what the hold of that sum in a sandbox is worth. -/
noncomputable def Tryz.pinned : Pinned := { name := "ytbhfhkcdfmmmiaagreat", sum := "119c454e578d487406251f7e2b526b17ca4bc3a29daee84d201c9b4ac02ed9d2", checked := Tryz.checked }
namespace Rows
def none {H : Type} : Left H := { results := [], args := [] }

/-- 'actuarylaw21.CanonTurns': WHATEVER THE INPUT: true; the input reads as it did. -/
def canonTurnsSpec : ChangeSpec := { name := "canonTurns", fn := fun _ => fun
  | [d1, d2, d3, d4] => { results := [.lit (.bool true)], args := [d1, d2, d3, d4] }
  | _ => none }
def canonTurnsRow : OpenClaim := { program := "ytbhfhkcdfmmmiaagreat", sum := "119c454e578d487406251f7e2b526b17ca4bc3a29daee84d201c9b4ac02ed9d2", func := "actuary/actuarylaw21.CanonTurns", spec := "canonTurns", recurses := true, apart := false }
def CanonTurnsSaid : Prop := canonTurnsRow.holds Tryz.pinned (OpenSpec.ofChange canonTurnsSpec)

/-- ITS FALSE NEIGHBOUR: 'it returns false'. Refute it at one input. -/
def canonTurnsWrong : ChangeSpec := { name := "canonTurns", fn := fun _ => fun
  | [d1, d2, d3, d4] => { results := [.lit (.bool false)], args := [d1, d2, d3, d4] }
  | _ => none }
def CanonTurnsWrongFalsely : Prop := canonTurnsRow.holds Tryz.pinned (OpenSpec.ofChange canonTurnsWrong)

/-- 'actuarylaw22.RangingHolds': WHATEVER THE INPUT: true; the input reads as it did. -/
def rangingHoldsSpec : ChangeSpec := { name := "rangingHolds", fn := fun _ => fun
  | [d1, d2, d3, d4, d5] => { results := [.lit (.bool true)], args := [d1, d2, d3, d4, d5] }
  | _ => none }
def rangingHoldsRow : OpenClaim := { program := "ytbhfhkcdfmmmiaagreat", sum := "119c454e578d487406251f7e2b526b17ca4bc3a29daee84d201c9b4ac02ed9d2", func := "actuary/actuarylaw22.RangingHolds", spec := "rangingHolds", recurses := true, apart := false }
def RangingHoldsSaid : Prop := rangingHoldsRow.holds Tryz.pinned (OpenSpec.ofChange rangingHoldsSpec)

/-- ITS FALSE NEIGHBOUR: 'it returns false'. Refute it at one input. -/
def rangingHoldsWrong : ChangeSpec := { name := "rangingHolds", fn := fun _ => fun
  | [d1, d2, d3, d4, d5] => { results := [.lit (.bool false)], args := [d1, d2, d3, d4, d5] }
  | _ => none }
def RangingHoldsWrongFalsely : Prop := rangingHoldsRow.holds Tryz.pinned (OpenSpec.ofChange rangingHoldsWrong)

/-- 'actuarylaw22.RangingRefuses': WHATEVER THE INPUT: true; the input reads as it did. -/
def rangingRefusesSpec : ChangeSpec := { name := "rangingRefuses", fn := fun _ => fun
  | [d1, d2, d3, d4] => { results := [.lit (.bool true)], args := [d1, d2, d3, d4] }
  | _ => none }
def rangingRefusesRow : OpenClaim := { program := "ytbhfhkcdfmmmiaagreat", sum := "119c454e578d487406251f7e2b526b17ca4bc3a29daee84d201c9b4ac02ed9d2", func := "actuary/actuarylaw22.RangingRefuses", spec := "rangingRefuses", inPlace := ["internal/reflectlite.TypeOf"], unfollowed := true, recurses := true, apart := false }
def RangingRefusesSaid : Prop := rangingRefusesRow.holds Tryz.pinned (OpenSpec.ofChange rangingRefusesSpec)

/-- ITS FALSE NEIGHBOUR: 'it returns false'. Refute it at one input. -/
def rangingRefusesWrong : ChangeSpec := { name := "rangingRefuses", fn := fun _ => fun
  | [d1, d2, d3, d4] => { results := [.lit (.bool false)], args := [d1, d2, d3, d4] }
  | _ => none }
def RangingRefusesWrongFalsely : Prop := rangingRefusesRow.holds Tryz.pinned (OpenSpec.ofChange rangingRefusesWrong)

/-- 'actuarylaw22.RangingDuals': WHATEVER THE INPUT: true; the input reads as it did. -/
def rangingDualsSpec : ChangeSpec := { name := "rangingDuals", fn := fun _ => fun
  | [d1, d2] => { results := [.lit (.bool true)], args := [d1, d2] }
  | _ => none }
def rangingDualsRow : OpenClaim := { program := "ytbhfhkcdfmmmiaagreat", sum := "119c454e578d487406251f7e2b526b17ca4bc3a29daee84d201c9b4ac02ed9d2", func := "actuary/actuarylaw22.RangingDuals", spec := "rangingDuals", recurses := true, apart := false }
def RangingDualsSaid : Prop := rangingDualsRow.holds Tryz.pinned (OpenSpec.ofChange rangingDualsSpec)

/-- ITS FALSE NEIGHBOUR: 'it returns false'. Refute it at one input. -/
def rangingDualsWrong : ChangeSpec := { name := "rangingDuals", fn := fun _ => fun
  | [d1, d2] => { results := [.lit (.bool false)], args := [d1, d2] }
  | _ => none }
def RangingDualsWrongFalsely : Prop := rangingDualsRow.holds Tryz.pinned (OpenSpec.ofChange rangingDualsWrong)

/-- 'actuarylaw22.RangingNear': WHATEVER THE INPUT: true; the input reads as it did. -/
def rangingNearSpec : ChangeSpec := { name := "rangingNear", fn := fun _ => fun
  | [d1, d2] => { results := [.lit (.bool true)], args := [d1, d2] }
  | _ => none }
def rangingNearRow : OpenClaim := { program := "ytbhfhkcdfmmmiaagreat", sum := "119c454e578d487406251f7e2b526b17ca4bc3a29daee84d201c9b4ac02ed9d2", func := "actuary/actuarylaw22.RangingNear", spec := "rangingNear", recurses := true, apart := false }
def RangingNearSaid : Prop := rangingNearRow.holds Tryz.pinned (OpenSpec.ofChange rangingNearSpec)

/-- ITS FALSE NEIGHBOUR: 'it returns false'. Refute it at one input. -/
def rangingNearWrong : ChangeSpec := { name := "rangingNear", fn := fun _ => fun
  | [d1, d2] => { results := [.lit (.bool false)], args := [d1, d2] }
  | _ => none }
def RangingNearWrongFalsely : Prop := rangingNearRow.holds Tryz.pinned (OpenSpec.ofChange rangingNearWrong)

/-- 'actuarylaw22.RangingEnds': WHATEVER THE INPUT: true; the input reads as it did. -/
def rangingEndsSpec : ChangeSpec := { name := "rangingEnds", fn := fun _ => fun
  | [d1, d2] => { results := [.lit (.bool true)], args := [d1, d2] }
  | _ => none }
def rangingEndsRow : OpenClaim := { program := "ytbhfhkcdfmmmiaagreat", sum := "119c454e578d487406251f7e2b526b17ca4bc3a29daee84d201c9b4ac02ed9d2", func := "actuary/actuarylaw22.RangingEnds", spec := "rangingEnds", recurses := true, apart := false }
def RangingEndsSaid : Prop := rangingEndsRow.holds Tryz.pinned (OpenSpec.ofChange rangingEndsSpec)

/-- ITS FALSE NEIGHBOUR: 'it returns false'. Refute it at one input. -/
def rangingEndsWrong : ChangeSpec := { name := "rangingEnds", fn := fun _ => fun
  | [d1, d2] => { results := [.lit (.bool false)], args := [d1, d2] }
  | _ => none }
def RangingEndsWrongFalsely : Prop := rangingEndsRow.holds Tryz.pinned (OpenSpec.ofChange rangingEndsWrong)

/-- 'actuarylaw21.CanonLeast': WHATEVER THE INPUT: true; the input reads as it did. -/
def canonLeastSpec : ChangeSpec := { name := "canonLeast", fn := fun _ => fun
  | [d1, d2] => { results := [.lit (.bool true)], args := [d1, d2] }
  | _ => none }
def canonLeastRow : OpenClaim := { program := "ytbhfhkcdfmmmiaagreat", sum := "119c454e578d487406251f7e2b526b17ca4bc3a29daee84d201c9b4ac02ed9d2", func := "actuary/actuarylaw21.CanonLeast", spec := "canonLeast", recurses := true, apart := false }
def CanonLeastSaid : Prop := canonLeastRow.holds Tryz.pinned (OpenSpec.ofChange canonLeastSpec)

/-- ITS FALSE NEIGHBOUR: 'it returns false'. Refute it at one input. -/
def canonLeastWrong : ChangeSpec := { name := "canonLeast", fn := fun _ => fun
  | [d1, d2] => { results := [.lit (.bool false)], args := [d1, d2] }
  | _ => none }
def CanonLeastWrongFalsely : Prop := canonLeastRow.holds Tryz.pinned (OpenSpec.ofChange canonLeastWrong)

/- THE SECOND FORM. 'bulk': how many values and letters a reading holds, each counted each time it is reached (what is shared counts as often as it is met; a slice's spare places count too). A statement '..UptoSaid' is the law's where the arguments, and the package variables that the reading takes, are together of bulk at most 1048576: NARROWER than '..Said'. Prove '..Said' where nothing that the law and all that it calls make is longer than what came in: it says more and counts as full. Else prove '..UptoSaid'. A law counts once. -/
mutual
def uptoBulk {H : Type} : DataW H → Nat
  | .lit (.string bytes) => bytes.length + 1
  | .lit _ => 1
  | .nil => 1
  | .ptr d => uptoBulk d + 1
  | .slice elems spare => uptoBulkAll elems + uptoBulkAll spare + 1
  | .agg parts => uptoBulkAll parts + 1
  | .iface _ d => uptoBulk d + 1
  | .map entries => uptoBulkEntries entries + 1
  | .held _ => 1
def uptoBulkAll {H : Type} : List (DataW H) → Nat
  | [] => 0
  | d :: r => uptoBulk d + uptoBulkAll r
def uptoBulkEntries {H : Type} : List (Lit × DataW H) → Nat
  | [] => 0
  | x :: r => uptoBulkEntry x + uptoBulkEntries r
def uptoBulkEntry {H : Type} : Lit × DataW H → Nat
  | (.string bytes, d) => bytes.length + uptoBulk d + 1
  | (_, d) => uptoBulk d + 1
 end
def uptoSmall : (H : Type) → List (DataW H) → Bool := fun _ ds => decide (uptoBulkAll ds ≤ 1048576)
def OpenSpec.upto (s : _root_.Go.ChangeSpec) : _root_.Go.OpenSpec := { _root_.Go.OpenSpec.ofChange s with cond := some uptoSmall }

/-- 'actuarylaw21.CanonTurns', WHERE WHAT IT READS IS OF BULK AT MOST 1048576: true; the input reads as it did. -/
def canonTurnsUptoRow : OpenClaim := { program := "ytbhfhkcdfmmmiaagreat", sum := "119c454e578d487406251f7e2b526b17ca4bc3a29daee84d201c9b4ac02ed9d2", func := "actuary/actuarylaw21.CanonTurns", spec := "canonTurns", recurses := true, apart := false, narrowed := true }
def CanonTurnsUptoSaid : Prop := canonTurnsUptoRow.holds Tryz.pinned (OpenSpec.upto canonTurnsSpec)

/-- 'actuarylaw22.RangingHolds', WHERE WHAT IT READS IS OF BULK AT MOST 1048576: true; the input reads as it did. -/
def rangingHoldsUptoRow : OpenClaim := { program := "ytbhfhkcdfmmmiaagreat", sum := "119c454e578d487406251f7e2b526b17ca4bc3a29daee84d201c9b4ac02ed9d2", func := "actuary/actuarylaw22.RangingHolds", spec := "rangingHolds", recurses := true, apart := false, narrowed := true }
def RangingHoldsUptoSaid : Prop := rangingHoldsUptoRow.holds Tryz.pinned (OpenSpec.upto rangingHoldsSpec)

/-- 'actuarylaw22.RangingRefuses', WHERE WHAT IT READS IS OF BULK AT MOST 1048576: true; the input reads as it did. -/
def rangingRefusesUptoRow : OpenClaim := { program := "ytbhfhkcdfmmmiaagreat", sum := "119c454e578d487406251f7e2b526b17ca4bc3a29daee84d201c9b4ac02ed9d2", func := "actuary/actuarylaw22.RangingRefuses", spec := "rangingRefuses", inPlace := ["internal/reflectlite.TypeOf"], unfollowed := true, recurses := true, apart := false, narrowed := true }
def RangingRefusesUptoSaid : Prop := rangingRefusesUptoRow.holds Tryz.pinned (OpenSpec.upto rangingRefusesSpec)

/-- 'actuarylaw22.RangingDuals', WHERE WHAT IT READS IS OF BULK AT MOST 1048576: true; the input reads as it did. -/
def rangingDualsUptoRow : OpenClaim := { program := "ytbhfhkcdfmmmiaagreat", sum := "119c454e578d487406251f7e2b526b17ca4bc3a29daee84d201c9b4ac02ed9d2", func := "actuary/actuarylaw22.RangingDuals", spec := "rangingDuals", recurses := true, apart := false, narrowed := true }
def RangingDualsUptoSaid : Prop := rangingDualsUptoRow.holds Tryz.pinned (OpenSpec.upto rangingDualsSpec)

/-- 'actuarylaw22.RangingNear', WHERE WHAT IT READS IS OF BULK AT MOST 1048576: true; the input reads as it did. -/
def rangingNearUptoRow : OpenClaim := { program := "ytbhfhkcdfmmmiaagreat", sum := "119c454e578d487406251f7e2b526b17ca4bc3a29daee84d201c9b4ac02ed9d2", func := "actuary/actuarylaw22.RangingNear", spec := "rangingNear", recurses := true, apart := false, narrowed := true }
def RangingNearUptoSaid : Prop := rangingNearUptoRow.holds Tryz.pinned (OpenSpec.upto rangingNearSpec)

/-- 'actuarylaw22.RangingEnds', WHERE WHAT IT READS IS OF BULK AT MOST 1048576: true; the input reads as it did. -/
def rangingEndsUptoRow : OpenClaim := { program := "ytbhfhkcdfmmmiaagreat", sum := "119c454e578d487406251f7e2b526b17ca4bc3a29daee84d201c9b4ac02ed9d2", func := "actuary/actuarylaw22.RangingEnds", spec := "rangingEnds", recurses := true, apart := false, narrowed := true }
def RangingEndsUptoSaid : Prop := rangingEndsUptoRow.holds Tryz.pinned (OpenSpec.upto rangingEndsSpec)

/-- 'actuarylaw21.CanonLeast', WHERE WHAT IT READS IS OF BULK AT MOST 1048576: true; the input reads as it did. -/
def canonLeastUptoRow : OpenClaim := { program := "ytbhfhkcdfmmmiaagreat", sum := "119c454e578d487406251f7e2b526b17ca4bc3a29daee84d201c9b4ac02ed9d2", func := "actuary/actuarylaw21.CanonLeast", spec := "canonLeast", recurses := true, apart := false, narrowed := true }
def CanonLeastUptoSaid : Prop := canonLeastUptoRow.holds Tryz.pinned (OpenSpec.upto canonLeastSpec)

end Rows
end Go.Proofs.YtbhfhkcdfmmmiaaGreat
