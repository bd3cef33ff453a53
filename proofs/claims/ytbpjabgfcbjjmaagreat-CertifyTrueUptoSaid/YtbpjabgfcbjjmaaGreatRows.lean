/-
  No cell of these rows narrows 'for every input' (looked for: loops, veiled, ifaces, maps, wideKeys, modest, calm, conditions, laid).
  DERIVED. THE GIVEN ROWS OF THIS SEAT. 5 by the template 'for every input the law returns true; each argument reads behind the call as it read before'; 0 by the template 'total and deterministic' (their statements: YtbpjabgfcbjjmaaGreatTotals.lean).
  GIVEN WITH THE SEED: the statements are not yours to turn. If you find one false, say at which input.
  Laid BY PROGRAM, IN A SANDBOX (cutbox-rows.mjs): the forced cells as the released guide's own fill.sh prints them over the translation db09036d14a3b39d… (all of the seat's roots in one cut). By AI agents, Wed Nov 11 2026. No macro, syntax, notation, axiom, sorry.
-/
import Derived.Test.YtbpjabgfcbjjmaaGreatChecked
import GoSem.Claim
import GoSem.ClaimJoined
import GoSem.ClaimMapViews
import Derived.JoinedTies
import Derived.KernelRfl
namespace Go.Proofs.YtbpjabgfcbjjmaaGreat
/- THE CELL 'sum', in the pinned program and in every row, IS THE sha256 OF THE DUMP (.gsa) THAT YtbpjabgfcbjjmaaGreatProg.lean LOADS. Nothing in Lean hashes anything: it is a label: what it is worth is what the hold of that sum in a sandbox is worth. -/
noncomputable def Tryz.pinned : Pinned := { name := "ytbpjabgfcbjjmaagreat", sum := "db09036d14a3b39d320d050370077264b39dbf29e77d7069ad2290d02119fff1", checked := Tryz.checked }
namespace Rows
def none {H : Type} : Left H := { results := [], args := [] }

/-- 'actuarylaw20.CertifyTrue': WHATEVER THE INPUT: true; the input reads as it did. -/
def certifyTrueSpec : ChangeSpec := { name := "certifyTrue", fn := fun _ => fun
  | [d1, d2, d3, d4, d5] => { results := [.lit (.bool true)], args := [d1, d2, d3, d4, d5] }
  | _ => none }
def certifyTrueRow : OpenClaim := { program := "ytbpjabgfcbjjmaagreat", sum := "db09036d14a3b39d320d050370077264b39dbf29e77d7069ad2290d02119fff1", func := "actuary/actuarylaw20.CertifyTrue", spec := "certifyTrue", recurses := true, apart := false }
def CertifyTrueSaid : Prop := certifyTrueRow.holds Tryz.pinned (OpenSpec.ofChange certifyTrueSpec)

/-- ITS FALSE NEIGHBOUR: 'it returns false'. Refute it at one input. -/
def certifyTrueWrong : ChangeSpec := { name := "certifyTrue", fn := fun _ => fun
  | [d1, d2, d3, d4, d5] => { results := [.lit (.bool false)], args := [d1, d2, d3, d4, d5] }
  | _ => none }
def CertifyTrueWrongFalsely : Prop := certifyTrueRow.holds Tryz.pinned (OpenSpec.ofChange certifyTrueWrong)

/-- 'actuarylaw21.CanonAnswers': WHATEVER THE INPUT: true; the input reads as it did. -/
def canonAnswersSpec : ChangeSpec := { name := "canonAnswers", fn := fun _ => fun
  | [d] => { results := [.lit (.bool true)], args := [d] }
  | _ => none }
def canonAnswersRow : OpenClaim := { program := "ytbpjabgfcbjjmaagreat", sum := "db09036d14a3b39d320d050370077264b39dbf29e77d7069ad2290d02119fff1", func := "actuary/actuarylaw21.CanonAnswers", spec := "canonAnswers", recurses := true, apart := false }
def CanonAnswersSaid : Prop := canonAnswersRow.holds Tryz.pinned (OpenSpec.ofChange canonAnswersSpec)

/-- ITS FALSE NEIGHBOUR: 'it returns false'. Refute it at one input. -/
def canonAnswersWrong : ChangeSpec := { name := "canonAnswers", fn := fun _ => fun
  | [d] => { results := [.lit (.bool false)], args := [d] }
  | _ => none }
def CanonAnswersWrongFalsely : Prop := canonAnswersRow.holds Tryz.pinned (OpenSpec.ofChange canonAnswersWrong)

/-- 'actuarylaw22.RangingRhs': WHATEVER THE INPUT: true; the input reads as it did. -/
def rangingRhsSpec : ChangeSpec := { name := "rangingRhs", fn := fun _ => fun
  | [d1, d2, d3] => { results := [.lit (.bool true)], args := [d1, d2, d3] }
  | _ => none }
def rangingRhsRow : OpenClaim := { program := "ytbpjabgfcbjjmaagreat", sum := "db09036d14a3b39d320d050370077264b39dbf29e77d7069ad2290d02119fff1", func := "actuary/actuarylaw22.RangingRhs", spec := "rangingRhs", recurses := true, apart := false }
def RangingRhsSaid : Prop := rangingRhsRow.holds Tryz.pinned (OpenSpec.ofChange rangingRhsSpec)

/-- ITS FALSE NEIGHBOUR: 'it returns false'. Refute it at one input. -/
def rangingRhsWrong : ChangeSpec := { name := "rangingRhs", fn := fun _ => fun
  | [d1, d2, d3] => { results := [.lit (.bool false)], args := [d1, d2, d3] }
  | _ => none }
def RangingRhsWrongFalsely : Prop := rangingRhsRow.holds Tryz.pinned (OpenSpec.ofChange rangingRhsWrong)

/-- 'actuarylaw21.CanonFrom': WHATEVER THE INPUT: true; the input reads as it did. -/
def canonFromSpec : ChangeSpec := { name := "canonFrom", fn := fun _ => fun
  | [d1, d2] => { results := [.lit (.bool true)], args := [d1, d2] }
  | _ => none }
def canonFromRow : OpenClaim := { program := "ytbpjabgfcbjjmaagreat", sum := "db09036d14a3b39d320d050370077264b39dbf29e77d7069ad2290d02119fff1", func := "actuary/actuarylaw21.CanonFrom", spec := "canonFrom", inPlace := ["internal/reflectlite.TypeOf"], unfollowed := true, recurses := true, apart := false }
def CanonFromSaid : Prop := canonFromRow.holds Tryz.pinned (OpenSpec.ofChange canonFromSpec)

/-- ITS FALSE NEIGHBOUR: 'it returns false'. Refute it at one input. -/
def canonFromWrong : ChangeSpec := { name := "canonFrom", fn := fun _ => fun
  | [d1, d2] => { results := [.lit (.bool false)], args := [d1, d2] }
  | _ => none }
def CanonFromWrongFalsely : Prop := canonFromRow.holds Tryz.pinned (OpenSpec.ofChange canonFromWrong)

/-- 'actuarylaw22.RangingCosts': WHATEVER THE INPUT: true; the input reads as it did. -/
def rangingCostsSpec : ChangeSpec := { name := "rangingCosts", fn := fun _ => fun
  | [d1, d2] => { results := [.lit (.bool true)], args := [d1, d2] }
  | _ => none }
def rangingCostsRow : OpenClaim := { program := "ytbpjabgfcbjjmaagreat", sum := "db09036d14a3b39d320d050370077264b39dbf29e77d7069ad2290d02119fff1", func := "actuary/actuarylaw22.RangingCosts", spec := "rangingCosts", recurses := true, apart := false }
def RangingCostsSaid : Prop := rangingCostsRow.holds Tryz.pinned (OpenSpec.ofChange rangingCostsSpec)

/-- ITS FALSE NEIGHBOUR: 'it returns false'. Refute it at one input. -/
def rangingCostsWrong : ChangeSpec := { name := "rangingCosts", fn := fun _ => fun
  | [d1, d2] => { results := [.lit (.bool false)], args := [d1, d2] }
  | _ => none }
def RangingCostsWrongFalsely : Prop := rangingCostsRow.holds Tryz.pinned (OpenSpec.ofChange rangingCostsWrong)

/- THE SECOND FORM. 'bulk': how many values and letters a reading holds, each counted each time it is reached (what is shared counts as often as it is met; a slice's spare places count too). A statement '..UptoSaid' is the law's where the arguments, and the package variables that the reading takes, are together of bulk at most 1048576: NARROWER than '..Said'. Prove '..Said' where nothing that the law and all that it calls make is longer than what came in: it says more and counts as full. Else prove '..UptoSaid'. A law counts once. -/
mutual
def uptoBulk {H : Type} : DataW H → Nat
  | .lit (.string bytes) => bytes.length + 1
  | .lit _ => 1
  | .nil => 1
  | .ptr d => uptoBulk d + 1
  | .slice elems spare => uptoBulkAll elems + uptoBulkAll spare + 1
  | .agg parts => uptoBulkAll parts + 1
  | .iface _ d => uptoBulk d + 1
  | .map entries => uptoBulkEntries entries + 1
  | .held _ => 1
def uptoBulkAll {H : Type} : List (DataW H) → Nat
  | [] => 0
  | d :: r => uptoBulk d + uptoBulkAll r
def uptoBulkEntries {H : Type} : List (Lit × DataW H) → Nat
  | [] => 0
  | x :: r => uptoBulkEntry x + uptoBulkEntries r
def uptoBulkEntry {H : Type} : Lit × DataW H → Nat
  | (.string bytes, d) => bytes.length + uptoBulk d + 1
  | (_, d) => uptoBulk d + 1
 end
def uptoSmall : (H : Type) → List (DataW H) → Bool := fun _ ds => decide (uptoBulkAll ds ≤ 1048576)
def OpenSpec.upto (s : _root_.Go.ChangeSpec) : _root_.Go.OpenSpec := { _root_.Go.OpenSpec.ofChange s with cond := some uptoSmall }

/-- 'actuarylaw20.CertifyTrue', WHERE WHAT IT READS IS OF BULK AT MOST 1048576: true; the input reads as it did. -/
def certifyTrueUptoRow : OpenClaim := { program := "ytbpjabgfcbjjmaagreat", sum := "db09036d14a3b39d320d050370077264b39dbf29e77d7069ad2290d02119fff1", func := "actuary/actuarylaw20.CertifyTrue", spec := "certifyTrue", recurses := true, apart := false, narrowed := true }
def CertifyTrueUptoSaid : Prop := certifyTrueUptoRow.holds Tryz.pinned (OpenSpec.upto certifyTrueSpec)

/-- 'actuarylaw21.CanonAnswers', WHERE WHAT IT READS IS OF BULK AT MOST 1048576: true; the input reads as it did. -/
def canonAnswersUptoRow : OpenClaim := { program := "ytbpjabgfcbjjmaagreat", sum := "db09036d14a3b39d320d050370077264b39dbf29e77d7069ad2290d02119fff1", func := "actuary/actuarylaw21.CanonAnswers", spec := "canonAnswers", recurses := true, apart := false, narrowed := true }
def CanonAnswersUptoSaid : Prop := canonAnswersUptoRow.holds Tryz.pinned (OpenSpec.upto canonAnswersSpec)

/-- 'actuarylaw22.RangingRhs', WHERE WHAT IT READS IS OF BULK AT MOST 1048576: true; the input reads as it did. -/
def rangingRhsUptoRow : OpenClaim := { program := "ytbpjabgfcbjjmaagreat", sum := "db09036d14a3b39d320d050370077264b39dbf29e77d7069ad2290d02119fff1", func := "actuary/actuarylaw22.RangingRhs", spec := "rangingRhs", recurses := true, apart := false, narrowed := true }
def RangingRhsUptoSaid : Prop := rangingRhsUptoRow.holds Tryz.pinned (OpenSpec.upto rangingRhsSpec)

/-- 'actuarylaw21.CanonFrom', WHERE WHAT IT READS IS OF BULK AT MOST 1048576: true; the input reads as it did. -/
def canonFromUptoRow : OpenClaim := { program := "ytbpjabgfcbjjmaagreat", sum := "db09036d14a3b39d320d050370077264b39dbf29e77d7069ad2290d02119fff1", func := "actuary/actuarylaw21.CanonFrom", spec := "canonFrom", inPlace := ["internal/reflectlite.TypeOf"], unfollowed := true, recurses := true, apart := false, narrowed := true }
def CanonFromUptoSaid : Prop := canonFromUptoRow.holds Tryz.pinned (OpenSpec.upto canonFromSpec)

/-- 'actuarylaw22.RangingCosts', WHERE WHAT IT READS IS OF BULK AT MOST 1048576: true; the input reads as it did. -/
def rangingCostsUptoRow : OpenClaim := { program := "ytbpjabgfcbjjmaagreat", sum := "db09036d14a3b39d320d050370077264b39dbf29e77d7069ad2290d02119fff1", func := "actuary/actuarylaw22.RangingCosts", spec := "rangingCosts", recurses := true, apart := false, narrowed := true }
def RangingCostsUptoSaid : Prop := rangingCostsUptoRow.holds Tryz.pinned (OpenSpec.upto rangingCostsSpec)

end Rows
end Go.Proofs.YtbpjabgfcbjjmaaGreat
