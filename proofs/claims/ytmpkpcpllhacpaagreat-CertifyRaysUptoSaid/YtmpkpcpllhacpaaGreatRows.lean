/-
  No cell of these rows narrows 'for every input' (looked for: loops, veiled, ifaces, maps, wideKeys, modest, calm, conditions, laid).
  DERIVED. THE GIVEN ROWS OF THIS SEAT. 4 by the template 'for every input the law returns true; each argument reads behind the call as it read before'; 0 by the template 'total and deterministic' (their statements: YtmpkpcpllhacpaaGreatTotals.lean).
  GIVEN WITH THE SEED: the statements are not yours to turn. If you find one false, say at which input.
  Laid BY PROGRAM, IN A SANDBOX (cutbox-rows.mjs): the forced cells as the released guide's own fill.sh prints them over the translation b63f782f7df11753… (all of the seat's roots in one cut). By AI agents, Wed Nov 11 2026. No macro, syntax, notation, axiom, sorry.
-/
import Derived.Test.YtmpkpcpllhacpaaGreatChecked
import GoSem.Claim
import GoSem.ClaimJoined
import GoSem.ClaimMapViews
import Derived.JoinedTies
import Derived.KernelRfl
namespace Go.Proofs.YtmpkpcpllhacpaaGreat
/- THE CELL 'sum', in the pinned program and in every row, IS THE sha256 OF THE DUMP (.gsa) THAT YtmpkpcpllhacpaaGreatProg.lean LOADS. Nothing in Lean hashes anything: it is a label: what it is worth is what the hold of that sum in a sandbox is worth. -/
noncomputable def Tryz.pinned : Pinned := { name := "ytmpkpcpllhacpaagreat", sum := "b63f782f7df117535387e8f0a3b8f23cd9e137bc083a4dfca6c84c13d9cbe851", checked := Tryz.checked }
namespace Rows
def none {H : Type} : Left H := { results := [], args := [] }

/-- 'actuarylaw20.CertifySlack': WHATEVER THE INPUT: true; the input reads as it did. -/
def certifySlackSpec : ChangeSpec := { name := "certifySlack", fn := fun _ => fun
  | [d1, d2, d3, d4] => { results := [.lit (.bool true)], args := [d1, d2, d3, d4] }
  | _ => none }
def certifySlackRow : OpenClaim := { program := "ytmpkpcpllhacpaagreat", sum := "b63f782f7df117535387e8f0a3b8f23cd9e137bc083a4dfca6c84c13d9cbe851", func := "actuary/actuarylaw20.CertifySlack", spec := "certifySlack", recurses := true, apart := false }
def CertifySlackSaid : Prop := certifySlackRow.holds Tryz.pinned (OpenSpec.ofChange certifySlackSpec)

/-- ITS FALSE NEIGHBOUR: 'it returns false'. Refute it at one input. -/
def certifySlackWrong : ChangeSpec := { name := "certifySlack", fn := fun _ => fun
  | [d1, d2, d3, d4] => { results := [.lit (.bool false)], args := [d1, d2, d3, d4] }
  | _ => none }
def CertifySlackWrongFalsely : Prop := certifySlackRow.holds Tryz.pinned (OpenSpec.ofChange certifySlackWrong)

/-- 'actuarylaw20.CertifyScales': WHATEVER THE INPUT: true; the input reads as it did. -/
def certifyScalesSpec : ChangeSpec := { name := "certifyScales", fn := fun _ => fun
  | [d1, d2, d3, d4] => { results := [.lit (.bool true)], args := [d1, d2, d3, d4] }
  | _ => none }
def certifyScalesRow : OpenClaim := { program := "ytmpkpcpllhacpaagreat", sum := "b63f782f7df117535387e8f0a3b8f23cd9e137bc083a4dfca6c84c13d9cbe851", func := "actuary/actuarylaw20.CertifyScales", spec := "certifyScales", recurses := true, apart := false }
def CertifyScalesSaid : Prop := certifyScalesRow.holds Tryz.pinned (OpenSpec.ofChange certifyScalesSpec)

/-- ITS FALSE NEIGHBOUR: 'it returns false'. Refute it at one input. -/
def certifyScalesWrong : ChangeSpec := { name := "certifyScales", fn := fun _ => fun
  | [d1, d2, d3, d4] => { results := [.lit (.bool false)], args := [d1, d2, d3, d4] }
  | _ => none }
def CertifyScalesWrongFalsely : Prop := certifyScalesRow.holds Tryz.pinned (OpenSpec.ofChange certifyScalesWrong)

/-- 'actuarylaw20.CertifyNever': WHATEVER THE INPUT: true; the input reads as it did. -/
def certifyNeverSpec : ChangeSpec := { name := "certifyNever", fn := fun _ => fun
  | [d1, d2, d3, d4] => { results := [.lit (.bool true)], args := [d1, d2, d3, d4] }
  | _ => none }
def certifyNeverRow : OpenClaim := { program := "ytmpkpcpllhacpaagreat", sum := "b63f782f7df117535387e8f0a3b8f23cd9e137bc083a4dfca6c84c13d9cbe851", func := "actuary/actuarylaw20.CertifyNever", spec := "certifyNever", recurses := true, apart := false }
def CertifyNeverSaid : Prop := certifyNeverRow.holds Tryz.pinned (OpenSpec.ofChange certifyNeverSpec)

/-- ITS FALSE NEIGHBOUR: 'it returns false'. Refute it at one input. -/
def certifyNeverWrong : ChangeSpec := { name := "certifyNever", fn := fun _ => fun
  | [d1, d2, d3, d4] => { results := [.lit (.bool false)], args := [d1, d2, d3, d4] }
  | _ => none }
def CertifyNeverWrongFalsely : Prop := certifyNeverRow.holds Tryz.pinned (OpenSpec.ofChange certifyNeverWrong)

/-- 'actuarylaw20.CertifyRays': WHATEVER THE INPUT: true; the input reads as it did. -/
def certifyRaysSpec : ChangeSpec := { name := "certifyRays", fn := fun _ => fun
  | [d1, d2, d3, d4, d5] => { results := [.lit (.bool true)], args := [d1, d2, d3, d4, d5] }
  | _ => none }
def certifyRaysRow : OpenClaim := { program := "ytmpkpcpllhacpaagreat", sum := "b63f782f7df117535387e8f0a3b8f23cd9e137bc083a4dfca6c84c13d9cbe851", func := "actuary/actuarylaw20.CertifyRays", spec := "certifyRays", recurses := true, apart := false }
def CertifyRaysSaid : Prop := certifyRaysRow.holds Tryz.pinned (OpenSpec.ofChange certifyRaysSpec)

/-- ITS FALSE NEIGHBOUR: 'it returns false'. Refute it at one input. -/
def certifyRaysWrong : ChangeSpec := { name := "certifyRays", fn := fun _ => fun
  | [d1, d2, d3, d4, d5] => { results := [.lit (.bool false)], args := [d1, d2, d3, d4, d5] }
  | _ => none }
def CertifyRaysWrongFalsely : Prop := certifyRaysRow.holds Tryz.pinned (OpenSpec.ofChange certifyRaysWrong)

/- THE SECOND FORM. 'bulk': how many values and letters a reading holds, each counted each time it is reached (what is shared counts as often as it is met; a slice's spare places count too). A statement '..UptoSaid' is the law's where the arguments, and the package variables that the reading takes, are together of bulk at most 1048576: NARROWER than '..Said'. Prove '..Said' where nothing that the law and all that it calls make is longer than what came in: it says more and counts as full. Else prove '..UptoSaid'. A law counts once. -/
mutual
def uptoBulk {H : Type} : DataW H → Nat
  | .lit (.string bytes) => bytes.length + 1
  | .lit _ => 1
  | .nil => 1
  | .ptr d => uptoBulk d + 1
  | .slice elems spare => uptoBulkAll elems + uptoBulkAll spare + 1
  | .agg parts => uptoBulkAll parts + 1
  | .iface _ d => uptoBulk d + 1
  | .map entries => uptoBulkEntries entries + 1
  | .held _ => 1
def uptoBulkAll {H : Type} : List (DataW H) → Nat
  | [] => 0
  | d :: r => uptoBulk d + uptoBulkAll r
def uptoBulkEntries {H : Type} : List (Lit × DataW H) → Nat
  | [] => 0
  | x :: r => uptoBulkEntry x + uptoBulkEntries r
def uptoBulkEntry {H : Type} : Lit × DataW H → Nat
  | (.string bytes, d) => bytes.length + uptoBulk d + 1
  | (_, d) => uptoBulk d + 1
 end
def uptoSmall : (H : Type) → List (DataW H) → Bool := fun _ ds => decide (uptoBulkAll ds ≤ 1048576)
def OpenSpec.upto (s : _root_.Go.ChangeSpec) : _root_.Go.OpenSpec := { _root_.Go.OpenSpec.ofChange s with cond := some uptoSmall }

/-- 'actuarylaw20.CertifySlack', WHERE WHAT IT READS IS OF BULK AT MOST 1048576: true; the input reads as it did. -/
def certifySlackUptoRow : OpenClaim := { program := "ytmpkpcpllhacpaagreat", sum := "b63f782f7df117535387e8f0a3b8f23cd9e137bc083a4dfca6c84c13d9cbe851", func := "actuary/actuarylaw20.CertifySlack", spec := "certifySlack", recurses := true, apart := false, narrowed := true }
def CertifySlackUptoSaid : Prop := certifySlackUptoRow.holds Tryz.pinned (OpenSpec.upto certifySlackSpec)

/-- 'actuarylaw20.CertifyScales', WHERE WHAT IT READS IS OF BULK AT MOST 1048576: true; the input reads as it did. -/
def certifyScalesUptoRow : OpenClaim := { program := "ytmpkpcpllhacpaagreat", sum := "b63f782f7df117535387e8f0a3b8f23cd9e137bc083a4dfca6c84c13d9cbe851", func := "actuary/actuarylaw20.CertifyScales", spec := "certifyScales", recurses := true, apart := false, narrowed := true }
def CertifyScalesUptoSaid : Prop := certifyScalesUptoRow.holds Tryz.pinned (OpenSpec.upto certifyScalesSpec)

/-- 'actuarylaw20.CertifyNever', WHERE WHAT IT READS IS OF BULK AT MOST 1048576: true; the input reads as it did. -/
def certifyNeverUptoRow : OpenClaim := { program := "ytmpkpcpllhacpaagreat", sum := "b63f782f7df117535387e8f0a3b8f23cd9e137bc083a4dfca6c84c13d9cbe851", func := "actuary/actuarylaw20.CertifyNever", spec := "certifyNever", recurses := true, apart := false, narrowed := true }
def CertifyNeverUptoSaid : Prop := certifyNeverUptoRow.holds Tryz.pinned (OpenSpec.upto certifyNeverSpec)

/-- 'actuarylaw20.CertifyRays', WHERE WHAT IT READS IS OF BULK AT MOST 1048576: true; the input reads as it did. -/
def certifyRaysUptoRow : OpenClaim := { program := "ytmpkpcpllhacpaagreat", sum := "b63f782f7df117535387e8f0a3b8f23cd9e137bc083a4dfca6c84c13d9cbe851", func := "actuary/actuarylaw20.CertifyRays", spec := "certifyRays", recurses := true, apart := false, narrowed := true }
def CertifyRaysUptoSaid : Prop := certifyRaysUptoRow.holds Tryz.pinned (OpenSpec.upto certifyRaysSpec)

end Rows
end Go.Proofs.YtmpkpcpllhacpaaGreat
