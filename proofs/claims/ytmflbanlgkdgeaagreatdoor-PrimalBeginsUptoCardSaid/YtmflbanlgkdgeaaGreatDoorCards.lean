/-
  DERIVED. GIVEN WITH THE SEED: THE CARDS: each row of YtmflbanlgkdgeaaGreatDoorRows.lean that lists a variable, with what it lists TIED to the program's text (the seventh form; the later family's looks); each row that meets fmt, with fmt's text TOLD by the authors' own Lean function (tested against real Go, not proved from fmt's source: count such statements apart). THE CARD IS WHAT COUNTS. Prove the row's statement (the work); the ties are given (YtmflbanlgkdgeaaGreatDoorTie.lean); close each card by the builder's one call (the guide's Derived/Test/ToyasCard.lean, 'card_holds'). Laid BY PROGRAM, IN A SANDBOX (cutbox-door.mjs). By AI agents, Wed Nov 11 2026. No macro, syntax, notation, axiom, sorry.
-/
import Derived.Test.YtmflbanlgkdgeaaGreatDoorRows
import GoSem.ClaimSeven
namespace Go.Proofs.YtmflbanlgkdgeaaGreatDoor
namespace Rows

/-- THE TIED CARD OF 'actuarylaw18.PrimalBegins'. -/
def primalBeginsCard : Claim7 := { stood := { row := primalBeginsRow, standIns := [], harness := (true, "6576bc4bf2c6a942444e9d81a140776ad7aa7886d76ca31be01ba31a81cf33e7"), looks := true }, kinds := [], alts := [], laidByText := true, laidKinds := [.handle], laidTests := true, laidLooks := .later }
def PrimalBeginsCardSaid : Prop := Claim7.holds Tryz.pinned (.plain (OpenSpec.ofChange primalBeginsSpec)) primalBeginsCard

/-- THE TIED CARD OF 'actuarylaw18.PrimalFeasible'. -/
def primalFeasibleCard : Claim7 := { stood := { row := primalFeasibleRow, standIns := [], harness := (true, "6576bc4bf2c6a942444e9d81a140776ad7aa7886d76ca31be01ba31a81cf33e7"), looks := true }, kinds := [], alts := [], laidByText := true, laidKinds := [.handle], laidTests := true, laidLooks := .later }
def PrimalFeasibleCardSaid : Prop := Claim7.holds Tryz.pinned (.plain (OpenSpec.ofChange primalFeasibleSpec)) primalFeasibleCard

/-- THE SECOND FORM's CARD OF 'actuarylaw18.PrimalBegins'. -/
def primalBeginsUptoCard : Claim7 := { stood := { row := primalBeginsUptoRow, standIns := [], harness := (true, "6576bc4bf2c6a942444e9d81a140776ad7aa7886d76ca31be01ba31a81cf33e7"), looks := true }, kinds := [], alts := [], laidByText := true, laidKinds := [.handle], laidTests := true, laidLooks := .later }
def PrimalBeginsUptoCardSaid : Prop := Claim7.holds Tryz.pinned (.plain (OpenSpec.upto primalBeginsSpec)) primalBeginsUptoCard

/-- THE SECOND FORM's CARD OF 'actuarylaw18.PrimalFeasible'. -/
def primalFeasibleUptoCard : Claim7 := { stood := { row := primalFeasibleUptoRow, standIns := [], harness := (true, "6576bc4bf2c6a942444e9d81a140776ad7aa7886d76ca31be01ba31a81cf33e7"), looks := true }, kinds := [], alts := [], laidByText := true, laidKinds := [.handle], laidTests := true, laidLooks := .later }
def PrimalFeasibleUptoCardSaid : Prop := Claim7.holds Tryz.pinned (.plain (OpenSpec.upto primalFeasibleSpec)) primalFeasibleUptoCard
end Rows
end Go.Proofs.YtmflbanlgkdgeaaGreatDoor
