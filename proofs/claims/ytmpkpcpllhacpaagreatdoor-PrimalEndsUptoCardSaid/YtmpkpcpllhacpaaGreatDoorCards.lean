/-
  DERIVED. GIVEN WITH THE SEED: THE CARDS: each row of YtmpkpcpllhacpaaGreatDoorRows.lean that lists a variable, with what it lists TIED to the program's text (the seventh form; the later family's looks); each row that meets fmt, with fmt's text TOLD by the authors' own Lean function (tested against real Go, not proved from fmt's source: count such statements apart). THE CARD IS WHAT COUNTS. Prove the row's statement (the work); the ties are given (YtmpkpcpllhacpaaGreatDoorTie.lean); close each card by the builder's one call (the guide's Derived/Test/ToyasCard.lean, 'card_holds'). Laid BY PROGRAM, IN A SANDBOX (cutbox-door.mjs). By AI agents, Wed Nov 11 2026. No macro, syntax, notation, axiom, sorry.
-/
import Derived.Test.YtmpkpcpllhacpaaGreatDoorRows
import GoSem.ClaimSeven
namespace Go.Proofs.YtmpkpcpllhacpaaGreatDoor
namespace Rows

/-- THE TIED CARD OF 'actuarylaw18.PrimalEnters'. -/
def primalEntersCard : Claim7 := { stood := { row := primalEntersRow, standIns := [], harness := (true, "2a871e0ba94e1747007263c815c868fed9c33fae1f0b3d8a999fd12830b97056"), looks := true }, kinds := [], alts := [], laidByText := true, laidKinds := [.handle], laidTests := true, laidLooks := .later }
def PrimalEntersCardSaid : Prop := Claim7.holds Tryz.pinned (.plain (OpenSpec.ofChange primalEntersSpec)) primalEntersCard

/-- THE TIED CARD OF 'actuarylaw18.PrimalBegins'. -/
def primalBeginsCard : Claim7 := { stood := { row := primalBeginsRow, standIns := [], harness := (true, "2a871e0ba94e1747007263c815c868fed9c33fae1f0b3d8a999fd12830b97056"), looks := true }, kinds := [], alts := [], laidByText := true, laidKinds := [.handle], laidTests := true, laidLooks := .later }
def PrimalBeginsCardSaid : Prop := Claim7.holds Tryz.pinned (.plain (OpenSpec.ofChange primalBeginsSpec)) primalBeginsCard

/-- THE TIED CARD OF 'actuarylaw18.PrimalEnds'. -/
def primalEndsCard : Claim7 := { stood := { row := primalEndsRow, standIns := [], harness := (true, "2a871e0ba94e1747007263c815c868fed9c33fae1f0b3d8a999fd12830b97056"), looks := true }, kinds := [], alts := [], laidByText := true, laidKinds := [.handle], laidTests := true, laidLooks := .later }
def PrimalEndsCardSaid : Prop := Claim7.holds Tryz.pinned (.plain (OpenSpec.ofChange primalEndsSpec)) primalEndsCard

/-- THE TIED CARD OF 'actuarylaw18.PrimalBudgets'. -/
def primalBudgetsCard : Claim7 := { stood := { row := primalBudgetsRow, standIns := [], harness := (true, "2a871e0ba94e1747007263c815c868fed9c33fae1f0b3d8a999fd12830b97056"), looks := true }, kinds := [], alts := [], laidByText := true, laidKinds := [.handle], laidTests := true, laidLooks := .later }
def PrimalBudgetsCardSaid : Prop := Claim7.holds Tryz.pinned (.plain (OpenSpec.ofChange primalBudgetsSpec)) primalBudgetsCard

/-- THE TIED CARD OF 'actuarylaw18.PrimalShows'. -/
def primalShowsCard : Claim7 := { stood := { row := primalShowsRow, standIns := [], harness := (true, "2a871e0ba94e1747007263c815c868fed9c33fae1f0b3d8a999fd12830b97056"), looks := true }, kinds := [], alts := [], laidByText := true, laidKinds := [.handle], laidTests := true, laidLooks := .later }
def PrimalShowsCardSaid : Prop := Claim7.holds Tryz.pinned (.plain (OpenSpec.ofChange primalShowsSpec)) primalShowsCard

/-- THE TIED CARD OF 'actuarylaw18.PrimalRuns'. -/
def primalRunsCard : Claim7 := { stood := { row := primalRunsRow, standIns := [], harness := (true, "2a871e0ba94e1747007263c815c868fed9c33fae1f0b3d8a999fd12830b97056"), looks := true }, kinds := [], alts := [], laidByText := true, laidKinds := [.handle], laidTests := true, laidLooks := .later }
def PrimalRunsCardSaid : Prop := Claim7.holds Tryz.pinned (.plain (OpenSpec.ofChange primalRunsSpec)) primalRunsCard

/-- THE TIED CARD OF 'actuarylaw18.PrimalFeasible'. -/
def primalFeasibleCard : Claim7 := { stood := { row := primalFeasibleRow, standIns := [], harness := (true, "2a871e0ba94e1747007263c815c868fed9c33fae1f0b3d8a999fd12830b97056"), looks := true }, kinds := [], alts := [], laidByText := true, laidKinds := [.handle], laidTests := true, laidLooks := .later }
def PrimalFeasibleCardSaid : Prop := Claim7.holds Tryz.pinned (.plain (OpenSpec.ofChange primalFeasibleSpec)) primalFeasibleCard

/-- THE SECOND FORM's CARD OF 'actuarylaw18.PrimalEnters'. -/
def primalEntersUptoCard : Claim7 := { stood := { row := primalEntersUptoRow, standIns := [], harness := (true, "2a871e0ba94e1747007263c815c868fed9c33fae1f0b3d8a999fd12830b97056"), looks := true }, kinds := [], alts := [], laidByText := true, laidKinds := [.handle], laidTests := true, laidLooks := .later }
def PrimalEntersUptoCardSaid : Prop := Claim7.holds Tryz.pinned (.plain (OpenSpec.upto primalEntersSpec)) primalEntersUptoCard

/-- THE SECOND FORM's CARD OF 'actuarylaw18.PrimalBegins'. -/
def primalBeginsUptoCard : Claim7 := { stood := { row := primalBeginsUptoRow, standIns := [], harness := (true, "2a871e0ba94e1747007263c815c868fed9c33fae1f0b3d8a999fd12830b97056"), looks := true }, kinds := [], alts := [], laidByText := true, laidKinds := [.handle], laidTests := true, laidLooks := .later }
def PrimalBeginsUptoCardSaid : Prop := Claim7.holds Tryz.pinned (.plain (OpenSpec.upto primalBeginsSpec)) primalBeginsUptoCard

/-- THE SECOND FORM's CARD OF 'actuarylaw18.PrimalEnds'. -/
def primalEndsUptoCard : Claim7 := { stood := { row := primalEndsUptoRow, standIns := [], harness := (true, "2a871e0ba94e1747007263c815c868fed9c33fae1f0b3d8a999fd12830b97056"), looks := true }, kinds := [], alts := [], laidByText := true, laidKinds := [.handle], laidTests := true, laidLooks := .later }
def PrimalEndsUptoCardSaid : Prop := Claim7.holds Tryz.pinned (.plain (OpenSpec.upto primalEndsSpec)) primalEndsUptoCard

/-- THE SECOND FORM's CARD OF 'actuarylaw18.PrimalBudgets'. -/
def primalBudgetsUptoCard : Claim7 := { stood := { row := primalBudgetsUptoRow, standIns := [], harness := (true, "2a871e0ba94e1747007263c815c868fed9c33fae1f0b3d8a999fd12830b97056"), looks := true }, kinds := [], alts := [], laidByText := true, laidKinds := [.handle], laidTests := true, laidLooks := .later }
def PrimalBudgetsUptoCardSaid : Prop := Claim7.holds Tryz.pinned (.plain (OpenSpec.upto primalBudgetsSpec)) primalBudgetsUptoCard

/-- THE SECOND FORM's CARD OF 'actuarylaw18.PrimalShows'. -/
def primalShowsUptoCard : Claim7 := { stood := { row := primalShowsUptoRow, standIns := [], harness := (true, "2a871e0ba94e1747007263c815c868fed9c33fae1f0b3d8a999fd12830b97056"), looks := true }, kinds := [], alts := [], laidByText := true, laidKinds := [.handle], laidTests := true, laidLooks := .later }
def PrimalShowsUptoCardSaid : Prop := Claim7.holds Tryz.pinned (.plain (OpenSpec.upto primalShowsSpec)) primalShowsUptoCard

/-- THE SECOND FORM's CARD OF 'actuarylaw18.PrimalRuns'. -/
def primalRunsUptoCard : Claim7 := { stood := { row := primalRunsUptoRow, standIns := [], harness := (true, "2a871e0ba94e1747007263c815c868fed9c33fae1f0b3d8a999fd12830b97056"), looks := true }, kinds := [], alts := [], laidByText := true, laidKinds := [.handle], laidTests := true, laidLooks := .later }
def PrimalRunsUptoCardSaid : Prop := Claim7.holds Tryz.pinned (.plain (OpenSpec.upto primalRunsSpec)) primalRunsUptoCard

/-- THE SECOND FORM's CARD OF 'actuarylaw18.PrimalFeasible'. -/
def primalFeasibleUptoCard : Claim7 := { stood := { row := primalFeasibleUptoRow, standIns := [], harness := (true, "2a871e0ba94e1747007263c815c868fed9c33fae1f0b3d8a999fd12830b97056"), looks := true }, kinds := [], alts := [], laidByText := true, laidKinds := [.handle], laidTests := true, laidLooks := .later }
def PrimalFeasibleUptoCardSaid : Prop := Claim7.holds Tryz.pinned (.plain (OpenSpec.upto primalFeasibleSpec)) primalFeasibleUptoCard
end Rows
end Go.Proofs.YtmpkpcpllhacpaaGreatDoor
