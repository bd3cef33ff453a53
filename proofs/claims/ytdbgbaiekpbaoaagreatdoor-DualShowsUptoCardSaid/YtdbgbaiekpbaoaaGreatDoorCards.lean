/-
  DERIVED. GIVEN WITH THE SEED: THE CARDS: each row of YtdbgbaiekpbaoaaGreatDoorRows.lean that lists a variable, with what it lists TIED to the program's text (the seventh form; the later family's looks); each row that meets fmt, with fmt's text TOLD by the authors' own Lean function (tested against real Go, not proved from fmt's source: count such statements apart). THE CARD IS WHAT COUNTS. Prove the row's statement (the work); the ties are given (YtdbgbaiekpbaoaaGreatDoorTie.lean); close each card by the builder's one call (the guide's Derived/Test/ToyasCard.lean, 'card_holds'). Laid BY PROGRAM, IN A SANDBOX (cutbox-door.mjs). By AI agents, Wed Nov 11 2026. No macro, syntax, notation, axiom, sorry.
-/
import Derived.Test.YtdbgbaiekpbaoaaGreatDoorRows
import GoSem.ClaimSeven
namespace Go.Proofs.YtdbgbaiekpbaoaaGreatDoor
namespace Rows

/-- THE TIED CARD OF 'actuarylaw19.DualChooses'. -/
def dualChoosesCard : Claim7 := { stood := { row := dualChoosesRow, standIns := [], harness := (true, "3c9c29af4a8518e93ee7e7655d5a4678f12deeca114b198e2ad647ee41eb2152"), looks := true }, kinds := [], alts := [], laidByText := true, laidKinds := [.handle], laidTests := true, laidLooks := .later }
def DualChoosesCardSaid : Prop := Claim7.holds Tryz.pinned (.plain (OpenSpec.ofChange dualChoosesSpec)) dualChoosesCard

/-- THE TIED CARD OF 'actuarylaw19.DualBudgets'. -/
def dualBudgetsCard : Claim7 := { stood := { row := dualBudgetsRow, standIns := [], harness := (true, "3c9c29af4a8518e93ee7e7655d5a4678f12deeca114b198e2ad647ee41eb2152"), looks := true }, kinds := [], alts := [], laidByText := true, laidKinds := [.handle], laidTests := true, laidLooks := .later }
def DualBudgetsCardSaid : Prop := Claim7.holds Tryz.pinned (.plain (OpenSpec.ofChange dualBudgetsSpec)) dualBudgetsCard

/-- THE TIED CARD OF 'actuarylaw19.DualRuns'. -/
def dualRunsCard : Claim7 := { stood := { row := dualRunsRow, standIns := [], harness := (true, "3c9c29af4a8518e93ee7e7655d5a4678f12deeca114b198e2ad647ee41eb2152"), looks := true }, kinds := [], alts := [], laidByText := true, laidKinds := [.handle], laidTests := true, laidLooks := .later }
def DualRunsCardSaid : Prop := Claim7.holds Tryz.pinned (.plain (OpenSpec.ofChange dualRunsSpec)) dualRunsCard

/-- THE TIED CARD OF 'actuarylaw19.DualSolves'. -/
def dualSolvesCard : Claim7 := { stood := { row := dualSolvesRow, standIns := [], harness := (true, "3c9c29af4a8518e93ee7e7655d5a4678f12deeca114b198e2ad647ee41eb2152"), looks := true }, kinds := [], alts := [], laidByText := true, laidKinds := [.handle], laidTests := true, laidLooks := .later }
def DualSolvesCardSaid : Prop := Claim7.holds Tryz.pinned (.plain (OpenSpec.ofChange dualSolvesSpec)) dualSolvesCard

/-- THE TIED CARD OF 'actuarylaw19.DualShows'. -/
def dualShowsCard : Claim7 := { stood := { row := dualShowsRow, standIns := [], harness := (true, "3c9c29af4a8518e93ee7e7655d5a4678f12deeca114b198e2ad647ee41eb2152"), looks := true }, kinds := [], alts := [], laidByText := true, laidKinds := [.handle], laidTests := true, laidLooks := .later }
def DualShowsCardSaid : Prop := Claim7.holds Tryz.pinned (.plain (OpenSpec.ofChange dualShowsSpec)) dualShowsCard

/-- THE TIED CARD OF 'actuarylaw19.DualPrimal'. -/
def dualPrimalCard : Claim7 := { stood := { row := dualPrimalRow, standIns := [], harness := (true, "3c9c29af4a8518e93ee7e7655d5a4678f12deeca114b198e2ad647ee41eb2152"), looks := true }, kinds := [], alts := [], laidByText := true, laidKinds := [.handle], laidTests := true, laidLooks := .later }
def DualPrimalCardSaid : Prop := Claim7.holds Tryz.pinned (.plain (OpenSpec.ofChange dualPrimalSpec)) dualPrimalCard

/-- THE SECOND FORM's CARD OF 'actuarylaw19.DualChooses'. -/
def dualChoosesUptoCard : Claim7 := { stood := { row := dualChoosesUptoRow, standIns := [], harness := (true, "3c9c29af4a8518e93ee7e7655d5a4678f12deeca114b198e2ad647ee41eb2152"), looks := true }, kinds := [], alts := [], laidByText := true, laidKinds := [.handle], laidTests := true, laidLooks := .later }
def DualChoosesUptoCardSaid : Prop := Claim7.holds Tryz.pinned (.plain (OpenSpec.upto dualChoosesSpec)) dualChoosesUptoCard

/-- THE SECOND FORM's CARD OF 'actuarylaw19.DualBudgets'. -/
def dualBudgetsUptoCard : Claim7 := { stood := { row := dualBudgetsUptoRow, standIns := [], harness := (true, "3c9c29af4a8518e93ee7e7655d5a4678f12deeca114b198e2ad647ee41eb2152"), looks := true }, kinds := [], alts := [], laidByText := true, laidKinds := [.handle], laidTests := true, laidLooks := .later }
def DualBudgetsUptoCardSaid : Prop := Claim7.holds Tryz.pinned (.plain (OpenSpec.upto dualBudgetsSpec)) dualBudgetsUptoCard

/-- THE SECOND FORM's CARD OF 'actuarylaw19.DualRuns'. -/
def dualRunsUptoCard : Claim7 := { stood := { row := dualRunsUptoRow, standIns := [], harness := (true, "3c9c29af4a8518e93ee7e7655d5a4678f12deeca114b198e2ad647ee41eb2152"), looks := true }, kinds := [], alts := [], laidByText := true, laidKinds := [.handle], laidTests := true, laidLooks := .later }
def DualRunsUptoCardSaid : Prop := Claim7.holds Tryz.pinned (.plain (OpenSpec.upto dualRunsSpec)) dualRunsUptoCard

/-- THE SECOND FORM's CARD OF 'actuarylaw19.DualSolves'. -/
def dualSolvesUptoCard : Claim7 := { stood := { row := dualSolvesUptoRow, standIns := [], harness := (true, "3c9c29af4a8518e93ee7e7655d5a4678f12deeca114b198e2ad647ee41eb2152"), looks := true }, kinds := [], alts := [], laidByText := true, laidKinds := [.handle], laidTests := true, laidLooks := .later }
def DualSolvesUptoCardSaid : Prop := Claim7.holds Tryz.pinned (.plain (OpenSpec.upto dualSolvesSpec)) dualSolvesUptoCard

/-- THE SECOND FORM's CARD OF 'actuarylaw19.DualShows'. -/
def dualShowsUptoCard : Claim7 := { stood := { row := dualShowsUptoRow, standIns := [], harness := (true, "3c9c29af4a8518e93ee7e7655d5a4678f12deeca114b198e2ad647ee41eb2152"), looks := true }, kinds := [], alts := [], laidByText := true, laidKinds := [.handle], laidTests := true, laidLooks := .later }
def DualShowsUptoCardSaid : Prop := Claim7.holds Tryz.pinned (.plain (OpenSpec.upto dualShowsSpec)) dualShowsUptoCard

/-- THE SECOND FORM's CARD OF 'actuarylaw19.DualPrimal'. -/
def dualPrimalUptoCard : Claim7 := { stood := { row := dualPrimalUptoRow, standIns := [], harness := (true, "3c9c29af4a8518e93ee7e7655d5a4678f12deeca114b198e2ad647ee41eb2152"), looks := true }, kinds := [], alts := [], laidByText := true, laidKinds := [.handle], laidTests := true, laidLooks := .later }
def DualPrimalUptoCardSaid : Prop := Claim7.holds Tryz.pinned (.plain (OpenSpec.upto dualPrimalSpec)) dualPrimalUptoCard
end Rows
end Go.Proofs.YtdbgbaiekpbaoaaGreatDoor
