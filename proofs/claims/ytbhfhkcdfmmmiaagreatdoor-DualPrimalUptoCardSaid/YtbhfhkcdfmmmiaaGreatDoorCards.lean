/-
  DERIVED. GIVEN WITH THE SEED: THE CARDS: each row of YtbhfhkcdfmmmiaaGreatDoorRows.lean that lists a variable, with what it lists TIED to the program's text (the seventh form; the later family's looks); each row that meets fmt, with fmt's text TOLD by the authors' own Lean function (tested against real Go, not proved from fmt's source: count such statements apart). THE CARD IS WHAT COUNTS. Prove the row's statement (the work); the ties are given (YtbhfhkcdfmmmiaaGreatDoorTie.lean); close each card by the builder's one call (the guide's Derived/Test/ToyasCard.lean, 'card_holds'). Laid BY PROGRAM, IN A SANDBOX (cutbox-door.mjs). By AI agents, Wed Nov 11 2026. No macro, syntax, notation, axiom, sorry.
-/
import Derived.Test.YtbhfhkcdfmmmiaaGreatDoorRows
import GoSem.ClaimSeven
namespace Go.Proofs.YtbhfhkcdfmmmiaaGreatDoor
namespace Rows

/-- THE TIED CARD OF 'actuarylaw19.DualPrimal'. -/
def dualPrimalCard : Claim7 := { stood := { row := dualPrimalRow, standIns := [], harness := (true, "c304a32fd488a856dc7aefef24d3c6988dfa59a1404807934f927be569235005"), looks := true }, kinds := [], alts := [], laidByText := true, laidKinds := [.handle], laidTests := true, laidLooks := .later }
def DualPrimalCardSaid : Prop := Claim7.holds Tryz.pinned (.plain (OpenSpec.ofChange dualPrimalSpec)) dualPrimalCard

/-- THE TIED CARD OF 'actuarylaw21.CanonSame'. -/
def canonSameCard : Claim7 := { stood := { row := canonSameRow, standIns := [], harness := (true, "c304a32fd488a856dc7aefef24d3c6988dfa59a1404807934f927be569235005"), looks := true }, kinds := [], alts := [], laidByText := true, laidKinds := [.handle], laidTests := true, laidLooks := .later }
def CanonSameCardSaid : Prop := Claim7.holds Tryz.pinned (.plain (OpenSpec.ofChange canonSameSpec)) canonSameCard

/-- THE SECOND FORM's CARD OF 'actuarylaw19.DualPrimal'. -/
def dualPrimalUptoCard : Claim7 := { stood := { row := dualPrimalUptoRow, standIns := [], harness := (true, "c304a32fd488a856dc7aefef24d3c6988dfa59a1404807934f927be569235005"), looks := true }, kinds := [], alts := [], laidByText := true, laidKinds := [.handle], laidTests := true, laidLooks := .later }
def DualPrimalUptoCardSaid : Prop := Claim7.holds Tryz.pinned (.plain (OpenSpec.upto dualPrimalSpec)) dualPrimalUptoCard

/-- THE SECOND FORM's CARD OF 'actuarylaw21.CanonSame'. -/
def canonSameUptoCard : Claim7 := { stood := { row := canonSameUptoRow, standIns := [], harness := (true, "c304a32fd488a856dc7aefef24d3c6988dfa59a1404807934f927be569235005"), looks := true }, kinds := [], alts := [], laidByText := true, laidKinds := [.handle], laidTests := true, laidLooks := .later }
def CanonSameUptoCardSaid : Prop := Claim7.holds Tryz.pinned (.plain (OpenSpec.upto canonSameSpec)) canonSameUptoCard
end Rows
end Go.Proofs.YtbhfhkcdfmmmiaaGreatDoor
