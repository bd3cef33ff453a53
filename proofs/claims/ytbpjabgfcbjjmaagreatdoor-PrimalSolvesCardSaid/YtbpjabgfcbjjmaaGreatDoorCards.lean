/-
  DERIVED. GIVEN WITH THE SEED: THE CARDS: each row of YtbpjabgfcbjjmaaGreatDoorRows.lean that lists a variable, with what it lists TIED to the program's text (the seventh form; the later family's looks); each row that meets fmt, with fmt's text TOLD by the authors' own Lean function (tested against real Go, not proved from fmt's source: count such statements apart). THE CARD IS WHAT COUNTS. Prove the row's statement (the work); the ties are given (YtbpjabgfcbjjmaaGreatDoorTie.lean); close each card by the builder's one call (the guide's Derived/Test/ToyasCard.lean, 'card_holds'). Laid BY PROGRAM, IN A SANDBOX (cutbox-door.mjs). By AI agents, Wed Nov 11 2026. No macro, syntax, notation, axiom, sorry.
-/
import Derived.Test.YtbpjabgfcbjjmaaGreatDoorRows
import GoSem.ClaimSeven
namespace Go.Proofs.YtbpjabgfcbjjmaaGreatDoor
namespace Rows

/-- THE TIED CARD OF 'actuarylaw19.DualSolves'. -/
def dualSolvesCard : Claim7 := { stood := { row := dualSolvesRow, standIns := [], harness := (true, "07ae263c272c8be376c39e4874ad32603578ccc445efd5ddd8adbe95bb44ad9e"), looks := true }, kinds := [], alts := [], laidByText := true, laidKinds := [.handle], laidTests := true, laidLooks := .later }
def DualSolvesCardSaid : Prop := Claim7.holds Tryz.pinned (.plain (OpenSpec.ofChange dualSolvesSpec)) dualSolvesCard

/-- THE TIED CARD OF 'actuarylaw18.PrimalSolves'. -/
def primalSolvesCard : Claim7 := { stood := { row := primalSolvesRow, standIns := [], harness := (true, "07ae263c272c8be376c39e4874ad32603578ccc445efd5ddd8adbe95bb44ad9e"), looks := true }, kinds := [], alts := [], laidByText := true, laidKinds := [.handle], laidTests := true, laidLooks := .later }
def PrimalSolvesCardSaid : Prop := Claim7.holds Tryz.pinned (.plain (OpenSpec.ofChange primalSolvesSpec)) primalSolvesCard

/-- THE SECOND FORM's CARD OF 'actuarylaw19.DualSolves'. -/
def dualSolvesUptoCard : Claim7 := { stood := { row := dualSolvesUptoRow, standIns := [], harness := (true, "07ae263c272c8be376c39e4874ad32603578ccc445efd5ddd8adbe95bb44ad9e"), looks := true }, kinds := [], alts := [], laidByText := true, laidKinds := [.handle], laidTests := true, laidLooks := .later }
def DualSolvesUptoCardSaid : Prop := Claim7.holds Tryz.pinned (.plain (OpenSpec.upto dualSolvesSpec)) dualSolvesUptoCard

/-- THE SECOND FORM's CARD OF 'actuarylaw18.PrimalSolves'. -/
def primalSolvesUptoCard : Claim7 := { stood := { row := primalSolvesUptoRow, standIns := [], harness := (true, "07ae263c272c8be376c39e4874ad32603578ccc445efd5ddd8adbe95bb44ad9e"), looks := true }, kinds := [], alts := [], laidByText := true, laidKinds := [.handle], laidTests := true, laidLooks := .later }
def PrimalSolvesUptoCardSaid : Prop := Claim7.holds Tryz.pinned (.plain (OpenSpec.upto primalSolvesSpec)) primalSolvesUptoCard
end Rows
end Go.Proofs.YtbpjabgfcbjjmaaGreatDoor
