/-
  DERIVED. GIVEN WITH THE SEED: THE CARDS: each row of YtoflnmpbmjkaiaaDoorRows.lean that lists a variable, with what it lists TIED to the program's text (the seventh form; the later family's looks); each row that meets fmt, with fmt's text TOLD by the authors' own Lean function (tested against real Go, not proved from fmt's source: count such statements apart). THE CARD IS WHAT COUNTS. Prove the row's statement (the work); the ties are given (YtoflnmpbmjkaiaaDoorTie.lean); close each card by the builder's one call (the guide's Derived/Test/ToyasCard.lean, 'card_holds'). Laid BY PROGRAM, IN A SANDBOX (cutbox-door.mjs). By AI agents, Wed Nov 11 2026. No macro, syntax, notation, axiom, sorry.
-/
import Derived.Test.YtoflnmpbmjkaiaaDoorRows
import GoSem.ClaimSeven
namespace Go.Proofs.YtoflnmpbmjkaiaaDoor
namespace Rows

/-- THE TIED CARD OF 'actuarylaw29.TableNumbers'. -/
def tableNumbersCard : Claim7 := { stood := { row := tableNumbersRow, standIns := [], harness := (true, "1ae57e8f7496d843f94920202c17be2c80e980d6d6a4454fb8d7f3c0e4bb0f1a"), looks := true }, kinds := [], alts := [], laidByText := true, laidKinds := [.handle], laidTests := true, laidLooks := .later }
def TableNumbersCardSaid : Prop := Claim7.holds Tryd.pinned (.plain (OpenSpec.ofChange tableNumbersSpec)) tableNumbersCard

/-- THE SECOND FORM's CARD OF 'actuarylaw29.TableNumbers'. -/
def tableNumbersUptoCard : Claim7 := { stood := { row := tableNumbersUptoRow, standIns := [], harness := (true, "1ae57e8f7496d843f94920202c17be2c80e980d6d6a4454fb8d7f3c0e4bb0f1a"), looks := true }, kinds := [], alts := [], laidByText := true, laidKinds := [.handle], laidTests := true, laidLooks := .later }
def TableNumbersUptoCardSaid : Prop := Claim7.holds Tryd.pinned (.plain (OpenSpec.upto tableNumbersSpec)) tableNumbersUptoCard
end Rows
end Go.Proofs.YtoflnmpbmjkaiaaDoor
