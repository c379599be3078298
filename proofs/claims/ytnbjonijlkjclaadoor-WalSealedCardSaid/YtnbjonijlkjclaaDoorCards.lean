/-
  DERIVED. GIVEN WITH THE SEED: THE CARDS: each row of YtnbjonijlkjclaaDoorRows.lean that lists a variable, with what it lists TIED to the program's text (the seventh form; the later family's looks); each row that meets fmt, with fmt's text TOLD by the authors' own Lean function (tested against real Go, not proved from fmt's source: count such statements apart). THE CARD IS WHAT COUNTS. Prove the row's statement (the work); the ties are given (YtnbjonijlkjclaaDoorTie.lean); close each card by the builder's one call (the guide's Derived/Test/ToyasCard.lean, 'card_holds'). Laid BY PROGRAM, IN A SANDBOX (cutbox-door.mjs). By AI agents, Wed Nov 11 2026. No macro, syntax, notation, axiom, sorry.
-/
import Derived.Test.YtnbjonijlkjclaaDoorRows
import GoSem.ClaimSeven
namespace Go.Proofs.YtnbjonijlkjclaaDoor
namespace Rows

/-- THE TIED CARD OF 'rollbooklaw04.WalSealed'. -/
def walSealedCard : Claim7 := { stood := { row := walSealedRow, standIns := [], harness := (true, "b881531792d64414bd4be022e76361a57c50325b8784c8dc20eb6a6930f6ca4d"), looks := false }, kinds := [], alts := [], laidByText := true, laidKinds := [.data], laidTests := true, laidLooks := .later }
def WalSealedCardSaid : Prop := Claim7.holds Tryd.pinned (.plain (OpenSpec.ofChange walSealedSpec)) walSealedCard

/-- THE SECOND FORM's CARD OF 'rollbooklaw04.WalSealed'. -/
def walSealedUptoCard : Claim7 := { stood := { row := walSealedUptoRow, standIns := [], harness := (true, "b881531792d64414bd4be022e76361a57c50325b8784c8dc20eb6a6930f6ca4d"), looks := false }, kinds := [], alts := [], laidByText := true, laidKinds := [.data], laidTests := true, laidLooks := .later }
def WalSealedUptoCardSaid : Prop := Claim7.holds Tryd.pinned (.plain (OpenSpec.upto walSealedSpec)) walSealedUptoCard
end Rows
end Go.Proofs.YtnbjonijlkjclaaDoor
