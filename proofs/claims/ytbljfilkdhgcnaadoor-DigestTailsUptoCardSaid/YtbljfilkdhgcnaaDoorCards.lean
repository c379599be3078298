/-
  DERIVED. GIVEN WITH THE SEED: THE CARDS: each row of YtbljfilkdhgcnaaDoorRows.lean that lists a variable, with what it lists TIED to the program's text (the seventh form; the later family's looks); each row that meets fmt, with fmt's text TOLD by the authors' own Lean function (tested against real Go, not proved from fmt's source: count such statements apart). THE CARD IS WHAT COUNTS. Prove the row's statement (the work); the ties are given (YtbljfilkdhgcnaaDoorTie.lean); close each card by the builder's one call (the guide's Derived/Test/ToyasCard.lean, 'card_holds'). Laid BY PROGRAM, IN A SANDBOX (cutbox-door.mjs). By AI agents, Wed Nov 11 2026. No macro, syntax, notation, axiom, sorry.
-/
import Derived.Test.YtbljfilkdhgcnaaDoorRows
import GoSem.ClaimSeven
namespace Go.Proofs.YtbljfilkdhgcnaaDoor
namespace Rows

/-- THE TIED CARD OF 'rollbooklaw01.DigestSums'. -/
def digestSumsCard : Claim7 := { stood := { row := digestSumsRow, standIns := [], harness := (true, "0346ff9dfdf4ce1e0c926886f512629bfb5fd1d05f81d447872c8f87165397ad"), looks := false }, kinds := [], alts := [], laidByText := true, laidKinds := [.data], laidTests := true, laidLooks := .later }
def DigestSumsCardSaid : Prop := Claim7.holds Tryd.pinned (.plain (OpenSpec.ofChange digestSumsSpec)) digestSumsCard

/-- THE TIED CARD OF 'rollbooklaw01.DigestLengths'. -/
def digestLengthsCard : Claim7 := { stood := { row := digestLengthsRow, standIns := [], harness := (true, "0346ff9dfdf4ce1e0c926886f512629bfb5fd1d05f81d447872c8f87165397ad"), looks := false }, kinds := [], alts := [], laidByText := true, laidKinds := [.data], laidTests := true, laidLooks := .later }
def DigestLengthsCardSaid : Prop := Claim7.holds Tryd.pinned (.plain (OpenSpec.ofChange digestLengthsSpec)) digestLengthsCard

/-- THE TIED CARD OF 'rollbooklaw01.DigestWrites'. -/
def digestWritesCard : Claim7 := { stood := { row := digestWritesRow, standIns := [], harness := (true, "0346ff9dfdf4ce1e0c926886f512629bfb5fd1d05f81d447872c8f87165397ad"), looks := false }, kinds := [], alts := [], laidByText := true, laidKinds := [.data], laidTests := true, laidLooks := .later }
def DigestWritesCardSaid : Prop := Claim7.holds Tryd.pinned (.plain (OpenSpec.ofChange digestWritesSpec)) digestWritesCard

/-- THE TIED CARD OF 'rollbooklaw01.DigestParts'. -/
def digestPartsCard : Claim7 := { stood := { row := digestPartsRow, standIns := [], harness := (true, "0346ff9dfdf4ce1e0c926886f512629bfb5fd1d05f81d447872c8f87165397ad"), looks := false }, kinds := [], alts := [], laidByText := true, laidKinds := [.data], laidTests := true, laidLooks := .later }
def DigestPartsCardSaid : Prop := Claim7.holds Tryd.pinned (.plain (OpenSpec.ofChange digestPartsSpec)) digestPartsCard

/-- THE TIED CARD OF 'rollbooklaw01.DigestGoes'. -/
def digestGoesCard : Claim7 := { stood := { row := digestGoesRow, standIns := [], harness := (true, "0346ff9dfdf4ce1e0c926886f512629bfb5fd1d05f81d447872c8f87165397ad"), looks := false }, kinds := [], alts := [], laidByText := true, laidKinds := [.data], laidTests := true, laidLooks := .later }
def DigestGoesCardSaid : Prop := Claim7.holds Tryd.pinned (.plain (OpenSpec.ofChange digestGoesSpec)) digestGoesCard

/-- THE TIED CARD OF 'rollbooklaw01.DigestTails'. -/
def digestTailsCard : Claim7 := { stood := { row := digestTailsRow, standIns := [], harness := (true, "0346ff9dfdf4ce1e0c926886f512629bfb5fd1d05f81d447872c8f87165397ad"), looks := false }, kinds := [], alts := [], laidByText := true, laidKinds := [.data], laidTests := true, laidLooks := .later }
def DigestTailsCardSaid : Prop := Claim7.holds Tryd.pinned (.plain (OpenSpec.ofChange digestTailsSpec)) digestTailsCard

/-- THE TIED CARD OF 'rollbooklaw01.DigestTrees'. -/
def digestTreesCard : Claim7 := { stood := { row := digestTreesRow, standIns := [], harness := (true, "0346ff9dfdf4ce1e0c926886f512629bfb5fd1d05f81d447872c8f87165397ad"), looks := false }, kinds := [], alts := [], laidByText := true, laidKinds := [.data], laidTests := true, laidLooks := .later }
def DigestTreesCardSaid : Prop := Claim7.holds Tryd.pinned (.plain (OpenSpec.ofChange digestTreesSpec)) digestTreesCard

/-- THE TIED CARD OF 'rollbooklaw01.DigestDigits'. -/
def digestDigitsCard : Claim7 := { stood := { row := digestDigitsRow, standIns := [], harness := (true, "0346ff9dfdf4ce1e0c926886f512629bfb5fd1d05f81d447872c8f87165397ad"), looks := false }, kinds := [], alts := [], laidByText := true, laidKinds := [.data], laidTests := true, laidLooks := .later }
def DigestDigitsCardSaid : Prop := Claim7.holds Tryd.pinned (.plain (OpenSpec.ofChange digestDigitsSpec)) digestDigitsCard

/-- THE TIED CARD OF 'rollbooklaw01.DigestParses'. -/
def digestParsesCard : Claim7 := { stood := { row := digestParsesRow, standIns := [], harness := (true, "0346ff9dfdf4ce1e0c926886f512629bfb5fd1d05f81d447872c8f87165397ad"), looks := false }, kinds := [], alts := [], laidByText := true, laidKinds := [.data], laidTests := true, laidLooks := .later }
def DigestParsesCardSaid : Prop := Claim7.holds Tryd.pinned (.plain (OpenSpec.ofChange digestParsesSpec)) digestParsesCard

/-- THE SECOND FORM's CARD OF 'rollbooklaw01.DigestSums'. -/
def digestSumsUptoCard : Claim7 := { stood := { row := digestSumsUptoRow, standIns := [], harness := (true, "0346ff9dfdf4ce1e0c926886f512629bfb5fd1d05f81d447872c8f87165397ad"), looks := false }, kinds := [], alts := [], laidByText := true, laidKinds := [.data], laidTests := true, laidLooks := .later }
def DigestSumsUptoCardSaid : Prop := Claim7.holds Tryd.pinned (.plain (OpenSpec.upto digestSumsSpec)) digestSumsUptoCard

/-- THE SECOND FORM's CARD OF 'rollbooklaw01.DigestLengths'. -/
def digestLengthsUptoCard : Claim7 := { stood := { row := digestLengthsUptoRow, standIns := [], harness := (true, "0346ff9dfdf4ce1e0c926886f512629bfb5fd1d05f81d447872c8f87165397ad"), looks := false }, kinds := [], alts := [], laidByText := true, laidKinds := [.data], laidTests := true, laidLooks := .later }
def DigestLengthsUptoCardSaid : Prop := Claim7.holds Tryd.pinned (.plain (OpenSpec.upto digestLengthsSpec)) digestLengthsUptoCard

/-- THE SECOND FORM's CARD OF 'rollbooklaw01.DigestWrites'. -/
def digestWritesUptoCard : Claim7 := { stood := { row := digestWritesUptoRow, standIns := [], harness := (true, "0346ff9dfdf4ce1e0c926886f512629bfb5fd1d05f81d447872c8f87165397ad"), looks := false }, kinds := [], alts := [], laidByText := true, laidKinds := [.data], laidTests := true, laidLooks := .later }
def DigestWritesUptoCardSaid : Prop := Claim7.holds Tryd.pinned (.plain (OpenSpec.upto digestWritesSpec)) digestWritesUptoCard

/-- THE SECOND FORM's CARD OF 'rollbooklaw01.DigestParts'. -/
def digestPartsUptoCard : Claim7 := { stood := { row := digestPartsUptoRow, standIns := [], harness := (true, "0346ff9dfdf4ce1e0c926886f512629bfb5fd1d05f81d447872c8f87165397ad"), looks := false }, kinds := [], alts := [], laidByText := true, laidKinds := [.data], laidTests := true, laidLooks := .later }
def DigestPartsUptoCardSaid : Prop := Claim7.holds Tryd.pinned (.plain (OpenSpec.upto digestPartsSpec)) digestPartsUptoCard

/-- THE SECOND FORM's CARD OF 'rollbooklaw01.DigestGoes'. -/
def digestGoesUptoCard : Claim7 := { stood := { row := digestGoesUptoRow, standIns := [], harness := (true, "0346ff9dfdf4ce1e0c926886f512629bfb5fd1d05f81d447872c8f87165397ad"), looks := false }, kinds := [], alts := [], laidByText := true, laidKinds := [.data], laidTests := true, laidLooks := .later }
def DigestGoesUptoCardSaid : Prop := Claim7.holds Tryd.pinned (.plain (OpenSpec.upto digestGoesSpec)) digestGoesUptoCard

/-- THE SECOND FORM's CARD OF 'rollbooklaw01.DigestTails'. -/
def digestTailsUptoCard : Claim7 := { stood := { row := digestTailsUptoRow, standIns := [], harness := (true, "0346ff9dfdf4ce1e0c926886f512629bfb5fd1d05f81d447872c8f87165397ad"), looks := false }, kinds := [], alts := [], laidByText := true, laidKinds := [.data], laidTests := true, laidLooks := .later }
def DigestTailsUptoCardSaid : Prop := Claim7.holds Tryd.pinned (.plain (OpenSpec.upto digestTailsSpec)) digestTailsUptoCard

/-- THE SECOND FORM's CARD OF 'rollbooklaw01.DigestTrees'. -/
def digestTreesUptoCard : Claim7 := { stood := { row := digestTreesUptoRow, standIns := [], harness := (true, "0346ff9dfdf4ce1e0c926886f512629bfb5fd1d05f81d447872c8f87165397ad"), looks := false }, kinds := [], alts := [], laidByText := true, laidKinds := [.data], laidTests := true, laidLooks := .later }
def DigestTreesUptoCardSaid : Prop := Claim7.holds Tryd.pinned (.plain (OpenSpec.upto digestTreesSpec)) digestTreesUptoCard

/-- THE SECOND FORM's CARD OF 'rollbooklaw01.DigestDigits'. -/
def digestDigitsUptoCard : Claim7 := { stood := { row := digestDigitsUptoRow, standIns := [], harness := (true, "0346ff9dfdf4ce1e0c926886f512629bfb5fd1d05f81d447872c8f87165397ad"), looks := false }, kinds := [], alts := [], laidByText := true, laidKinds := [.data], laidTests := true, laidLooks := .later }
def DigestDigitsUptoCardSaid : Prop := Claim7.holds Tryd.pinned (.plain (OpenSpec.upto digestDigitsSpec)) digestDigitsUptoCard

/-- THE SECOND FORM's CARD OF 'rollbooklaw01.DigestParses'. -/
def digestParsesUptoCard : Claim7 := { stood := { row := digestParsesUptoRow, standIns := [], harness := (true, "0346ff9dfdf4ce1e0c926886f512629bfb5fd1d05f81d447872c8f87165397ad"), looks := false }, kinds := [], alts := [], laidByText := true, laidKinds := [.data], laidTests := true, laidLooks := .later }
def DigestParsesUptoCardSaid : Prop := Claim7.holds Tryd.pinned (.plain (OpenSpec.upto digestParsesSpec)) digestParsesUptoCard
end Rows
end Go.Proofs.YtbljfilkdhgcnaaDoor
