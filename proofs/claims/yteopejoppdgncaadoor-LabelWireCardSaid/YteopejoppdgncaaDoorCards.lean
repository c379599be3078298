/-
  DERIVED. GIVEN WITH THE SEED: THE CARDS: each row of YteopejoppdgncaaDoorRows.lean that lists a variable, with what it lists TIED to the program's text (the seventh form; the later family's looks); each row that meets fmt, with fmt's text TOLD by the authors' own Lean function (tested against real Go, not proved from fmt's source: count such statements apart). THE CARD IS WHAT COUNTS. Prove the row's statement (the work); the ties are given (YteopejoppdgncaaDoorTie.lean); close each card by the builder's one call (the guide's Derived/Test/ToyasCard.lean, 'card_holds'). Laid BY PROGRAM, IN A SANDBOX (cutbox-door.mjs). By AI agents, Wed Nov 11 2026. No macro, syntax, notation, axiom, sorry.
-/
import Derived.Test.YteopejoppdgncaaDoorRows
import GoSem.ClaimSeven
namespace Go.Proofs.YteopejoppdgncaaDoor
namespace Rows

/-- THE TIED CARD OF 'rollbooklaw24.LabelChecks'. -/
def labelChecksCard : Claim7 := { stood := { row := labelChecksRow, standIns := [], harness := (true, "6e757b820dce8d883250f653be50780aa47589dabe094ba013e972edf8348a73"), looks := false }, kinds := [], alts := [], laidByText := true, laidKinds := [.data, .data, .data], laidTests := true, laidLooks := .later }
def LabelChecksCardSaid : Prop := Claim7.holds Tryd.pinned (.plain (OpenSpec.ofChange labelChecksSpec)) labelChecksCard

/-- THE TIED CARD OF 'rollbooklaw24.LabelParses'. -/
def labelParsesCard : Claim7 := { stood := { row := labelParsesRow, standIns := [], harness := (true, "6e757b820dce8d883250f653be50780aa47589dabe094ba013e972edf8348a73"), looks := false }, kinds := [], alts := [], laidByText := true, laidKinds := [.data, .data, .data], laidTests := true, laidLooks := .later }
def LabelParsesCardSaid : Prop := Claim7.holds Tryd.pinned (.plain (OpenSpec.ofChange labelParsesSpec)) labelParsesCard

/-- THE TIED CARD OF 'rollbooklaw24.LabelLess'. -/
def labelLessCard : Claim7 := { stood := { row := labelLessRow, standIns := [], harness := (true, "6e757b820dce8d883250f653be50780aa47589dabe094ba013e972edf8348a73"), looks := false }, kinds := [], alts := [], laidByText := true, laidKinds := [.data, .data, .data], laidTests := true, laidLooks := .later }
def LabelLessCardSaid : Prop := Claim7.holds Tryd.pinned (.plain (OpenSpec.ofChange labelLessSpec)) labelLessCard

/-- THE TIED CARD OF 'rollbooklaw24.LabelRound'. -/
def labelRoundCard : Claim7 := { stood := { row := labelRoundRow, standIns := [], harness := (true, "6e757b820dce8d883250f653be50780aa47589dabe094ba013e972edf8348a73"), looks := false }, kinds := [], alts := [], laidByText := true, laidKinds := [.data, .data, .data], laidTests := true, laidLooks := .later }
def LabelRoundCardSaid : Prop := Claim7.holds Tryd.pinned (.plain (OpenSpec.ofChange labelRoundSpec)) labelRoundCard

/-- THE TIED CARD OF 'rollbooklaw24.LabelTexts'. -/
def labelTextsCard : Claim7 := { stood := { row := labelTextsRow, standIns := [], harness := (true, "6e757b820dce8d883250f653be50780aa47589dabe094ba013e972edf8348a73"), looks := false }, kinds := [], alts := [], laidByText := true, laidKinds := [.data, .data, .data], laidTests := true, laidLooks := .later }
def LabelTextsCardSaid : Prop := Claim7.holds Tryd.pinned (.plain (OpenSpec.ofChange labelTextsSpec)) labelTextsCard

/-- THE TIED CARD OF 'rollbooklaw24.LabelDistinct'. -/
def labelDistinctCard : Claim7 := { stood := { row := labelDistinctRow, standIns := [], harness := (true, "6e757b820dce8d883250f653be50780aa47589dabe094ba013e972edf8348a73"), looks := false }, kinds := [], alts := [], laidByText := true, laidKinds := [.data, .data, .data], laidTests := true, laidLooks := .later }
def LabelDistinctCardSaid : Prop := Claim7.holds Tryd.pinned (.plain (OpenSpec.ofChange labelDistinctSpec)) labelDistinctCard

/-- THE TIED CARD OF 'rollbooklaw24.LabelNext'. -/
def labelNextCard : Claim7 := { stood := { row := labelNextRow, standIns := [], harness := (true, "6e757b820dce8d883250f653be50780aa47589dabe094ba013e972edf8348a73"), looks := false }, kinds := [], alts := [], laidByText := true, laidKinds := [.data, .data, .data], laidTests := true, laidLooks := .later }
def LabelNextCardSaid : Prop := Claim7.holds Tryd.pinned (.plain (OpenSpec.ofChange labelNextSpec)) labelNextCard

/-- THE TIED CARD OF 'rollbooklaw24.LabelSpoilt'. -/
def labelSpoiltCard : Claim7 := { stood := { row := labelSpoiltRow, standIns := [], harness := (true, "6e757b820dce8d883250f653be50780aa47589dabe094ba013e972edf8348a73"), looks := false }, kinds := [], alts := [], laidByText := true, laidKinds := [.data, .data, .data], laidTests := true, laidLooks := .later }
def LabelSpoiltCardSaid : Prop := Claim7.holds Tryd.pinned (.plain (OpenSpec.ofChange labelSpoiltSpec)) labelSpoiltCard

/-- THE TIED CARD OF 'rollbooklaw24.LabelWire'. -/
def labelWireCard : Claim7 := { stood := { row := labelWireRow, standIns := [], harness := (true, "6e757b820dce8d883250f653be50780aa47589dabe094ba013e972edf8348a73"), looks := false }, kinds := [], alts := [], laidByText := true, laidKinds := [.data, .data, .data], laidTests := true, laidLooks := .later }
def LabelWireCardSaid : Prop := Claim7.holds Tryd.pinned (.plain (OpenSpec.ofChange labelWireSpec)) labelWireCard

/-- THE SECOND FORM's CARD OF 'rollbooklaw24.LabelChecks'. -/
def labelChecksUptoCard : Claim7 := { stood := { row := labelChecksUptoRow, standIns := [], harness := (true, "6e757b820dce8d883250f653be50780aa47589dabe094ba013e972edf8348a73"), looks := false }, kinds := [], alts := [], laidByText := true, laidKinds := [.data, .data, .data], laidTests := true, laidLooks := .later }
def LabelChecksUptoCardSaid : Prop := Claim7.holds Tryd.pinned (.plain (OpenSpec.upto labelChecksSpec)) labelChecksUptoCard

/-- THE SECOND FORM's CARD OF 'rollbooklaw24.LabelParses'. -/
def labelParsesUptoCard : Claim7 := { stood := { row := labelParsesUptoRow, standIns := [], harness := (true, "6e757b820dce8d883250f653be50780aa47589dabe094ba013e972edf8348a73"), looks := false }, kinds := [], alts := [], laidByText := true, laidKinds := [.data, .data, .data], laidTests := true, laidLooks := .later }
def LabelParsesUptoCardSaid : Prop := Claim7.holds Tryd.pinned (.plain (OpenSpec.upto labelParsesSpec)) labelParsesUptoCard

/-- THE SECOND FORM's CARD OF 'rollbooklaw24.LabelLess'. -/
def labelLessUptoCard : Claim7 := { stood := { row := labelLessUptoRow, standIns := [], harness := (true, "6e757b820dce8d883250f653be50780aa47589dabe094ba013e972edf8348a73"), looks := false }, kinds := [], alts := [], laidByText := true, laidKinds := [.data, .data, .data], laidTests := true, laidLooks := .later }
def LabelLessUptoCardSaid : Prop := Claim7.holds Tryd.pinned (.plain (OpenSpec.upto labelLessSpec)) labelLessUptoCard

/-- THE SECOND FORM's CARD OF 'rollbooklaw24.LabelRound'. -/
def labelRoundUptoCard : Claim7 := { stood := { row := labelRoundUptoRow, standIns := [], harness := (true, "6e757b820dce8d883250f653be50780aa47589dabe094ba013e972edf8348a73"), looks := false }, kinds := [], alts := [], laidByText := true, laidKinds := [.data, .data, .data], laidTests := true, laidLooks := .later }
def LabelRoundUptoCardSaid : Prop := Claim7.holds Tryd.pinned (.plain (OpenSpec.upto labelRoundSpec)) labelRoundUptoCard

/-- THE SECOND FORM's CARD OF 'rollbooklaw24.LabelTexts'. -/
def labelTextsUptoCard : Claim7 := { stood := { row := labelTextsUptoRow, standIns := [], harness := (true, "6e757b820dce8d883250f653be50780aa47589dabe094ba013e972edf8348a73"), looks := false }, kinds := [], alts := [], laidByText := true, laidKinds := [.data, .data, .data], laidTests := true, laidLooks := .later }
def LabelTextsUptoCardSaid : Prop := Claim7.holds Tryd.pinned (.plain (OpenSpec.upto labelTextsSpec)) labelTextsUptoCard

/-- THE SECOND FORM's CARD OF 'rollbooklaw24.LabelDistinct'. -/
def labelDistinctUptoCard : Claim7 := { stood := { row := labelDistinctUptoRow, standIns := [], harness := (true, "6e757b820dce8d883250f653be50780aa47589dabe094ba013e972edf8348a73"), looks := false }, kinds := [], alts := [], laidByText := true, laidKinds := [.data, .data, .data], laidTests := true, laidLooks := .later }
def LabelDistinctUptoCardSaid : Prop := Claim7.holds Tryd.pinned (.plain (OpenSpec.upto labelDistinctSpec)) labelDistinctUptoCard

/-- THE SECOND FORM's CARD OF 'rollbooklaw24.LabelNext'. -/
def labelNextUptoCard : Claim7 := { stood := { row := labelNextUptoRow, standIns := [], harness := (true, "6e757b820dce8d883250f653be50780aa47589dabe094ba013e972edf8348a73"), looks := false }, kinds := [], alts := [], laidByText := true, laidKinds := [.data, .data, .data], laidTests := true, laidLooks := .later }
def LabelNextUptoCardSaid : Prop := Claim7.holds Tryd.pinned (.plain (OpenSpec.upto labelNextSpec)) labelNextUptoCard

/-- THE SECOND FORM's CARD OF 'rollbooklaw24.LabelSpoilt'. -/
def labelSpoiltUptoCard : Claim7 := { stood := { row := labelSpoiltUptoRow, standIns := [], harness := (true, "6e757b820dce8d883250f653be50780aa47589dabe094ba013e972edf8348a73"), looks := false }, kinds := [], alts := [], laidByText := true, laidKinds := [.data, .data, .data], laidTests := true, laidLooks := .later }
def LabelSpoiltUptoCardSaid : Prop := Claim7.holds Tryd.pinned (.plain (OpenSpec.upto labelSpoiltSpec)) labelSpoiltUptoCard

/-- THE SECOND FORM's CARD OF 'rollbooklaw24.LabelWire'. -/
def labelWireUptoCard : Claim7 := { stood := { row := labelWireUptoRow, standIns := [], harness := (true, "6e757b820dce8d883250f653be50780aa47589dabe094ba013e972edf8348a73"), looks := false }, kinds := [], alts := [], laidByText := true, laidKinds := [.data, .data, .data], laidTests := true, laidLooks := .later }
def LabelWireUptoCardSaid : Prop := Claim7.holds Tryd.pinned (.plain (OpenSpec.upto labelWireSpec)) labelWireUptoCard
end Rows
end Go.Proofs.YteopejoppdgncaaDoor
