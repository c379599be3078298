/-
  DERIVED. GIVEN WITH THE SEED: THE CARDS: each row of YtcbloadpffjkiaaDoorRows.lean that lists a variable, with what it lists TIED to the program's text (the seventh form; the later family's looks); each row that meets fmt, with fmt's text TOLD by the authors' own Lean function (tested against real Go, not proved from fmt's source: count such statements apart). THE CARD IS WHAT COUNTS. Prove the row's statement (the work); the ties are given (YtcbloadpffjkiaaDoorTie.lean); close each card by the builder's one call (the guide's Derived/Test/ToyasCard.lean, 'card_holds'). Laid BY PROGRAM, IN A SANDBOX (cutbox-door.mjs). By AI agents, Wed Nov 11 2026. No macro, syntax, notation, axiom, sorry.
-/
import Derived.Test.YtcbloadpffjkiaaDoorRows
import GoSem.ClaimSeven
namespace Go.Proofs.YtcbloadpffjkiaaDoor
namespace Rows

/-- THE TIED CARD OF 'rollbooklaw07.MerkleRoots'. -/
def merkleRootsCard : Claim7 := { stood := { row := merkleRootsRow, standIns := [], harness := (true, "588b1da70a619ca40e234fab63760d1e8e2e3dd42a682ddeb842e3f0428561eb"), looks := false }, kinds := [], alts := [], laidByText := true, laidKinds := [.data], laidTests := true, laidLooks := .later }
def MerkleRootsCardSaid : Prop := Claim7.holds Tryd.pinned (.plain (OpenSpec.ofChange merkleRootsSpec)) merkleRootsCard

/-- THE TIED CARD OF 'rollbooklaw07.MerklePaths'. -/
def merklePathsCard : Claim7 := { stood := { row := merklePathsRow, standIns := [], harness := (true, "588b1da70a619ca40e234fab63760d1e8e2e3dd42a682ddeb842e3f0428561eb"), looks := false }, kinds := [], alts := [], laidByText := true, laidKinds := [.data], laidTests := true, laidLooks := .later }
def MerklePathsCardSaid : Prop := Claim7.holds Tryd.pinned (.plain (OpenSpec.ofChange merklePathsSpec)) merklePathsCard

/-- THE TIED CARD OF 'rollbooklaw07.MerkleGrowths'. -/
def merkleGrowthsCard : Claim7 := { stood := { row := merkleGrowthsRow, standIns := [], harness := (true, "588b1da70a619ca40e234fab63760d1e8e2e3dd42a682ddeb842e3f0428561eb"), looks := false }, kinds := [], alts := [], laidByText := true, laidKinds := [.data], laidTests := true, laidLooks := .later }
def MerkleGrowthsCardSaid : Prop := Claim7.holds Tryd.pinned (.plain (OpenSpec.ofChange merkleGrowthsSpec)) merkleGrowthsCard

/-- THE TIED CARD OF 'rollbooklaw07.MerkleFrontiers'. -/
def merkleFrontiersCard : Claim7 := { stood := { row := merkleFrontiersRow, standIns := [], harness := (true, "588b1da70a619ca40e234fab63760d1e8e2e3dd42a682ddeb842e3f0428561eb"), looks := false }, kinds := [], alts := [], laidByText := true, laidKinds := [.data], laidTests := true, laidLooks := .later }
def MerkleFrontiersCardSaid : Prop := Claim7.holds Tryd.pinned (.plain (OpenSpec.ofChange merkleFrontiersSpec)) merkleFrontiersCard

/-- THE TIED CARD OF 'rollbooklaw07.MerkleBinds'. -/
def merkleBindsCard : Claim7 := { stood := { row := merkleBindsRow, standIns := [], harness := (true, "588b1da70a619ca40e234fab63760d1e8e2e3dd42a682ddeb842e3f0428561eb"), looks := false }, kinds := [], alts := [], laidByText := true, laidKinds := [.data], laidTests := true, laidLooks := .later }
def MerkleBindsCardSaid : Prop := Claim7.holds Tryd.pinned (.plain (OpenSpec.ofChange merkleBindsSpec)) merkleBindsCard

/-- THE TIED CARD OF 'rollbooklaw07.MerkleIncludes'. -/
def merkleIncludesCard : Claim7 := { stood := { row := merkleIncludesRow, standIns := [], harness := (true, "588b1da70a619ca40e234fab63760d1e8e2e3dd42a682ddeb842e3f0428561eb"), looks := false }, kinds := [], alts := [], laidByText := true, laidKinds := [.data], laidTests := true, laidLooks := .later }
def MerkleIncludesCardSaid : Prop := Claim7.holds Tryd.pinned (.plain (OpenSpec.ofChange merkleIncludesSpec)) merkleIncludesCard

/-- THE TIED CARD OF 'rollbooklaw07.MerkleExtends'. -/
def merkleExtendsCard : Claim7 := { stood := { row := merkleExtendsRow, standIns := [], harness := (true, "588b1da70a619ca40e234fab63760d1e8e2e3dd42a682ddeb842e3f0428561eb"), looks := false }, kinds := [], alts := [], laidByText := true, laidKinds := [.data], laidTests := true, laidLooks := .later }
def MerkleExtendsCardSaid : Prop := Claim7.holds Tryd.pinned (.plain (OpenSpec.ofChange merkleExtendsSpec)) merkleExtendsCard

/-- THE TIED CARD OF 'rollbooklaw07.MerkleProves'. -/
def merkleProvesCard : Claim7 := { stood := { row := merkleProvesRow, standIns := [], harness := (true, "588b1da70a619ca40e234fab63760d1e8e2e3dd42a682ddeb842e3f0428561eb"), looks := false }, kinds := [], alts := [], laidByText := true, laidKinds := [.data], laidTests := true, laidLooks := .later }
def MerkleProvesCardSaid : Prop := Claim7.holds Tryd.pinned (.plain (OpenSpec.ofChange merkleProvesSpec)) merkleProvesCard

/-- THE TIED CARD OF 'rollbooklaw07.MerkleLogs'. -/
def merkleLogsCard : Claim7 := { stood := { row := merkleLogsRow, standIns := [], harness := (true, "588b1da70a619ca40e234fab63760d1e8e2e3dd42a682ddeb842e3f0428561eb"), looks := false }, kinds := [], alts := [], laidByText := true, laidKinds := [.data], laidTests := true, laidLooks := .later }
def MerkleLogsCardSaid : Prop := Claim7.holds Tryd.pinned (.plain (OpenSpec.ofChange merkleLogsSpec)) merkleLogsCard

/-- THE SECOND FORM's CARD OF 'rollbooklaw07.MerkleRoots'. -/
def merkleRootsUptoCard : Claim7 := { stood := { row := merkleRootsUptoRow, standIns := [], harness := (true, "588b1da70a619ca40e234fab63760d1e8e2e3dd42a682ddeb842e3f0428561eb"), looks := false }, kinds := [], alts := [], laidByText := true, laidKinds := [.data], laidTests := true, laidLooks := .later }
def MerkleRootsUptoCardSaid : Prop := Claim7.holds Tryd.pinned (.plain (OpenSpec.upto merkleRootsSpec)) merkleRootsUptoCard

/-- THE SECOND FORM's CARD OF 'rollbooklaw07.MerklePaths'. -/
def merklePathsUptoCard : Claim7 := { stood := { row := merklePathsUptoRow, standIns := [], harness := (true, "588b1da70a619ca40e234fab63760d1e8e2e3dd42a682ddeb842e3f0428561eb"), looks := false }, kinds := [], alts := [], laidByText := true, laidKinds := [.data], laidTests := true, laidLooks := .later }
def MerklePathsUptoCardSaid : Prop := Claim7.holds Tryd.pinned (.plain (OpenSpec.upto merklePathsSpec)) merklePathsUptoCard

/-- THE SECOND FORM's CARD OF 'rollbooklaw07.MerkleGrowths'. -/
def merkleGrowthsUptoCard : Claim7 := { stood := { row := merkleGrowthsUptoRow, standIns := [], harness := (true, "588b1da70a619ca40e234fab63760d1e8e2e3dd42a682ddeb842e3f0428561eb"), looks := false }, kinds := [], alts := [], laidByText := true, laidKinds := [.data], laidTests := true, laidLooks := .later }
def MerkleGrowthsUptoCardSaid : Prop := Claim7.holds Tryd.pinned (.plain (OpenSpec.upto merkleGrowthsSpec)) merkleGrowthsUptoCard

/-- THE SECOND FORM's CARD OF 'rollbooklaw07.MerkleFrontiers'. -/
def merkleFrontiersUptoCard : Claim7 := { stood := { row := merkleFrontiersUptoRow, standIns := [], harness := (true, "588b1da70a619ca40e234fab63760d1e8e2e3dd42a682ddeb842e3f0428561eb"), looks := false }, kinds := [], alts := [], laidByText := true, laidKinds := [.data], laidTests := true, laidLooks := .later }
def MerkleFrontiersUptoCardSaid : Prop := Claim7.holds Tryd.pinned (.plain (OpenSpec.upto merkleFrontiersSpec)) merkleFrontiersUptoCard

/-- THE SECOND FORM's CARD OF 'rollbooklaw07.MerkleBinds'. -/
def merkleBindsUptoCard : Claim7 := { stood := { row := merkleBindsUptoRow, standIns := [], harness := (true, "588b1da70a619ca40e234fab63760d1e8e2e3dd42a682ddeb842e3f0428561eb"), looks := false }, kinds := [], alts := [], laidByText := true, laidKinds := [.data], laidTests := true, laidLooks := .later }
def MerkleBindsUptoCardSaid : Prop := Claim7.holds Tryd.pinned (.plain (OpenSpec.upto merkleBindsSpec)) merkleBindsUptoCard

/-- THE SECOND FORM's CARD OF 'rollbooklaw07.MerkleIncludes'. -/
def merkleIncludesUptoCard : Claim7 := { stood := { row := merkleIncludesUptoRow, standIns := [], harness := (true, "588b1da70a619ca40e234fab63760d1e8e2e3dd42a682ddeb842e3f0428561eb"), looks := false }, kinds := [], alts := [], laidByText := true, laidKinds := [.data], laidTests := true, laidLooks := .later }
def MerkleIncludesUptoCardSaid : Prop := Claim7.holds Tryd.pinned (.plain (OpenSpec.upto merkleIncludesSpec)) merkleIncludesUptoCard

/-- THE SECOND FORM's CARD OF 'rollbooklaw07.MerkleExtends'. -/
def merkleExtendsUptoCard : Claim7 := { stood := { row := merkleExtendsUptoRow, standIns := [], harness := (true, "588b1da70a619ca40e234fab63760d1e8e2e3dd42a682ddeb842e3f0428561eb"), looks := false }, kinds := [], alts := [], laidByText := true, laidKinds := [.data], laidTests := true, laidLooks := .later }
def MerkleExtendsUptoCardSaid : Prop := Claim7.holds Tryd.pinned (.plain (OpenSpec.upto merkleExtendsSpec)) merkleExtendsUptoCard

/-- THE SECOND FORM's CARD OF 'rollbooklaw07.MerkleProves'. -/
def merkleProvesUptoCard : Claim7 := { stood := { row := merkleProvesUptoRow, standIns := [], harness := (true, "588b1da70a619ca40e234fab63760d1e8e2e3dd42a682ddeb842e3f0428561eb"), looks := false }, kinds := [], alts := [], laidByText := true, laidKinds := [.data], laidTests := true, laidLooks := .later }
def MerkleProvesUptoCardSaid : Prop := Claim7.holds Tryd.pinned (.plain (OpenSpec.upto merkleProvesSpec)) merkleProvesUptoCard

/-- THE SECOND FORM's CARD OF 'rollbooklaw07.MerkleLogs'. -/
def merkleLogsUptoCard : Claim7 := { stood := { row := merkleLogsUptoRow, standIns := [], harness := (true, "588b1da70a619ca40e234fab63760d1e8e2e3dd42a682ddeb842e3f0428561eb"), looks := false }, kinds := [], alts := [], laidByText := true, laidKinds := [.data], laidTests := true, laidLooks := .later }
def MerkleLogsUptoCardSaid : Prop := Claim7.holds Tryd.pinned (.plain (OpenSpec.upto merkleLogsSpec)) merkleLogsUptoCard
end Rows
end Go.Proofs.YtcbloadpffjkiaaDoor
