/-
  No cell of these rows narrows 'for every input' (looked for: loops, veiled, ifaces, maps, wideKeys, modest, calm, conditions, laid).
  DERIVED. THE GIVEN ROWS OF THIS SEAT. 6 by the template 'for every input the law returns true; each argument reads behind the call as it read before'; 0 by the template 'total and deterministic' (their statements: YtnbjonijlkjclaaTotals.lean).
  GIVEN WITH THE SEED: the statements are not yours to turn. If you find one false, say at which input.
  Laid BY PROGRAM, IN A SANDBOX (cutbox-rows.mjs): the forced cells as the released guide's own fill.sh prints them over the translation 07f709e06fa1d5da… (all of the seat's roots in one cut). By AI agents, Wed Nov 11 2026. No macro, syntax, notation, axiom, sorry.
-/
import Derived.Test.YtnbjonijlkjclaaChecked
import GoSem.Claim
import GoSem.ClaimJoined
import GoSem.ClaimMapViews
import Derived.JoinedTies
import Derived.KernelRfl
namespace Go.Proofs.Ytnbjonijlkjclaa
/- THE CELL 'sum', in the pinned program and in every row, IS THE sha256 OF THE DUMP (.gsa) THAT YtnbjonijlkjclaaProg.lean LOADS. Nothing in Lean hashes anything: it is a label: what it is worth is what the hold of that sum in a sandbox is worth. -/
noncomputable def Try.pinned : Pinned := { name := "ytnbjonijlkjclaa", sum := "07f709e06fa1d5da5671f2b67f7d4b55d8f68a8bcb98a3c770f51e3d61037af4", checked := Try.checked }
namespace Rows
def none {H : Type} : Left H := { results := [], args := [] }

/-- 'rollbooklaw04.WalRanges': WHATEVER THE INPUT: true; the input reads as it did. -/
def walRangesSpec : ChangeSpec := { name := "walRanges", fn := fun _ => fun
  | [d1, d2, d3, d4, d5] => { results := [.lit (.bool true)], args := [d1, d2, d3, d4, d5] }
  | _ => none }
def walRangesRow : OpenClaim := { program := "ytnbjonijlkjclaa", sum := "07f709e06fa1d5da5671f2b67f7d4b55d8f68a8bcb98a3c770f51e3d61037af4", func := "rollbook/rollbooklaw04.WalRanges", spec := "walRanges", unfollowed := true, recurses := true, apart := false }
def WalRangesSaid : Prop := walRangesRow.holds Try.pinned (OpenSpec.ofChange walRangesSpec)

/-- ITS FALSE NEIGHBOUR: 'it returns false'. Refute it at one input. -/
def walRangesWrong : ChangeSpec := { name := "walRanges", fn := fun _ => fun
  | [d1, d2, d3, d4, d5] => { results := [.lit (.bool false)], args := [d1, d2, d3, d4, d5] }
  | _ => none }
def WalRangesWrongFalsely : Prop := walRangesRow.holds Try.pinned (OpenSpec.ofChange walRangesWrong)

/-- 'rollbooklaw04.WalActs': WHATEVER THE INPUT: true; the input reads as it did. -/
def walActsSpec : ChangeSpec := { name := "walActs", fn := fun _ => fun
  | [d1, d2] => { results := [.lit (.bool true)], args := [d1, d2] }
  | _ => none }
def walActsRow : OpenClaim := { program := "ytnbjonijlkjclaa", sum := "07f709e06fa1d5da5671f2b67f7d4b55d8f68a8bcb98a3c770f51e3d61037af4", func := "rollbook/rollbooklaw04.WalActs", spec := "walActs", unfollowed := true, recurses := true, apart := false }
def WalActsSaid : Prop := walActsRow.holds Try.pinned (OpenSpec.ofChange walActsSpec)

/-- ITS FALSE NEIGHBOUR: 'it returns false'. Refute it at one input. -/
def walActsWrong : ChangeSpec := { name := "walActs", fn := fun _ => fun
  | [d1, d2] => { results := [.lit (.bool false)], args := [d1, d2] }
  | _ => none }
def WalActsWrongFalsely : Prop := walActsRow.holds Try.pinned (OpenSpec.ofChange walActsWrong)

/-- 'rollbooklaw04.WalFills': WHATEVER THE INPUT: true; the input reads as it did. -/
def walFillsSpec : ChangeSpec := { name := "walFills", fn := fun _ => fun
  | [d1, d2] => { results := [.lit (.bool true)], args := [d1, d2] }
  | _ => none }
def walFillsRow : OpenClaim := { program := "ytnbjonijlkjclaa", sum := "07f709e06fa1d5da5671f2b67f7d4b55d8f68a8bcb98a3c770f51e3d61037af4", func := "rollbook/rollbooklaw04.WalFills", spec := "walFills", unfollowed := true, recurses := true, apart := false }
def WalFillsSaid : Prop := walFillsRow.holds Try.pinned (OpenSpec.ofChange walFillsSpec)

/-- ITS FALSE NEIGHBOUR: 'it returns false'. Refute it at one input. -/
def walFillsWrong : ChangeSpec := { name := "walFills", fn := fun _ => fun
  | [d1, d2] => { results := [.lit (.bool false)], args := [d1, d2] }
  | _ => none }
def WalFillsWrongFalsely : Prop := walFillsRow.holds Try.pinned (OpenSpec.ofChange walFillsWrong)

/-- 'rollbooklaw04.WalSurvives': WHATEVER THE INPUT: true; the input reads as it did. -/
def walSurvivesSpec : ChangeSpec := { name := "walSurvives", fn := fun _ => fun
  | [d1, d2, d3, d4] => { results := [.lit (.bool true)], args := [d1, d2, d3, d4] }
  | _ => none }
def walSurvivesRow : OpenClaim := { program := "ytnbjonijlkjclaa", sum := "07f709e06fa1d5da5671f2b67f7d4b55d8f68a8bcb98a3c770f51e3d61037af4", func := "rollbook/rollbooklaw04.WalSurvives", spec := "walSurvives", unfollowed := true, recurses := true, apart := false }
def WalSurvivesSaid : Prop := walSurvivesRow.holds Try.pinned (OpenSpec.ofChange walSurvivesSpec)

/-- ITS FALSE NEIGHBOUR: 'it returns false'. Refute it at one input. -/
def walSurvivesWrong : ChangeSpec := { name := "walSurvives", fn := fun _ => fun
  | [d1, d2, d3, d4] => { results := [.lit (.bool false)], args := [d1, d2, d3, d4] }
  | _ => none }
def WalSurvivesWrongFalsely : Prop := walSurvivesRow.holds Try.pinned (OpenSpec.ofChange walSurvivesWrong)

/-- 'rollbooklaw04.WalFormats': WHATEVER THE INPUT: true; the input reads as it did. -/
def walFormatsSpec : ChangeSpec := { name := "walFormats", fn := fun _ => fun
  | [d1, d2, d3, d4] => { results := [.lit (.bool true)], args := [d1, d2, d3, d4] }
  | _ => none }
def walFormatsRow : OpenClaim := { program := "ytnbjonijlkjclaa", sum := "07f709e06fa1d5da5671f2b67f7d4b55d8f68a8bcb98a3c770f51e3d61037af4", func := "rollbook/rollbooklaw04.WalFormats", spec := "walFormats", unfollowed := true, recurses := true, apart := false }
def WalFormatsSaid : Prop := walFormatsRow.holds Try.pinned (OpenSpec.ofChange walFormatsSpec)

/-- ITS FALSE NEIGHBOUR: 'it returns false'. Refute it at one input. -/
def walFormatsWrong : ChangeSpec := { name := "walFormats", fn := fun _ => fun
  | [d1, d2, d3, d4] => { results := [.lit (.bool false)], args := [d1, d2, d3, d4] }
  | _ => none }
def WalFormatsWrongFalsely : Prop := walFormatsRow.holds Try.pinned (OpenSpec.ofChange walFormatsWrong)

/-- 'rollbooklaw04.WalRegions': WHATEVER THE INPUT: true; the input reads as it did. -/
def walRegionsSpec : ChangeSpec := { name := "walRegions", fn := fun _ => fun
  | [d1, d2, d3, d4] => { results := [.lit (.bool true)], args := [d1, d2, d3, d4] }
  | _ => none }
def walRegionsRow : OpenClaim := { program := "ytnbjonijlkjclaa", sum := "07f709e06fa1d5da5671f2b67f7d4b55d8f68a8bcb98a3c770f51e3d61037af4", func := "rollbook/rollbooklaw04.WalRegions", spec := "walRegions", unfollowed := true, recurses := true, apart := false }
def WalRegionsSaid : Prop := walRegionsRow.holds Try.pinned (OpenSpec.ofChange walRegionsSpec)

/-- ITS FALSE NEIGHBOUR: 'it returns false'. Refute it at one input. -/
def walRegionsWrong : ChangeSpec := { name := "walRegions", fn := fun _ => fun
  | [d1, d2, d3, d4] => { results := [.lit (.bool false)], args := [d1, d2, d3, d4] }
  | _ => none }
def WalRegionsWrongFalsely : Prop := walRegionsRow.holds Try.pinned (OpenSpec.ofChange walRegionsWrong)

/- THE SECOND FORM. 'bulk': how many values and letters a reading holds, each counted each time it is reached (what is shared counts as often as it is met; a slice's spare places count too). A statement '..UptoSaid' is the law's where the arguments, and the package variables that the reading takes, are together of bulk at most 1048576: NARROWER than '..Said'. Prove '..Said' where nothing that the law and all that it calls make is longer than what came in: it says more and counts as full. Else prove '..UptoSaid'. A law counts once. -/
mutual
def uptoBulk {H : Type} : DataW H → Nat
  | .lit (.string bytes) => bytes.length + 1
  | .lit _ => 1
  | .nil => 1
  | .ptr d => uptoBulk d + 1
  | .slice elems spare => uptoBulkAll elems + uptoBulkAll spare + 1
  | .agg parts => uptoBulkAll parts + 1
  | .iface _ d => uptoBulk d + 1
  | .map entries => uptoBulkEntries entries + 1
  | .held _ => 1
def uptoBulkAll {H : Type} : List (DataW H) → Nat
  | [] => 0
  | d :: r => uptoBulk d + uptoBulkAll r
def uptoBulkEntries {H : Type} : List (Lit × DataW H) → Nat
  | [] => 0
  | x :: r => uptoBulkEntry x + uptoBulkEntries r
def uptoBulkEntry {H : Type} : Lit × DataW H → Nat
  | (.string bytes, d) => bytes.length + uptoBulk d + 1
  | (_, d) => uptoBulk d + 1
 end
def uptoSmall : (H : Type) → List (DataW H) → Bool := fun _ ds => decide (uptoBulkAll ds ≤ 1048576)
def OpenSpec.upto (s : _root_.Go.ChangeSpec) : _root_.Go.OpenSpec := { _root_.Go.OpenSpec.ofChange s with cond := some uptoSmall }

/-- 'rollbooklaw04.WalRanges', WHERE WHAT IT READS IS OF BULK AT MOST 1048576: true; the input reads as it did. -/
def walRangesUptoRow : OpenClaim := { program := "ytnbjonijlkjclaa", sum := "07f709e06fa1d5da5671f2b67f7d4b55d8f68a8bcb98a3c770f51e3d61037af4", func := "rollbook/rollbooklaw04.WalRanges", spec := "walRanges", unfollowed := true, recurses := true, apart := false, narrowed := true }
def WalRangesUptoSaid : Prop := walRangesUptoRow.holds Try.pinned (OpenSpec.upto walRangesSpec)

/-- 'rollbooklaw04.WalActs', WHERE WHAT IT READS IS OF BULK AT MOST 1048576: true; the input reads as it did. -/
def walActsUptoRow : OpenClaim := { program := "ytnbjonijlkjclaa", sum := "07f709e06fa1d5da5671f2b67f7d4b55d8f68a8bcb98a3c770f51e3d61037af4", func := "rollbook/rollbooklaw04.WalActs", spec := "walActs", unfollowed := true, recurses := true, apart := false, narrowed := true }
def WalActsUptoSaid : Prop := walActsUptoRow.holds Try.pinned (OpenSpec.upto walActsSpec)

/-- 'rollbooklaw04.WalFills', WHERE WHAT IT READS IS OF BULK AT MOST 1048576: true; the input reads as it did. -/
def walFillsUptoRow : OpenClaim := { program := "ytnbjonijlkjclaa", sum := "07f709e06fa1d5da5671f2b67f7d4b55d8f68a8bcb98a3c770f51e3d61037af4", func := "rollbook/rollbooklaw04.WalFills", spec := "walFills", unfollowed := true, recurses := true, apart := false, narrowed := true }
def WalFillsUptoSaid : Prop := walFillsUptoRow.holds Try.pinned (OpenSpec.upto walFillsSpec)

/-- 'rollbooklaw04.WalSurvives', WHERE WHAT IT READS IS OF BULK AT MOST 1048576: true; the input reads as it did. -/
def walSurvivesUptoRow : OpenClaim := { program := "ytnbjonijlkjclaa", sum := "07f709e06fa1d5da5671f2b67f7d4b55d8f68a8bcb98a3c770f51e3d61037af4", func := "rollbook/rollbooklaw04.WalSurvives", spec := "walSurvives", unfollowed := true, recurses := true, apart := false, narrowed := true }
def WalSurvivesUptoSaid : Prop := walSurvivesUptoRow.holds Try.pinned (OpenSpec.upto walSurvivesSpec)

/-- 'rollbooklaw04.WalFormats', WHERE WHAT IT READS IS OF BULK AT MOST 1048576: true; the input reads as it did. -/
def walFormatsUptoRow : OpenClaim := { program := "ytnbjonijlkjclaa", sum := "07f709e06fa1d5da5671f2b67f7d4b55d8f68a8bcb98a3c770f51e3d61037af4", func := "rollbook/rollbooklaw04.WalFormats", spec := "walFormats", unfollowed := true, recurses := true, apart := false, narrowed := true }
def WalFormatsUptoSaid : Prop := walFormatsUptoRow.holds Try.pinned (OpenSpec.upto walFormatsSpec)

/-- 'rollbooklaw04.WalRegions', WHERE WHAT IT READS IS OF BULK AT MOST 1048576: true; the input reads as it did. -/
def walRegionsUptoRow : OpenClaim := { program := "ytnbjonijlkjclaa", sum := "07f709e06fa1d5da5671f2b67f7d4b55d8f68a8bcb98a3c770f51e3d61037af4", func := "rollbook/rollbooklaw04.WalRegions", spec := "walRegions", unfollowed := true, recurses := true, apart := false, narrowed := true }
def WalRegionsUptoSaid : Prop := walRegionsUptoRow.holds Try.pinned (OpenSpec.upto walRegionsSpec)

end Rows
end Go.Proofs.Ytnbjonijlkjclaa
