/-
  No cell of these rows narrows 'for every input' (looked for: loops, veiled, ifaces, maps, wideKeys, modest, calm, conditions, laid).
  DERIVED. THE GIVEN ROWS OF THIS SEAT. 8 by the template 'for every input the law returns true; each argument reads behind the call as it read before'; 0 by the template 'total and deterministic' (their statements: YtdccpcnahbhfcaaTotals.lean).
  GIVEN WITH THE SEED: the statements are not yours to turn. If you find one false, say at which input.
  Laid BY PROGRAM, IN A SANDBOX (cutbox-rows.mjs): the forced cells as the released guide's own fill.sh prints them over the translation a779d3abdaed5fbf… (all of the seat's roots in one cut). By AI agents, Wed Nov 11 2026. No macro, syntax, notation, axiom, sorry.
-/
import Derived.Test.YtdccpcnahbhfcaaChecked
import GoSem.Claim
import GoSem.ClaimJoined
import GoSem.ClaimMapViews
import Derived.JoinedTies
import Derived.KernelRfl
namespace Go.Proofs.Ytdccpcnahbhfcaa
/- THE CELL 'sum', in the pinned program and in every row, IS THE sha256 OF THE DUMP (.gsa) THAT YtdccpcnahbhfcaaProg.lean LOADS. Nothing in Lean hashes anything: it is a label: what it is worth is what the hold of that sum in a sandbox is worth. -/
noncomputable def Try.pinned : Pinned := { name := "ytdccpcnahbhfcaa", sum := "a779d3abdaed5fbf7ea0839f059ab002d54703e7d0de228f2708a5b74c713d90", checked := Try.checked }
namespace Rows
def none {H : Type} : Left H := { results := [], args := [] }

/-- 'rollbooklaw02.WireWrites': WHATEVER THE INPUT: true; the input reads as it did. -/
def wireWritesSpec : ChangeSpec := { name := "wireWrites", fn := fun _ => fun
  | [d] => { results := [.lit (.bool true)], args := [d] }
  | _ => none }
def wireWritesRow : OpenClaim := { program := "ytdccpcnahbhfcaa", sum := "a779d3abdaed5fbf7ea0839f059ab002d54703e7d0de228f2708a5b74c713d90", func := "rollbook/rollbooklaw02.WireWrites", spec := "wireWrites", apart := false }
def WireWritesSaid : Prop := wireWritesRow.holds Try.pinned (OpenSpec.ofChange wireWritesSpec)

/-- ITS FALSE NEIGHBOUR: 'it returns false'. Refute it at one input. -/
def wireWritesWrong : ChangeSpec := { name := "wireWrites", fn := fun _ => fun
  | [d] => { results := [.lit (.bool false)], args := [d] }
  | _ => none }
def WireWritesWrongFalsely : Prop := wireWritesRow.holds Try.pinned (OpenSpec.ofChange wireWritesWrong)

/-- 'rollbooklaw02.WirePrefix': WHATEVER THE INPUT: true; the input reads as it did. -/
def wirePrefixSpec : ChangeSpec := { name := "wirePrefix", fn := fun _ => fun
  | [d1, d2] => { results := [.lit (.bool true)], args := [d1, d2] }
  | _ => none }
def wirePrefixRow : OpenClaim := { program := "ytdccpcnahbhfcaa", sum := "a779d3abdaed5fbf7ea0839f059ab002d54703e7d0de228f2708a5b74c713d90", func := "rollbook/rollbooklaw02.WirePrefix", spec := "wirePrefix", apart := false }
def WirePrefixSaid : Prop := wirePrefixRow.holds Try.pinned (OpenSpec.ofChange wirePrefixSpec)

/-- ITS FALSE NEIGHBOUR: 'it returns false'. Refute it at one input. -/
def wirePrefixWrong : ChangeSpec := { name := "wirePrefix", fn := fun _ => fun
  | [d1, d2] => { results := [.lit (.bool false)], args := [d1, d2] }
  | _ => none }
def WirePrefixWrongFalsely : Prop := wirePrefixRow.holds Try.pinned (OpenSpec.ofChange wirePrefixWrong)

/-- 'rollbooklaw02.WireSticks': WHATEVER THE INPUT: true; the input reads as it did. -/
def wireSticksSpec : ChangeSpec := { name := "wireSticks", fn := fun _ => fun
  | [d1, d2, d3, d4] => { results := [.lit (.bool true)], args := [d1, d2, d3, d4] }
  | _ => none }
def wireSticksRow : OpenClaim := { program := "ytdccpcnahbhfcaa", sum := "a779d3abdaed5fbf7ea0839f059ab002d54703e7d0de228f2708a5b74c713d90", func := "rollbook/rollbooklaw02.WireSticks", spec := "wireSticks", apart := false }
def WireSticksSaid : Prop := wireSticksRow.holds Try.pinned (OpenSpec.ofChange wireSticksSpec)

/-- ITS FALSE NEIGHBOUR: 'it returns false'. Refute it at one input. -/
def wireSticksWrong : ChangeSpec := { name := "wireSticks", fn := fun _ => fun
  | [d1, d2, d3, d4] => { results := [.lit (.bool false)], args := [d1, d2, d3, d4] }
  | _ => none }
def WireSticksWrongFalsely : Prop := wireSticksRow.holds Try.pinned (OpenSpec.ofChange wireSticksWrong)

/-- 'rollbooklaw02.WireReads': WHATEVER THE INPUT: true; the input reads as it did. -/
def wireReadsSpec : ChangeSpec := { name := "wireReads", fn := fun _ => fun
  | [d1, d2, d3, d4, d5] => { results := [.lit (.bool true)], args := [d1, d2, d3, d4, d5] }
  | _ => none }
def wireReadsRow : OpenClaim := { program := "ytdccpcnahbhfcaa", sum := "a779d3abdaed5fbf7ea0839f059ab002d54703e7d0de228f2708a5b74c713d90", func := "rollbook/rollbooklaw02.WireReads", spec := "wireReads", apart := false }
def WireReadsSaid : Prop := wireReadsRow.holds Try.pinned (OpenSpec.ofChange wireReadsSpec)

/-- ITS FALSE NEIGHBOUR: 'it returns false'. Refute it at one input. -/
def wireReadsWrong : ChangeSpec := { name := "wireReads", fn := fun _ => fun
  | [d1, d2, d3, d4, d5] => { results := [.lit (.bool false)], args := [d1, d2, d3, d4, d5] }
  | _ => none }
def WireReadsWrongFalsely : Prop := wireReadsRow.holds Try.pinned (OpenSpec.ofChange wireReadsWrong)

/-- 'rollbooklaw02.WireRound': WHATEVER THE INPUT: true; the input reads as it did. -/
def wireRoundSpec : ChangeSpec := { name := "wireRound", fn := fun _ => fun
  | [d] => { results := [.lit (.bool true)], args := [d] }
  | _ => none }
def wireRoundRow : OpenClaim := { program := "ytdccpcnahbhfcaa", sum := "a779d3abdaed5fbf7ea0839f059ab002d54703e7d0de228f2708a5b74c713d90", func := "rollbook/rollbooklaw02.WireRound", spec := "wireRound", apart := false }
def WireRoundSaid : Prop := wireRoundRow.holds Try.pinned (OpenSpec.ofChange wireRoundSpec)

/-- ITS FALSE NEIGHBOUR: 'it returns false'. Refute it at one input. -/
def wireRoundWrong : ChangeSpec := { name := "wireRound", fn := fun _ => fun
  | [d] => { results := [.lit (.bool false)], args := [d] }
  | _ => none }
def WireRoundWrongFalsely : Prop := wireRoundRow.holds Try.pinned (OpenSpec.ofChange wireRoundWrong)

/-- 'rollbooklaw02.WireCut': WHATEVER THE INPUT: true; the input reads as it did. -/
def wireCutSpec : ChangeSpec := { name := "wireCut", fn := fun _ => fun
  | [d1, d2] => { results := [.lit (.bool true)], args := [d1, d2] }
  | _ => none }
def wireCutRow : OpenClaim := { program := "ytdccpcnahbhfcaa", sum := "a779d3abdaed5fbf7ea0839f059ab002d54703e7d0de228f2708a5b74c713d90", func := "rollbook/rollbooklaw02.WireCut", spec := "wireCut", apart := false }
def WireCutSaid : Prop := wireCutRow.holds Try.pinned (OpenSpec.ofChange wireCutSpec)

/-- ITS FALSE NEIGHBOUR: 'it returns false'. Refute it at one input. -/
def wireCutWrong : ChangeSpec := { name := "wireCut", fn := fun _ => fun
  | [d1, d2] => { results := [.lit (.bool false)], args := [d1, d2] }
  | _ => none }
def WireCutWrongFalsely : Prop := wireCutRow.holds Try.pinned (OpenSpec.ofChange wireCutWrong)

/-- 'rollbooklaw02.WireCanonical': WHATEVER THE INPUT: true; the input reads as it did. -/
def wireCanonicalSpec : ChangeSpec := { name := "wireCanonical", fn := fun _ => fun
  | [d1, d2, d3] => { results := [.lit (.bool true)], args := [d1, d2, d3] }
  | _ => none }
def wireCanonicalRow : OpenClaim := { program := "ytdccpcnahbhfcaa", sum := "a779d3abdaed5fbf7ea0839f059ab002d54703e7d0de228f2708a5b74c713d90", func := "rollbook/rollbooklaw02.WireCanonical", spec := "wireCanonical", apart := false }
def WireCanonicalSaid : Prop := wireCanonicalRow.holds Try.pinned (OpenSpec.ofChange wireCanonicalSpec)

/-- ITS FALSE NEIGHBOUR: 'it returns false'. Refute it at one input. -/
def wireCanonicalWrong : ChangeSpec := { name := "wireCanonical", fn := fun _ => fun
  | [d1, d2, d3] => { results := [.lit (.bool false)], args := [d1, d2, d3] }
  | _ => none }
def WireCanonicalWrongFalsely : Prop := wireCanonicalRow.holds Try.pinned (OpenSpec.ofChange wireCanonicalWrong)

/-- 'rollbooklaw02.WireOwns': WHATEVER THE INPUT: true; the input reads as it did. -/
def wireOwnsSpec : ChangeSpec := { name := "wireOwns", fn := fun _ => fun
  | [d] => { results := [.lit (.bool true)], args := [d] }
  | _ => none }
def wireOwnsRow : OpenClaim := { program := "ytdccpcnahbhfcaa", sum := "a779d3abdaed5fbf7ea0839f059ab002d54703e7d0de228f2708a5b74c713d90", func := "rollbook/rollbooklaw02.WireOwns", spec := "wireOwns", apart := false }
def WireOwnsSaid : Prop := wireOwnsRow.holds Try.pinned (OpenSpec.ofChange wireOwnsSpec)

/-- ITS FALSE NEIGHBOUR: 'it returns false'. Refute it at one input. -/
def wireOwnsWrong : ChangeSpec := { name := "wireOwns", fn := fun _ => fun
  | [d] => { results := [.lit (.bool false)], args := [d] }
  | _ => none }
def WireOwnsWrongFalsely : Prop := wireOwnsRow.holds Try.pinned (OpenSpec.ofChange wireOwnsWrong)

/- THE SECOND FORM. 'bulk': how many values and letters a reading holds, each counted each time it is reached (what is shared counts as often as it is met; a slice's spare places count too). A statement '..UptoSaid' is the law's where the arguments, and the package variables that the reading takes, are together of bulk at most 1048576: NARROWER than '..Said'. Prove '..Said' where nothing that the law and all that it calls make is longer than what came in: it says more and counts as full. Else prove '..UptoSaid'. A law counts once. -/
mutual
def uptoBulk {H : Type} : DataW H → Nat
  | .lit (.string bytes) => bytes.length + 1
  | .lit _ => 1
  | .nil => 1
  | .ptr d => uptoBulk d + 1
  | .slice elems spare => uptoBulkAll elems + uptoBulkAll spare + 1
  | .agg parts => uptoBulkAll parts + 1
  | .iface _ d => uptoBulk d + 1
  | .map entries => uptoBulkEntries entries + 1
  | .held _ => 1
def uptoBulkAll {H : Type} : List (DataW H) → Nat
  | [] => 0
  | d :: r => uptoBulk d + uptoBulkAll r
def uptoBulkEntries {H : Type} : List (Lit × DataW H) → Nat
  | [] => 0
  | x :: r => uptoBulkEntry x + uptoBulkEntries r
def uptoBulkEntry {H : Type} : Lit × DataW H → Nat
  | (.string bytes, d) => bytes.length + uptoBulk d + 1
  | (_, d) => uptoBulk d + 1
 end
def uptoSmall : (H : Type) → List (DataW H) → Bool := fun _ ds => decide (uptoBulkAll ds ≤ 1048576)
def OpenSpec.upto (s : _root_.Go.ChangeSpec) : _root_.Go.OpenSpec := { _root_.Go.OpenSpec.ofChange s with cond := some uptoSmall }

/-- 'rollbooklaw02.WireWrites', WHERE WHAT IT READS IS OF BULK AT MOST 1048576: true; the input reads as it did. -/
def wireWritesUptoRow : OpenClaim := { program := "ytdccpcnahbhfcaa", sum := "a779d3abdaed5fbf7ea0839f059ab002d54703e7d0de228f2708a5b74c713d90", func := "rollbook/rollbooklaw02.WireWrites", spec := "wireWrites", apart := false, narrowed := true }
def WireWritesUptoSaid : Prop := wireWritesUptoRow.holds Try.pinned (OpenSpec.upto wireWritesSpec)

/-- 'rollbooklaw02.WirePrefix', WHERE WHAT IT READS IS OF BULK AT MOST 1048576: true; the input reads as it did. -/
def wirePrefixUptoRow : OpenClaim := { program := "ytdccpcnahbhfcaa", sum := "a779d3abdaed5fbf7ea0839f059ab002d54703e7d0de228f2708a5b74c713d90", func := "rollbook/rollbooklaw02.WirePrefix", spec := "wirePrefix", apart := false, narrowed := true }
def WirePrefixUptoSaid : Prop := wirePrefixUptoRow.holds Try.pinned (OpenSpec.upto wirePrefixSpec)

/-- 'rollbooklaw02.WireSticks', WHERE WHAT IT READS IS OF BULK AT MOST 1048576: true; the input reads as it did. -/
def wireSticksUptoRow : OpenClaim := { program := "ytdccpcnahbhfcaa", sum := "a779d3abdaed5fbf7ea0839f059ab002d54703e7d0de228f2708a5b74c713d90", func := "rollbook/rollbooklaw02.WireSticks", spec := "wireSticks", apart := false, narrowed := true }
def WireSticksUptoSaid : Prop := wireSticksUptoRow.holds Try.pinned (OpenSpec.upto wireSticksSpec)

/-- 'rollbooklaw02.WireReads', WHERE WHAT IT READS IS OF BULK AT MOST 1048576: true; the input reads as it did. -/
def wireReadsUptoRow : OpenClaim := { program := "ytdccpcnahbhfcaa", sum := "a779d3abdaed5fbf7ea0839f059ab002d54703e7d0de228f2708a5b74c713d90", func := "rollbook/rollbooklaw02.WireReads", spec := "wireReads", apart := false, narrowed := true }
def WireReadsUptoSaid : Prop := wireReadsUptoRow.holds Try.pinned (OpenSpec.upto wireReadsSpec)

/-- 'rollbooklaw02.WireRound', WHERE WHAT IT READS IS OF BULK AT MOST 1048576: true; the input reads as it did. -/
def wireRoundUptoRow : OpenClaim := { program := "ytdccpcnahbhfcaa", sum := "a779d3abdaed5fbf7ea0839f059ab002d54703e7d0de228f2708a5b74c713d90", func := "rollbook/rollbooklaw02.WireRound", spec := "wireRound", apart := false, narrowed := true }
def WireRoundUptoSaid : Prop := wireRoundUptoRow.holds Try.pinned (OpenSpec.upto wireRoundSpec)

/-- 'rollbooklaw02.WireCut', WHERE WHAT IT READS IS OF BULK AT MOST 1048576: true; the input reads as it did. -/
def wireCutUptoRow : OpenClaim := { program := "ytdccpcnahbhfcaa", sum := "a779d3abdaed5fbf7ea0839f059ab002d54703e7d0de228f2708a5b74c713d90", func := "rollbook/rollbooklaw02.WireCut", spec := "wireCut", apart := false, narrowed := true }
def WireCutUptoSaid : Prop := wireCutUptoRow.holds Try.pinned (OpenSpec.upto wireCutSpec)

/-- 'rollbooklaw02.WireCanonical', WHERE WHAT IT READS IS OF BULK AT MOST 1048576: true; the input reads as it did. -/
def wireCanonicalUptoRow : OpenClaim := { program := "ytdccpcnahbhfcaa", sum := "a779d3abdaed5fbf7ea0839f059ab002d54703e7d0de228f2708a5b74c713d90", func := "rollbook/rollbooklaw02.WireCanonical", spec := "wireCanonical", apart := false, narrowed := true }
def WireCanonicalUptoSaid : Prop := wireCanonicalUptoRow.holds Try.pinned (OpenSpec.upto wireCanonicalSpec)

/-- 'rollbooklaw02.WireOwns', WHERE WHAT IT READS IS OF BULK AT MOST 1048576: true; the input reads as it did. -/
def wireOwnsUptoRow : OpenClaim := { program := "ytdccpcnahbhfcaa", sum := "a779d3abdaed5fbf7ea0839f059ab002d54703e7d0de228f2708a5b74c713d90", func := "rollbook/rollbooklaw02.WireOwns", spec := "wireOwns", apart := false, narrowed := true }
def WireOwnsUptoSaid : Prop := wireOwnsUptoRow.holds Try.pinned (OpenSpec.upto wireOwnsSpec)

end Rows
end Go.Proofs.Ytdccpcnahbhfcaa
