/-
  No cell of these rows narrows 'for every input' (looked for: loops, veiled, ifaces, maps, wideKeys, modest, calm, conditions, laid).
  DERIVED. THE GIVEN ROWS OF THIS SEAT. 9 by the template 'for every input the law returns true; each argument reads behind the call as it read before'; 0 by the template 'total and deterministic' (their statements: YteghgfgkkpfcaaaTotals.lean).
  GIVEN WITH THE SEED: the statements are not yours to turn. If you find one false, say at which input.
  Laid BY PROGRAM, IN A SANDBOX (cutbox-rows.mjs): the forced cells as the released guide's own fill.sh prints them over the translation d1cf2102026533b7… (all of the seat's roots in one cut). By AI agents, Wed Nov 11 2026. No macro, syntax, notation, axiom, sorry.
-/
import Derived.Test.YteghgfgkkpfcaaaChecked
import GoSem.Claim
import GoSem.ClaimJoined
import GoSem.ClaimMapViews
import Derived.JoinedTies
import Derived.KernelRfl
namespace Go.Proofs.Yteghgfgkkpfcaaa
/- THE CELL 'sum', in the pinned program and in every row, IS THE sha256 OF THE DUMP (.gsa) THAT YteghgfgkkpfcaaaProg.lean LOADS. Nothing in Lean hashes anything: it is a label: what it is worth is what the hold of that sum in a sandbox is worth. -/
noncomputable def Try.pinned : Pinned := { name := "yteghgfgkkpfcaaa", sum := "d1cf2102026533b78a9787c2d732a3452778dd4f0a13154abba370a5b3feb3ab", checked := Try.checked }
namespace Rows
def none {H : Type} : Left H := { results := [], args := [] }

/-- 'rollbooklaw03.DiskMatches': WHATEVER THE INPUT: true; the input reads as it did. -/
def diskMatchesSpec : ChangeSpec := { name := "diskMatches", fn := fun _ => fun
  | [d1, d2] => { results := [.lit (.bool true)], args := [d1, d2] }
  | _ => none }
def diskMatchesRow : OpenClaim := { program := "yteghgfgkkpfcaaa", sum := "d1cf2102026533b78a9787c2d732a3452778dd4f0a13154abba370a5b3feb3ab", func := "rollbook/rollbooklaw03.DiskMatches", spec := "diskMatches", apart := false }
def DiskMatchesSaid : Prop := diskMatchesRow.holds Try.pinned (OpenSpec.ofChange diskMatchesSpec)

/-- ITS FALSE NEIGHBOUR: 'it returns false'. Refute it at one input. -/
def diskMatchesWrong : ChangeSpec := { name := "diskMatches", fn := fun _ => fun
  | [d1, d2] => { results := [.lit (.bool false)], args := [d1, d2] }
  | _ => none }
def DiskMatchesWrongFalsely : Prop := diskMatchesRow.holds Try.pinned (OpenSpec.ofChange diskMatchesWrong)

/-- 'rollbooklaw03.DiskNew': WHATEVER THE INPUT: true; the input reads as it did. -/
def diskNewSpec : ChangeSpec := { name := "diskNew", fn := fun _ => fun
  | [d] => { results := [.lit (.bool true)], args := [d] }
  | _ => none }
def diskNewRow : OpenClaim := { program := "yteghgfgkkpfcaaa", sum := "d1cf2102026533b78a9787c2d732a3452778dd4f0a13154abba370a5b3feb3ab", func := "rollbook/rollbooklaw03.DiskNew", spec := "diskNew", apart := false }
def DiskNewSaid : Prop := diskNewRow.holds Try.pinned (OpenSpec.ofChange diskNewSpec)

/-- ITS FALSE NEIGHBOUR: 'it returns false'. Refute it at one input. -/
def diskNewWrong : ChangeSpec := { name := "diskNew", fn := fun _ => fun
  | [d] => { results := [.lit (.bool false)], args := [d] }
  | _ => none }
def DiskNewWrongFalsely : Prop := diskNewRow.holds Try.pinned (OpenSpec.ofChange diskNewWrong)

/-- 'rollbooklaw03.DiskSurvives': WHATEVER THE INPUT: true; the input reads as it did. -/
def diskSurvivesSpec : ChangeSpec := { name := "diskSurvives", fn := fun _ => fun
  | [d1, d2] => { results := [.lit (.bool true)], args := [d1, d2] }
  | _ => none }
def diskSurvivesRow : OpenClaim := { program := "yteghgfgkkpfcaaa", sum := "d1cf2102026533b78a9787c2d732a3452778dd4f0a13154abba370a5b3feb3ab", func := "rollbook/rollbooklaw03.DiskSurvives", spec := "diskSurvives", apart := false }
def DiskSurvivesSaid : Prop := diskSurvivesRow.holds Try.pinned (OpenSpec.ofChange diskSurvivesSpec)

/-- ITS FALSE NEIGHBOUR: 'it returns false'. Refute it at one input. -/
def diskSurvivesWrong : ChangeSpec := { name := "diskSurvives", fn := fun _ => fun
  | [d1, d2] => { results := [.lit (.bool false)], args := [d1, d2] }
  | _ => none }
def DiskSurvivesWrongFalsely : Prop := diskSurvivesRow.holds Try.pinned (OpenSpec.ofChange diskSurvivesWrong)

/-- 'rollbooklaw03.DiskFuses': WHATEVER THE INPUT: true; the input reads as it did. -/
def diskFusesSpec : ChangeSpec := { name := "diskFuses", fn := fun _ => fun
  | [d1, d2, d3] => { results := [.lit (.bool true)], args := [d1, d2, d3] }
  | _ => none }
def diskFusesRow : OpenClaim := { program := "yteghgfgkkpfcaaa", sum := "d1cf2102026533b78a9787c2d732a3452778dd4f0a13154abba370a5b3feb3ab", func := "rollbook/rollbooklaw03.DiskFuses", spec := "diskFuses", apart := false }
def DiskFusesSaid : Prop := diskFusesRow.holds Try.pinned (OpenSpec.ofChange diskFusesSpec)

/-- ITS FALSE NEIGHBOUR: 'it returns false'. Refute it at one input. -/
def diskFusesWrong : ChangeSpec := { name := "diskFuses", fn := fun _ => fun
  | [d1, d2, d3] => { results := [.lit (.bool false)], args := [d1, d2, d3] }
  | _ => none }
def DiskFusesWrongFalsely : Prop := diskFusesRow.holds Try.pinned (OpenSpec.ofChange diskFusesWrong)

/-- 'rollbooklaw03.DiskOrder': WHATEVER THE INPUT: true; the input reads as it did. -/
def diskOrderSpec : ChangeSpec := { name := "diskOrder", fn := fun _ => fun
  | [d1, d2, d3] => { results := [.lit (.bool true)], args := [d1, d2, d3] }
  | _ => none }
def diskOrderRow : OpenClaim := { program := "yteghgfgkkpfcaaa", sum := "d1cf2102026533b78a9787c2d732a3452778dd4f0a13154abba370a5b3feb3ab", func := "rollbook/rollbooklaw03.DiskOrder", spec := "diskOrder", apart := false }
def DiskOrderSaid : Prop := diskOrderRow.holds Try.pinned (OpenSpec.ofChange diskOrderSpec)

/-- ITS FALSE NEIGHBOUR: 'it returns false'. Refute it at one input. -/
def diskOrderWrong : ChangeSpec := { name := "diskOrder", fn := fun _ => fun
  | [d1, d2, d3] => { results := [.lit (.bool false)], args := [d1, d2, d3] }
  | _ => none }
def DiskOrderWrongFalsely : Prop := diskOrderRow.holds Try.pinned (OpenSpec.ofChange diskOrderWrong)

/-- 'rollbooklaw03.DiskApart': WHATEVER THE INPUT: true; the input reads as it did. -/
def diskApartSpec : ChangeSpec := { name := "diskApart", fn := fun _ => fun
  | [d1, d2, d3, d4] => { results := [.lit (.bool true)], args := [d1, d2, d3, d4] }
  | _ => none }
def diskApartRow : OpenClaim := { program := "yteghgfgkkpfcaaa", sum := "d1cf2102026533b78a9787c2d732a3452778dd4f0a13154abba370a5b3feb3ab", func := "rollbook/rollbooklaw03.DiskApart", spec := "diskApart", apart := false }
def DiskApartSaid : Prop := diskApartRow.holds Try.pinned (OpenSpec.ofChange diskApartSpec)

/-- ITS FALSE NEIGHBOUR: 'it returns false'. Refute it at one input. -/
def diskApartWrong : ChangeSpec := { name := "diskApart", fn := fun _ => fun
  | [d1, d2, d3, d4] => { results := [.lit (.bool false)], args := [d1, d2, d3, d4] }
  | _ => none }
def DiskApartWrongFalsely : Prop := diskApartRow.holds Try.pinned (OpenSpec.ofChange diskApartWrong)

/-- 'rollbooklaw03.DiskAgain': WHATEVER THE INPUT: true; the input reads as it did. -/
def diskAgainSpec : ChangeSpec := { name := "diskAgain", fn := fun _ => fun
  | [d1, d2, d3, d4] => { results := [.lit (.bool true)], args := [d1, d2, d3, d4] }
  | _ => none }
def diskAgainRow : OpenClaim := { program := "yteghgfgkkpfcaaa", sum := "d1cf2102026533b78a9787c2d732a3452778dd4f0a13154abba370a5b3feb3ab", func := "rollbook/rollbooklaw03.DiskAgain", spec := "diskAgain", apart := false }
def DiskAgainSaid : Prop := diskAgainRow.holds Try.pinned (OpenSpec.ofChange diskAgainSpec)

/-- ITS FALSE NEIGHBOUR: 'it returns false'. Refute it at one input. -/
def diskAgainWrong : ChangeSpec := { name := "diskAgain", fn := fun _ => fun
  | [d1, d2, d3, d4] => { results := [.lit (.bool false)], args := [d1, d2, d3, d4] }
  | _ => none }
def DiskAgainWrongFalsely : Prop := diskAgainRow.holds Try.pinned (OpenSpec.ofChange diskAgainWrong)

/-- 'rollbooklaw03.DiskClones': WHATEVER THE INPUT: true; the input reads as it did. -/
def diskClonesSpec : ChangeSpec := { name := "diskClones", fn := fun _ => fun
  | [d1, d2, d3] => { results := [.lit (.bool true)], args := [d1, d2, d3] }
  | _ => none }
def diskClonesRow : OpenClaim := { program := "yteghgfgkkpfcaaa", sum := "d1cf2102026533b78a9787c2d732a3452778dd4f0a13154abba370a5b3feb3ab", func := "rollbook/rollbooklaw03.DiskClones", spec := "diskClones", apart := false }
def DiskClonesSaid : Prop := diskClonesRow.holds Try.pinned (OpenSpec.ofChange diskClonesSpec)

/-- ITS FALSE NEIGHBOUR: 'it returns false'. Refute it at one input. -/
def diskClonesWrong : ChangeSpec := { name := "diskClones", fn := fun _ => fun
  | [d1, d2, d3] => { results := [.lit (.bool false)], args := [d1, d2, d3] }
  | _ => none }
def DiskClonesWrongFalsely : Prop := diskClonesRow.holds Try.pinned (OpenSpec.ofChange diskClonesWrong)

/-- 'rollbooklaw03.DiskWire': WHATEVER THE INPUT: true; the input reads as it did. -/
def diskWireSpec : ChangeSpec := { name := "diskWire", fn := fun _ => fun
  | [d1, d2, d3] => { results := [.lit (.bool true)], args := [d1, d2, d3] }
  | _ => none }
def diskWireRow : OpenClaim := { program := "yteghgfgkkpfcaaa", sum := "d1cf2102026533b78a9787c2d732a3452778dd4f0a13154abba370a5b3feb3ab", func := "rollbook/rollbooklaw03.DiskWire", spec := "diskWire", apart := false }
def DiskWireSaid : Prop := diskWireRow.holds Try.pinned (OpenSpec.ofChange diskWireSpec)

/-- ITS FALSE NEIGHBOUR: 'it returns false'. Refute it at one input. -/
def diskWireWrong : ChangeSpec := { name := "diskWire", fn := fun _ => fun
  | [d1, d2, d3] => { results := [.lit (.bool false)], args := [d1, d2, d3] }
  | _ => none }
def DiskWireWrongFalsely : Prop := diskWireRow.holds Try.pinned (OpenSpec.ofChange diskWireWrong)

/- THE SECOND FORM. 'bulk': how many values and letters a reading holds, each counted each time it is reached (what is shared counts as often as it is met; a slice's spare places count too). A statement '..UptoSaid' is the law's where the arguments, and the package variables that the reading takes, are together of bulk at most 1048576: NARROWER than '..Said'. Prove '..Said' where nothing that the law and all that it calls make is longer than what came in: it says more and counts as full. Else prove '..UptoSaid'. A law counts once. -/
mutual
def uptoBulk {H : Type} : DataW H → Nat
  | .lit (.string bytes) => bytes.length + 1
  | .lit _ => 1
  | .nil => 1
  | .ptr d => uptoBulk d + 1
  | .slice elems spare => uptoBulkAll elems + uptoBulkAll spare + 1
  | .agg parts => uptoBulkAll parts + 1
  | .iface _ d => uptoBulk d + 1
  | .map entries => uptoBulkEntries entries + 1
  | .held _ => 1
def uptoBulkAll {H : Type} : List (DataW H) → Nat
  | [] => 0
  | d :: r => uptoBulk d + uptoBulkAll r
def uptoBulkEntries {H : Type} : List (Lit × DataW H) → Nat
  | [] => 0
  | x :: r => uptoBulkEntry x + uptoBulkEntries r
def uptoBulkEntry {H : Type} : Lit × DataW H → Nat
  | (.string bytes, d) => bytes.length + uptoBulk d + 1
  | (_, d) => uptoBulk d + 1
 end
def uptoSmall : (H : Type) → List (DataW H) → Bool := fun _ ds => decide (uptoBulkAll ds ≤ 1048576)
def OpenSpec.upto (s : _root_.Go.ChangeSpec) : _root_.Go.OpenSpec := { _root_.Go.OpenSpec.ofChange s with cond := some uptoSmall }

/-- 'rollbooklaw03.DiskMatches', WHERE WHAT IT READS IS OF BULK AT MOST 1048576: true; the input reads as it did. -/
def diskMatchesUptoRow : OpenClaim := { program := "yteghgfgkkpfcaaa", sum := "d1cf2102026533b78a9787c2d732a3452778dd4f0a13154abba370a5b3feb3ab", func := "rollbook/rollbooklaw03.DiskMatches", spec := "diskMatches", apart := false, narrowed := true }
def DiskMatchesUptoSaid : Prop := diskMatchesUptoRow.holds Try.pinned (OpenSpec.upto diskMatchesSpec)

/-- 'rollbooklaw03.DiskNew', WHERE WHAT IT READS IS OF BULK AT MOST 1048576: true; the input reads as it did. -/
def diskNewUptoRow : OpenClaim := { program := "yteghgfgkkpfcaaa", sum := "d1cf2102026533b78a9787c2d732a3452778dd4f0a13154abba370a5b3feb3ab", func := "rollbook/rollbooklaw03.DiskNew", spec := "diskNew", apart := false, narrowed := true }
def DiskNewUptoSaid : Prop := diskNewUptoRow.holds Try.pinned (OpenSpec.upto diskNewSpec)

/-- 'rollbooklaw03.DiskSurvives', WHERE WHAT IT READS IS OF BULK AT MOST 1048576: true; the input reads as it did. -/
def diskSurvivesUptoRow : OpenClaim := { program := "yteghgfgkkpfcaaa", sum := "d1cf2102026533b78a9787c2d732a3452778dd4f0a13154abba370a5b3feb3ab", func := "rollbook/rollbooklaw03.DiskSurvives", spec := "diskSurvives", apart := false, narrowed := true }
def DiskSurvivesUptoSaid : Prop := diskSurvivesUptoRow.holds Try.pinned (OpenSpec.upto diskSurvivesSpec)

/-- 'rollbooklaw03.DiskFuses', WHERE WHAT IT READS IS OF BULK AT MOST 1048576: true; the input reads as it did. -/
def diskFusesUptoRow : OpenClaim := { program := "yteghgfgkkpfcaaa", sum := "d1cf2102026533b78a9787c2d732a3452778dd4f0a13154abba370a5b3feb3ab", func := "rollbook/rollbooklaw03.DiskFuses", spec := "diskFuses", apart := false, narrowed := true }
def DiskFusesUptoSaid : Prop := diskFusesUptoRow.holds Try.pinned (OpenSpec.upto diskFusesSpec)

/-- 'rollbooklaw03.DiskOrder', WHERE WHAT IT READS IS OF BULK AT MOST 1048576: true; the input reads as it did. -/
def diskOrderUptoRow : OpenClaim := { program := "yteghgfgkkpfcaaa", sum := "d1cf2102026533b78a9787c2d732a3452778dd4f0a13154abba370a5b3feb3ab", func := "rollbook/rollbooklaw03.DiskOrder", spec := "diskOrder", apart := false, narrowed := true }
def DiskOrderUptoSaid : Prop := diskOrderUptoRow.holds Try.pinned (OpenSpec.upto diskOrderSpec)

/-- 'rollbooklaw03.DiskApart', WHERE WHAT IT READS IS OF BULK AT MOST 1048576: true; the input reads as it did. -/
def diskApartUptoRow : OpenClaim := { program := "yteghgfgkkpfcaaa", sum := "d1cf2102026533b78a9787c2d732a3452778dd4f0a13154abba370a5b3feb3ab", func := "rollbook/rollbooklaw03.DiskApart", spec := "diskApart", apart := false, narrowed := true }
def DiskApartUptoSaid : Prop := diskApartUptoRow.holds Try.pinned (OpenSpec.upto diskApartSpec)

/-- 'rollbooklaw03.DiskAgain', WHERE WHAT IT READS IS OF BULK AT MOST 1048576: true; the input reads as it did. -/
def diskAgainUptoRow : OpenClaim := { program := "yteghgfgkkpfcaaa", sum := "d1cf2102026533b78a9787c2d732a3452778dd4f0a13154abba370a5b3feb3ab", func := "rollbook/rollbooklaw03.DiskAgain", spec := "diskAgain", apart := false, narrowed := true }
def DiskAgainUptoSaid : Prop := diskAgainUptoRow.holds Try.pinned (OpenSpec.upto diskAgainSpec)

/-- 'rollbooklaw03.DiskClones', WHERE WHAT IT READS IS OF BULK AT MOST 1048576: true; the input reads as it did. -/
def diskClonesUptoRow : OpenClaim := { program := "yteghgfgkkpfcaaa", sum := "d1cf2102026533b78a9787c2d732a3452778dd4f0a13154abba370a5b3feb3ab", func := "rollbook/rollbooklaw03.DiskClones", spec := "diskClones", apart := false, narrowed := true }
def DiskClonesUptoSaid : Prop := diskClonesUptoRow.holds Try.pinned (OpenSpec.upto diskClonesSpec)

/-- 'rollbooklaw03.DiskWire', WHERE WHAT IT READS IS OF BULK AT MOST 1048576: true; the input reads as it did. -/
def diskWireUptoRow : OpenClaim := { program := "yteghgfgkkpfcaaa", sum := "d1cf2102026533b78a9787c2d732a3452778dd4f0a13154abba370a5b3feb3ab", func := "rollbook/rollbooklaw03.DiskWire", spec := "diskWire", apart := false, narrowed := true }
def DiskWireUptoSaid : Prop := diskWireUptoRow.holds Try.pinned (OpenSpec.upto diskWireSpec)

end Rows
end Go.Proofs.Yteghgfgkkpfcaaa
