/-
  No cell of these rows narrows 'for every input' (looked for: loops, veiled, ifaces, maps, wideKeys, modest, calm, conditions, laid).
  DERIVED. THE GIVEN ROWS OF THIS SEAT. 9 by the template 'for every input the law returns true; each argument reads behind the call as it read before'; 0 by the template 'total and deterministic' (their statements: YtilcnglcflohoaaTotals.lean).
  GIVEN WITH THE SEED: the statements are not yours to turn. If you find one false, say at which input.
  Laid BY PROGRAM, IN A SANDBOX (cutbox-rows.mjs): the forced cells as the released guide's own fill.sh prints them over the translation 8ef3204a0fb4ff2f… (all of the seat's roots in one cut). By AI agents, Wed Nov 11 2026. No macro, syntax, notation, axiom, sorry.
-/
import Derived.Test.YtilcnglcflohoaaChecked
import GoSem.Claim
import GoSem.ClaimJoined
import GoSem.ClaimMapViews
import Derived.JoinedTies
import Derived.KernelRfl
namespace Go.Proofs.Ytilcnglcflohoaa
/- THE CELL 'sum', in the pinned program and in every row, IS THE sha256 OF THE DUMP (.gsa) THAT YtilcnglcflohoaaProg.lean LOADS. Nothing in Lean hashes anything: it is a label: what it is worth is what the hold of that sum in a sandbox is worth. -/
noncomputable def Try.pinned : Pinned := { name := "ytilcnglcflohoaa", sum := "8ef3204a0fb4ff2ff8e472c634c2c45605bf0fd931b10be0df4a03bd7e81ac25", checked := Try.checked }
namespace Rows
def none {H : Type} : Left H := { results := [], args := [] }

/-- 'rollbooklaw35.ReplicaModel': WHATEVER THE INPUT: true; the input reads as it did. -/
def replicaModelSpec : ChangeSpec := { name := "replicaModel", fn := fun _ => fun
  | [d1, d2, d3, d4] => { results := [.lit (.bool true)], args := [d1, d2, d3, d4] }
  | _ => none }
def replicaModelRow : OpenClaim := { program := "ytilcnglcflohoaa", sum := "8ef3204a0fb4ff2ff8e472c634c2c45605bf0fd931b10be0df4a03bd7e81ac25", func := "rollbook/rollbooklaw35.ReplicaModel", spec := "replicaModel", unfollowed := true, recurses := true, apart := false }
def ReplicaModelSaid : Prop := replicaModelRow.holds Try.pinned (OpenSpec.ofChange replicaModelSpec)

/-- ITS FALSE NEIGHBOUR: 'it returns false'. Refute it at one input. -/
def replicaModelWrong : ChangeSpec := { name := "replicaModel", fn := fun _ => fun
  | [d1, d2, d3, d4] => { results := [.lit (.bool false)], args := [d1, d2, d3, d4] }
  | _ => none }
def ReplicaModelWrongFalsely : Prop := replicaModelRow.holds Try.pinned (OpenSpec.ofChange replicaModelWrong)

/-- 'rollbooklaw35.ReplicaHandles': WHATEVER THE INPUT: true; the input reads as it did. -/
def replicaHandlesSpec : ChangeSpec := { name := "replicaHandles", fn := fun _ => fun
  | [d1, d2, d3, d4] => { results := [.lit (.bool true)], args := [d1, d2, d3, d4] }
  | _ => none }
def replicaHandlesRow : OpenClaim := { program := "ytilcnglcflohoaa", sum := "8ef3204a0fb4ff2ff8e472c634c2c45605bf0fd931b10be0df4a03bd7e81ac25", func := "rollbook/rollbooklaw35.ReplicaHandles", spec := "replicaHandles", unfollowed := true, recurses := true, apart := false }
def ReplicaHandlesSaid : Prop := replicaHandlesRow.holds Try.pinned (OpenSpec.ofChange replicaHandlesSpec)

/-- ITS FALSE NEIGHBOUR: 'it returns false'. Refute it at one input. -/
def replicaHandlesWrong : ChangeSpec := { name := "replicaHandles", fn := fun _ => fun
  | [d1, d2, d3, d4] => { results := [.lit (.bool false)], args := [d1, d2, d3, d4] }
  | _ => none }
def ReplicaHandlesWrongFalsely : Prop := replicaHandlesRow.holds Try.pinned (OpenSpec.ofChange replicaHandlesWrong)

/-- 'rollbooklaw35.ReplicaRefuses': WHATEVER THE INPUT: true; the input reads as it did. -/
def replicaRefusesSpec : ChangeSpec := { name := "replicaRefuses", fn := fun _ => fun
  | [d1, d2, d3, d4] => { results := [.lit (.bool true)], args := [d1, d2, d3, d4] }
  | _ => none }
def replicaRefusesRow : OpenClaim := { program := "ytilcnglcflohoaa", sum := "8ef3204a0fb4ff2ff8e472c634c2c45605bf0fd931b10be0df4a03bd7e81ac25", func := "rollbook/rollbooklaw35.ReplicaRefuses", spec := "replicaRefuses", unfollowed := true, recurses := true, apart := false }
def ReplicaRefusesSaid : Prop := replicaRefusesRow.holds Try.pinned (OpenSpec.ofChange replicaRefusesSpec)

/-- ITS FALSE NEIGHBOUR: 'it returns false'. Refute it at one input. -/
def replicaRefusesWrong : ChangeSpec := { name := "replicaRefuses", fn := fun _ => fun
  | [d1, d2, d3, d4] => { results := [.lit (.bool false)], args := [d1, d2, d3, d4] }
  | _ => none }
def ReplicaRefusesWrongFalsely : Prop := replicaRefusesRow.holds Try.pinned (OpenSpec.ofChange replicaRefusesWrong)

/-- 'rollbooklaw35.ReplicaElects': WHATEVER THE INPUT: true; the input reads as it did. -/
def replicaElectsSpec : ChangeSpec := { name := "replicaElects", fn := fun _ => fun
  | [d1, d2] => { results := [.lit (.bool true)], args := [d1, d2] }
  | _ => none }
def replicaElectsRow : OpenClaim := { program := "ytilcnglcflohoaa", sum := "8ef3204a0fb4ff2ff8e472c634c2c45605bf0fd931b10be0df4a03bd7e81ac25", func := "rollbook/rollbooklaw35.ReplicaElects", spec := "replicaElects", unfollowed := true, recurses := true, apart := false }
def ReplicaElectsSaid : Prop := replicaElectsRow.holds Try.pinned (OpenSpec.ofChange replicaElectsSpec)

/-- ITS FALSE NEIGHBOUR: 'it returns false'. Refute it at one input. -/
def replicaElectsWrong : ChangeSpec := { name := "replicaElects", fn := fun _ => fun
  | [d1, d2] => { results := [.lit (.bool false)], args := [d1, d2] }
  | _ => none }
def ReplicaElectsWrongFalsely : Prop := replicaElectsRow.holds Try.pinned (OpenSpec.ofChange replicaElectsWrong)

/-- 'rollbooklaw35.ReplicaLogs': WHATEVER THE INPUT: true; the input reads as it did. -/
def replicaLogsSpec : ChangeSpec := { name := "replicaLogs", fn := fun _ => fun
  | [d1, d2] => { results := [.lit (.bool true)], args := [d1, d2] }
  | _ => none }
def replicaLogsRow : OpenClaim := { program := "ytilcnglcflohoaa", sum := "8ef3204a0fb4ff2ff8e472c634c2c45605bf0fd931b10be0df4a03bd7e81ac25", func := "rollbook/rollbooklaw35.ReplicaLogs", spec := "replicaLogs", unfollowed := true, recurses := true, apart := false }
def ReplicaLogsSaid : Prop := replicaLogsRow.holds Try.pinned (OpenSpec.ofChange replicaLogsSpec)

/-- ITS FALSE NEIGHBOUR: 'it returns false'. Refute it at one input. -/
def replicaLogsWrong : ChangeSpec := { name := "replicaLogs", fn := fun _ => fun
  | [d1, d2] => { results := [.lit (.bool false)], args := [d1, d2] }
  | _ => none }
def ReplicaLogsWrongFalsely : Prop := replicaLogsRow.holds Try.pinned (OpenSpec.ofChange replicaLogsWrong)

/-- 'rollbooklaw35.ReplicaAgrees': WHATEVER THE INPUT: true; the input reads as it did. -/
def replicaAgreesSpec : ChangeSpec := { name := "replicaAgrees", fn := fun _ => fun
  | [d1, d2] => { results := [.lit (.bool true)], args := [d1, d2] }
  | _ => none }
def replicaAgreesRow : OpenClaim := { program := "ytilcnglcflohoaa", sum := "8ef3204a0fb4ff2ff8e472c634c2c45605bf0fd931b10be0df4a03bd7e81ac25", func := "rollbook/rollbooklaw35.ReplicaAgrees", spec := "replicaAgrees", unfollowed := true, recurses := true, apart := false }
def ReplicaAgreesSaid : Prop := replicaAgreesRow.holds Try.pinned (OpenSpec.ofChange replicaAgreesSpec)

/-- ITS FALSE NEIGHBOUR: 'it returns false'. Refute it at one input. -/
def replicaAgreesWrong : ChangeSpec := { name := "replicaAgrees", fn := fun _ => fun
  | [d1, d2] => { results := [.lit (.bool false)], args := [d1, d2] }
  | _ => none }
def ReplicaAgreesWrongFalsely : Prop := replicaAgreesRow.holds Try.pinned (OpenSpec.ofChange replicaAgreesWrong)

/-- 'rollbooklaw35.ReplicaKeeps': WHATEVER THE INPUT: true; the input reads as it did. -/
def replicaKeepsSpec : ChangeSpec := { name := "replicaKeeps", fn := fun _ => fun
  | [d1, d2] => { results := [.lit (.bool true)], args := [d1, d2] }
  | _ => none }
def replicaKeepsRow : OpenClaim := { program := "ytilcnglcflohoaa", sum := "8ef3204a0fb4ff2ff8e472c634c2c45605bf0fd931b10be0df4a03bd7e81ac25", func := "rollbook/rollbooklaw35.ReplicaKeeps", spec := "replicaKeeps", unfollowed := true, recurses := true, apart := false }
def ReplicaKeepsSaid : Prop := replicaKeepsRow.holds Try.pinned (OpenSpec.ofChange replicaKeepsSpec)

/-- ITS FALSE NEIGHBOUR: 'it returns false'. Refute it at one input. -/
def replicaKeepsWrong : ChangeSpec := { name := "replicaKeeps", fn := fun _ => fun
  | [d1, d2] => { results := [.lit (.bool false)], args := [d1, d2] }
  | _ => none }
def ReplicaKeepsWrongFalsely : Prop := replicaKeepsRow.holds Try.pinned (OpenSpec.ofChange replicaKeepsWrong)

/-- 'rollbooklaw35.ReplicaSettles': WHATEVER THE INPUT: true; the input reads as it did. -/
def replicaSettlesSpec : ChangeSpec := { name := "replicaSettles", fn := fun _ => fun
  | [d1, d2, d3] => { results := [.lit (.bool true)], args := [d1, d2, d3] }
  | _ => none }
def replicaSettlesRow : OpenClaim := { program := "ytilcnglcflohoaa", sum := "8ef3204a0fb4ff2ff8e472c634c2c45605bf0fd931b10be0df4a03bd7e81ac25", func := "rollbook/rollbooklaw35.ReplicaSettles", spec := "replicaSettles", unfollowed := true, recurses := true, apart := false }
def ReplicaSettlesSaid : Prop := replicaSettlesRow.holds Try.pinned (OpenSpec.ofChange replicaSettlesSpec)

/-- ITS FALSE NEIGHBOUR: 'it returns false'. Refute it at one input. -/
def replicaSettlesWrong : ChangeSpec := { name := "replicaSettles", fn := fun _ => fun
  | [d1, d2, d3] => { results := [.lit (.bool false)], args := [d1, d2, d3] }
  | _ => none }
def ReplicaSettlesWrongFalsely : Prop := replicaSettlesRow.holds Try.pinned (OpenSpec.ofChange replicaSettlesWrong)

/-- 'rollbooklaw35.ReplicaWire': WHATEVER THE INPUT: true; the input reads as it did. -/
def replicaWireSpec : ChangeSpec := { name := "replicaWire", fn := fun _ => fun
  | [d1, d2, d3] => { results := [.lit (.bool true)], args := [d1, d2, d3] }
  | _ => none }
def replicaWireRow : OpenClaim := { program := "ytilcnglcflohoaa", sum := "8ef3204a0fb4ff2ff8e472c634c2c45605bf0fd931b10be0df4a03bd7e81ac25", func := "rollbook/rollbooklaw35.ReplicaWire", spec := "replicaWire", unfollowed := true, recurses := true, apart := false }
def ReplicaWireSaid : Prop := replicaWireRow.holds Try.pinned (OpenSpec.ofChange replicaWireSpec)

/-- ITS FALSE NEIGHBOUR: 'it returns false'. Refute it at one input. -/
def replicaWireWrong : ChangeSpec := { name := "replicaWire", fn := fun _ => fun
  | [d1, d2, d3] => { results := [.lit (.bool false)], args := [d1, d2, d3] }
  | _ => none }
def ReplicaWireWrongFalsely : Prop := replicaWireRow.holds Try.pinned (OpenSpec.ofChange replicaWireWrong)

/- THE SECOND FORM. 'bulk': how many values and letters a reading holds, each counted each time it is reached (what is shared counts as often as it is met; a slice's spare places count too). A statement '..UptoSaid' is the law's where the arguments, and the package variables that the reading takes, are together of bulk at most 1048576: NARROWER than '..Said'. Prove '..Said' where nothing that the law and all that it calls make is longer than what came in: it says more and counts as full. Else prove '..UptoSaid'. A law counts once. -/
mutual
def uptoBulk {H : Type} : DataW H → Nat
  | .lit (.string bytes) => bytes.length + 1
  | .lit _ => 1
  | .nil => 1
  | .ptr d => uptoBulk d + 1
  | .slice elems spare => uptoBulkAll elems + uptoBulkAll spare + 1
  | .agg parts => uptoBulkAll parts + 1
  | .iface _ d => uptoBulk d + 1
  | .map entries => uptoBulkEntries entries + 1
  | .held _ => 1
def uptoBulkAll {H : Type} : List (DataW H) → Nat
  | [] => 0
  | d :: r => uptoBulk d + uptoBulkAll r
def uptoBulkEntries {H : Type} : List (Lit × DataW H) → Nat
  | [] => 0
  | x :: r => uptoBulkEntry x + uptoBulkEntries r
def uptoBulkEntry {H : Type} : Lit × DataW H → Nat
  | (.string bytes, d) => bytes.length + uptoBulk d + 1
  | (_, d) => uptoBulk d + 1
 end
def uptoSmall : (H : Type) → List (DataW H) → Bool := fun _ ds => decide (uptoBulkAll ds ≤ 1048576)
def OpenSpec.upto (s : _root_.Go.ChangeSpec) : _root_.Go.OpenSpec := { _root_.Go.OpenSpec.ofChange s with cond := some uptoSmall }

/-- 'rollbooklaw35.ReplicaModel', WHERE WHAT IT READS IS OF BULK AT MOST 1048576: true; the input reads as it did. -/
def replicaModelUptoRow : OpenClaim := { program := "ytilcnglcflohoaa", sum := "8ef3204a0fb4ff2ff8e472c634c2c45605bf0fd931b10be0df4a03bd7e81ac25", func := "rollbook/rollbooklaw35.ReplicaModel", spec := "replicaModel", unfollowed := true, recurses := true, apart := false, narrowed := true }
def ReplicaModelUptoSaid : Prop := replicaModelUptoRow.holds Try.pinned (OpenSpec.upto replicaModelSpec)

/-- 'rollbooklaw35.ReplicaHandles', WHERE WHAT IT READS IS OF BULK AT MOST 1048576: true; the input reads as it did. -/
def replicaHandlesUptoRow : OpenClaim := { program := "ytilcnglcflohoaa", sum := "8ef3204a0fb4ff2ff8e472c634c2c45605bf0fd931b10be0df4a03bd7e81ac25", func := "rollbook/rollbooklaw35.ReplicaHandles", spec := "replicaHandles", unfollowed := true, recurses := true, apart := false, narrowed := true }
def ReplicaHandlesUptoSaid : Prop := replicaHandlesUptoRow.holds Try.pinned (OpenSpec.upto replicaHandlesSpec)

/-- 'rollbooklaw35.ReplicaRefuses', WHERE WHAT IT READS IS OF BULK AT MOST 1048576: true; the input reads as it did. -/
def replicaRefusesUptoRow : OpenClaim := { program := "ytilcnglcflohoaa", sum := "8ef3204a0fb4ff2ff8e472c634c2c45605bf0fd931b10be0df4a03bd7e81ac25", func := "rollbook/rollbooklaw35.ReplicaRefuses", spec := "replicaRefuses", unfollowed := true, recurses := true, apart := false, narrowed := true }
def ReplicaRefusesUptoSaid : Prop := replicaRefusesUptoRow.holds Try.pinned (OpenSpec.upto replicaRefusesSpec)

/-- 'rollbooklaw35.ReplicaElects', WHERE WHAT IT READS IS OF BULK AT MOST 1048576: true; the input reads as it did. -/
def replicaElectsUptoRow : OpenClaim := { program := "ytilcnglcflohoaa", sum := "8ef3204a0fb4ff2ff8e472c634c2c45605bf0fd931b10be0df4a03bd7e81ac25", func := "rollbook/rollbooklaw35.ReplicaElects", spec := "replicaElects", unfollowed := true, recurses := true, apart := false, narrowed := true }
def ReplicaElectsUptoSaid : Prop := replicaElectsUptoRow.holds Try.pinned (OpenSpec.upto replicaElectsSpec)

/-- 'rollbooklaw35.ReplicaLogs', WHERE WHAT IT READS IS OF BULK AT MOST 1048576: true; the input reads as it did. -/
def replicaLogsUptoRow : OpenClaim := { program := "ytilcnglcflohoaa", sum := "8ef3204a0fb4ff2ff8e472c634c2c45605bf0fd931b10be0df4a03bd7e81ac25", func := "rollbook/rollbooklaw35.ReplicaLogs", spec := "replicaLogs", unfollowed := true, recurses := true, apart := false, narrowed := true }
def ReplicaLogsUptoSaid : Prop := replicaLogsUptoRow.holds Try.pinned (OpenSpec.upto replicaLogsSpec)

/-- 'rollbooklaw35.ReplicaAgrees', WHERE WHAT IT READS IS OF BULK AT MOST 1048576: true; the input reads as it did. -/
def replicaAgreesUptoRow : OpenClaim := { program := "ytilcnglcflohoaa", sum := "8ef3204a0fb4ff2ff8e472c634c2c45605bf0fd931b10be0df4a03bd7e81ac25", func := "rollbook/rollbooklaw35.ReplicaAgrees", spec := "replicaAgrees", unfollowed := true, recurses := true, apart := false, narrowed := true }
def ReplicaAgreesUptoSaid : Prop := replicaAgreesUptoRow.holds Try.pinned (OpenSpec.upto replicaAgreesSpec)

/-- 'rollbooklaw35.ReplicaKeeps', WHERE WHAT IT READS IS OF BULK AT MOST 1048576: true; the input reads as it did. -/
def replicaKeepsUptoRow : OpenClaim := { program := "ytilcnglcflohoaa", sum := "8ef3204a0fb4ff2ff8e472c634c2c45605bf0fd931b10be0df4a03bd7e81ac25", func := "rollbook/rollbooklaw35.ReplicaKeeps", spec := "replicaKeeps", unfollowed := true, recurses := true, apart := false, narrowed := true }
def ReplicaKeepsUptoSaid : Prop := replicaKeepsUptoRow.holds Try.pinned (OpenSpec.upto replicaKeepsSpec)

/-- 'rollbooklaw35.ReplicaSettles', WHERE WHAT IT READS IS OF BULK AT MOST 1048576: true; the input reads as it did. -/
def replicaSettlesUptoRow : OpenClaim := { program := "ytilcnglcflohoaa", sum := "8ef3204a0fb4ff2ff8e472c634c2c45605bf0fd931b10be0df4a03bd7e81ac25", func := "rollbook/rollbooklaw35.ReplicaSettles", spec := "replicaSettles", unfollowed := true, recurses := true, apart := false, narrowed := true }
def ReplicaSettlesUptoSaid : Prop := replicaSettlesUptoRow.holds Try.pinned (OpenSpec.upto replicaSettlesSpec)

/-- 'rollbooklaw35.ReplicaWire', WHERE WHAT IT READS IS OF BULK AT MOST 1048576: true; the input reads as it did. -/
def replicaWireUptoRow : OpenClaim := { program := "ytilcnglcflohoaa", sum := "8ef3204a0fb4ff2ff8e472c634c2c45605bf0fd931b10be0df4a03bd7e81ac25", func := "rollbook/rollbooklaw35.ReplicaWire", spec := "replicaWire", unfollowed := true, recurses := true, apart := false, narrowed := true }
def ReplicaWireUptoSaid : Prop := replicaWireUptoRow.holds Try.pinned (OpenSpec.upto replicaWireSpec)

end Rows
end Go.Proofs.Ytilcnglcflohoaa
