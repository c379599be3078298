/-
  NARROWER THAN 'FOR EVERY INPUT', by the rows' own cells (each row's printed sentence says how): MerkleRoots: laid · MerklePaths: laid · MerkleGrowths: laid · MerkleFrontiers: laid · MerkleBinds: laid · MerkleIncludes: laid · MerkleExtends: laid · MerkleProves: laid · MerkleLogs: laid.
  DERIVED. THE GIVEN ROWS OF THIS SEAT. 9 by the template 'for every input the law returns true; each argument reads behind the call as it read before'; 0 by the template 'total and deterministic' (their statements: YtcbloadpffjkiaaDoorTotals.lean).
  GIVEN WITH THE SEED: the statements are not yours to turn. If you find one false, say at which input.
  Laid BY PROGRAM, IN A SANDBOX (cutbox-rows.mjs): the forced cells as the released guide's own fill.sh prints them over the translation 87ef8872daad03f5… (all of the seat's roots in one cut). By AI agents, Wed Nov 11 2026. No macro, syntax, notation, axiom, sorry.
-/
import Derived.Test.YtcbloadpffjkiaaDoorChecked
import GoSem.Claim
import GoSem.ClaimJoined
import GoSem.ClaimMapViews
import Derived.JoinedTies
import Derived.KernelRfl
namespace Go.Proofs.YtcbloadpffjkiaaDoor
/- THE CELL 'sum', in the pinned program and in every row, IS THE sha256 OF THE DUMP (.gsa) THAT YtcbloadpffjkiaaDoorProg.lean LOADS. Nothing in Lean hashes anything: it is a label: what it is worth is what the hold of that sum in a sandbox is worth. -/
noncomputable def Tryd.pinned : Pinned := { name := "ytcbloadpffjkiaadoor", sum := "87ef8872daad03f5710c781cd64359389f666432f7c62d526554671bb87decc2", checked := Tryd.checked }
namespace Rows
def none {H : Type} : Left H := { results := [], args := [] }

/- WHAT THE LISTED PACKAGE-LEVEL VARIABLES READ AS WHEN THE CALL BEGINS. Each datum BY PROGRAM (the guide's laid-datum.mjs) off the statement by which the dump's own 'gosem.cut.vars' lays the variable. In a bare row this is a premise. The card (YtcbloadpffjkiaaDoorCards.lean) ties it to the program's text. -/
def laid_rollbook_digest_rounds {H : Type} : DataW H := .agg [.lit (.int .u32 1116352408), .lit (.int .u32 1899447441), .lit (.int .u32 3049323471), .lit (.int .u32 3921009573), .lit (.int .u32 961987163), .lit (.int .u32 1508970993), .lit (.int .u32 2453635748), .lit (.int .u32 2870763221), .lit (.int .u32 3624381080), .lit (.int .u32 310598401), .lit (.int .u32 607225278), .lit (.int .u32 1426881987), .lit (.int .u32 1925078388), .lit (.int .u32 2162078206), .lit (.int .u32 2614888103), .lit (.int .u32 3248222580), .lit (.int .u32 3835390401), .lit (.int .u32 4022224774), .lit (.int .u32 264347078), .lit (.int .u32 604807628), .lit (.int .u32 770255983), .lit (.int .u32 1249150122), .lit (.int .u32 1555081692), .lit (.int .u32 1996064986), .lit (.int .u32 2554220882), .lit (.int .u32 2821834349), .lit (.int .u32 2952996808), .lit (.int .u32 3210313671), .lit (.int .u32 3336571891), .lit (.int .u32 3584528711), .lit (.int .u32 113926993), .lit (.int .u32 338241895), .lit (.int .u32 666307205), .lit (.int .u32 773529912), .lit (.int .u32 1294757372), .lit (.int .u32 1396182291), .lit (.int .u32 1695183700), .lit (.int .u32 1986661051), .lit (.int .u32 2177026350), .lit (.int .u32 2456956037), .lit (.int .u32 2730485921), .lit (.int .u32 2820302411), .lit (.int .u32 3259730800), .lit (.int .u32 3345764771), .lit (.int .u32 3516065817), .lit (.int .u32 3600352804), .lit (.int .u32 4094571909), .lit (.int .u32 275423344), .lit (.int .u32 430227734), .lit (.int .u32 506948616), .lit (.int .u32 659060556), .lit (.int .u32 883997877), .lit (.int .u32 958139571), .lit (.int .u32 1322822218), .lit (.int .u32 1537002063), .lit (.int .u32 1747873779), .lit (.int .u32 1955562222), .lit (.int .u32 2024104815), .lit (.int .u32 2227730452), .lit (.int .u32 2361852424), .lit (.int .u32 2428436474), .lit (.int .u32 2756734187), .lit (.int .u32 3204031479), .lit (.int .u32 3329325298)]

/-- 'rollbooklaw07.MerkleRoots': WHATEVER THE INPUT: true; the input reads as it did. -/
def merkleRootsSpec : ChangeSpec := { name := "merkleRoots", fn := fun _ => fun
  | [d1, d2] => { results := [.lit (.bool true)], args := [d1, d2] }
  | _ => none }
def merkleRootsRow : OpenClaim := { program := "ytcbloadpffjkiaadoor", sum := "87ef8872daad03f5710c781cd64359389f666432f7c62d526554671bb87decc2", func := "rollbook/rollbooklaw07.MerkleRoots", spec := "merkleRoots", unfollowed := true, recurses := true, named := ["rollbook/digest.rounds"], apart := false, laid := [("rollbook/digest.rounds", laid_rollbook_digest_rounds)] }
def MerkleRootsSaid : Prop := merkleRootsRow.holds Tryd.pinned (OpenSpec.ofChange merkleRootsSpec)

/-- ITS FALSE NEIGHBOUR: 'it returns false'. Refute it at one input. -/
def merkleRootsWrong : ChangeSpec := { name := "merkleRoots", fn := fun _ => fun
  | [d1, d2] => { results := [.lit (.bool false)], args := [d1, d2] }
  | _ => none }
def MerkleRootsWrongFalsely : Prop := merkleRootsRow.holds Tryd.pinned (OpenSpec.ofChange merkleRootsWrong)

/-- 'rollbooklaw07.MerklePaths': WHATEVER THE INPUT: true; the input reads as it did. -/
def merklePathsSpec : ChangeSpec := { name := "merklePaths", fn := fun _ => fun
  | [d1, d2] => { results := [.lit (.bool true)], args := [d1, d2] }
  | _ => none }
def merklePathsRow : OpenClaim := { program := "ytcbloadpffjkiaadoor", sum := "87ef8872daad03f5710c781cd64359389f666432f7c62d526554671bb87decc2", func := "rollbook/rollbooklaw07.MerklePaths", spec := "merklePaths", unfollowed := true, recurses := true, named := ["rollbook/digest.rounds"], apart := false, laid := [("rollbook/digest.rounds", laid_rollbook_digest_rounds)] }
def MerklePathsSaid : Prop := merklePathsRow.holds Tryd.pinned (OpenSpec.ofChange merklePathsSpec)

/-- ITS FALSE NEIGHBOUR: 'it returns false'. Refute it at one input. -/
def merklePathsWrong : ChangeSpec := { name := "merklePaths", fn := fun _ => fun
  | [d1, d2] => { results := [.lit (.bool false)], args := [d1, d2] }
  | _ => none }
def MerklePathsWrongFalsely : Prop := merklePathsRow.holds Tryd.pinned (OpenSpec.ofChange merklePathsWrong)

/-- 'rollbooklaw07.MerkleGrowths': WHATEVER THE INPUT: true; the input reads as it did. -/
def merkleGrowthsSpec : ChangeSpec := { name := "merkleGrowths", fn := fun _ => fun
  | [d1, d2] => { results := [.lit (.bool true)], args := [d1, d2] }
  | _ => none }
def merkleGrowthsRow : OpenClaim := { program := "ytcbloadpffjkiaadoor", sum := "87ef8872daad03f5710c781cd64359389f666432f7c62d526554671bb87decc2", func := "rollbook/rollbooklaw07.MerkleGrowths", spec := "merkleGrowths", unfollowed := true, recurses := true, named := ["rollbook/digest.rounds"], apart := false, laid := [("rollbook/digest.rounds", laid_rollbook_digest_rounds)] }
def MerkleGrowthsSaid : Prop := merkleGrowthsRow.holds Tryd.pinned (OpenSpec.ofChange merkleGrowthsSpec)

/-- ITS FALSE NEIGHBOUR: 'it returns false'. Refute it at one input. -/
def merkleGrowthsWrong : ChangeSpec := { name := "merkleGrowths", fn := fun _ => fun
  | [d1, d2] => { results := [.lit (.bool false)], args := [d1, d2] }
  | _ => none }
def MerkleGrowthsWrongFalsely : Prop := merkleGrowthsRow.holds Tryd.pinned (OpenSpec.ofChange merkleGrowthsWrong)

/-- 'rollbooklaw07.MerkleFrontiers': WHATEVER THE INPUT: true; the input reads as it did. -/
def merkleFrontiersSpec : ChangeSpec := { name := "merkleFrontiers", fn := fun _ => fun
  | [d] => { results := [.lit (.bool true)], args := [d] }
  | _ => none }
def merkleFrontiersRow : OpenClaim := { program := "ytcbloadpffjkiaadoor", sum := "87ef8872daad03f5710c781cd64359389f666432f7c62d526554671bb87decc2", func := "rollbook/rollbooklaw07.MerkleFrontiers", spec := "merkleFrontiers", unfollowed := true, recurses := true, named := ["rollbook/digest.rounds"], apart := false, laid := [("rollbook/digest.rounds", laid_rollbook_digest_rounds)] }
def MerkleFrontiersSaid : Prop := merkleFrontiersRow.holds Tryd.pinned (OpenSpec.ofChange merkleFrontiersSpec)

/-- ITS FALSE NEIGHBOUR: 'it returns false'. Refute it at one input. -/
def merkleFrontiersWrong : ChangeSpec := { name := "merkleFrontiers", fn := fun _ => fun
  | [d] => { results := [.lit (.bool false)], args := [d] }
  | _ => none }
def MerkleFrontiersWrongFalsely : Prop := merkleFrontiersRow.holds Tryd.pinned (OpenSpec.ofChange merkleFrontiersWrong)

/-- 'rollbooklaw07.MerkleBinds': WHATEVER THE INPUT: true; the input reads as it did. -/
def merkleBindsSpec : ChangeSpec := { name := "merkleBinds", fn := fun _ => fun
  | [d1, d2, d3] => { results := [.lit (.bool true)], args := [d1, d2, d3] }
  | _ => none }
def merkleBindsRow : OpenClaim := { program := "ytcbloadpffjkiaadoor", sum := "87ef8872daad03f5710c781cd64359389f666432f7c62d526554671bb87decc2", func := "rollbook/rollbooklaw07.MerkleBinds", spec := "merkleBinds", unfollowed := true, recurses := true, named := ["rollbook/digest.rounds"], apart := false, laid := [("rollbook/digest.rounds", laid_rollbook_digest_rounds)] }
def MerkleBindsSaid : Prop := merkleBindsRow.holds Tryd.pinned (OpenSpec.ofChange merkleBindsSpec)

/-- ITS FALSE NEIGHBOUR: 'it returns false'. Refute it at one input. -/
def merkleBindsWrong : ChangeSpec := { name := "merkleBinds", fn := fun _ => fun
  | [d1, d2, d3] => { results := [.lit (.bool false)], args := [d1, d2, d3] }
  | _ => none }
def MerkleBindsWrongFalsely : Prop := merkleBindsRow.holds Tryd.pinned (OpenSpec.ofChange merkleBindsWrong)

/-- 'rollbooklaw07.MerkleIncludes': WHATEVER THE INPUT: true; the input reads as it did. -/
def merkleIncludesSpec : ChangeSpec := { name := "merkleIncludes", fn := fun _ => fun
  | [d1, d2, d3, d4, d5, d6] => { results := [.lit (.bool true)], args := [d1, d2, d3, d4, d5, d6] }
  | _ => none }
def merkleIncludesRow : OpenClaim := { program := "ytcbloadpffjkiaadoor", sum := "87ef8872daad03f5710c781cd64359389f666432f7c62d526554671bb87decc2", func := "rollbook/rollbooklaw07.MerkleIncludes", spec := "merkleIncludes", unfollowed := true, recurses := true, named := ["rollbook/digest.rounds"], apart := false, laid := [("rollbook/digest.rounds", laid_rollbook_digest_rounds)] }
def MerkleIncludesSaid : Prop := merkleIncludesRow.holds Tryd.pinned (OpenSpec.ofChange merkleIncludesSpec)

/-- ITS FALSE NEIGHBOUR: 'it returns false'. Refute it at one input. -/
def merkleIncludesWrong : ChangeSpec := { name := "merkleIncludes", fn := fun _ => fun
  | [d1, d2, d3, d4, d5, d6] => { results := [.lit (.bool false)], args := [d1, d2, d3, d4, d5, d6] }
  | _ => none }
def MerkleIncludesWrongFalsely : Prop := merkleIncludesRow.holds Tryd.pinned (OpenSpec.ofChange merkleIncludesWrong)

/-- 'rollbooklaw07.MerkleExtends': WHATEVER THE INPUT: true; the input reads as it did. -/
def merkleExtendsSpec : ChangeSpec := { name := "merkleExtends", fn := fun _ => fun
  | [d1, d2, d3, d4, d5, d6] => { results := [.lit (.bool true)], args := [d1, d2, d3, d4, d5, d6] }
  | _ => none }
def merkleExtendsRow : OpenClaim := { program := "ytcbloadpffjkiaadoor", sum := "87ef8872daad03f5710c781cd64359389f666432f7c62d526554671bb87decc2", func := "rollbook/rollbooklaw07.MerkleExtends", spec := "merkleExtends", unfollowed := true, recurses := true, named := ["rollbook/digest.rounds"], apart := false, laid := [("rollbook/digest.rounds", laid_rollbook_digest_rounds)] }
def MerkleExtendsSaid : Prop := merkleExtendsRow.holds Tryd.pinned (OpenSpec.ofChange merkleExtendsSpec)

/-- ITS FALSE NEIGHBOUR: 'it returns false'. Refute it at one input. -/
def merkleExtendsWrong : ChangeSpec := { name := "merkleExtends", fn := fun _ => fun
  | [d1, d2, d3, d4, d5, d6] => { results := [.lit (.bool false)], args := [d1, d2, d3, d4, d5, d6] }
  | _ => none }
def MerkleExtendsWrongFalsely : Prop := merkleExtendsRow.holds Tryd.pinned (OpenSpec.ofChange merkleExtendsWrong)

/-- 'rollbooklaw07.MerkleProves': WHATEVER THE INPUT: true; the input reads as it did. -/
def merkleProvesSpec : ChangeSpec := { name := "merkleProves", fn := fun _ => fun
  | [d1, d2, d3] => { results := [.lit (.bool true)], args := [d1, d2, d3] }
  | _ => none }
def merkleProvesRow : OpenClaim := { program := "ytcbloadpffjkiaadoor", sum := "87ef8872daad03f5710c781cd64359389f666432f7c62d526554671bb87decc2", func := "rollbook/rollbooklaw07.MerkleProves", spec := "merkleProves", unfollowed := true, recurses := true, named := ["rollbook/digest.rounds"], apart := false, laid := [("rollbook/digest.rounds", laid_rollbook_digest_rounds)] }
def MerkleProvesSaid : Prop := merkleProvesRow.holds Tryd.pinned (OpenSpec.ofChange merkleProvesSpec)

/-- ITS FALSE NEIGHBOUR: 'it returns false'. Refute it at one input. -/
def merkleProvesWrong : ChangeSpec := { name := "merkleProves", fn := fun _ => fun
  | [d1, d2, d3] => { results := [.lit (.bool false)], args := [d1, d2, d3] }
  | _ => none }
def MerkleProvesWrongFalsely : Prop := merkleProvesRow.holds Tryd.pinned (OpenSpec.ofChange merkleProvesWrong)

/-- 'rollbooklaw07.MerkleLogs': WHATEVER THE INPUT: true; the input reads as it did. -/
def merkleLogsSpec : ChangeSpec := { name := "merkleLogs", fn := fun _ => fun
  | [d1, d2, d3, d4] => { results := [.lit (.bool true)], args := [d1, d2, d3, d4] }
  | _ => none }
def merkleLogsRow : OpenClaim := { program := "ytcbloadpffjkiaadoor", sum := "87ef8872daad03f5710c781cd64359389f666432f7c62d526554671bb87decc2", func := "rollbook/rollbooklaw07.MerkleLogs", spec := "merkleLogs", unfollowed := true, recurses := true, named := ["rollbook/digest.rounds"], apart := false, laid := [("rollbook/digest.rounds", laid_rollbook_digest_rounds)] }
def MerkleLogsSaid : Prop := merkleLogsRow.holds Tryd.pinned (OpenSpec.ofChange merkleLogsSpec)

/-- ITS FALSE NEIGHBOUR: 'it returns false'. Refute it at one input. -/
def merkleLogsWrong : ChangeSpec := { name := "merkleLogs", fn := fun _ => fun
  | [d1, d2, d3, d4] => { results := [.lit (.bool false)], args := [d1, d2, d3, d4] }
  | _ => none }
def MerkleLogsWrongFalsely : Prop := merkleLogsRow.holds Tryd.pinned (OpenSpec.ofChange merkleLogsWrong)

/- THE SECOND FORM. 'bulk': how many values and letters a reading holds, each counted each time it is reached (what is shared counts as often as it is met; a slice's spare places count too). A statement '..UptoSaid' is the law's where the arguments, and the package variables that the reading takes, are together of bulk at most 1048576: NARROWER than '..Said'. Prove '..Said' where nothing that the law and all that it calls make is longer than what came in: it says more and counts as full. Else prove '..UptoSaid'. A law counts once. -/
mutual
def uptoBulk {H : Type} : DataW H → Nat
  | .lit (.string bytes) => bytes.length + 1
  | .lit _ => 1
  | .nil => 1
  | .ptr d => uptoBulk d + 1
  | .slice elems spare => uptoBulkAll elems + uptoBulkAll spare + 1
  | .agg parts => uptoBulkAll parts + 1
  | .iface _ d => uptoBulk d + 1
  | .map entries => uptoBulkEntries entries + 1
  | .held _ => 1
def uptoBulkAll {H : Type} : List (DataW H) → Nat
  | [] => 0
  | d :: r => uptoBulk d + uptoBulkAll r
def uptoBulkEntries {H : Type} : List (Lit × DataW H) → Nat
  | [] => 0
  | x :: r => uptoBulkEntry x + uptoBulkEntries r
def uptoBulkEntry {H : Type} : Lit × DataW H → Nat
  | (.string bytes, d) => bytes.length + uptoBulk d + 1
  | (_, d) => uptoBulk d + 1
 end
def uptoSmall : (H : Type) → List (DataW H) → Bool := fun _ ds => decide (uptoBulkAll ds ≤ 1048576)
def OpenSpec.upto (s : _root_.Go.ChangeSpec) : _root_.Go.OpenSpec := { _root_.Go.OpenSpec.ofChange s with cond := some uptoSmall }

/-- 'rollbooklaw07.MerkleRoots', WHERE WHAT IT READS IS OF BULK AT MOST 1048576: true; the input reads as it did. -/
def merkleRootsUptoRow : OpenClaim := { program := "ytcbloadpffjkiaadoor", sum := "87ef8872daad03f5710c781cd64359389f666432f7c62d526554671bb87decc2", func := "rollbook/rollbooklaw07.MerkleRoots", spec := "merkleRoots", unfollowed := true, recurses := true, named := ["rollbook/digest.rounds"], apart := false, laid := [("rollbook/digest.rounds", laid_rollbook_digest_rounds)], narrowed := true }
def MerkleRootsUptoSaid : Prop := merkleRootsUptoRow.holds Tryd.pinned (OpenSpec.upto merkleRootsSpec)

/-- 'rollbooklaw07.MerklePaths', WHERE WHAT IT READS IS OF BULK AT MOST 1048576: true; the input reads as it did. -/
def merklePathsUptoRow : OpenClaim := { program := "ytcbloadpffjkiaadoor", sum := "87ef8872daad03f5710c781cd64359389f666432f7c62d526554671bb87decc2", func := "rollbook/rollbooklaw07.MerklePaths", spec := "merklePaths", unfollowed := true, recurses := true, named := ["rollbook/digest.rounds"], apart := false, laid := [("rollbook/digest.rounds", laid_rollbook_digest_rounds)], narrowed := true }
def MerklePathsUptoSaid : Prop := merklePathsUptoRow.holds Tryd.pinned (OpenSpec.upto merklePathsSpec)

/-- 'rollbooklaw07.MerkleGrowths', WHERE WHAT IT READS IS OF BULK AT MOST 1048576: true; the input reads as it did. -/
def merkleGrowthsUptoRow : OpenClaim := { program := "ytcbloadpffjkiaadoor", sum := "87ef8872daad03f5710c781cd64359389f666432f7c62d526554671bb87decc2", func := "rollbook/rollbooklaw07.MerkleGrowths", spec := "merkleGrowths", unfollowed := true, recurses := true, named := ["rollbook/digest.rounds"], apart := false, laid := [("rollbook/digest.rounds", laid_rollbook_digest_rounds)], narrowed := true }
def MerkleGrowthsUptoSaid : Prop := merkleGrowthsUptoRow.holds Tryd.pinned (OpenSpec.upto merkleGrowthsSpec)

/-- 'rollbooklaw07.MerkleFrontiers', WHERE WHAT IT READS IS OF BULK AT MOST 1048576: true; the input reads as it did. -/
def merkleFrontiersUptoRow : OpenClaim := { program := "ytcbloadpffjkiaadoor", sum := "87ef8872daad03f5710c781cd64359389f666432f7c62d526554671bb87decc2", func := "rollbook/rollbooklaw07.MerkleFrontiers", spec := "merkleFrontiers", unfollowed := true, recurses := true, named := ["rollbook/digest.rounds"], apart := false, laid := [("rollbook/digest.rounds", laid_rollbook_digest_rounds)], narrowed := true }
def MerkleFrontiersUptoSaid : Prop := merkleFrontiersUptoRow.holds Tryd.pinned (OpenSpec.upto merkleFrontiersSpec)

/-- 'rollbooklaw07.MerkleBinds', WHERE WHAT IT READS IS OF BULK AT MOST 1048576: true; the input reads as it did. -/
def merkleBindsUptoRow : OpenClaim := { program := "ytcbloadpffjkiaadoor", sum := "87ef8872daad03f5710c781cd64359389f666432f7c62d526554671bb87decc2", func := "rollbook/rollbooklaw07.MerkleBinds", spec := "merkleBinds", unfollowed := true, recurses := true, named := ["rollbook/digest.rounds"], apart := false, laid := [("rollbook/digest.rounds", laid_rollbook_digest_rounds)], narrowed := true }
def MerkleBindsUptoSaid : Prop := merkleBindsUptoRow.holds Tryd.pinned (OpenSpec.upto merkleBindsSpec)

/-- 'rollbooklaw07.MerkleIncludes', WHERE WHAT IT READS IS OF BULK AT MOST 1048576: true; the input reads as it did. -/
def merkleIncludesUptoRow : OpenClaim := { program := "ytcbloadpffjkiaadoor", sum := "87ef8872daad03f5710c781cd64359389f666432f7c62d526554671bb87decc2", func := "rollbook/rollbooklaw07.MerkleIncludes", spec := "merkleIncludes", unfollowed := true, recurses := true, named := ["rollbook/digest.rounds"], apart := false, laid := [("rollbook/digest.rounds", laid_rollbook_digest_rounds)], narrowed := true }
def MerkleIncludesUptoSaid : Prop := merkleIncludesUptoRow.holds Tryd.pinned (OpenSpec.upto merkleIncludesSpec)

/-- 'rollbooklaw07.MerkleExtends', WHERE WHAT IT READS IS OF BULK AT MOST 1048576: true; the input reads as it did. -/
def merkleExtendsUptoRow : OpenClaim := { program := "ytcbloadpffjkiaadoor", sum := "87ef8872daad03f5710c781cd64359389f666432f7c62d526554671bb87decc2", func := "rollbook/rollbooklaw07.MerkleExtends", spec := "merkleExtends", unfollowed := true, recurses := true, named := ["rollbook/digest.rounds"], apart := false, laid := [("rollbook/digest.rounds", laid_rollbook_digest_rounds)], narrowed := true }
def MerkleExtendsUptoSaid : Prop := merkleExtendsUptoRow.holds Tryd.pinned (OpenSpec.upto merkleExtendsSpec)

/-- 'rollbooklaw07.MerkleProves', WHERE WHAT IT READS IS OF BULK AT MOST 1048576: true; the input reads as it did. -/
def merkleProvesUptoRow : OpenClaim := { program := "ytcbloadpffjkiaadoor", sum := "87ef8872daad03f5710c781cd64359389f666432f7c62d526554671bb87decc2", func := "rollbook/rollbooklaw07.MerkleProves", spec := "merkleProves", unfollowed := true, recurses := true, named := ["rollbook/digest.rounds"], apart := false, laid := [("rollbook/digest.rounds", laid_rollbook_digest_rounds)], narrowed := true }
def MerkleProvesUptoSaid : Prop := merkleProvesUptoRow.holds Tryd.pinned (OpenSpec.upto merkleProvesSpec)

/-- 'rollbooklaw07.MerkleLogs', WHERE WHAT IT READS IS OF BULK AT MOST 1048576: true; the input reads as it did. -/
def merkleLogsUptoRow : OpenClaim := { program := "ytcbloadpffjkiaadoor", sum := "87ef8872daad03f5710c781cd64359389f666432f7c62d526554671bb87decc2", func := "rollbook/rollbooklaw07.MerkleLogs", spec := "merkleLogs", unfollowed := true, recurses := true, named := ["rollbook/digest.rounds"], apart := false, laid := [("rollbook/digest.rounds", laid_rollbook_digest_rounds)], narrowed := true }
def MerkleLogsUptoSaid : Prop := merkleLogsUptoRow.holds Tryd.pinned (OpenSpec.upto merkleLogsSpec)

end Rows
end Go.Proofs.YtcbloadpffjkiaaDoor
