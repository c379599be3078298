/-
  NARROWER THAN 'FOR EVERY INPUT', by the rows' own cells (each row's printed sentence says how): DigestSums: laid · DigestLengths: laid · DigestWrites: laid · DigestParts: laid · DigestGoes: laid · DigestTails: laid · DigestTrees: laid · DigestDigits: laid · DigestParses: laid.
  DERIVED. THE GIVEN ROWS OF THIS SEAT. 9 by the template 'for every input the law returns true; each argument reads behind the call as it read before'; 0 by the template 'total and deterministic' (their statements: YtbljfilkdhgcnaaDoorTotals.lean).
  GIVEN WITH THE SEED: the statements are not yours to turn. If you find one false, say at which input.
  Laid BY PROGRAM, IN A SANDBOX (cutbox-rows.mjs): the forced cells as the released guide's own fill.sh prints them over the translation 58e0cfab6e03b496… (all of the seat's roots in one cut). By AI agents, Wed Nov 11 2026. No macro, syntax, notation, axiom, sorry.
-/
import Derived.Test.YtbljfilkdhgcnaaDoorChecked
import GoSem.Claim
import GoSem.ClaimJoined
import GoSem.ClaimMapViews
import Derived.JoinedTies
import Derived.KernelRfl
namespace Go.Proofs.YtbljfilkdhgcnaaDoor
/- THE CELL 'sum', in the pinned program and in every row, IS THE sha256 OF THE DUMP (.gsa) THAT YtbljfilkdhgcnaaDoorProg.lean LOADS. Nothing in Lean hashes anything: it is a label: what it is worth is what the hold of that sum in a sandbox is worth. -/
noncomputable def Tryd.pinned : Pinned := { name := "ytbljfilkdhgcnaadoor", sum := "58e0cfab6e03b496293491f565df423a84e0cca63e32a25824396815b9badf18", checked := Tryd.checked }
namespace Rows
def none {H : Type} : Left H := { results := [], args := [] }

/- WHAT THE LISTED PACKAGE-LEVEL VARIABLES READ AS WHEN THE CALL BEGINS. Each datum BY PROGRAM (the guide's laid-datum.mjs) off the statement by which the dump's own 'gosem.cut.vars' lays the variable. In a bare row this is a premise. The card (YtbljfilkdhgcnaaDoorCards.lean) ties it to the program's text. -/
def laid_rollbook_digest_rounds {H : Type} : DataW H := .agg [.lit (.int .u32 1116352408), .lit (.int .u32 1899447441), .lit (.int .u32 3049323471), .lit (.int .u32 3921009573), .lit (.int .u32 961987163), .lit (.int .u32 1508970993), .lit (.int .u32 2453635748), .lit (.int .u32 2870763221), .lit (.int .u32 3624381080), .lit (.int .u32 310598401), .lit (.int .u32 607225278), .lit (.int .u32 1426881987), .lit (.int .u32 1925078388), .lit (.int .u32 2162078206), .lit (.int .u32 2614888103), .lit (.int .u32 3248222580), .lit (.int .u32 3835390401), .lit (.int .u32 4022224774), .lit (.int .u32 264347078), .lit (.int .u32 604807628), .lit (.int .u32 770255983), .lit (.int .u32 1249150122), .lit (.int .u32 1555081692), .lit (.int .u32 1996064986), .lit (.int .u32 2554220882), .lit (.int .u32 2821834349), .lit (.int .u32 2952996808), .lit (.int .u32 3210313671), .lit (.int .u32 3336571891), .lit (.int .u32 3584528711), .lit (.int .u32 113926993), .lit (.int .u32 338241895), .lit (.int .u32 666307205), .lit (.int .u32 773529912), .lit (.int .u32 1294757372), .lit (.int .u32 1396182291), .lit (.int .u32 1695183700), .lit (.int .u32 1986661051), .lit (.int .u32 2177026350), .lit (.int .u32 2456956037), .lit (.int .u32 2730485921), .lit (.int .u32 2820302411), .lit (.int .u32 3259730800), .lit (.int .u32 3345764771), .lit (.int .u32 3516065817), .lit (.int .u32 3600352804), .lit (.int .u32 4094571909), .lit (.int .u32 275423344), .lit (.int .u32 430227734), .lit (.int .u32 506948616), .lit (.int .u32 659060556), .lit (.int .u32 883997877), .lit (.int .u32 958139571), .lit (.int .u32 1322822218), .lit (.int .u32 1537002063), .lit (.int .u32 1747873779), .lit (.int .u32 1955562222), .lit (.int .u32 2024104815), .lit (.int .u32 2227730452), .lit (.int .u32 2361852424), .lit (.int .u32 2428436474), .lit (.int .u32 2756734187), .lit (.int .u32 3204031479), .lit (.int .u32 3329325298)]

/-- 'rollbooklaw01.DigestSums': WHATEVER THE INPUT: true; the input reads as it did. -/
def digestSumsSpec : ChangeSpec := { name := "digestSums", fn := fun _ => fun
  | [d] => { results := [.lit (.bool true)], args := [d] }
  | _ => none }
def digestSumsRow : OpenClaim := { program := "ytbljfilkdhgcnaadoor", sum := "58e0cfab6e03b496293491f565df423a84e0cca63e32a25824396815b9badf18", func := "rollbook/rollbooklaw01.DigestSums", spec := "digestSums", named := ["rollbook/digest.rounds"], apart := false, laid := [("rollbook/digest.rounds", laid_rollbook_digest_rounds)] }
def DigestSumsSaid : Prop := digestSumsRow.holds Tryd.pinned (OpenSpec.ofChange digestSumsSpec)

/-- ITS FALSE NEIGHBOUR: 'it returns false'. Refute it at one input. -/
def digestSumsWrong : ChangeSpec := { name := "digestSums", fn := fun _ => fun
  | [d] => { results := [.lit (.bool false)], args := [d] }
  | _ => none }
def DigestSumsWrongFalsely : Prop := digestSumsRow.holds Tryd.pinned (OpenSpec.ofChange digestSumsWrong)

/-- 'rollbooklaw01.DigestLengths': WHATEVER THE INPUT: true; the input reads as it did. -/
def digestLengthsSpec : ChangeSpec := { name := "digestLengths", fn := fun _ => fun
  | [d1, d2] => { results := [.lit (.bool true)], args := [d1, d2] }
  | _ => none }
def digestLengthsRow : OpenClaim := { program := "ytbljfilkdhgcnaadoor", sum := "58e0cfab6e03b496293491f565df423a84e0cca63e32a25824396815b9badf18", func := "rollbook/rollbooklaw01.DigestLengths", spec := "digestLengths", named := ["rollbook/digest.rounds"], apart := false, laid := [("rollbook/digest.rounds", laid_rollbook_digest_rounds)] }
def DigestLengthsSaid : Prop := digestLengthsRow.holds Tryd.pinned (OpenSpec.ofChange digestLengthsSpec)

/-- ITS FALSE NEIGHBOUR: 'it returns false'. Refute it at one input. -/
def digestLengthsWrong : ChangeSpec := { name := "digestLengths", fn := fun _ => fun
  | [d1, d2] => { results := [.lit (.bool false)], args := [d1, d2] }
  | _ => none }
def DigestLengthsWrongFalsely : Prop := digestLengthsRow.holds Tryd.pinned (OpenSpec.ofChange digestLengthsWrong)

/-- 'rollbooklaw01.DigestWrites': WHATEVER THE INPUT: true; the input reads as it did. -/
def digestWritesSpec : ChangeSpec := { name := "digestWrites", fn := fun _ => fun
  | [d] => { results := [.lit (.bool true)], args := [d] }
  | _ => none }
def digestWritesRow : OpenClaim := { program := "ytbljfilkdhgcnaadoor", sum := "58e0cfab6e03b496293491f565df423a84e0cca63e32a25824396815b9badf18", func := "rollbook/rollbooklaw01.DigestWrites", spec := "digestWrites", named := ["rollbook/digest.rounds"], apart := false, laid := [("rollbook/digest.rounds", laid_rollbook_digest_rounds)] }
def DigestWritesSaid : Prop := digestWritesRow.holds Tryd.pinned (OpenSpec.ofChange digestWritesSpec)

/-- ITS FALSE NEIGHBOUR: 'it returns false'. Refute it at one input. -/
def digestWritesWrong : ChangeSpec := { name := "digestWrites", fn := fun _ => fun
  | [d] => { results := [.lit (.bool false)], args := [d] }
  | _ => none }
def DigestWritesWrongFalsely : Prop := digestWritesRow.holds Tryd.pinned (OpenSpec.ofChange digestWritesWrong)

/-- 'rollbooklaw01.DigestParts': WHATEVER THE INPUT: true; the input reads as it did. -/
def digestPartsSpec : ChangeSpec := { name := "digestParts", fn := fun _ => fun
  | [d1, d2, d3, d4] => { results := [.lit (.bool true)], args := [d1, d2, d3, d4] }
  | _ => none }
def digestPartsRow : OpenClaim := { program := "ytbljfilkdhgcnaadoor", sum := "58e0cfab6e03b496293491f565df423a84e0cca63e32a25824396815b9badf18", func := "rollbook/rollbooklaw01.DigestParts", spec := "digestParts", named := ["rollbook/digest.rounds"], apart := false, laid := [("rollbook/digest.rounds", laid_rollbook_digest_rounds)] }
def DigestPartsSaid : Prop := digestPartsRow.holds Tryd.pinned (OpenSpec.ofChange digestPartsSpec)

/-- ITS FALSE NEIGHBOUR: 'it returns false'. Refute it at one input. -/
def digestPartsWrong : ChangeSpec := { name := "digestParts", fn := fun _ => fun
  | [d1, d2, d3, d4] => { results := [.lit (.bool false)], args := [d1, d2, d3, d4] }
  | _ => none }
def DigestPartsWrongFalsely : Prop := digestPartsRow.holds Tryd.pinned (OpenSpec.ofChange digestPartsWrong)

/-- 'rollbooklaw01.DigestGoes': WHATEVER THE INPUT: true; the input reads as it did. -/
def digestGoesSpec : ChangeSpec := { name := "digestGoes", fn := fun _ => fun
  | [d1, d2, d3] => { results := [.lit (.bool true)], args := [d1, d2, d3] }
  | _ => none }
def digestGoesRow : OpenClaim := { program := "ytbljfilkdhgcnaadoor", sum := "58e0cfab6e03b496293491f565df423a84e0cca63e32a25824396815b9badf18", func := "rollbook/rollbooklaw01.DigestGoes", spec := "digestGoes", named := ["rollbook/digest.rounds"], apart := false, laid := [("rollbook/digest.rounds", laid_rollbook_digest_rounds)] }
def DigestGoesSaid : Prop := digestGoesRow.holds Tryd.pinned (OpenSpec.ofChange digestGoesSpec)

/-- ITS FALSE NEIGHBOUR: 'it returns false'. Refute it at one input. -/
def digestGoesWrong : ChangeSpec := { name := "digestGoes", fn := fun _ => fun
  | [d1, d2, d3] => { results := [.lit (.bool false)], args := [d1, d2, d3] }
  | _ => none }
def DigestGoesWrongFalsely : Prop := digestGoesRow.holds Tryd.pinned (OpenSpec.ofChange digestGoesWrong)

/-- 'rollbooklaw01.DigestTails': WHATEVER THE INPUT: true; the input reads as it did. -/
def digestTailsSpec : ChangeSpec := { name := "digestTails", fn := fun _ => fun
  | [d] => { results := [.lit (.bool true)], args := [d] }
  | _ => none }
def digestTailsRow : OpenClaim := { program := "ytbljfilkdhgcnaadoor", sum := "58e0cfab6e03b496293491f565df423a84e0cca63e32a25824396815b9badf18", func := "rollbook/rollbooklaw01.DigestTails", spec := "digestTails", named := ["rollbook/digest.rounds"], apart := false, laid := [("rollbook/digest.rounds", laid_rollbook_digest_rounds)] }
def DigestTailsSaid : Prop := digestTailsRow.holds Tryd.pinned (OpenSpec.ofChange digestTailsSpec)

/-- ITS FALSE NEIGHBOUR: 'it returns false'. Refute it at one input. -/
def digestTailsWrong : ChangeSpec := { name := "digestTails", fn := fun _ => fun
  | [d] => { results := [.lit (.bool false)], args := [d] }
  | _ => none }
def DigestTailsWrongFalsely : Prop := digestTailsRow.holds Tryd.pinned (OpenSpec.ofChange digestTailsWrong)

/-- 'rollbooklaw01.DigestTrees': WHATEVER THE INPUT: true; the input reads as it did. -/
def digestTreesSpec : ChangeSpec := { name := "digestTrees", fn := fun _ => fun
  | [d1, d2, d3] => { results := [.lit (.bool true)], args := [d1, d2, d3] }
  | _ => none }
def digestTreesRow : OpenClaim := { program := "ytbljfilkdhgcnaadoor", sum := "58e0cfab6e03b496293491f565df423a84e0cca63e32a25824396815b9badf18", func := "rollbook/rollbooklaw01.DigestTrees", spec := "digestTrees", named := ["rollbook/digest.rounds"], apart := false, laid := [("rollbook/digest.rounds", laid_rollbook_digest_rounds)] }
def DigestTreesSaid : Prop := digestTreesRow.holds Tryd.pinned (OpenSpec.ofChange digestTreesSpec)

/-- ITS FALSE NEIGHBOUR: 'it returns false'. Refute it at one input. -/
def digestTreesWrong : ChangeSpec := { name := "digestTrees", fn := fun _ => fun
  | [d1, d2, d3] => { results := [.lit (.bool false)], args := [d1, d2, d3] }
  | _ => none }
def DigestTreesWrongFalsely : Prop := digestTreesRow.holds Tryd.pinned (OpenSpec.ofChange digestTreesWrong)

/-- 'rollbooklaw01.DigestDigits': WHATEVER THE INPUT: true; the input reads as it did. -/
def digestDigitsSpec : ChangeSpec := { name := "digestDigits", fn := fun _ => fun
  | [d] => { results := [.lit (.bool true)], args := [d] }
  | _ => none }
def digestDigitsRow : OpenClaim := { program := "ytbljfilkdhgcnaadoor", sum := "58e0cfab6e03b496293491f565df423a84e0cca63e32a25824396815b9badf18", func := "rollbook/rollbooklaw01.DigestDigits", spec := "digestDigits", named := ["rollbook/digest.rounds"], apart := false, laid := [("rollbook/digest.rounds", laid_rollbook_digest_rounds)] }
def DigestDigitsSaid : Prop := digestDigitsRow.holds Tryd.pinned (OpenSpec.ofChange digestDigitsSpec)

/-- ITS FALSE NEIGHBOUR: 'it returns false'. Refute it at one input. -/
def digestDigitsWrong : ChangeSpec := { name := "digestDigits", fn := fun _ => fun
  | [d] => { results := [.lit (.bool false)], args := [d] }
  | _ => none }
def DigestDigitsWrongFalsely : Prop := digestDigitsRow.holds Tryd.pinned (OpenSpec.ofChange digestDigitsWrong)

/-- 'rollbooklaw01.DigestParses': WHATEVER THE INPUT: true; the input reads as it did. -/
def digestParsesSpec : ChangeSpec := { name := "digestParses", fn := fun _ => fun
  | [d1, d2, d3, d4] => { results := [.lit (.bool true)], args := [d1, d2, d3, d4] }
  | _ => none }
def digestParsesRow : OpenClaim := { program := "ytbljfilkdhgcnaadoor", sum := "58e0cfab6e03b496293491f565df423a84e0cca63e32a25824396815b9badf18", func := "rollbook/rollbooklaw01.DigestParses", spec := "digestParses", named := ["rollbook/digest.rounds"], apart := false, laid := [("rollbook/digest.rounds", laid_rollbook_digest_rounds)] }
def DigestParsesSaid : Prop := digestParsesRow.holds Tryd.pinned (OpenSpec.ofChange digestParsesSpec)

/-- ITS FALSE NEIGHBOUR: 'it returns false'. Refute it at one input. -/
def digestParsesWrong : ChangeSpec := { name := "digestParses", fn := fun _ => fun
  | [d1, d2, d3, d4] => { results := [.lit (.bool false)], args := [d1, d2, d3, d4] }
  | _ => none }
def DigestParsesWrongFalsely : Prop := digestParsesRow.holds Tryd.pinned (OpenSpec.ofChange digestParsesWrong)

/- THE SECOND FORM. 'bulk': how many values and letters a reading holds, each counted each time it is reached (what is shared counts as often as it is met; a slice's spare places count too). A statement '..UptoSaid' is the law's where the arguments, and the package variables that the reading takes, are together of bulk at most 1048576: NARROWER than '..Said'. Prove '..Said' where nothing that the law and all that it calls make is longer than what came in: it says more and counts as full. Else prove '..UptoSaid'. A law counts once. -/
mutual
def uptoBulk {H : Type} : DataW H → Nat
  | .lit (.string bytes) => bytes.length + 1
  | .lit _ => 1
  | .nil => 1
  | .ptr d => uptoBulk d + 1
  | .slice elems spare => uptoBulkAll elems + uptoBulkAll spare + 1
  | .agg parts => uptoBulkAll parts + 1
  | .iface _ d => uptoBulk d + 1
  | .map entries => uptoBulkEntries entries + 1
  | .held _ => 1
def uptoBulkAll {H : Type} : List (DataW H) → Nat
  | [] => 0
  | d :: r => uptoBulk d + uptoBulkAll r
def uptoBulkEntries {H : Type} : List (Lit × DataW H) → Nat
  | [] => 0
  | x :: r => uptoBulkEntry x + uptoBulkEntries r
def uptoBulkEntry {H : Type} : Lit × DataW H → Nat
  | (.string bytes, d) => bytes.length + uptoBulk d + 1
  | (_, d) => uptoBulk d + 1
 end
def uptoSmall : (H : Type) → List (DataW H) → Bool := fun _ ds => decide (uptoBulkAll ds ≤ 1048576)
def OpenSpec.upto (s : _root_.Go.ChangeSpec) : _root_.Go.OpenSpec := { _root_.Go.OpenSpec.ofChange s with cond := some uptoSmall }

/-- 'rollbooklaw01.DigestSums', WHERE WHAT IT READS IS OF BULK AT MOST 1048576: true; the input reads as it did. -/
def digestSumsUptoRow : OpenClaim := { program := "ytbljfilkdhgcnaadoor", sum := "58e0cfab6e03b496293491f565df423a84e0cca63e32a25824396815b9badf18", func := "rollbook/rollbooklaw01.DigestSums", spec := "digestSums", named := ["rollbook/digest.rounds"], apart := false, laid := [("rollbook/digest.rounds", laid_rollbook_digest_rounds)], narrowed := true }
def DigestSumsUptoSaid : Prop := digestSumsUptoRow.holds Tryd.pinned (OpenSpec.upto digestSumsSpec)

/-- 'rollbooklaw01.DigestLengths', WHERE WHAT IT READS IS OF BULK AT MOST 1048576: true; the input reads as it did. -/
def digestLengthsUptoRow : OpenClaim := { program := "ytbljfilkdhgcnaadoor", sum := "58e0cfab6e03b496293491f565df423a84e0cca63e32a25824396815b9badf18", func := "rollbook/rollbooklaw01.DigestLengths", spec := "digestLengths", named := ["rollbook/digest.rounds"], apart := false, laid := [("rollbook/digest.rounds", laid_rollbook_digest_rounds)], narrowed := true }
def DigestLengthsUptoSaid : Prop := digestLengthsUptoRow.holds Tryd.pinned (OpenSpec.upto digestLengthsSpec)

/-- 'rollbooklaw01.DigestWrites', WHERE WHAT IT READS IS OF BULK AT MOST 1048576: true; the input reads as it did. -/
def digestWritesUptoRow : OpenClaim := { program := "ytbljfilkdhgcnaadoor", sum := "58e0cfab6e03b496293491f565df423a84e0cca63e32a25824396815b9badf18", func := "rollbook/rollbooklaw01.DigestWrites", spec := "digestWrites", named := ["rollbook/digest.rounds"], apart := false, laid := [("rollbook/digest.rounds", laid_rollbook_digest_rounds)], narrowed := true }
def DigestWritesUptoSaid : Prop := digestWritesUptoRow.holds Tryd.pinned (OpenSpec.upto digestWritesSpec)

/-- 'rollbooklaw01.DigestParts', WHERE WHAT IT READS IS OF BULK AT MOST 1048576: true; the input reads as it did. -/
def digestPartsUptoRow : OpenClaim := { program := "ytbljfilkdhgcnaadoor", sum := "58e0cfab6e03b496293491f565df423a84e0cca63e32a25824396815b9badf18", func := "rollbook/rollbooklaw01.DigestParts", spec := "digestParts", named := ["rollbook/digest.rounds"], apart := false, laid := [("rollbook/digest.rounds", laid_rollbook_digest_rounds)], narrowed := true }
def DigestPartsUptoSaid : Prop := digestPartsUptoRow.holds Tryd.pinned (OpenSpec.upto digestPartsSpec)

/-- 'rollbooklaw01.DigestGoes', WHERE WHAT IT READS IS OF BULK AT MOST 1048576: true; the input reads as it did. -/
def digestGoesUptoRow : OpenClaim := { program := "ytbljfilkdhgcnaadoor", sum := "58e0cfab6e03b496293491f565df423a84e0cca63e32a25824396815b9badf18", func := "rollbook/rollbooklaw01.DigestGoes", spec := "digestGoes", named := ["rollbook/digest.rounds"], apart := false, laid := [("rollbook/digest.rounds", laid_rollbook_digest_rounds)], narrowed := true }
def DigestGoesUptoSaid : Prop := digestGoesUptoRow.holds Tryd.pinned (OpenSpec.upto digestGoesSpec)

/-- 'rollbooklaw01.DigestTails', WHERE WHAT IT READS IS OF BULK AT MOST 1048576: true; the input reads as it did. -/
def digestTailsUptoRow : OpenClaim := { program := "ytbljfilkdhgcnaadoor", sum := "58e0cfab6e03b496293491f565df423a84e0cca63e32a25824396815b9badf18", func := "rollbook/rollbooklaw01.DigestTails", spec := "digestTails", named := ["rollbook/digest.rounds"], apart := false, laid := [("rollbook/digest.rounds", laid_rollbook_digest_rounds)], narrowed := true }
def DigestTailsUptoSaid : Prop := digestTailsUptoRow.holds Tryd.pinned (OpenSpec.upto digestTailsSpec)

/-- 'rollbooklaw01.DigestTrees', WHERE WHAT IT READS IS OF BULK AT MOST 1048576: true; the input reads as it did. -/
def digestTreesUptoRow : OpenClaim := { program := "ytbljfilkdhgcnaadoor", sum := "58e0cfab6e03b496293491f565df423a84e0cca63e32a25824396815b9badf18", func := "rollbook/rollbooklaw01.DigestTrees", spec := "digestTrees", named := ["rollbook/digest.rounds"], apart := false, laid := [("rollbook/digest.rounds", laid_rollbook_digest_rounds)], narrowed := true }
def DigestTreesUptoSaid : Prop := digestTreesUptoRow.holds Tryd.pinned (OpenSpec.upto digestTreesSpec)

/-- 'rollbooklaw01.DigestDigits', WHERE WHAT IT READS IS OF BULK AT MOST 1048576: true; the input reads as it did. -/
def digestDigitsUptoRow : OpenClaim := { program := "ytbljfilkdhgcnaadoor", sum := "58e0cfab6e03b496293491f565df423a84e0cca63e32a25824396815b9badf18", func := "rollbook/rollbooklaw01.DigestDigits", spec := "digestDigits", named := ["rollbook/digest.rounds"], apart := false, laid := [("rollbook/digest.rounds", laid_rollbook_digest_rounds)], narrowed := true }
def DigestDigitsUptoSaid : Prop := digestDigitsUptoRow.holds Tryd.pinned (OpenSpec.upto digestDigitsSpec)

/-- 'rollbooklaw01.DigestParses', WHERE WHAT IT READS IS OF BULK AT MOST 1048576: true; the input reads as it did. -/
def digestParsesUptoRow : OpenClaim := { program := "ytbljfilkdhgcnaadoor", sum := "58e0cfab6e03b496293491f565df423a84e0cca63e32a25824396815b9badf18", func := "rollbook/rollbooklaw01.DigestParses", spec := "digestParses", named := ["rollbook/digest.rounds"], apart := false, laid := [("rollbook/digest.rounds", laid_rollbook_digest_rounds)], narrowed := true }
def DigestParsesUptoSaid : Prop := digestParsesUptoRow.holds Tryd.pinned (OpenSpec.upto digestParsesSpec)

end Rows
end Go.Proofs.YtbljfilkdhgcnaaDoor
