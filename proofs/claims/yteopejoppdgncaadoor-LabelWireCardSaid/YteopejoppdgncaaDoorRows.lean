/-
  NARROWER THAN 'FOR EVERY INPUT', by the rows' own cells (each row's printed sentence says how): LabelChecks: laid · LabelParses: laid · LabelLess: laid · LabelRound: laid · LabelTexts: laid · LabelDistinct: laid · LabelNext: laid · LabelSpoilt: laid · LabelWire: laid.
  DERIVED. THE GIVEN ROWS OF THIS SEAT. 9 by the template 'for every input the law returns true; each argument reads behind the call as it read before'; 0 by the template 'total and deterministic' (their statements: YteopejoppdgncaaDoorTotals.lean).
  GIVEN WITH THE SEED: the statements are not yours to turn. If you find one false, say at which input.
  Laid BY PROGRAM, IN A SANDBOX (cutbox-rows.mjs): the forced cells as the released guide's own fill.sh prints them over the translation 52f5eadc1b137056… (all of the seat's roots in one cut). By AI agents, Wed Nov 11 2026. No macro, syntax, notation, axiom, sorry.
-/
import Derived.Test.YteopejoppdgncaaDoorChecked
import GoSem.Claim
import GoSem.ClaimJoined
import GoSem.ClaimMapViews
import Derived.JoinedTies
import Derived.KernelRfl
namespace Go.Proofs.YteopejoppdgncaaDoor
/- THE CELL 'sum', in the pinned program and in every row, IS THE sha256 OF THE DUMP (.gsa) THAT YteopejoppdgncaaDoorProg.lean LOADS. Nothing in Lean hashes anything: it is a label: what it is worth is what the hold of that sum in a sandbox is worth. -/
noncomputable def Tryd.pinned : Pinned := { name := "yteopejoppdgncaadoor", sum := "52f5eadc1b13705636e4a4c4b881712d70adb3f8b8df6c500156ef6ef26a4997", checked := Tryd.checked }
namespace Rows
def none {H : Type} : Left H := { results := [], args := [] }

/- WHAT THE LISTED PACKAGE-LEVEL VARIABLES READ AS WHEN THE CALL BEGINS. Each datum BY PROGRAM (the guide's laid-datum.mjs) off the statement by which the dump's own 'gosem.cut.vars' lays the variable. In a bare row this is a premise. The card (YteopejoppdgncaaDoorCards.lean) ties it to the program's text. -/
def laid_math_bits_deBruijn32tab {H : Type} : DataW H := .agg [.lit (.int .u8 0), .lit (.int .u8 1), .lit (.int .u8 28), .lit (.int .u8 2), .lit (.int .u8 29), .lit (.int .u8 14), .lit (.int .u8 24), .lit (.int .u8 3), .lit (.int .u8 30), .lit (.int .u8 22), .lit (.int .u8 20), .lit (.int .u8 15), .lit (.int .u8 25), .lit (.int .u8 17), .lit (.int .u8 4), .lit (.int .u8 8), .lit (.int .u8 31), .lit (.int .u8 27), .lit (.int .u8 13), .lit (.int .u8 23), .lit (.int .u8 21), .lit (.int .u8 19), .lit (.int .u8 16), .lit (.int .u8 7), .lit (.int .u8 26), .lit (.int .u8 12), .lit (.int .u8 18), .lit (.int .u8 6), .lit (.int .u8 11), .lit (.int .u8 5), .lit (.int .u8 10), .lit (.int .u8 9)]
def laid_math_bits_deBruijn64tab {H : Type} : DataW H := .agg [.lit (.int .u8 0), .lit (.int .u8 1), .lit (.int .u8 56), .lit (.int .u8 2), .lit (.int .u8 57), .lit (.int .u8 49), .lit (.int .u8 28), .lit (.int .u8 3), .lit (.int .u8 61), .lit (.int .u8 58), .lit (.int .u8 42), .lit (.int .u8 50), .lit (.int .u8 38), .lit (.int .u8 29), .lit (.int .u8 17), .lit (.int .u8 4), .lit (.int .u8 62), .lit (.int .u8 47), .lit (.int .u8 59), .lit (.int .u8 36), .lit (.int .u8 45), .lit (.int .u8 43), .lit (.int .u8 51), .lit (.int .u8 22), .lit (.int .u8 53), .lit (.int .u8 39), .lit (.int .u8 33), .lit (.int .u8 30), .lit (.int .u8 24), .lit (.int .u8 18), .lit (.int .u8 12), .lit (.int .u8 5), .lit (.int .u8 63), .lit (.int .u8 55), .lit (.int .u8 48), .lit (.int .u8 27), .lit (.int .u8 60), .lit (.int .u8 41), .lit (.int .u8 37), .lit (.int .u8 16), .lit (.int .u8 46), .lit (.int .u8 35), .lit (.int .u8 44), .lit (.int .u8 21), .lit (.int .u8 52), .lit (.int .u8 32), .lit (.int .u8 23), .lit (.int .u8 11), .lit (.int .u8 54), .lit (.int .u8 26), .lit (.int .u8 40), .lit (.int .u8 15), .lit (.int .u8 34), .lit (.int .u8 20), .lit (.int .u8 31), .lit (.int .u8 10), .lit (.int .u8 25), .lit (.int .u8 14), .lit (.int .u8 19), .lit (.int .u8 9), .lit (.int .u8 13), .lit (.int .u8 8), .lit (.int .u8 7), .lit (.int .u8 6)]
def laid_internal_strconv_uint64pow10 {H : Type} : DataW H := .agg [.lit (.int .u64 1), .lit (.int .u64 10), .lit (.int .u64 100), .lit (.int .u64 1000), .lit (.int .u64 10000), .lit (.int .u64 100000), .lit (.int .u64 1000000), .lit (.int .u64 10000000), .lit (.int .u64 100000000), .lit (.int .u64 1000000000), .lit (.int .u64 10000000000), .lit (.int .u64 100000000000), .lit (.int .u64 1000000000000), .lit (.int .u64 10000000000000), .lit (.int .u64 100000000000000), .lit (.int .u64 1000000000000000), .lit (.int .u64 10000000000000000), .lit (.int .u64 100000000000000000), .lit (.int .u64 1000000000000000000), .lit (.int .u64 10000000000000000000)]

/-- 'rollbooklaw24.LabelChecks': WHATEVER THE INPUT: true; the input reads as it did. -/
def labelChecksSpec : ChangeSpec := { name := "labelChecks", fn := fun _ => fun
  | [d] => { results := [.lit (.bool true)], args := [d] }
  | _ => none }
def labelChecksRow : OpenClaim := { program := "yteopejoppdgncaadoor", sum := "52f5eadc1b13705636e4a4c4b881712d70adb3f8b8df6c500156ef6ef26a4997", func := "rollbook/rollbooklaw24.LabelChecks", spec := "labelChecks", named := ["internal/strconv.uint64pow10", "math/bits.deBruijn32tab", "math/bits.deBruijn64tab"], apart := false, laid := [("math/bits.deBruijn32tab", laid_math_bits_deBruijn32tab), ("math/bits.deBruijn64tab", laid_math_bits_deBruijn64tab), ("internal/strconv.uint64pow10", laid_internal_strconv_uint64pow10)] }
def LabelChecksSaid : Prop := labelChecksRow.holds Tryd.pinned (OpenSpec.ofChange labelChecksSpec)

/-- ITS FALSE NEIGHBOUR: 'it returns false'. Refute it at one input. -/
def labelChecksWrong : ChangeSpec := { name := "labelChecks", fn := fun _ => fun
  | [d] => { results := [.lit (.bool false)], args := [d] }
  | _ => none }
def LabelChecksWrongFalsely : Prop := labelChecksRow.holds Tryd.pinned (OpenSpec.ofChange labelChecksWrong)

/-- 'rollbooklaw24.LabelParses': WHATEVER THE INPUT: true; the input reads as it did. -/
def labelParsesSpec : ChangeSpec := { name := "labelParses", fn := fun _ => fun
  | [d] => { results := [.lit (.bool true)], args := [d] }
  | _ => none }
def labelParsesRow : OpenClaim := { program := "yteopejoppdgncaadoor", sum := "52f5eadc1b13705636e4a4c4b881712d70adb3f8b8df6c500156ef6ef26a4997", func := "rollbook/rollbooklaw24.LabelParses", spec := "labelParses", named := ["internal/strconv.uint64pow10", "math/bits.deBruijn32tab", "math/bits.deBruijn64tab"], apart := false, laid := [("math/bits.deBruijn32tab", laid_math_bits_deBruijn32tab), ("math/bits.deBruijn64tab", laid_math_bits_deBruijn64tab), ("internal/strconv.uint64pow10", laid_internal_strconv_uint64pow10)] }
def LabelParsesSaid : Prop := labelParsesRow.holds Tryd.pinned (OpenSpec.ofChange labelParsesSpec)

/-- ITS FALSE NEIGHBOUR: 'it returns false'. Refute it at one input. -/
def labelParsesWrong : ChangeSpec := { name := "labelParses", fn := fun _ => fun
  | [d] => { results := [.lit (.bool false)], args := [d] }
  | _ => none }
def LabelParsesWrongFalsely : Prop := labelParsesRow.holds Tryd.pinned (OpenSpec.ofChange labelParsesWrong)

/-- 'rollbooklaw24.LabelLess': WHATEVER THE INPUT: true; the input reads as it did. -/
def labelLessSpec : ChangeSpec := { name := "labelLess", fn := fun _ => fun
  | [d1, d2, d3] => { results := [.lit (.bool true)], args := [d1, d2, d3] }
  | _ => none }
def labelLessRow : OpenClaim := { program := "yteopejoppdgncaadoor", sum := "52f5eadc1b13705636e4a4c4b881712d70adb3f8b8df6c500156ef6ef26a4997", func := "rollbook/rollbooklaw24.LabelLess", spec := "labelLess", named := ["internal/strconv.uint64pow10", "math/bits.deBruijn32tab", "math/bits.deBruijn64tab"], apart := false, laid := [("math/bits.deBruijn32tab", laid_math_bits_deBruijn32tab), ("math/bits.deBruijn64tab", laid_math_bits_deBruijn64tab), ("internal/strconv.uint64pow10", laid_internal_strconv_uint64pow10)] }
def LabelLessSaid : Prop := labelLessRow.holds Tryd.pinned (OpenSpec.ofChange labelLessSpec)

/-- ITS FALSE NEIGHBOUR: 'it returns false'. Refute it at one input. -/
def labelLessWrong : ChangeSpec := { name := "labelLess", fn := fun _ => fun
  | [d1, d2, d3] => { results := [.lit (.bool false)], args := [d1, d2, d3] }
  | _ => none }
def LabelLessWrongFalsely : Prop := labelLessRow.holds Tryd.pinned (OpenSpec.ofChange labelLessWrong)

/-- 'rollbooklaw24.LabelRound': WHATEVER THE INPUT: true; the input reads as it did. -/
def labelRoundSpec : ChangeSpec := { name := "labelRound", fn := fun _ => fun
  | [d1, d2, d3] => { results := [.lit (.bool true)], args := [d1, d2, d3] }
  | _ => none }
def labelRoundRow : OpenClaim := { program := "yteopejoppdgncaadoor", sum := "52f5eadc1b13705636e4a4c4b881712d70adb3f8b8df6c500156ef6ef26a4997", func := "rollbook/rollbooklaw24.LabelRound", spec := "labelRound", named := ["internal/strconv.uint64pow10", "math/bits.deBruijn32tab", "math/bits.deBruijn64tab"], apart := false, laid := [("math/bits.deBruijn32tab", laid_math_bits_deBruijn32tab), ("math/bits.deBruijn64tab", laid_math_bits_deBruijn64tab), ("internal/strconv.uint64pow10", laid_internal_strconv_uint64pow10)] }
def LabelRoundSaid : Prop := labelRoundRow.holds Tryd.pinned (OpenSpec.ofChange labelRoundSpec)

/-- ITS FALSE NEIGHBOUR: 'it returns false'. Refute it at one input. -/
def labelRoundWrong : ChangeSpec := { name := "labelRound", fn := fun _ => fun
  | [d1, d2, d3] => { results := [.lit (.bool false)], args := [d1, d2, d3] }
  | _ => none }
def LabelRoundWrongFalsely : Prop := labelRoundRow.holds Tryd.pinned (OpenSpec.ofChange labelRoundWrong)

/-- 'rollbooklaw24.LabelTexts': WHATEVER THE INPUT: true; the input reads as it did. -/
def labelTextsSpec : ChangeSpec := { name := "labelTexts", fn := fun _ => fun
  | [d1, d2, d3] => { results := [.lit (.bool true)], args := [d1, d2, d3] }
  | _ => none }
def labelTextsRow : OpenClaim := { program := "yteopejoppdgncaadoor", sum := "52f5eadc1b13705636e4a4c4b881712d70adb3f8b8df6c500156ef6ef26a4997", func := "rollbook/rollbooklaw24.LabelTexts", spec := "labelTexts", named := ["internal/strconv.uint64pow10", "math/bits.deBruijn32tab", "math/bits.deBruijn64tab"], apart := false, laid := [("math/bits.deBruijn32tab", laid_math_bits_deBruijn32tab), ("math/bits.deBruijn64tab", laid_math_bits_deBruijn64tab), ("internal/strconv.uint64pow10", laid_internal_strconv_uint64pow10)] }
def LabelTextsSaid : Prop := labelTextsRow.holds Tryd.pinned (OpenSpec.ofChange labelTextsSpec)

/-- ITS FALSE NEIGHBOUR: 'it returns false'. Refute it at one input. -/
def labelTextsWrong : ChangeSpec := { name := "labelTexts", fn := fun _ => fun
  | [d1, d2, d3] => { results := [.lit (.bool false)], args := [d1, d2, d3] }
  | _ => none }
def LabelTextsWrongFalsely : Prop := labelTextsRow.holds Tryd.pinned (OpenSpec.ofChange labelTextsWrong)

/-- 'rollbooklaw24.LabelDistinct': WHATEVER THE INPUT: true; the input reads as it did. -/
def labelDistinctSpec : ChangeSpec := { name := "labelDistinct", fn := fun _ => fun
  | [d1, d2, d3, d4] => { results := [.lit (.bool true)], args := [d1, d2, d3, d4] }
  | _ => none }
def labelDistinctRow : OpenClaim := { program := "yteopejoppdgncaadoor", sum := "52f5eadc1b13705636e4a4c4b881712d70adb3f8b8df6c500156ef6ef26a4997", func := "rollbook/rollbooklaw24.LabelDistinct", spec := "labelDistinct", named := ["internal/strconv.uint64pow10", "math/bits.deBruijn32tab", "math/bits.deBruijn64tab"], apart := false, laid := [("math/bits.deBruijn32tab", laid_math_bits_deBruijn32tab), ("math/bits.deBruijn64tab", laid_math_bits_deBruijn64tab), ("internal/strconv.uint64pow10", laid_internal_strconv_uint64pow10)] }
def LabelDistinctSaid : Prop := labelDistinctRow.holds Tryd.pinned (OpenSpec.ofChange labelDistinctSpec)

/-- ITS FALSE NEIGHBOUR: 'it returns false'. Refute it at one input. -/
def labelDistinctWrong : ChangeSpec := { name := "labelDistinct", fn := fun _ => fun
  | [d1, d2, d3, d4] => { results := [.lit (.bool false)], args := [d1, d2, d3, d4] }
  | _ => none }
def LabelDistinctWrongFalsely : Prop := labelDistinctRow.holds Tryd.pinned (OpenSpec.ofChange labelDistinctWrong)

/-- 'rollbooklaw24.LabelNext': WHATEVER THE INPUT: true; the input reads as it did. -/
def labelNextSpec : ChangeSpec := { name := "labelNext", fn := fun _ => fun
  | [d1, d2, d3, d4] => { results := [.lit (.bool true)], args := [d1, d2, d3, d4] }
  | _ => none }
def labelNextRow : OpenClaim := { program := "yteopejoppdgncaadoor", sum := "52f5eadc1b13705636e4a4c4b881712d70adb3f8b8df6c500156ef6ef26a4997", func := "rollbook/rollbooklaw24.LabelNext", spec := "labelNext", named := ["internal/strconv.uint64pow10", "math/bits.deBruijn32tab", "math/bits.deBruijn64tab"], apart := false, laid := [("math/bits.deBruijn32tab", laid_math_bits_deBruijn32tab), ("math/bits.deBruijn64tab", laid_math_bits_deBruijn64tab), ("internal/strconv.uint64pow10", laid_internal_strconv_uint64pow10)] }
def LabelNextSaid : Prop := labelNextRow.holds Tryd.pinned (OpenSpec.ofChange labelNextSpec)

/-- ITS FALSE NEIGHBOUR: 'it returns false'. Refute it at one input. -/
def labelNextWrong : ChangeSpec := { name := "labelNext", fn := fun _ => fun
  | [d1, d2, d3, d4] => { results := [.lit (.bool false)], args := [d1, d2, d3, d4] }
  | _ => none }
def LabelNextWrongFalsely : Prop := labelNextRow.holds Tryd.pinned (OpenSpec.ofChange labelNextWrong)

/-- 'rollbooklaw24.LabelSpoilt': WHATEVER THE INPUT: true; the input reads as it did. -/
def labelSpoiltSpec : ChangeSpec := { name := "labelSpoilt", fn := fun _ => fun
  | [d1, d2, d3, d4] => { results := [.lit (.bool true)], args := [d1, d2, d3, d4] }
  | _ => none }
def labelSpoiltRow : OpenClaim := { program := "yteopejoppdgncaadoor", sum := "52f5eadc1b13705636e4a4c4b881712d70adb3f8b8df6c500156ef6ef26a4997", func := "rollbook/rollbooklaw24.LabelSpoilt", spec := "labelSpoilt", named := ["internal/strconv.uint64pow10", "math/bits.deBruijn32tab", "math/bits.deBruijn64tab"], apart := false, laid := [("math/bits.deBruijn32tab", laid_math_bits_deBruijn32tab), ("math/bits.deBruijn64tab", laid_math_bits_deBruijn64tab), ("internal/strconv.uint64pow10", laid_internal_strconv_uint64pow10)] }
def LabelSpoiltSaid : Prop := labelSpoiltRow.holds Tryd.pinned (OpenSpec.ofChange labelSpoiltSpec)

/-- ITS FALSE NEIGHBOUR: 'it returns false'. Refute it at one input. -/
def labelSpoiltWrong : ChangeSpec := { name := "labelSpoilt", fn := fun _ => fun
  | [d1, d2, d3, d4] => { results := [.lit (.bool false)], args := [d1, d2, d3, d4] }
  | _ => none }
def LabelSpoiltWrongFalsely : Prop := labelSpoiltRow.holds Tryd.pinned (OpenSpec.ofChange labelSpoiltWrong)

/-- 'rollbooklaw24.LabelWire': WHATEVER THE INPUT: true; the input reads as it did. -/
def labelWireSpec : ChangeSpec := { name := "labelWire", fn := fun _ => fun
  | [d] => { results := [.lit (.bool true)], args := [d] }
  | _ => none }
def labelWireRow : OpenClaim := { program := "yteopejoppdgncaadoor", sum := "52f5eadc1b13705636e4a4c4b881712d70adb3f8b8df6c500156ef6ef26a4997", func := "rollbook/rollbooklaw24.LabelWire", spec := "labelWire", named := ["internal/strconv.uint64pow10", "math/bits.deBruijn32tab", "math/bits.deBruijn64tab"], apart := false, laid := [("math/bits.deBruijn32tab", laid_math_bits_deBruijn32tab), ("math/bits.deBruijn64tab", laid_math_bits_deBruijn64tab), ("internal/strconv.uint64pow10", laid_internal_strconv_uint64pow10)] }
def LabelWireSaid : Prop := labelWireRow.holds Tryd.pinned (OpenSpec.ofChange labelWireSpec)

/-- ITS FALSE NEIGHBOUR: 'it returns false'. Refute it at one input. -/
def labelWireWrong : ChangeSpec := { name := "labelWire", fn := fun _ => fun
  | [d] => { results := [.lit (.bool false)], args := [d] }
  | _ => none }
def LabelWireWrongFalsely : Prop := labelWireRow.holds Tryd.pinned (OpenSpec.ofChange labelWireWrong)

/- THE SECOND FORM. 'bulk': how many values and letters a reading holds, each counted each time it is reached (what is shared counts as often as it is met; a slice's spare places count too). A statement '..UptoSaid' is the law's where the arguments, and the package variables that the reading takes, are together of bulk at most 1048576: NARROWER than '..Said'. Prove '..Said' where nothing that the law and all that it calls make is longer than what came in: it says more and counts as full. Else prove '..UptoSaid'. A law counts once. -/
mutual
def uptoBulk {H : Type} : DataW H → Nat
  | .lit (.string bytes) => bytes.length + 1
  | .lit _ => 1
  | .nil => 1
  | .ptr d => uptoBulk d + 1
  | .slice elems spare => uptoBulkAll elems + uptoBulkAll spare + 1
  | .agg parts => uptoBulkAll parts + 1
  | .iface _ d => uptoBulk d + 1
  | .map entries => uptoBulkEntries entries + 1
  | .held _ => 1
def uptoBulkAll {H : Type} : List (DataW H) → Nat
  | [] => 0
  | d :: r => uptoBulk d + uptoBulkAll r
def uptoBulkEntries {H : Type} : List (Lit × DataW H) → Nat
  | [] => 0
  | x :: r => uptoBulkEntry x + uptoBulkEntries r
def uptoBulkEntry {H : Type} : Lit × DataW H → Nat
  | (.string bytes, d) => bytes.length + uptoBulk d + 1
  | (_, d) => uptoBulk d + 1
 end
def uptoSmall : (H : Type) → List (DataW H) → Bool := fun _ ds => decide (uptoBulkAll ds ≤ 1048576)
def OpenSpec.upto (s : _root_.Go.ChangeSpec) : _root_.Go.OpenSpec := { _root_.Go.OpenSpec.ofChange s with cond := some uptoSmall }

/-- 'rollbooklaw24.LabelChecks', WHERE WHAT IT READS IS OF BULK AT MOST 1048576: true; the input reads as it did. -/
def labelChecksUptoRow : OpenClaim := { program := "yteopejoppdgncaadoor", sum := "52f5eadc1b13705636e4a4c4b881712d70adb3f8b8df6c500156ef6ef26a4997", func := "rollbook/rollbooklaw24.LabelChecks", spec := "labelChecks", named := ["internal/strconv.uint64pow10", "math/bits.deBruijn32tab", "math/bits.deBruijn64tab"], apart := false, laid := [("math/bits.deBruijn32tab", laid_math_bits_deBruijn32tab), ("math/bits.deBruijn64tab", laid_math_bits_deBruijn64tab), ("internal/strconv.uint64pow10", laid_internal_strconv_uint64pow10)], narrowed := true }
def LabelChecksUptoSaid : Prop := labelChecksUptoRow.holds Tryd.pinned (OpenSpec.upto labelChecksSpec)

/-- 'rollbooklaw24.LabelParses', WHERE WHAT IT READS IS OF BULK AT MOST 1048576: true; the input reads as it did. -/
def labelParsesUptoRow : OpenClaim := { program := "yteopejoppdgncaadoor", sum := "52f5eadc1b13705636e4a4c4b881712d70adb3f8b8df6c500156ef6ef26a4997", func := "rollbook/rollbooklaw24.LabelParses", spec := "labelParses", named := ["internal/strconv.uint64pow10", "math/bits.deBruijn32tab", "math/bits.deBruijn64tab"], apart := false, laid := [("math/bits.deBruijn32tab", laid_math_bits_deBruijn32tab), ("math/bits.deBruijn64tab", laid_math_bits_deBruijn64tab), ("internal/strconv.uint64pow10", laid_internal_strconv_uint64pow10)], narrowed := true }
def LabelParsesUptoSaid : Prop := labelParsesUptoRow.holds Tryd.pinned (OpenSpec.upto labelParsesSpec)

/-- 'rollbooklaw24.LabelLess', WHERE WHAT IT READS IS OF BULK AT MOST 1048576: true; the input reads as it did. -/
def labelLessUptoRow : OpenClaim := { program := "yteopejoppdgncaadoor", sum := "52f5eadc1b13705636e4a4c4b881712d70adb3f8b8df6c500156ef6ef26a4997", func := "rollbook/rollbooklaw24.LabelLess", spec := "labelLess", named := ["internal/strconv.uint64pow10", "math/bits.deBruijn32tab", "math/bits.deBruijn64tab"], apart := false, laid := [("math/bits.deBruijn32tab", laid_math_bits_deBruijn32tab), ("math/bits.deBruijn64tab", laid_math_bits_deBruijn64tab), ("internal/strconv.uint64pow10", laid_internal_strconv_uint64pow10)], narrowed := true }
def LabelLessUptoSaid : Prop := labelLessUptoRow.holds Tryd.pinned (OpenSpec.upto labelLessSpec)

/-- 'rollbooklaw24.LabelRound', WHERE WHAT IT READS IS OF BULK AT MOST 1048576: true; the input reads as it did. -/
def labelRoundUptoRow : OpenClaim := { program := "yteopejoppdgncaadoor", sum := "52f5eadc1b13705636e4a4c4b881712d70adb3f8b8df6c500156ef6ef26a4997", func := "rollbook/rollbooklaw24.LabelRound", spec := "labelRound", named := ["internal/strconv.uint64pow10", "math/bits.deBruijn32tab", "math/bits.deBruijn64tab"], apart := false, laid := [("math/bits.deBruijn32tab", laid_math_bits_deBruijn32tab), ("math/bits.deBruijn64tab", laid_math_bits_deBruijn64tab), ("internal/strconv.uint64pow10", laid_internal_strconv_uint64pow10)], narrowed := true }
def LabelRoundUptoSaid : Prop := labelRoundUptoRow.holds Tryd.pinned (OpenSpec.upto labelRoundSpec)

/-- 'rollbooklaw24.LabelTexts', WHERE WHAT IT READS IS OF BULK AT MOST 1048576: true; the input reads as it did. -/
def labelTextsUptoRow : OpenClaim := { program := "yteopejoppdgncaadoor", sum := "52f5eadc1b13705636e4a4c4b881712d70adb3f8b8df6c500156ef6ef26a4997", func := "rollbook/rollbooklaw24.LabelTexts", spec := "labelTexts", named := ["internal/strconv.uint64pow10", "math/bits.deBruijn32tab", "math/bits.deBruijn64tab"], apart := false, laid := [("math/bits.deBruijn32tab", laid_math_bits_deBruijn32tab), ("math/bits.deBruijn64tab", laid_math_bits_deBruijn64tab), ("internal/strconv.uint64pow10", laid_internal_strconv_uint64pow10)], narrowed := true }
def LabelTextsUptoSaid : Prop := labelTextsUptoRow.holds Tryd.pinned (OpenSpec.upto labelTextsSpec)

/-- 'rollbooklaw24.LabelDistinct', WHERE WHAT IT READS IS OF BULK AT MOST 1048576: true; the input reads as it did. -/
def labelDistinctUptoRow : OpenClaim := { program := "yteopejoppdgncaadoor", sum := "52f5eadc1b13705636e4a4c4b881712d70adb3f8b8df6c500156ef6ef26a4997", func := "rollbook/rollbooklaw24.LabelDistinct", spec := "labelDistinct", named := ["internal/strconv.uint64pow10", "math/bits.deBruijn32tab", "math/bits.deBruijn64tab"], apart := false, laid := [("math/bits.deBruijn32tab", laid_math_bits_deBruijn32tab), ("math/bits.deBruijn64tab", laid_math_bits_deBruijn64tab), ("internal/strconv.uint64pow10", laid_internal_strconv_uint64pow10)], narrowed := true }
def LabelDistinctUptoSaid : Prop := labelDistinctUptoRow.holds Tryd.pinned (OpenSpec.upto labelDistinctSpec)

/-- 'rollbooklaw24.LabelNext', WHERE WHAT IT READS IS OF BULK AT MOST 1048576: true; the input reads as it did. -/
def labelNextUptoRow : OpenClaim := { program := "yteopejoppdgncaadoor", sum := "52f5eadc1b13705636e4a4c4b881712d70adb3f8b8df6c500156ef6ef26a4997", func := "rollbook/rollbooklaw24.LabelNext", spec := "labelNext", named := ["internal/strconv.uint64pow10", "math/bits.deBruijn32tab", "math/bits.deBruijn64tab"], apart := false, laid := [("math/bits.deBruijn32tab", laid_math_bits_deBruijn32tab), ("math/bits.deBruijn64tab", laid_math_bits_deBruijn64tab), ("internal/strconv.uint64pow10", laid_internal_strconv_uint64pow10)], narrowed := true }
def LabelNextUptoSaid : Prop := labelNextUptoRow.holds Tryd.pinned (OpenSpec.upto labelNextSpec)

/-- 'rollbooklaw24.LabelSpoilt', WHERE WHAT IT READS IS OF BULK AT MOST 1048576: true; the input reads as it did. -/
def labelSpoiltUptoRow : OpenClaim := { program := "yteopejoppdgncaadoor", sum := "52f5eadc1b13705636e4a4c4b881712d70adb3f8b8df6c500156ef6ef26a4997", func := "rollbook/rollbooklaw24.LabelSpoilt", spec := "labelSpoilt", named := ["internal/strconv.uint64pow10", "math/bits.deBruijn32tab", "math/bits.deBruijn64tab"], apart := false, laid := [("math/bits.deBruijn32tab", laid_math_bits_deBruijn32tab), ("math/bits.deBruijn64tab", laid_math_bits_deBruijn64tab), ("internal/strconv.uint64pow10", laid_internal_strconv_uint64pow10)], narrowed := true }
def LabelSpoiltUptoSaid : Prop := labelSpoiltUptoRow.holds Tryd.pinned (OpenSpec.upto labelSpoiltSpec)

/-- 'rollbooklaw24.LabelWire', WHERE WHAT IT READS IS OF BULK AT MOST 1048576: true; the input reads as it did. -/
def labelWireUptoRow : OpenClaim := { program := "yteopejoppdgncaadoor", sum := "52f5eadc1b13705636e4a4c4b881712d70adb3f8b8df6c500156ef6ef26a4997", func := "rollbook/rollbooklaw24.LabelWire", spec := "labelWire", named := ["internal/strconv.uint64pow10", "math/bits.deBruijn32tab", "math/bits.deBruijn64tab"], apart := false, laid := [("math/bits.deBruijn32tab", laid_math_bits_deBruijn32tab), ("math/bits.deBruijn64tab", laid_math_bits_deBruijn64tab), ("internal/strconv.uint64pow10", laid_internal_strconv_uint64pow10)], narrowed := true }
def LabelWireUptoSaid : Prop := labelWireUptoRow.holds Tryd.pinned (OpenSpec.upto labelWireSpec)

end Rows
end Go.Proofs.YteopejoppdgncaaDoor
