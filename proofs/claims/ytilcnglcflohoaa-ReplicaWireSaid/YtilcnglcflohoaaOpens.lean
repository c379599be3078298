/- What the reading of the arguments says. -/
import Derived.Test.YtilcnglcflohoaaNode
import Derived.Test.YtilcnglcflohoaaKernB
namespace Go.Proofs.Ytilcnglcflohoaa
open Go.Wk Go.Rp Go.ChangeShapes Go.WideShapes Go.ChangeAt Go.RowKit

theorem own : ownKnob Try.prog.godebug = none := by kernel_rfl
theorem laidOut : laidOutB Try.prog = true := by kernel_rfl

end Go.Proofs.Ytilcnglcflohoaa
