/- What the reading of the arguments says. -/
import Derived.Test.YtnbjonijlkjclaaLives
import Derived.Test.YtnbjonijlkjclaaKernB
namespace Go.Proofs.Ytnbjonijlkjclaa
open Go.Wk Go.Wl Go.Dsk Go.ChangeShapes Go.WideShapes Go.ChangeAt Go.RowKit

theorem own : ownKnob Try.prog.godebug = none := by kernel_rfl
theorem laidOut : laidOutB Try.prog = true := by kernel_rfl

end Go.Proofs.Ytnbjonijlkjclaa
