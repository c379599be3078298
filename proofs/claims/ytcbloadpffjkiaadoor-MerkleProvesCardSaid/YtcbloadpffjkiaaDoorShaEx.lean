/- The examples of the chapter, by the kernel. -/
import Derived.Test.YtcbloadpffjkiaaDoorSha
import Derived.KernelRfl
namespace Go.Sha
def hexd (c : UInt8) : UInt8 := if c < 10 then 48 + c else 87 + c
def hex (l : List UInt8) : List UInt8 := l.flatMap fun c => [hexd (c / 16), hexd (c % 16)]
def leaf (l : List UInt8) : List UInt8 := sum (0 :: l)
def node (a b : List UInt8) : List UInt8 := sum (1 :: a ++ b)
theorem ex_none : hex (sum []) = "e3b0c44298fc1c149afbf4c8996fb92427ae41e4649b934ca495991b7852b855".toUTF8.data.toList := by kernel_rfl
end Go.Sha
