-- a seat's words without what this claim never names (wtrim.py)
import Derived.Test.YtggokppfhkebkaaTFPWTab
/-! ### 56. Four, five, six operations that may come up next, in any order -/
namespace Go.Proofs.YtggokppfhkebkaaW.PrintLast
end Go.Proofs.YtggokppfhkebkaaW.PrintLast
