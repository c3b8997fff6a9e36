-- a seat's words without what this claim never names (wtrim.py)
import Derived.Test.YtidblealnaicpaaTFSWTab
/-! ### 56. Four, five, six operations that may come up next, in any order -/
namespace Go.Proofs.YtidblealnaicpaaW.PrintLast
end Go.Proofs.YtidblealnaicpaaW.PrintLast
