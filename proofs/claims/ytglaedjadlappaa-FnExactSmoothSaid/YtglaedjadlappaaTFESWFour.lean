-- a seat's words without what this claim never names (wtrim.py)
import Derived.Test.YtglaedjadlappaaTFESWTab
/-! ### 56. Four, five, six operations that may come up next, in any order -/
namespace Go.Proofs.YtglaedjadlappaaW.PrintLast
end Go.Proofs.YtglaedjadlappaaW.PrintLast
