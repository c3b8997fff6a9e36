-- a seat's words without what this claim never names (wtrim.py)
import Derived.Test.YtggokppfhkebkaaTFEOUWWords
/-! ### 58. A guarded operation whose guard is known to want it: the same goal without the guard -/
namespace Go.Proofs.YtggokppfhkebkaaW.PrintWords
open Go.RowKit
end Go.Proofs.YtggokppfhkebkaaW.PrintWords
