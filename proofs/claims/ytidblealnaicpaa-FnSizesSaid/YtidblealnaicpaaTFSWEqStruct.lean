-- a seat's words without what this claim never names (wtrim.py)
import Derived.Test.YtidblealnaicpaaTFSWWords
import Derived.Laws.StructEq
/-! ### 53. '==' of structs as_ one Bool -/
namespace Go.Proofs.YtidblealnaicpaaW.PrintWords
open Go.RowKit
end Go.Proofs.YtidblealnaicpaaW.PrintWords
