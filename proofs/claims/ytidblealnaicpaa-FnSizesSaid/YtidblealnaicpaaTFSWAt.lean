-- a seat's words without what this claim never names (wtrim.py)
import Derived.Test.YtidblealnaicpaaTFSWFootNe
/-! ### 54. Behind orders that were drawn quietly: the same facts at the world's new name; a flat row's foot -/
namespace Go.Proofs.YtidblealnaicpaaW.PrintWords
open Go.RowKit
end Go.Proofs.YtidblealnaicpaaW.PrintWords
