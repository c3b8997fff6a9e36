-- a seat's words without what this claim never names (wtrim.py)
import Derived.Test.YtidblealnaicpaaTFSWWords
/-! ### 41. Arrays '[n]T' as_ values: a kind (a field, an element of a row), an element read, an element set -/
namespace Go.Proofs.YtidblealnaicpaaW.PrintWords
open Go.RowKit
end Go.Proofs.YtidblealnaicpaaW.PrintWords
