-- a seat's words without what this claim never names (wtrim.py)
import Derived.Test.YtidblealnaicpaaTFSWWords
import Derived.Test.YtidblealnaicpaaTFSWLast
/-! ### 39. Stores into a row that may begin inside its block (Q): Q_form, Q_elem, Q_seg; scalars: Q_cell, Q_putg -/
namespace Go.Proofs.YtidblealnaicpaaW.PrintWords
open Go.RowKit
end Go.Proofs.YtidblealnaicpaaW.PrintWords
