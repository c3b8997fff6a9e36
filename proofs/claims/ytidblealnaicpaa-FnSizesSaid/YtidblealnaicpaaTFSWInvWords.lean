-- a seat's words without what this claim never names (wtrim.py)
import Derived.Test.YtidblealnaicpaaTFSWInv
import Derived.Test.YtidblealnaicpaaTFSWFootNe
namespace Go.Proofs.YtidblealnaicpaaW.PrintWords
open Go.RowKit
end Go.Proofs.YtidblealnaicpaaW.PrintWords
namespace Go.Proofs.YtidblealnaicpaaW.PrintLast
end Go.Proofs.YtidblealnaicpaaW.PrintLast
