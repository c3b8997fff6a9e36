-- a seat's words without what this claim never names (wtrim.py)
import Derived.Test.YtggokppfhkebkaaTFPWInv
import Derived.Test.YtggokppfhkebkaaTFPWFootNe
namespace Go.Proofs.YtggokppfhkebkaaW.PrintWords
open Go.RowKit
end Go.Proofs.YtggokppfhkebkaaW.PrintWords
namespace Go.Proofs.YtggokppfhkebkaaW.PrintLast
end Go.Proofs.YtggokppfhkebkaaW.PrintLast
