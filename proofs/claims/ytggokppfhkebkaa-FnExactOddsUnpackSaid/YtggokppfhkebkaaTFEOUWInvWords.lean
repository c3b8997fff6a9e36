-- a seat's words without what this claim never names (wtrim.py)
import Derived.Test.YtggokppfhkebkaaTFEOUWInv
import Derived.Test.YtggokppfhkebkaaTFEOUWFootNe
namespace Go.Proofs.YtggokppfhkebkaaW.PrintWords
open Go.RowKit
end Go.Proofs.YtggokppfhkebkaaW.PrintWords
namespace Go.Proofs.YtggokppfhkebkaaW.PrintLast
end Go.Proofs.YtggokppfhkebkaaW.PrintLast
