-- a seat's words without what this claim never names (wtrim.py)
import Derived.Test.YtglaedjadlappaaTFESWInv
import Derived.Test.YtglaedjadlappaaTFESWFootNe
namespace Go.Proofs.YtglaedjadlappaaW.PrintWords
open Go.RowKit
end Go.Proofs.YtglaedjadlappaaW.PrintWords
namespace Go.Proofs.YtglaedjadlappaaW.PrintLast
end Go.Proofs.YtglaedjadlappaaW.PrintLast
