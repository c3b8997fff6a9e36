-- a seat's words without what this claim never names (wtrim.py)
import Derived.Test.YtofkbjmbohgikaaDoorTFERCWInv
import Derived.Test.YtofkbjmbohgikaaDoorTFERCWFootNe
namespace Go.Proofs.YtofkbjmbohgikaaDoorW.PrintWords
open Go.RowKit
end Go.Proofs.YtofkbjmbohgikaaDoorW.PrintWords
namespace Go.Proofs.YtofkbjmbohgikaaDoorW.PrintLast
end Go.Proofs.YtofkbjmbohgikaaDoorW.PrintLast
