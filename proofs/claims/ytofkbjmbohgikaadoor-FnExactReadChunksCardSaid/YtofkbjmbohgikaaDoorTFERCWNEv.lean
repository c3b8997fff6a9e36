-- a seat's words without what this claim never names (wtrim.py)
import Derived.Test.YtofkbjmbohgikaaDoorTFERCWN
/-! ### 48. N's events: append, a whole row appended, zeros appended, literals, make, stores, cuts, an element taken out -/
namespace Go.Proofs.YtofkbjmbohgikaaDoorW.PrintWords
open Go.RowKit
end Go.Proofs.YtofkbjmbohgikaaDoorW.PrintWords
