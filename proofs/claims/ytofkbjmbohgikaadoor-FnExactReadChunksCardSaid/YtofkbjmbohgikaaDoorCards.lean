/-
  DERIVED. GIVEN WITH THE SEED: THE CARDS: each row of YtofkbjmbohgikaaDoorRows.lean that lists a variable, with what it lists TIED to the program's text (the seventh form; the later family's looks); each row that meets fmt, with fmt's text TOLD by the authors' own Lean function (tested against real Go, not proved from fmt's source: count such statements apart). THE CARD IS WHAT COUNTS. Prove the row's statement (the work); the ties are given (YtofkbjmbohgikaaDoorTie.lean); close each card by the builder's one call (the guide's Derived/Test/ToyasCard.lean, 'card_holds'). Laid BY PROGRAM, IN A SANDBOX (cutbox-door.mjs). By AI agents, Wed Nov 11 2026. No macro, syntax, notation, axiom, sorry.
-/
import Derived.Test.YtofkbjmbohgikaaDoorRows
import GoSem.ClaimSeven
namespace Go.Proofs.YtofkbjmbohgikaaDoor
namespace Rows

/-- THE TIED CARD OF 'laws.FnExactReadChunks'. -/
def fnExactReadChunksCard : Claim7 := { stood := { row := fnExactReadChunksRow, standIns := [], harness := (true, "8b08e0e0ee00b488a2e842b5eeffc409f8bd2421081abade1e048dd5fba0aca4"), looks := false }, kinds := [], alts := [], laidByText := true, laidKinds := [.widerDeep], laidTests := true, laidLooks := .later }
def FnExactReadChunksCardSaid : Prop := Claim7.holds Tryd.pinned (.plain (OpenSpec.ofChange fnExactReadChunksSpec)) fnExactReadChunksCard

/-- THE TIED CARD OF 'laws.FnSmall'. -/
def fnSmallCard : Claim7 := { stood := { row := fnSmallRow, standIns := [], harness := (true, "8b08e0e0ee00b488a2e842b5eeffc409f8bd2421081abade1e048dd5fba0aca4"), looks := false }, kinds := [], alts := [], laidByText := true, laidKinds := [.data, .data, .data], laidTests := true, laidLooks := .later }
def FnSmallCardSaid : Prop := Claim7.holds Tryd.pinned (.plain (OpenSpec.ofChange fnSmallSpec)) fnSmallCard

/-- THE SECOND FORM's CARD OF 'laws.FnExactReadChunks'. -/
def fnExactReadChunksUptoCard : Claim7 := { stood := { row := fnExactReadChunksUptoRow, standIns := [], harness := (true, "8b08e0e0ee00b488a2e842b5eeffc409f8bd2421081abade1e048dd5fba0aca4"), looks := false }, kinds := [], alts := [], laidByText := true, laidKinds := [.widerDeep], laidTests := true, laidLooks := .later }
def FnExactReadChunksUptoCardSaid : Prop := Claim7.holds Tryd.pinned (.plain (OpenSpec.upto fnExactReadChunksSpec)) fnExactReadChunksUptoCard

/-- THE SECOND FORM's CARD OF 'laws.FnSmall'. -/
def fnSmallUptoCard : Claim7 := { stood := { row := fnSmallUptoRow, standIns := [], harness := (true, "8b08e0e0ee00b488a2e842b5eeffc409f8bd2421081abade1e048dd5fba0aca4"), looks := false }, kinds := [], alts := [], laidByText := true, laidKinds := [.data, .data, .data], laidTests := true, laidLooks := .later }
def FnSmallUptoCardSaid : Prop := Claim7.holds Tryd.pinned (.plain (OpenSpec.upto fnSmallSpec)) fnSmallUptoCard
end Rows
end Go.Proofs.YtofkbjmbohgikaaDoor
