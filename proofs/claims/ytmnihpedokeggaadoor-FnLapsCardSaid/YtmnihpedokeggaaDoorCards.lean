/-
  DERIVED. GIVEN WITH THE SEED: THE CARDS: each row of YtmnihpedokeggaaDoorRows.lean that lists a variable, with what it lists TIED to the program's text (the seventh form; the later family's looks); each row that meets fmt, with fmt's text TOLD by the authors' own Lean function (tested against real Go, not proved from fmt's source: count such statements apart). THE CARD IS WHAT COUNTS. Prove the row's statement (the work); the ties are given (YtmnihpedokeggaaDoorTie.lean); close each card by the builder's one call (the guide's Derived/Test/ToyasCard.lean, 'card_holds'). Laid BY PROGRAM, IN A SANDBOX (cutbox-door.mjs). By AI agents, Wed Nov 11 2026. No macro, syntax, notation, axiom, sorry.
-/
import Derived.Test.YtmnihpedokeggaaDoorRows
import GoSem.ClaimSeven
namespace Go.Proofs.YtmnihpedokeggaaDoor
namespace Rows

/-- THE TIED CARD OF 'laws.FnExactLap'. -/
def fnExactLapCard : Claim7 := { stood := { row := fnExactLapRow, standIns := [], harness := (true, "5a02999d5d5b033e016ef58bb0e54de536608d598c5163513e2480b6412826c1"), looks := false }, kinds := [], alts := [], laidByText := true, laidKinds := [.data], laidTests := true, laidLooks := .later }
def FnExactLapCardSaid : Prop := Claim7.holds Tryd.pinned (.plain (OpenSpec.ofChange fnExactLapSpec)) fnExactLapCard

/-- THE TIED CARD OF 'laws.FnLaps'. -/
def fnLapsCard : Claim7 := { stood := { row := fnLapsRow, standIns := [], harness := (true, "5a02999d5d5b033e016ef58bb0e54de536608d598c5163513e2480b6412826c1"), looks := false }, kinds := [], alts := [], laidByText := true, laidKinds := [.data], laidTests := true, laidLooks := .later }
def FnLapsCardSaid : Prop := Claim7.holds Tryd.pinned (.plain (OpenSpec.ofChange fnLapsSpec)) fnLapsCard

/-- THE SECOND FORM's CARD OF 'laws.FnExactLap'. -/
def fnExactLapUptoCard : Claim7 := { stood := { row := fnExactLapUptoRow, standIns := [], harness := (true, "5a02999d5d5b033e016ef58bb0e54de536608d598c5163513e2480b6412826c1"), looks := false }, kinds := [], alts := [], laidByText := true, laidKinds := [.data], laidTests := true, laidLooks := .later }
def FnExactLapUptoCardSaid : Prop := Claim7.holds Tryd.pinned (.plain (OpenSpec.upto fnExactLapSpec)) fnExactLapUptoCard

/-- THE SECOND FORM's CARD OF 'laws.FnLaps'. -/
def fnLapsUptoCard : Claim7 := { stood := { row := fnLapsUptoRow, standIns := [], harness := (true, "5a02999d5d5b033e016ef58bb0e54de536608d598c5163513e2480b6412826c1"), looks := false }, kinds := [], alts := [], laidByText := true, laidKinds := [.data], laidTests := true, laidLooks := .later }
def FnLapsUptoCardSaid : Prop := Claim7.holds Tryd.pinned (.plain (OpenSpec.upto fnLapsSpec)) fnLapsUptoCard
end Rows
end Go.Proofs.YtmnihpedokeggaaDoor
