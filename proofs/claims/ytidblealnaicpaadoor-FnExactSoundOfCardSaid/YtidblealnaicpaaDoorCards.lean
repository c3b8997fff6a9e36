/-
  DERIVED. GIVEN WITH THE SEED: THE CARDS: each row of YtidblealnaicpaaDoorRows.lean that lists a variable, with what it lists TIED to the program's text (the seventh form; the later family's looks); each row that meets fmt, with fmt's text TOLD by the authors' own Lean function (tested against real Go, not proved from fmt's source: count such statements apart). THE CARD IS WHAT COUNTS. Prove the row's statement (the work); the ties are given (YtidblealnaicpaaDoorTie.lean); close each card by the builder's one call (the guide's Derived/Test/ToyasCard.lean, 'card_holds'). Laid BY PROGRAM, IN A SANDBOX (cutbox-door.mjs). By AI agents, Wed Nov 11 2026. No macro, syntax, notation, axiom, sorry.
-/
import Derived.Test.YtidblealnaicpaaDoorRows
import GoSem.ClaimSeven
namespace Go.Proofs.YtidblealnaicpaaDoor
namespace Rows

/-- THE TIED CARD OF 'laws.FnExactWaves'. -/
def fnExactWavesCard : Claim7 := { stood := { row := fnExactWavesRow, standIns := [], harness := (true, "c4258b37fcc01bf2507f003df6bb931a242739a87ea1159c6794f589a7eebf2e"), looks := false }, kinds := [], alts := [], laidByText := true, laidKinds := [.data], laidTests := true, laidLooks := .later }
def FnExactWavesCardSaid : Prop := Claim7.holds Tryd.pinned (.plain (OpenSpec.ofChange fnExactWavesSpec)) fnExactWavesCard

/-- THE TIED CARD OF 'laws.FnExactSoundOf'. -/
def fnExactSoundOfCard : Claim7 := { stood := { row := fnExactSoundOfRow, standIns := [], harness := (true, "c4258b37fcc01bf2507f003df6bb931a242739a87ea1159c6794f589a7eebf2e"), looks := false }, kinds := [], alts := [], laidByText := true, laidKinds := [.data], laidTests := true, laidLooks := .later }
def FnExactSoundOfCardSaid : Prop := Claim7.holds Tryd.pinned (.plain (OpenSpec.ofChange fnExactSoundOfSpec)) fnExactSoundOfCard

/-- THE SECOND FORM's CARD OF 'laws.FnExactWaves'. -/
def fnExactWavesUptoCard : Claim7 := { stood := { row := fnExactWavesUptoRow, standIns := [], harness := (true, "c4258b37fcc01bf2507f003df6bb931a242739a87ea1159c6794f589a7eebf2e"), looks := false }, kinds := [], alts := [], laidByText := true, laidKinds := [.data], laidTests := true, laidLooks := .later }
def FnExactWavesUptoCardSaid : Prop := Claim7.holds Tryd.pinned (.plain (OpenSpec.upto fnExactWavesSpec)) fnExactWavesUptoCard

/-- THE SECOND FORM's CARD OF 'laws.FnExactSoundOf'. -/
def fnExactSoundOfUptoCard : Claim7 := { stood := { row := fnExactSoundOfUptoRow, standIns := [], harness := (true, "c4258b37fcc01bf2507f003df6bb931a242739a87ea1159c6794f589a7eebf2e"), looks := false }, kinds := [], alts := [], laidByText := true, laidKinds := [.data], laidTests := true, laidLooks := .later }
def FnExactSoundOfUptoCardSaid : Prop := Claim7.holds Tryd.pinned (.plain (OpenSpec.upto fnExactSoundOfSpec)) fnExactSoundOfUptoCard
end Rows
end Go.Proofs.YtidblealnaicpaaDoor
