/-
  DERIVED. GIVEN WITH THE SEED: THE CARDS: each row of YtcindejphmbjpaaGreatDoorRows.lean that lists a variable, with what it lists TIED to the program's text (the seventh form; the later family's looks); each row that meets fmt, with fmt's text TOLD by the authors' own Lean function (tested against real Go, not proved from fmt's source: count such statements apart). THE CARD IS WHAT COUNTS. Prove the row's statement (the work); the ties are given (YtcindejphmbjpaaGreatDoorTie.lean); close each card by the builder's one call (the guide's Derived/Test/ToyasCard.lean, 'card_holds'). Laid BY PROGRAM, IN A SANDBOX (cutbox-door.mjs). By AI agents, Wed Nov 11 2026. No macro, syntax, notation, axiom, sorry.
-/
import Derived.Test.YtcindejphmbjpaaGreatDoorRows
import GoSem.ClaimSeven
namespace Go.Proofs.YtcindejphmbjpaaGreatDoor
namespace Rows

/-- THE TIED CARD OF 'bodkinlaw15.RunFits'. -/
def runFitsCard : Claim7 := { stood := { row := runFitsRow, standIns := [], harness := (true, "09537017a2c8440d881120ed2c152f40bd3790f956fce8e95e867d06b0935e89"), looks := false }, kinds := [], alts := [], laidByText := true, laidKinds := [.data, .data, .listed, .data, .data, .pinned], laidTests := true, laidLooks := .later }
def RunFitsCardSaid : Prop := Claim7.holds Tryz.pinned (.plain (OpenSpec.ofChange runFitsSpec)) runFitsCard

/-- THE SECOND FORM's CARD OF 'bodkinlaw15.RunFits'. -/
def runFitsUptoCard : Claim7 := { stood := { row := runFitsUptoRow, standIns := [], harness := (true, "09537017a2c8440d881120ed2c152f40bd3790f956fce8e95e867d06b0935e89"), looks := false }, kinds := [], alts := [], laidByText := true, laidKinds := [.data, .data, .listed, .data, .data, .pinned], laidTests := true, laidLooks := .later }
def RunFitsUptoCardSaid : Prop := Claim7.holds Tryz.pinned (.plain (OpenSpec.upto runFitsSpec)) runFitsUptoCard
end Rows
end Go.Proofs.YtcindejphmbjpaaGreatDoor
