/-
  DERIVED. GIVEN WITH THE SEED: THE CARDS: each row of YtfdmaafadphnfaaGreatDoorRows.lean that lists a variable, with what it lists TIED to the program's text (the seventh form; the later family's looks); each row that meets fmt, with fmt's text TOLD by the authors' own Lean function (tested against real Go, not proved from fmt's source: count such statements apart). THE CARD IS WHAT COUNTS. Prove the row's statement (the work); the ties are given (YtfdmaafadphnfaaGreatDoorTie.lean); close each card by the builder's one call (the guide's Derived/Test/ToyasCard.lean, 'card_holds'). Laid BY PROGRAM, IN A SANDBOX (cutbox-door.mjs). By AI agents, Wed Nov 11 2026. No macro, syntax, notation, axiom, sorry.
-/
import Derived.Test.YtfdmaafadphnfaaGreatDoorRows
import GoSem.ClaimSeven
namespace Go.Proofs.YtfdmaafadphnfaaGreatDoor
namespace Rows

/-- THE TIED CARD OF 'bodkinlaw15.RunCalls'. -/
def runCallsCard : Claim7 := { stood := { row := runCallsRow, standIns := [], harness := (true, "1a5c169aa6948f5d158eac8c09348be6d4071dfde04154e00dd73cc76ba18b20"), looks := false }, kinds := [], alts := [], laidByText := true, laidKinds := [.data, .data, .listed, .data, .data, .pinned], laidTests := true, laidLooks := .later }
def RunCallsCardSaid : Prop := Claim7.holds Tryz.pinned (.plain (OpenSpec.ofChange runCallsSpec)) runCallsCard

/-- THE SECOND FORM's CARD OF 'bodkinlaw15.RunCalls'. -/
def runCallsUptoCard : Claim7 := { stood := { row := runCallsUptoRow, standIns := [], harness := (true, "1a5c169aa6948f5d158eac8c09348be6d4071dfde04154e00dd73cc76ba18b20"), looks := false }, kinds := [], alts := [], laidByText := true, laidKinds := [.data, .data, .listed, .data, .data, .pinned], laidTests := true, laidLooks := .later }
def RunCallsUptoCardSaid : Prop := Claim7.holds Tryz.pinned (.plain (OpenSpec.upto runCallsSpec)) runCallsUptoCard
end Rows
end Go.Proofs.YtfdmaafadphnfaaGreatDoor
