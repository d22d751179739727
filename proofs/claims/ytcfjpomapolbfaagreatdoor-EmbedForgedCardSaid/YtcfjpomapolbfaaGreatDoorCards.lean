/-
  DERIVED. GIVEN WITH THE SEED: THE CARDS: each row of YtcfjpomapolbfaaGreatDoorRows.lean that lists a variable, with what it lists TIED to the program's text (the seventh form; the later family's looks); each row that meets fmt, with fmt's text TOLD by the authors' own Lean function (tested against real Go, not proved from fmt's source: count such statements apart). THE CARD IS WHAT COUNTS. Prove the row's statement (the work); the ties are given (YtcfjpomapolbfaaGreatDoorTie.lean); close each card by the builder's one call (the guide's Derived/Test/ToyasCard.lean, 'card_holds'). Laid BY PROGRAM, IN A SANDBOX (cutbox-door.mjs). By AI agents, Wed Nov 11 2026. No macro, syntax, notation, axiom, sorry.
-/
import Derived.Test.YtcfjpomapolbfaaGreatDoorRows
import GoSem.ClaimSeven
namespace Go.Proofs.YtcfjpomapolbfaaGreatDoor
namespace Rows

/-- THE TIED CARD OF 'bodkinlaw17.EmbedForged'. -/
def embedForgedCard : Claim7 := { stood := { row := embedForgedRow, standIns := [], harness := (true, "92a69b2fe0d384555fefdbbd082c58a1b6dbc1ac56c8bd02fd0ceb50743c1eb3"), looks := false }, kinds := [], alts := [], laidByText := true, laidKinds := [.data, .data, .listed, .data, .data, .pinned], laidTests := true, laidLooks := .later }
def EmbedForgedCardSaid : Prop := Claim7.holds Tryz.pinned (.plain (OpenSpec.ofChange embedForgedSpec)) embedForgedCard

/-- THE SECOND FORM's CARD OF 'bodkinlaw17.EmbedForged'. -/
def embedForgedUptoCard : Claim7 := { stood := { row := embedForgedUptoRow, standIns := [], harness := (true, "92a69b2fe0d384555fefdbbd082c58a1b6dbc1ac56c8bd02fd0ceb50743c1eb3"), looks := false }, kinds := [], alts := [], laidByText := true, laidKinds := [.data, .data, .listed, .data, .data, .pinned], laidTests := true, laidLooks := .later }
def EmbedForgedUptoCardSaid : Prop := Claim7.holds Tryz.pinned (.plain (OpenSpec.upto embedForgedSpec)) embedForgedUptoCard
end Rows
end Go.Proofs.YtcfjpomapolbfaaGreatDoor
