/-
  DERIVED. GIVEN WITH THE SEED: THE CARDS: each row of YtoikhmpgaihiaaaGreatDoorRows.lean that lists a variable, with what it lists TIED to the program's text (the seventh form; the later family's looks); each row that meets fmt, with fmt's text TOLD by the authors' own Lean function (tested against real Go, not proved from fmt's source: count such statements apart). THE CARD IS WHAT COUNTS. Prove the row's statement (the work); the ties are given (YtoikhmpgaihiaaaGreatDoorTie.lean); close each card by the builder's one call (the guide's Derived/Test/ToyasCard.lean, 'card_holds'). Laid BY PROGRAM, IN A SANDBOX (cutbox-door.mjs). By AI agents, Wed Nov 11 2026. No macro, syntax, notation, axiom, sorry.
-/
import Derived.Test.YtoikhmpgaihiaaaGreatDoorRows
import GoSem.ClaimSeven
namespace Go.Proofs.YtoikhmpgaihiaaaGreatDoor
namespace Rows

/-- THE TIED CARD OF 'bodkinlaw16.InstNone'. -/
def instNoneCard : Claim7 := { stood := { row := instNoneRow, standIns := [], harness := (true, "e2a79f0fb3a7d82f1b78140b3060b88cc2a0f2ed8eb7b6d025d85f86fdf047c8"), looks := false }, kinds := [], alts := [], laidByText := true, laidKinds := [.data, .data, .listed, .data, .data, .pinned], laidTests := true, laidLooks := .later }
def InstNoneCardSaid : Prop := Claim7.holds Tryz.pinned (.plain (OpenSpec.ofChange instNoneSpec)) instNoneCard

/-- THE SECOND FORM's CARD OF 'bodkinlaw16.InstNone'. -/
def instNoneUptoCard : Claim7 := { stood := { row := instNoneUptoRow, standIns := [], harness := (true, "e2a79f0fb3a7d82f1b78140b3060b88cc2a0f2ed8eb7b6d025d85f86fdf047c8"), looks := false }, kinds := [], alts := [], laidByText := true, laidKinds := [.data, .data, .listed, .data, .data, .pinned], laidTests := true, laidLooks := .later }
def InstNoneUptoCardSaid : Prop := Claim7.holds Tryz.pinned (.plain (OpenSpec.upto instNoneSpec)) instNoneUptoCard
end Rows
end Go.Proofs.YtoikhmpgaihiaaaGreatDoor
