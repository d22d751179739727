/-
  DERIVED. GIVEN WITH THE SEED: THE CARDS: each row of YtglmbknbbfmhfaaGreatDoorRows.lean that lists a variable, with what it lists TIED to the program's text (the seventh form; the later family's looks); each row that meets fmt, with fmt's text TOLD by the authors' own Lean function (tested against real Go, not proved from fmt's source: count such statements apart). THE CARD IS WHAT COUNTS. Prove the row's statement (the work); the ties are given (YtglmbknbbfmhfaaGreatDoorTie.lean); close each card by the builder's one call (the guide's Derived/Test/ToyasCard.lean, 'card_holds'). Laid BY PROGRAM, IN A SANDBOX (cutbox-door.mjs). By AI agents, Wed Nov 11 2026. No macro, syntax, notation, axiom, sorry.
-/
import Derived.Test.YtglmbknbbfmhfaaGreatDoorRows
import GoSem.ClaimSeven
namespace Go.Proofs.YtglmbknbbfmhfaaGreatDoor
namespace Rows

/-- THE TIED CARD OF 'bodkinlaw19.WatMay'. -/
def watMayCard : Claim7 := { stood := { row := watMayRow, standIns := [], harness := (true, "b351efb971b0bdc09c8b9368b36c6096f803fbdb75d054075f3b15dc6220386e"), looks := false }, kinds := [], alts := [], laidByText := true, laidKinds := [.data, .listed, .data, .data, .pinned], laidTests := true, laidLooks := .later }
def WatMayCardSaid : Prop := Claim7.holds Tryz.pinned (.plain (OpenSpec.ofChange watMaySpec)) watMayCard

/-- THE TIED CARD OF 'bodkinlaw19.WatDeep'. -/
def watDeepCard : Claim7 := { stood := { row := watDeepRow, standIns := [], harness := (true, "b351efb971b0bdc09c8b9368b36c6096f803fbdb75d054075f3b15dc6220386e"), looks := false }, kinds := [], alts := [], laidByText := true, laidKinds := [.data, .listed, .data, .data, .pinned], laidTests := true, laidLooks := .later }
def WatDeepCardSaid : Prop := Claim7.holds Tryz.pinned (.plain (OpenSpec.ofChange watDeepSpec)) watDeepCard

/-- THE TIED CARD OF 'bodkinlaw19.WatNames'. -/
def watNamesCard : Claim7 := { stood := { row := watNamesRow, standIns := [], harness := (true, "b351efb971b0bdc09c8b9368b36c6096f803fbdb75d054075f3b15dc6220386e"), looks := false }, kinds := [], alts := [], laidByText := true, laidKinds := [.data, .listed, .data, .data, .pinned], laidTests := true, laidLooks := .later }
def WatNamesCardSaid : Prop := Claim7.holds Tryz.pinned (.plain (OpenSpec.ofChange watNamesSpec)) watNamesCard

/-- THE SECOND FORM's CARD OF 'bodkinlaw19.WatMay'. -/
def watMayUptoCard : Claim7 := { stood := { row := watMayUptoRow, standIns := [], harness := (true, "b351efb971b0bdc09c8b9368b36c6096f803fbdb75d054075f3b15dc6220386e"), looks := false }, kinds := [], alts := [], laidByText := true, laidKinds := [.data, .listed, .data, .data, .pinned], laidTests := true, laidLooks := .later }
def WatMayUptoCardSaid : Prop := Claim7.holds Tryz.pinned (.plain (OpenSpec.upto watMaySpec)) watMayUptoCard

/-- THE SECOND FORM's CARD OF 'bodkinlaw19.WatDeep'. -/
def watDeepUptoCard : Claim7 := { stood := { row := watDeepUptoRow, standIns := [], harness := (true, "b351efb971b0bdc09c8b9368b36c6096f803fbdb75d054075f3b15dc6220386e"), looks := false }, kinds := [], alts := [], laidByText := true, laidKinds := [.data, .listed, .data, .data, .pinned], laidTests := true, laidLooks := .later }
def WatDeepUptoCardSaid : Prop := Claim7.holds Tryz.pinned (.plain (OpenSpec.upto watDeepSpec)) watDeepUptoCard

/-- THE SECOND FORM's CARD OF 'bodkinlaw19.WatNames'. -/
def watNamesUptoCard : Claim7 := { stood := { row := watNamesUptoRow, standIns := [], harness := (true, "b351efb971b0bdc09c8b9368b36c6096f803fbdb75d054075f3b15dc6220386e"), looks := false }, kinds := [], alts := [], laidByText := true, laidKinds := [.data, .listed, .data, .data, .pinned], laidTests := true, laidLooks := .later }
def WatNamesUptoCardSaid : Prop := Claim7.holds Tryz.pinned (.plain (OpenSpec.upto watNamesSpec)) watNamesUptoCard
end Rows
end Go.Proofs.YtglmbknbbfmhfaaGreatDoor
