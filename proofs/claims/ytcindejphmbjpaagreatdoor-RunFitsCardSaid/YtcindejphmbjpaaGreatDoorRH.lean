/- RunFits (seat runfits): any value fits any type just where the document says; what doesn't fit isn't taken: the law returns true; the card. No condition. -/
import Derived.Test.YtcindejphmbjpaaGreatDoorRG2
import Derived.Test.YtcindejphmbjpaaGreatDoorCards
import Derived.Test.YtcindejphmbjpaaGreatDoorTie
set_option maxRecDepth 100000
namespace Go.Proofs.YtcindejphmbjpaaGreatDoor.runFits
open Go Go.Ne Go.ChangeShapes Go.WideShapes Go.ChangeAt Go.RowKit
/-- No parameter wants a stand-in; the program's own looks are off: what the card asks. -/
theorem plain (f : FuncId) (fn : Func) (hf : Tryz.pinned.checked.prog.funcNamed "bodkin/bodkinlaw15.RunFits" = some f) (hfn : Tryz.pinned.checked.prog.funcs[f]? = some fn) :
    false = Tryz.pinned.checked.prog.looks [] ∧ ∀ (j : Nat) t, fn.params[j]? = some t → Tryz.pinned.checked.prog.wantsStandIn t = false := by
  obtain rfl : f = 3 := Option.some.inj ((show Tryz.prog.funcNamed "bodkin/bodkinlaw15.RunFits" = some 3 by kernel_rfl).symm.trans hf) |>.symm
  obtain rfl : fn = Tryz.f3 := (Option.some.inj (Tryz.func3.symm.trans hfn)).symm
  refine ⟨by kernel_rfl, fun j t ht => ?_⟩
  have w24 : Tryz.prog.wantsStandIn 24 = false := by kernel_rfl
  have w3 : Tryz.prog.wantsStandIn 3 = false := by kernel_rfl
  have w27 : Tryz.prog.wantsStandIn 27 = false := by kernel_rfl
  rw [Tryz.params3] at ht
  have ht : t ∈ #[24, 3, 27] := Array.mem_of_getElem? ht
  simp only [List.mem_toArray, List.mem_cons, List.mem_nil_iff, or_false] at ht
  rcases ht with rfl | rfl | rfl
  · exact w24
  · exact w3
  · exact w27
/-- THE CARD. -/
theorem card : Rows.RunFitsCardSaid :=
  Claim7.holds_tied_plain_at .later [] _ _ _ _ said (fun _ h => by cases h) (by kernel_rfl) (fun _ h => by cases h) runFits_row_tie rfl ⟨rfl, rfl⟩ (by kernel_rfl) rfl plain (by kernel_rfl)
#print axioms card
end Go.Proofs.YtcindejphmbjpaaGreatDoor.runFits

