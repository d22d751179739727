/- bodkin/bodkinlaw15.RunCalls (seat Ytfdmaafadphnfaa.ZD): a call through a table, of any place, by any type, does what the document says: the law returns true. The card. No condition. -/
import Derived.Test.YtfdmaafadphnfaaGreatDoorCG2
import Derived.Test.YtfdmaafadphnfaaGreatDoorCHa
import Derived.Test.YtfdmaafadphnfaaGreatDoorCHb
import Derived.Test.YtfdmaafadphnfaaGreatDoorCards
import Derived.Test.YtfdmaafadphnfaaGreatDoorTie
set_option maxRecDepth 100000
namespace Go.Proofs.YtfdmaafadphnfaaGreatDoor.runCalls
open Go Go.Ne Go.ChangeShapes Go.WideShapes Go.ChangeAt Go.RowKit
/-- No parameter wants a stand-in; the program's own looks are off: what the card asks. -/
theorem plain (f : FuncId) (fn : Func) (hf : Tryz.pinned.checked.prog.funcNamed "bodkin/bodkinlaw15.RunCalls" = some f) (hfn : Tryz.pinned.checked.prog.funcs[f]? = some fn) :
    false = Tryz.pinned.checked.prog.looks [] ∧ ∀ (j : Nat) t, fn.params[j]? = some t → Tryz.pinned.checked.prog.wantsStandIn t = false := by
  obtain rfl : f = 3 := Option.some.inj ((show Tryz.prog.funcNamed "bodkin/bodkinlaw15.RunCalls" = some 3 by kernel_rfl).symm.trans hf) |>.symm
  obtain rfl : fn = Tryz.f3 := (Option.some.inj (Tryz.func3.symm.trans hfn)).symm
  refine ⟨looks_no, fun j t ht => ?_⟩
  have w3 : Tryz.prog.wantsStandIn 3 = false := by kernel_rfl
  have w22 : Tryz.prog.wantsStandIn 22 = false := by kernel_rfl
  rw [Tryz.params3] at ht
  have ht : t ∈ #[3, 22, 22, 3] := Array.mem_of_getElem? ht
  simp only [List.mem_toArray, List.mem_cons, List.mem_nil_iff, or_false] at ht
  rcases ht with rfl | rfl | rfl | rfl
  · exact w3
  · exact w22
  · exact w22
  · exact w3
/-- THE CARD. -/
theorem card : Rows.RunCallsCardSaid :=
  Claim7.holds_tied_plain_at .later [] _ _ _ _ said (fun _ h => by cases h) (by kernel_rfl) (fun _ h => by cases h) runCalls_row_tie rfl ⟨rfl, rfl⟩ (by kernel_rfl) rfl plain goes_no
#print axioms card
end Go.Proofs.YtfdmaafadphnfaaGreatDoor.runCalls
