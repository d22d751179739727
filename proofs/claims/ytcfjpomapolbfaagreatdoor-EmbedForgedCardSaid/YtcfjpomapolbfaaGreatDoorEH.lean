/- bodkin/bodkinlaw17.EmbedForged (seat Ytcfjpomapolbfaa.ZD): a handle that was never given, or leads to something else, is refused by every call: the law returns true. The card. No condition. -/
import Derived.Test.YtcfjpomapolbfaaGreatDoorEG2
import Derived.Test.YtcfjpomapolbfaaGreatDoorEHa
import Derived.Test.YtcfjpomapolbfaaGreatDoorEHb
import Derived.Test.YtcfjpomapolbfaaGreatDoorCards
import Derived.Test.YtcfjpomapolbfaaGreatDoorTie
set_option maxRecDepth 100000
namespace Go.Proofs.YtcfjpomapolbfaaGreatDoor.embedForged
open Go Go.Ne Go.ChangeShapes Go.WideShapes Go.ChangeAt Go.RowKit
/-- No parameter wants a stand-in; the program's own looks are off: what the card asks. -/
theorem plain (f : FuncId) (fn : Func) (hf : Tryz.pinned.checked.prog.funcNamed "bodkin/bodkinlaw17.EmbedForged" = some f) (hfn : Tryz.pinned.checked.prog.funcs[f]? = some fn) :
    false = Tryz.pinned.checked.prog.looks [] ∧ ∀ (j : Nat) t, fn.params[j]? = some t → Tryz.pinned.checked.prog.wantsStandIn t = false := by
  obtain rfl : f = 3 := Option.some.inj ((show Tryz.prog.funcNamed "bodkin/bodkinlaw17.EmbedForged" = some 3 by kernel_rfl).symm.trans hf) |>.symm
  obtain rfl : fn = Tryz.f3 := (Option.some.inj (Tryz.func3.symm.trans hfn)).symm
  refine ⟨looks_no, fun j t ht => ?_⟩
  have w3 : Tryz.prog.wantsStandIn 3 = false := by kernel_rfl
  have w9 : Tryz.prog.wantsStandIn 9 = false := by kernel_rfl
  have w22 : Tryz.prog.wantsStandIn 22 = false := by kernel_rfl
  have w24 : Tryz.prog.wantsStandIn 24 = false := by kernel_rfl
  rw [Tryz.params3] at ht
  have ht : t ∈ #[3, 22, 24, 9] := Array.mem_of_getElem? ht
  simp only [List.mem_toArray, List.mem_cons, List.mem_nil_iff, or_false] at ht
  rcases ht with rfl | rfl | rfl | rfl
  · exact w3
  · exact w22
  · exact w24
  · exact w9
/-- THE CARD. -/
theorem card : Rows.EmbedForgedCardSaid :=
  Claim7.holds_tied_plain_at .later [] _ _ _ _ said (fun _ h => by cases h) (by kernel_rfl) (fun _ h => by cases h) embedForged_row_tie rfl ⟨rfl, rfl⟩ (by kernel_rfl) rfl plain goes_no
#print axioms card
end Go.Proofs.YtcfjpomapolbfaaGreatDoor.embedForged
