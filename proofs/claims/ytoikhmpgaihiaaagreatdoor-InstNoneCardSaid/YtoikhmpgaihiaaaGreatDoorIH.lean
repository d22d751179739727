/- bodkin/bodkinlaw16.InstNone (seat Ytoikhmpgaihiaaa.ZD): a store that is none, and limits below 0, are refused: the law returns true. The card. No condition. -/
import Derived.Test.YtoikhmpgaihiaaaGreatDoorIG2
import Derived.Test.YtoikhmpgaihiaaaGreatDoorCards
import Derived.Test.YtoikhmpgaihiaaaGreatDoorTie
set_option maxRecDepth 100000
namespace Go.Proofs.YtoikhmpgaihiaaaGreatDoor.instNone
open Go Go.Ne Go.ChangeShapes Go.WideShapes Go.ChangeAt Go.RowKit
/-- No parameter wants a stand-in; the program's own looks are off: what the card asks. -/
theorem plain (f : FuncId) (fn : Func) (hf : Tryz.pinned.checked.prog.funcNamed "bodkin/bodkinlaw16.InstNone" = some f) (hfn : Tryz.pinned.checked.prog.funcs[f]? = some fn) :
    false = Tryz.pinned.checked.prog.looks [] ∧ ∀ (j : Nat) t, fn.params[j]? = some t → Tryz.pinned.checked.prog.wantsStandIn t = false := by
  obtain rfl : f = 3 := Option.some.inj ((show Tryz.prog.funcNamed "bodkin/bodkinlaw16.InstNone" = some 3 by kernel_rfl).symm.trans hf) |>.symm
  obtain rfl : fn = Tryz.f3 := (Option.some.inj (Tryz.func3.symm.trans hfn)).symm
  refine ⟨by kernel_rfl, fun j t ht => ?_⟩
  have w3 : Tryz.prog.wantsStandIn 3 = false := by kernel_rfl
  have w9 : Tryz.prog.wantsStandIn 9 = false := by kernel_rfl
  have w32 : Tryz.prog.wantsStandIn 32 = false := by kernel_rfl
  rw [Tryz.params3] at ht
  have ht : t ∈ #[32, 3, 9] := Array.mem_of_getElem? ht
  simp only [List.mem_toArray, List.mem_cons, List.mem_nil_iff, or_false] at ht
  rcases ht with rfl | rfl | rfl
  · exact w32
  · exact w3
  · exact w9
/-- THE CARD. -/
theorem card : Rows.InstNoneCardSaid :=
  Claim7.holds_tied_plain_at .later [] _ _ _ _ said (fun _ h => by cases h) (by kernel_rfl) (fun _ h => by cases h) instNone_row_tie rfl ⟨rfl, rfl⟩ (by kernel_rfl) rfl plain (by kernel_rfl)
#print axioms card
end Go.Proofs.YtoikhmpgaihiaaaGreatDoor.instNone
