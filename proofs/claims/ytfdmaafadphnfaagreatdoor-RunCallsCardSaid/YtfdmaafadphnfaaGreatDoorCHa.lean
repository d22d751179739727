/- Seat Ytfdmaafadphnfaa.ZD: a fact of the program. -/
import Derived.Test.YtfdmaafadphnfaaGreatDoorRows
import Derived.ProofKit
import Derived.OpenShut
import Derived.ChangeSame
import GoSem.ClaimSeven
import Derived.SevenTiedAt
set_option maxRecDepth 100000
namespace Go.Proofs.YtfdmaafadphnfaaGreatDoor.runCalls
open Go Go.ChangeShapes Go.WideShapes Go.ChangeAt Go.RowKit
theorem no_go : Tryz.prog.funcs.any Func.goes = false := by kernel_rfl
theorem goes_all (f : FuncId) : Tryz.prog.goes f = false := by
  unfold Program.goes
  rw [no_go, Bool.and_false, Bool.or_false, List.any_eq_false]
  intro g _
  cases hg : Tryz.prog.funcs[g]? with
  | none => simp
  | some fn =>
    have hm : fn ∈ Tryz.prog.funcs := Array.mem_of_getElem? hg
    have h0 := Array.any_eq_false'.1 no_go fn hm
    simpa using h0
theorem goes_no : false = Rows.runCallsRow.goesBy Tryz.pinned.checked.prog := by
  show false = (Tryz.prog.goesFrom "bodkin/bodkinlaw15.RunCalls" || false)
  unfold Program.goesFrom
  cases Tryz.prog.funcNamed "bodkin/bodkinlaw15.RunCalls" with
  | none => rfl
  | some f => simp [goes_all f]
end Go.Proofs.YtfdmaafadphnfaaGreatDoor.runCalls
