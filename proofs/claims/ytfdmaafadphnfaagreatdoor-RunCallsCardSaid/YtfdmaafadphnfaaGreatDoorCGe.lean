/- Seat Ytfdmaafadphnfaa.ZD: a fact of the program. -/
import Derived.Test.YtfdmaafadphnfaaGreatDoorRows
import Derived.ProofKit
import Derived.OpenShut
import Derived.ChangeSame
set_option maxRecDepth 100000
namespace Go.Proofs.YtfdmaafadphnfaaGreatDoor.runCalls
open Go Go.ChangeShapes Go.WideShapes Go.ChangeAt Go.RowKit
theorem a13 : (Rows.runCallsRow.named == Tryz.prog.varsNamed 3) = true := by kernel_rfl
end Go.Proofs.YtfdmaafadphnfaaGreatDoor.runCalls
