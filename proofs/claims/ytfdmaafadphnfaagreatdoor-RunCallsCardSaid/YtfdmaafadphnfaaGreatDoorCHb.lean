/- Seat Ytfdmaafadphnfaa.ZD: a fact of the program. -/
import Derived.Test.YtfdmaafadphnfaaGreatDoorRows
import Derived.ProofKit
import Derived.OpenShut
import Derived.ChangeSame
import GoSem.ClaimSeven
import Derived.SevenTiedAt
set_option maxRecDepth 100000
namespace Go.Proofs.YtfdmaafadphnfaaGreatDoor.runCalls
open Go Go.ChangeShapes Go.WideShapes Go.ChangeAt Go.RowKit
theorem looks_no : false = Tryz.pinned.checked.prog.looks [] := by kernel_rfl
end Go.Proofs.YtfdmaafadphnfaaGreatDoor.runCalls
