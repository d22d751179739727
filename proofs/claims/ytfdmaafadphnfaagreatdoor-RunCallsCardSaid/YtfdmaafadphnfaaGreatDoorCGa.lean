/- Seat Ytfdmaafadphnfaa.ZD: a fact of the program. -/
import Derived.Test.YtfdmaafadphnfaaGreatDoorRows
import Derived.ProofKit
import Derived.OpenShut
import Derived.ChangeSame
set_option maxRecDepth 100000
namespace Go.Proofs.YtfdmaafadphnfaaGreatDoor.runCalls
open Go Go.ChangeShapes Go.WideShapes Go.ChangeAt Go.RowKit
theorem a2 : laidOutB Tryz.prog = true := by kernel_rfl
theorem a3 : mapsRowed Tryz.prog = true := by kernel_rfl
theorem and_i {a b : Bool} (ha : a = true) (hb : b = true) : (a && b) = true := by rw [ha, hb]; rfl
end Go.Proofs.YtfdmaafadphnfaaGreatDoor.runCalls
