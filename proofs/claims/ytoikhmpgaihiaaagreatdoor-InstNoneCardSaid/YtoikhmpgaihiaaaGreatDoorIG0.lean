/- Seat Ytoikhmpgaihiaaa.ZD: facts of the program, one by one. -/
import Derived.Test.YtoikhmpgaihiaaaGreatDoorRows
import Derived.ProofKit
import Derived.OpenShut
import Derived.ChangeSame
set_option maxRecDepth 100000
namespace Go.Proofs.YtoikhmpgaihiaaaGreatDoor.instNone
open Go Go.ChangeShapes Go.WideShapes Go.ChangeAt Go.RowKit
theorem a2 : laidOutB Tryz.prog = true := by kernel_rfl
theorem a3 : mapsRowed Tryz.prog = true := by kernel_rfl
theorem a10 : (Rows.instNoneRow.inPlace == Tryz.prog.inPlace 3) = true := by kernel_rfl
theorem a11 : (Rows.instNoneRow.unfollowed == Tryz.prog.unfollowed 3) = true := by kernel_rfl
theorem a12 : (Rows.instNoneRow.recurses == Tryz.prog.recurses 3) = true := by kernel_rfl
theorem a13 : (Rows.instNoneRow.named == Tryz.prog.varsNamed 3) = true := by kernel_rfl
theorem and_i {a b : Bool} (ha : a = true) (hb : b = true) : (a && b) = true := by rw [ha, hb]; rfl
end Go.Proofs.YtoikhmpgaihiaaaGreatDoor.instNone
