/- bodkin/bodkinlaw17.EmbedForged (seat Ytcfjpomapolbfaa.ZD): the row. -/
import Derived.Test.YtcfjpomapolbfaaGreatDoorEF
import Derived.Test.YtcfjpomapolbfaaGreatDoorEG1
set_option maxRecDepth 100000
namespace Go.Proofs.YtcfjpomapolbfaaGreatDoor.embedForged
open Go Go.Ne Go.ChangeShapes Go.WideShapes Go.ChangeAt Go.RowKit
theorem said : Rows.EmbedForgedSaid :=
  OpenClaim.holds_of_cond 3 Tryz.f3 rfl rfl rfl rfl rfl rfl rfl ⟨rfl, rfl, rfl, rfl, rfl⟩ rfl rfl rfl rfl rfl (by kernel_rfl) Tryz.func3 closed
    (of_decide_eq_true (by kernel_rfl)) (by unfold Func.isWrapper; first | (rw [if_pos (by decide +kernel)]; kernel_rfl) | (rw [if_neg (by decide +kernel)]; exact ⟨rfl, rfl⟩))
    (fun os started H enc _ F => by rw [OpenClaim.pre_eq_preRow]; exact lifted os started H enc F)
end Go.Proofs.YtcfjpomapolbfaaGreatDoor.embedForged
