/- Seat Ytcfjpomapolbfaa.ZD: the closed facts. -/
import Derived.Test.YtcfjpomapolbfaaGreatDoorEGa
import Derived.Test.YtcfjpomapolbfaaGreatDoorEGb
import Derived.Test.YtcfjpomapolbfaaGreatDoorEGc
import Derived.Test.YtcfjpomapolbfaaGreatDoorEGd
import Derived.Test.YtcfjpomapolbfaaGreatDoorEGe
set_option maxRecDepth 100000
namespace Go.Proofs.YtcfjpomapolbfaaGreatDoor.embedForged
open Go Go.ChangeShapes Go.WideShapes Go.ChangeAt Go.RowKit
theorem closed : joinedFacts Tryz.pinned.checked.prog 3 Tryz.f3 (OpenSpec.ofChange Rows.embedForgedSpec).bare Rows.embedForgedRow = true := by
  unfold joinedFacts
  refine and_i (and_i (and_i (and_i (and_i (and_i (and_i (and_i (and_i (and_i (and_i (and_i (and_i (and_i (and_i (and_i (and_i (and_i (and_i (and_i (and_i (and_i (and_i (and_i (and_i (and_i (and_i (and_i (and_i (and_i (and_i ?_ ?_) ?_) ?_) ?_) ?_) ?_) ?_) ?_) ?_) ?_) ?_) ?_) ?_) ?_) ?_) ?_) ?_) ?_) ?_) ?_) ?_) ?_) ?_) ?_) ?_) ?_) ?_) ?_) ?_) ?_) ?_
  · kernel_rfl
  · exact a2
  · exact a3
  · kernel_rfl
  · kernel_rfl
  · kernel_rfl
  · kernel_rfl
  · kernel_rfl
  · kernel_rfl
  · exact a10
  · exact a11
  · exact a12
  · exact a13
  · kernel_rfl
  · kernel_rfl
  · kernel_rfl
  · kernel_rfl
  · kernel_rfl
  · kernel_rfl
  · kernel_rfl
  · kernel_rfl
  · kernel_rfl
  · kernel_rfl
  · kernel_rfl
  · kernel_rfl
  · kernel_rfl
  · kernel_rfl
  · kernel_rfl
  · kernel_rfl
  · kernel_rfl
  · kernel_rfl
  · kernel_rfl
end Go.Proofs.YtcfjpomapolbfaaGreatDoor.embedForged
