/- Seat wat: WatNames at small numbers, part 2. -/
import Derived.Test.YtglmbknbbfmhfaaGreatDoorW3
set_option maxRecDepth 100000
namespace Go.Proofs.YtglmbknbbfmhfaaGreatDoor
open Go Go.Ne
theorem n400 : ansB (callS tab3 100000 60 5 [.int .i64 (.ofNat 4), .int .i64 (.ofNat 0), .int .i64 (.ofNat 0)] hW) (.bool true) = true := by kernel_rfl
theorem n401 : ansB (callS tab3 100000 60 5 [.int .i64 (.ofNat 4), .int .i64 (.ofNat 0), .int .i64 (.ofNat 1)] hW) (.bool true) = true := by kernel_rfl
theorem n410 : ansB (callS tab3 100000 60 5 [.int .i64 (.ofNat 4), .int .i64 (.ofNat 1), .int .i64 (.ofNat 0)] hW) (.bool true) = true := by kernel_rfl
theorem n411 : ansB (callS tab3 100000 60 5 [.int .i64 (.ofNat 4), .int .i64 (.ofNat 1), .int .i64 (.ofNat 1)] hW) (.bool true) = true := by kernel_rfl
theorem n420 : ansB (callS tab3 100000 60 5 [.int .i64 (.ofNat 4), .int .i64 (.ofNat 2), .int .i64 (.ofNat 0)] hW) (.bool true) = true := by kernel_rfl
theorem n421 : ansB (callS tab3 100000 60 5 [.int .i64 (.ofNat 4), .int .i64 (.ofNat 2), .int .i64 (.ofNat 1)] hW) (.bool true) = true := by kernel_rfl
theorem n430 : ansB (callS tab3 100000 60 5 [.int .i64 (.ofNat 4), .int .i64 (.ofNat 3), .int .i64 (.ofNat 0)] hW) (.bool true) = true := by kernel_rfl
theorem n431 : ansB (callS tab3 100000 60 5 [.int .i64 (.ofNat 4), .int .i64 (.ofNat 3), .int .i64 (.ofNat 1)] hW) (.bool true) = true := by kernel_rfl
theorem n440 : ansB (callS tab3 100000 60 5 [.int .i64 (.ofNat 4), .int .i64 (.ofNat 4), .int .i64 (.ofNat 0)] hW) (.bool true) = true := by kernel_rfl
theorem n441 : ansB (callS tab3 100000 60 5 [.int .i64 (.ofNat 4), .int .i64 (.ofNat 4), .int .i64 (.ofNat 1)] hW) (.bool true) = true := by kernel_rfl
theorem n450 : ansB (callS tab3 100000 60 5 [.int .i64 (.ofNat 4), .int .i64 (.ofNat 5), .int .i64 (.ofNat 0)] hW) (.bool true) = true := by kernel_rfl
theorem n451 : ansB (callS tab3 100000 60 5 [.int .i64 (.ofNat 4), .int .i64 (.ofNat 5), .int .i64 (.ofNat 1)] hW) (.bool true) = true := by kernel_rfl
theorem n460 : ansB (callS tab3 100000 60 5 [.int .i64 (.ofNat 4), .int .i64 (.ofNat 6), .int .i64 (.ofNat 0)] hW) (.bool true) = true := by kernel_rfl
theorem n461 : ansB (callS tab3 100000 60 5 [.int .i64 (.ofNat 4), .int .i64 (.ofNat 6), .int .i64 (.ofNat 1)] hW) (.bool true) = true := by kernel_rfl
theorem n470 : ansB (callS tab3 100000 60 5 [.int .i64 (.ofNat 4), .int .i64 (.ofNat 7), .int .i64 (.ofNat 0)] hW) (.bool true) = true := by kernel_rfl
theorem n471 : ansB (callS tab3 100000 60 5 [.int .i64 (.ofNat 4), .int .i64 (.ofNat 7), .int .i64 (.ofNat 1)] hW) (.bool true) = true := by kernel_rfl
theorem n500 : ansB (callS tab3 100000 60 5 [.int .i64 (.ofNat 5), .int .i64 (.ofNat 0), .int .i64 (.ofNat 0)] hW) (.bool true) = true := by kernel_rfl
theorem n501 : ansB (callS tab3 100000 60 5 [.int .i64 (.ofNat 5), .int .i64 (.ofNat 0), .int .i64 (.ofNat 1)] hW) (.bool true) = true := by kernel_rfl
theorem n510 : ansB (callS tab3 100000 60 5 [.int .i64 (.ofNat 5), .int .i64 (.ofNat 1), .int .i64 (.ofNat 0)] hW) (.bool true) = true := by kernel_rfl
theorem n511 : ansB (callS tab3 100000 60 5 [.int .i64 (.ofNat 5), .int .i64 (.ofNat 1), .int .i64 (.ofNat 1)] hW) (.bool true) = true := by kernel_rfl
theorem n520 : ansB (callS tab3 100000 60 5 [.int .i64 (.ofNat 5), .int .i64 (.ofNat 2), .int .i64 (.ofNat 0)] hW) (.bool true) = true := by kernel_rfl
theorem n521 : ansB (callS tab3 100000 60 5 [.int .i64 (.ofNat 5), .int .i64 (.ofNat 2), .int .i64 (.ofNat 1)] hW) (.bool true) = true := by kernel_rfl
theorem n530 : ansB (callS tab3 100000 60 5 [.int .i64 (.ofNat 5), .int .i64 (.ofNat 3), .int .i64 (.ofNat 0)] hW) (.bool true) = true := by kernel_rfl
theorem n531 : ansB (callS tab3 100000 60 5 [.int .i64 (.ofNat 5), .int .i64 (.ofNat 3), .int .i64 (.ofNat 1)] hW) (.bool true) = true := by kernel_rfl
theorem n540 : ansB (callS tab3 100000 60 5 [.int .i64 (.ofNat 5), .int .i64 (.ofNat 4), .int .i64 (.ofNat 0)] hW) (.bool true) = true := by kernel_rfl
theorem n541 : ansB (callS tab3 100000 60 5 [.int .i64 (.ofNat 5), .int .i64 (.ofNat 4), .int .i64 (.ofNat 1)] hW) (.bool true) = true := by kernel_rfl
theorem n550 : ansB (callS tab3 100000 60 5 [.int .i64 (.ofNat 5), .int .i64 (.ofNat 5), .int .i64 (.ofNat 0)] hW) (.bool true) = true := by kernel_rfl
theorem n551 : ansB (callS tab3 100000 60 5 [.int .i64 (.ofNat 5), .int .i64 (.ofNat 5), .int .i64 (.ofNat 1)] hW) (.bool true) = true := by kernel_rfl
theorem n560 : ansB (callS tab3 100000 60 5 [.int .i64 (.ofNat 5), .int .i64 (.ofNat 6), .int .i64 (.ofNat 0)] hW) (.bool true) = true := by kernel_rfl
theorem n561 : ansB (callS tab3 100000 60 5 [.int .i64 (.ofNat 5), .int .i64 (.ofNat 6), .int .i64 (.ofNat 1)] hW) (.bool true) = true := by kernel_rfl
theorem n570 : ansB (callS tab3 100000 60 5 [.int .i64 (.ofNat 5), .int .i64 (.ofNat 7), .int .i64 (.ofNat 0)] hW) (.bool true) = true := by kernel_rfl
theorem n571 : ansB (callS tab3 100000 60 5 [.int .i64 (.ofNat 5), .int .i64 (.ofNat 7), .int .i64 (.ofNat 1)] hW) (.bool true) = true := by kernel_rfl
end Go.Proofs.YtglmbknbbfmhfaaGreatDoor

