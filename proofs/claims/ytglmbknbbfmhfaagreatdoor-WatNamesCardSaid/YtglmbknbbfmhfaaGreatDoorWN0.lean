/- Seat wat: WatNames at small numbers, part 0. -/
import Derived.Test.YtglmbknbbfmhfaaGreatDoorW3
set_option maxRecDepth 100000
namespace Go.Proofs.YtglmbknbbfmhfaaGreatDoor
open Go Go.Ne
theorem n000 : ansB (callS tab3 100000 60 5 [.int .i64 (.ofNat 0), .int .i64 (.ofNat 0), .int .i64 (.ofNat 0)] hW) (.bool true) = true := by kernel_rfl
theorem n001 : ansB (callS tab3 100000 60 5 [.int .i64 (.ofNat 0), .int .i64 (.ofNat 0), .int .i64 (.ofNat 1)] hW) (.bool true) = true := by kernel_rfl
theorem n010 : ansB (callS tab3 100000 60 5 [.int .i64 (.ofNat 0), .int .i64 (.ofNat 1), .int .i64 (.ofNat 0)] hW) (.bool true) = true := by kernel_rfl
theorem n011 : ansB (callS tab3 100000 60 5 [.int .i64 (.ofNat 0), .int .i64 (.ofNat 1), .int .i64 (.ofNat 1)] hW) (.bool true) = true := by kernel_rfl
theorem n020 : ansB (callS tab3 100000 60 5 [.int .i64 (.ofNat 0), .int .i64 (.ofNat 2), .int .i64 (.ofNat 0)] hW) (.bool true) = true := by kernel_rfl
theorem n021 : ansB (callS tab3 100000 60 5 [.int .i64 (.ofNat 0), .int .i64 (.ofNat 2), .int .i64 (.ofNat 1)] hW) (.bool true) = true := by kernel_rfl
theorem n030 : ansB (callS tab3 100000 60 5 [.int .i64 (.ofNat 0), .int .i64 (.ofNat 3), .int .i64 (.ofNat 0)] hW) (.bool true) = true := by kernel_rfl
theorem n031 : ansB (callS tab3 100000 60 5 [.int .i64 (.ofNat 0), .int .i64 (.ofNat 3), .int .i64 (.ofNat 1)] hW) (.bool true) = true := by kernel_rfl
theorem n040 : ansB (callS tab3 100000 60 5 [.int .i64 (.ofNat 0), .int .i64 (.ofNat 4), .int .i64 (.ofNat 0)] hW) (.bool true) = true := by kernel_rfl
theorem n041 : ansB (callS tab3 100000 60 5 [.int .i64 (.ofNat 0), .int .i64 (.ofNat 4), .int .i64 (.ofNat 1)] hW) (.bool true) = true := by kernel_rfl
theorem n050 : ansB (callS tab3 100000 60 5 [.int .i64 (.ofNat 0), .int .i64 (.ofNat 5), .int .i64 (.ofNat 0)] hW) (.bool true) = true := by kernel_rfl
theorem n051 : ansB (callS tab3 100000 60 5 [.int .i64 (.ofNat 0), .int .i64 (.ofNat 5), .int .i64 (.ofNat 1)] hW) (.bool true) = true := by kernel_rfl
theorem n060 : ansB (callS tab3 100000 60 5 [.int .i64 (.ofNat 0), .int .i64 (.ofNat 6), .int .i64 (.ofNat 0)] hW) (.bool true) = true := by kernel_rfl
theorem n061 : ansB (callS tab3 100000 60 5 [.int .i64 (.ofNat 0), .int .i64 (.ofNat 6), .int .i64 (.ofNat 1)] hW) (.bool true) = true := by kernel_rfl
theorem n070 : ansB (callS tab3 100000 60 5 [.int .i64 (.ofNat 0), .int .i64 (.ofNat 7), .int .i64 (.ofNat 0)] hW) (.bool true) = true := by kernel_rfl
theorem n071 : ansB (callS tab3 100000 60 5 [.int .i64 (.ofNat 0), .int .i64 (.ofNat 7), .int .i64 (.ofNat 1)] hW) (.bool true) = true := by kernel_rfl
theorem n100 : ansB (callS tab3 100000 60 5 [.int .i64 (.ofNat 1), .int .i64 (.ofNat 0), .int .i64 (.ofNat 0)] hW) (.bool true) = true := by kernel_rfl
theorem n101 : ansB (callS tab3 100000 60 5 [.int .i64 (.ofNat 1), .int .i64 (.ofNat 0), .int .i64 (.ofNat 1)] hW) (.bool true) = true := by kernel_rfl
theorem n110 : ansB (callS tab3 100000 60 5 [.int .i64 (.ofNat 1), .int .i64 (.ofNat 1), .int .i64 (.ofNat 0)] hW) (.bool true) = true := by kernel_rfl
theorem n111 : ansB (callS tab3 100000 60 5 [.int .i64 (.ofNat 1), .int .i64 (.ofNat 1), .int .i64 (.ofNat 1)] hW) (.bool true) = true := by kernel_rfl
theorem n120 : ansB (callS tab3 100000 60 5 [.int .i64 (.ofNat 1), .int .i64 (.ofNat 2), .int .i64 (.ofNat 0)] hW) (.bool true) = true := by kernel_rfl
theorem n121 : ansB (callS tab3 100000 60 5 [.int .i64 (.ofNat 1), .int .i64 (.ofNat 2), .int .i64 (.ofNat 1)] hW) (.bool true) = true := by kernel_rfl
theorem n130 : ansB (callS tab3 100000 60 5 [.int .i64 (.ofNat 1), .int .i64 (.ofNat 3), .int .i64 (.ofNat 0)] hW) (.bool true) = true := by kernel_rfl
theorem n131 : ansB (callS tab3 100000 60 5 [.int .i64 (.ofNat 1), .int .i64 (.ofNat 3), .int .i64 (.ofNat 1)] hW) (.bool true) = true := by kernel_rfl
theorem n140 : ansB (callS tab3 100000 60 5 [.int .i64 (.ofNat 1), .int .i64 (.ofNat 4), .int .i64 (.ofNat 0)] hW) (.bool true) = true := by kernel_rfl
theorem n141 : ansB (callS tab3 100000 60 5 [.int .i64 (.ofNat 1), .int .i64 (.ofNat 4), .int .i64 (.ofNat 1)] hW) (.bool true) = true := by kernel_rfl
theorem n150 : ansB (callS tab3 100000 60 5 [.int .i64 (.ofNat 1), .int .i64 (.ofNat 5), .int .i64 (.ofNat 0)] hW) (.bool true) = true := by kernel_rfl
theorem n151 : ansB (callS tab3 100000 60 5 [.int .i64 (.ofNat 1), .int .i64 (.ofNat 5), .int .i64 (.ofNat 1)] hW) (.bool true) = true := by kernel_rfl
theorem n160 : ansB (callS tab3 100000 60 5 [.int .i64 (.ofNat 1), .int .i64 (.ofNat 6), .int .i64 (.ofNat 0)] hW) (.bool true) = true := by kernel_rfl
theorem n161 : ansB (callS tab3 100000 60 5 [.int .i64 (.ofNat 1), .int .i64 (.ofNat 6), .int .i64 (.ofNat 1)] hW) (.bool true) = true := by kernel_rfl
theorem n170 : ansB (callS tab3 100000 60 5 [.int .i64 (.ofNat 1), .int .i64 (.ofNat 7), .int .i64 (.ofNat 0)] hW) (.bool true) = true := by kernel_rfl
theorem n171 : ansB (callS tab3 100000 60 5 [.int .i64 (.ofNat 1), .int .i64 (.ofNat 7), .int .i64 (.ofNat 1)] hW) (.bool true) = true := by kernel_rfl
end Go.Proofs.YtglmbknbbfmhfaaGreatDoor

