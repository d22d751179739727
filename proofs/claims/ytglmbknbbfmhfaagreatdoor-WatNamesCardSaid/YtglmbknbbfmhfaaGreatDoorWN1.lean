/- Seat wat: WatNames at small numbers, part 1. -/
import Derived.Test.YtglmbknbbfmhfaaGreatDoorW3
set_option maxRecDepth 100000
namespace Go.Proofs.YtglmbknbbfmhfaaGreatDoor
open Go Go.Ne
theorem n200 : ansB (callS tab3 100000 60 5 [.int .i64 (.ofNat 2), .int .i64 (.ofNat 0), .int .i64 (.ofNat 0)] hW) (.bool true) = true := by kernel_rfl
theorem n201 : ansB (callS tab3 100000 60 5 [.int .i64 (.ofNat 2), .int .i64 (.ofNat 0), .int .i64 (.ofNat 1)] hW) (.bool true) = true := by kernel_rfl
theorem n210 : ansB (callS tab3 100000 60 5 [.int .i64 (.ofNat 2), .int .i64 (.ofNat 1), .int .i64 (.ofNat 0)] hW) (.bool true) = true := by kernel_rfl
theorem n211 : ansB (callS tab3 100000 60 5 [.int .i64 (.ofNat 2), .int .i64 (.ofNat 1), .int .i64 (.ofNat 1)] hW) (.bool true) = true := by kernel_rfl
theorem n220 : ansB (callS tab3 100000 60 5 [.int .i64 (.ofNat 2), .int .i64 (.ofNat 2), .int .i64 (.ofNat 0)] hW) (.bool true) = true := by kernel_rfl
theorem n221 : ansB (callS tab3 100000 60 5 [.int .i64 (.ofNat 2), .int .i64 (.ofNat 2), .int .i64 (.ofNat 1)] hW) (.bool true) = true := by kernel_rfl
theorem n230 : ansB (callS tab3 100000 60 5 [.int .i64 (.ofNat 2), .int .i64 (.ofNat 3), .int .i64 (.ofNat 0)] hW) (.bool true) = true := by kernel_rfl
theorem n231 : ansB (callS tab3 100000 60 5 [.int .i64 (.ofNat 2), .int .i64 (.ofNat 3), .int .i64 (.ofNat 1)] hW) (.bool true) = true := by kernel_rfl
theorem n240 : ansB (callS tab3 100000 60 5 [.int .i64 (.ofNat 2), .int .i64 (.ofNat 4), .int .i64 (.ofNat 0)] hW) (.bool true) = true := by kernel_rfl
theorem n241 : ansB (callS tab3 100000 60 5 [.int .i64 (.ofNat 2), .int .i64 (.ofNat 4), .int .i64 (.ofNat 1)] hW) (.bool true) = true := by kernel_rfl
theorem n250 : ansB (callS tab3 100000 60 5 [.int .i64 (.ofNat 2), .int .i64 (.ofNat 5), .int .i64 (.ofNat 0)] hW) (.bool true) = true := by kernel_rfl
theorem n251 : ansB (callS tab3 100000 60 5 [.int .i64 (.ofNat 2), .int .i64 (.ofNat 5), .int .i64 (.ofNat 1)] hW) (.bool true) = true := by kernel_rfl
theorem n260 : ansB (callS tab3 100000 60 5 [.int .i64 (.ofNat 2), .int .i64 (.ofNat 6), .int .i64 (.ofNat 0)] hW) (.bool true) = true := by kernel_rfl
theorem n261 : ansB (callS tab3 100000 60 5 [.int .i64 (.ofNat 2), .int .i64 (.ofNat 6), .int .i64 (.ofNat 1)] hW) (.bool true) = true := by kernel_rfl
theorem n270 : ansB (callS tab3 100000 60 5 [.int .i64 (.ofNat 2), .int .i64 (.ofNat 7), .int .i64 (.ofNat 0)] hW) (.bool true) = true := by kernel_rfl
theorem n271 : ansB (callS tab3 100000 60 5 [.int .i64 (.ofNat 2), .int .i64 (.ofNat 7), .int .i64 (.ofNat 1)] hW) (.bool true) = true := by kernel_rfl
theorem n300 : ansB (callS tab3 100000 60 5 [.int .i64 (.ofNat 3), .int .i64 (.ofNat 0), .int .i64 (.ofNat 0)] hW) (.bool true) = true := by kernel_rfl
theorem n301 : ansB (callS tab3 100000 60 5 [.int .i64 (.ofNat 3), .int .i64 (.ofNat 0), .int .i64 (.ofNat 1)] hW) (.bool true) = true := by kernel_rfl
theorem n310 : ansB (callS tab3 100000 60 5 [.int .i64 (.ofNat 3), .int .i64 (.ofNat 1), .int .i64 (.ofNat 0)] hW) (.bool true) = true := by kernel_rfl
theorem n311 : ansB (callS tab3 100000 60 5 [.int .i64 (.ofNat 3), .int .i64 (.ofNat 1), .int .i64 (.ofNat 1)] hW) (.bool true) = true := by kernel_rfl
theorem n320 : ansB (callS tab3 100000 60 5 [.int .i64 (.ofNat 3), .int .i64 (.ofNat 2), .int .i64 (.ofNat 0)] hW) (.bool true) = true := by kernel_rfl
theorem n321 : ansB (callS tab3 100000 60 5 [.int .i64 (.ofNat 3), .int .i64 (.ofNat 2), .int .i64 (.ofNat 1)] hW) (.bool true) = true := by kernel_rfl
theorem n330 : ansB (callS tab3 100000 60 5 [.int .i64 (.ofNat 3), .int .i64 (.ofNat 3), .int .i64 (.ofNat 0)] hW) (.bool true) = true := by kernel_rfl
theorem n331 : ansB (callS tab3 100000 60 5 [.int .i64 (.ofNat 3), .int .i64 (.ofNat 3), .int .i64 (.ofNat 1)] hW) (.bool true) = true := by kernel_rfl
theorem n340 : ansB (callS tab3 100000 60 5 [.int .i64 (.ofNat 3), .int .i64 (.ofNat 4), .int .i64 (.ofNat 0)] hW) (.bool true) = true := by kernel_rfl
theorem n341 : ansB (callS tab3 100000 60 5 [.int .i64 (.ofNat 3), .int .i64 (.ofNat 4), .int .i64 (.ofNat 1)] hW) (.bool true) = true := by kernel_rfl
theorem n350 : ansB (callS tab3 100000 60 5 [.int .i64 (.ofNat 3), .int .i64 (.ofNat 5), .int .i64 (.ofNat 0)] hW) (.bool true) = true := by kernel_rfl
theorem n351 : ansB (callS tab3 100000 60 5 [.int .i64 (.ofNat 3), .int .i64 (.ofNat 5), .int .i64 (.ofNat 1)] hW) (.bool true) = true := by kernel_rfl
theorem n360 : ansB (callS tab3 100000 60 5 [.int .i64 (.ofNat 3), .int .i64 (.ofNat 6), .int .i64 (.ofNat 0)] hW) (.bool true) = true := by kernel_rfl
theorem n361 : ansB (callS tab3 100000 60 5 [.int .i64 (.ofNat 3), .int .i64 (.ofNat 6), .int .i64 (.ofNat 1)] hW) (.bool true) = true := by kernel_rfl
theorem n370 : ansB (callS tab3 100000 60 5 [.int .i64 (.ofNat 3), .int .i64 (.ofNat 7), .int .i64 (.ofNat 0)] hW) (.bool true) = true := by kernel_rfl
theorem n371 : ansB (callS tab3 100000 60 5 [.int .i64 (.ofNat 3), .int .i64 (.ofNat 7), .int .i64 (.ofNat 1)] hW) (.bool true) = true := by kernel_rfl
end Go.Proofs.YtglmbknbbfmhfaaGreatDoor

