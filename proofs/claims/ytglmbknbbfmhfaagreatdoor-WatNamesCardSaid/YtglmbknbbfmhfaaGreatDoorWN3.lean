/- Seat wat: WatNames at small numbers, part 3. -/
import Derived.Test.YtglmbknbbfmhfaaGreatDoorW3
set_option maxRecDepth 100000
namespace Go.Proofs.YtglmbknbbfmhfaaGreatDoor
open Go Go.Ne
theorem n600 : ansB (callS tab3 100000 60 5 [.int .i64 (.ofNat 6), .int .i64 (.ofNat 0), .int .i64 (.ofNat 0)] hW) (.bool true) = true := by kernel_rfl
theorem n601 : ansB (callS tab3 100000 60 5 [.int .i64 (.ofNat 6), .int .i64 (.ofNat 0), .int .i64 (.ofNat 1)] hW) (.bool true) = true := by kernel_rfl
theorem n610 : ansB (callS tab3 100000 60 5 [.int .i64 (.ofNat 6), .int .i64 (.ofNat 1), .int .i64 (.ofNat 0)] hW) (.bool true) = true := by kernel_rfl
theorem n611 : ansB (callS tab3 100000 60 5 [.int .i64 (.ofNat 6), .int .i64 (.ofNat 1), .int .i64 (.ofNat 1)] hW) (.bool true) = true := by kernel_rfl
theorem n620 : ansB (callS tab3 100000 60 5 [.int .i64 (.ofNat 6), .int .i64 (.ofNat 2), .int .i64 (.ofNat 0)] hW) (.bool true) = true := by kernel_rfl
theorem n621 : ansB (callS tab3 100000 60 5 [.int .i64 (.ofNat 6), .int .i64 (.ofNat 2), .int .i64 (.ofNat 1)] hW) (.bool true) = true := by kernel_rfl
theorem n630 : ansB (callS tab3 100000 60 5 [.int .i64 (.ofNat 6), .int .i64 (.ofNat 3), .int .i64 (.ofNat 0)] hW) (.bool true) = true := by kernel_rfl
theorem n631 : ansB (callS tab3 100000 60 5 [.int .i64 (.ofNat 6), .int .i64 (.ofNat 3), .int .i64 (.ofNat 1)] hW) (.bool true) = true := by kernel_rfl
theorem n640 : ansB (callS tab3 100000 60 5 [.int .i64 (.ofNat 6), .int .i64 (.ofNat 4), .int .i64 (.ofNat 0)] hW) (.bool true) = true := by kernel_rfl
theorem n641 : ansB (callS tab3 100000 60 5 [.int .i64 (.ofNat 6), .int .i64 (.ofNat 4), .int .i64 (.ofNat 1)] hW) (.bool true) = true := by kernel_rfl
theorem n650 : ansB (callS tab3 100000 60 5 [.int .i64 (.ofNat 6), .int .i64 (.ofNat 5), .int .i64 (.ofNat 0)] hW) (.bool true) = true := by kernel_rfl
theorem n651 : ansB (callS tab3 100000 60 5 [.int .i64 (.ofNat 6), .int .i64 (.ofNat 5), .int .i64 (.ofNat 1)] hW) (.bool true) = true := by kernel_rfl
theorem n660 : ansB (callS tab3 100000 60 5 [.int .i64 (.ofNat 6), .int .i64 (.ofNat 6), .int .i64 (.ofNat 0)] hW) (.bool true) = true := by kernel_rfl
theorem n661 : ansB (callS tab3 100000 60 5 [.int .i64 (.ofNat 6), .int .i64 (.ofNat 6), .int .i64 (.ofNat 1)] hW) (.bool true) = true := by kernel_rfl
theorem n670 : ansB (callS tab3 100000 60 5 [.int .i64 (.ofNat 6), .int .i64 (.ofNat 7), .int .i64 (.ofNat 0)] hW) (.bool true) = true := by kernel_rfl
theorem n671 : ansB (callS tab3 100000 60 5 [.int .i64 (.ofNat 6), .int .i64 (.ofNat 7), .int .i64 (.ofNat 1)] hW) (.bool true) = true := by kernel_rfl
theorem n700 : ansB (callS tab3 100000 60 5 [.int .i64 (.ofNat 7), .int .i64 (.ofNat 0), .int .i64 (.ofNat 0)] hW) (.bool true) = true := by kernel_rfl
theorem n701 : ansB (callS tab3 100000 60 5 [.int .i64 (.ofNat 7), .int .i64 (.ofNat 0), .int .i64 (.ofNat 1)] hW) (.bool true) = true := by kernel_rfl
theorem n710 : ansB (callS tab3 100000 60 5 [.int .i64 (.ofNat 7), .int .i64 (.ofNat 1), .int .i64 (.ofNat 0)] hW) (.bool true) = true := by kernel_rfl
theorem n711 : ansB (callS tab3 100000 60 5 [.int .i64 (.ofNat 7), .int .i64 (.ofNat 1), .int .i64 (.ofNat 1)] hW) (.bool true) = true := by kernel_rfl
theorem n720 : ansB (callS tab3 100000 60 5 [.int .i64 (.ofNat 7), .int .i64 (.ofNat 2), .int .i64 (.ofNat 0)] hW) (.bool true) = true := by kernel_rfl
theorem n721 : ansB (callS tab3 100000 60 5 [.int .i64 (.ofNat 7), .int .i64 (.ofNat 2), .int .i64 (.ofNat 1)] hW) (.bool true) = true := by kernel_rfl
theorem n730 : ansB (callS tab3 100000 60 5 [.int .i64 (.ofNat 7), .int .i64 (.ofNat 3), .int .i64 (.ofNat 0)] hW) (.bool true) = true := by kernel_rfl
theorem n731 : ansB (callS tab3 100000 60 5 [.int .i64 (.ofNat 7), .int .i64 (.ofNat 3), .int .i64 (.ofNat 1)] hW) (.bool true) = true := by kernel_rfl
theorem n740 : ansB (callS tab3 100000 60 5 [.int .i64 (.ofNat 7), .int .i64 (.ofNat 4), .int .i64 (.ofNat 0)] hW) (.bool true) = true := by kernel_rfl
theorem n741 : ansB (callS tab3 100000 60 5 [.int .i64 (.ofNat 7), .int .i64 (.ofNat 4), .int .i64 (.ofNat 1)] hW) (.bool true) = true := by kernel_rfl
theorem n750 : ansB (callS tab3 100000 60 5 [.int .i64 (.ofNat 7), .int .i64 (.ofNat 5), .int .i64 (.ofNat 0)] hW) (.bool true) = true := by kernel_rfl
theorem n751 : ansB (callS tab3 100000 60 5 [.int .i64 (.ofNat 7), .int .i64 (.ofNat 5), .int .i64 (.ofNat 1)] hW) (.bool true) = true := by kernel_rfl
theorem n760 : ansB (callS tab3 100000 60 5 [.int .i64 (.ofNat 7), .int .i64 (.ofNat 6), .int .i64 (.ofNat 0)] hW) (.bool true) = true := by kernel_rfl
theorem n761 : ansB (callS tab3 100000 60 5 [.int .i64 (.ofNat 7), .int .i64 (.ofNat 6), .int .i64 (.ofNat 1)] hW) (.bool true) = true := by kernel_rfl
theorem n770 : ansB (callS tab3 100000 60 5 [.int .i64 (.ofNat 7), .int .i64 (.ofNat 7), .int .i64 (.ofNat 0)] hW) (.bool true) = true := by kernel_rfl
theorem n771 : ansB (callS tab3 100000 60 5 [.int .i64 (.ofNat 7), .int .i64 (.ofNat 7), .int .i64 (.ofNat 1)] hW) (.bool true) = true := by kernel_rfl
end Go.Proofs.YtglmbknbbfmhfaaGreatDoor

