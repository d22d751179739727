/- Seat wat: three names of instructions. -/
import Derived.Test.YtglmbknbbfmhfaaGreatDoorW1
set_option maxRecDepth 100000
namespace Go.Proofs.YtglmbknbbfmhfaaGreatDoor
open Go Go.Ne
noncomputable def tab1 : PT SF := tabW allS oPlain oLanes oKnown noO noO noO
theorem find_call : ansB (callS tab1 100000 20 199 [.str 4 1819042147] hW) (.tuple [.int .i64 (.ofNat 16), .bool true]) = true := by kernel_rfl
theorem find_const : ansB (callS tab1 100000 20 199 [.str 9 2148140020583875359593] hW) (.tuple [.int .i64 (.ofNat 65), .bool true]) = true := by kernel_rfl
theorem find_add : ansB (callS tab1 100000 20 199 [.str 7 28257866220712809] hW) (.tuple [.int .i64 (.ofNat 106), .bool true]) = true := by kernel_rfl
theorem imm_call : ansB (callS tab1 100000 20 149 [.int .i64 (.ofNat 16)] hW) (.int .i64 (.ofNat 4)) = true := by kernel_rfl
theorem imm_const : ansB (callS tab1 100000 20 149 [.int .i64 (.ofNat 65)] hW) (.int .i64 (.ofNat 12)) = true := by kernel_rfl
theorem imm_add : ansB (callS tab1 100000 20 149 [.int .i64 (.ofNat 106)] hW) (.int .i64 (.ofNat 0)) = true := by kernel_rfl
end Go.Proofs.YtglmbknbbfmhfaaGreatDoor

