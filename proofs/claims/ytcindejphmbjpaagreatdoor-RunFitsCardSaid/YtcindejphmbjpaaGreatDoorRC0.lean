/- Seat runfits: the runs, part 0. -/
import Derived.Test.YtcindejphmbjpaaGreatDoorRB
set_option maxRecDepth 100000
set_option linter.unusedVariables false
set_option linter.unusedSectionVars false
namespace Go.Proofs.YtcindejphmbjpaaGreatDoor
open Go Go.Ne
theorem v0 : rowR (.agg [.int .i64 (.ofNat 127), .sint .u64 (some 3) (.ofNat 4294967296) (.ofNat 18446744073709551615), .sint .u64 (some 4) (.ofNat 0) (.ofNat 18446744073709551615), .bool false], .int .i64 (.ofNat 127)) = true := by kernel_rfl
theorem v4 : rowR (.agg [.int .i64 (.ofNat 127), .sint .u64 (some 3) (.ofNat 0) (.ofNat 4294967295), .int .u64 (.ofNat 0), .bool true], .int .i64 (.ofNat 127)) = true := by kernel_rfl
theorem v8 : rowR (.agg [.sint .i64 (some 1) (.ofNat 128) (.ofNat 9223372036854775807), .sint .u64 (some 3) (.ofNat 0) (.ofNat 18446744073709551615), .sint .u64 (some 4) (.ofNat 0) (.ofNat 18446744073709551615), .bool false], .int .i64 (.ofNat 127)) = true := by kernel_rfl
theorem v12 : rowR (.agg [.int .i64 (.ofNat 126), .sint .u64 (some 3) (.ofNat 0) (.ofNat 18446744073709551615), .int .u64 (.ofNat 0), .bool true], .int .i64 (.ofNat 126)) = true := by kernel_rfl
theorem v16 : rowR (.agg [.sint .i64 (some 1) (.ofNat 127) (.ofNat 9223372036854775807), .sint .u64 (some 3) (.ofNat 0) (.ofNat 18446744073709551615), .sint .u64 (some 4) (.ofNat 0) (.ofNat 18446744073709551615), .bool false], .int .i64 (.ofNat 126)) = true := by kernel_rfl
theorem v20 : rowR (.agg [.int .i64 (.ofNat 125), .sint .u64 (some 3) (.ofNat 0) (.ofNat 4294967295), .sint .u64 (some 4) (.ofNat 1) (.ofNat 18446744073709551615), .bool false], .int .i64 (.ofNat 125)) = true := by kernel_rfl
theorem v24 : rowR (.agg [.sint .i64 (some 1) (.negSucc 9223372036854775807) (.ofNat 124), .sint .u64 (some 3) (.ofNat 0) (.ofNat 18446744073709551615), .sint .u64 (some 4) (.ofNat 0) (.ofNat 18446744073709551615), .bool false], .int .i64 (.ofNat 125)) = true := by kernel_rfl
theorem v28 : rowR (.agg [.int .i64 (.ofNat 124), .sint .u64 (some 3) (.ofNat 0) (.ofNat 18446744073709551615), .int .u64 (.ofNat 0), .bool false], .int .i64 (.ofNat 124)) = true := by kernel_rfl
theorem v32 : rowR (.agg [.sint .i64 (some 1) (.negSucc 9223372036854775807) (.ofNat 123), .sint .u64 (some 3) (.ofNat 0) (.ofNat 18446744073709551615), .sint .u64 (some 4) (.ofNat 0) (.ofNat 18446744073709551615), .bool false], .int .i64 (.ofNat 124)) = true := by kernel_rfl
theorem v36 : rowR (.agg [.int .i64 (.ofNat 123), .sint .u64 (some 3) (.ofNat 0) (.ofNat 18446744073709551615), .sint .u64 (some 4) (.ofNat 0) (.ofNat 18446744073709551615), .bool false], .int .i64 (.ofNat 123)) = true := by kernel_rfl
theorem v40 : rowR (.agg [.sint .i64 (some 1) (.ofNat 124) (.ofNat 9223372036854775807), .sint .u64 (some 3) (.ofNat 0) (.ofNat 18446744073709551615), .sint .u64 (some 4) (.ofNat 0) (.ofNat 18446744073709551615), .bool false], .int .i64 (.ofNat 123)) = true := by kernel_rfl
theorem v44 : rowR (.agg [.int .i64 (.ofNat 112), .sint .u64 (some 3) (.ofNat 0) (.ofNat 2), .int .u64 (.ofNat 0), .bool false], .int .i64 (.ofNat 112)) = true := by kernel_rfl
theorem v48 : rowR (.agg [.int .i64 (.ofNat 112), .sint .u64 (some 3) (.ofNat 1) (.ofNat 18446744073709551615), .sint .u64 (some 4) (.ofNat 0) (.ofNat 18446744073709551615), .bool true], .int .i64 (.ofNat 112)) = true := by kernel_rfl
theorem v52 : rowR (.agg [.sint .i64 (some 1) (.ofNat 113) (.ofNat 9223372036854775807), .sint .u64 (some 3) (.ofNat 0) (.ofNat 2), .sint .u64 (some 4) (.ofNat 0) (.ofNat 18446744073709551615), .bool false], .int .i64 (.ofNat 112)) = true := by kernel_rfl
theorem v56 : rowR (.agg [.int .i64 (.ofNat 111), .sint .u64 (some 3) (.ofNat 0) (.ofNat 18446744073709551615), .sint .u64 (some 4) (.ofNat 1) (.ofNat 18446744073709551615), .bool false], .int .i64 (.ofNat 111)) = true := by kernel_rfl
theorem v60 : rowR (.agg [.sint .i64 (some 1) (.negSucc 9223372036854775807) (.ofNat 110), .sint .u64 (some 3) (.ofNat 0) (.ofNat 18446744073709551615), .sint .u64 (some 4) (.ofNat 0) (.ofNat 18446744073709551615), .bool false], .int .i64 (.ofNat 111)) = true := by kernel_rfl
theorem v64 : rowR (.agg [.sint .i64 (some 2) (.negSucc 9223372036854775807) (.ofNat 110), .sint .u64 (some 3) (.ofNat 0) (.ofNat 18446744073709551615), .sint .u64 (some 4) (.ofNat 0) (.ofNat 18446744073709551615), .bool false], .sint .i64 (some 2) (.negSucc 9223372036854775807) (.ofNat 110)) = true := by kernel_rfl
theorem v68 : rowR (.agg [.sint .i64 (some 2) (.ofNat 113) (.ofNat 122), .sint .u64 (some 3) (.ofNat 0) (.ofNat 18446744073709551615), .sint .u64 (some 4) (.ofNat 0) (.ofNat 18446744073709551615), .bool false], .sint .i64 (some 2) (.ofNat 113) (.ofNat 122)) = true := by kernel_rfl
theorem v72 : rowR (.agg [.sint .i64 (some 2) (.ofNat 128) (.ofNat 9223372036854775807), .sint .u64 (some 3) (.ofNat 0) (.ofNat 18446744073709551615), .sint .u64 (some 4) (.ofNat 0) (.ofNat 18446744073709551615), .bool false], .sint .i64 (some 2) (.ofNat 128) (.ofNat 9223372036854775807)) = true := by kernel_rfl
end Go.Proofs.YtcindejphmbjpaaGreatDoor

