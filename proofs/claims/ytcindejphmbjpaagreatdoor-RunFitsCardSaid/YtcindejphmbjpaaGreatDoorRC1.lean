/- Seat runfits: the runs, part 1. -/
import Derived.Test.YtcindejphmbjpaaGreatDoorRB
set_option maxRecDepth 100000
set_option linter.unusedVariables false
set_option linter.unusedSectionVars false
namespace Go.Proofs.YtcindejphmbjpaaGreatDoor
open Go Go.Ne
theorem v1 : rowR (.agg [.int .i64 (.ofNat 127), .sint .u64 (some 3) (.ofNat 0) (.ofNat 4294967295), .int .u64 (.ofNat 0), .bool false], .int .i64 (.ofNat 127)) = true := by kernel_rfl
theorem v5 : rowR (.agg [.int .i64 (.ofNat 127), .sint .u64 (some 3) (.ofNat 0) (.ofNat 4294967295), .sint .u64 (some 4) (.ofNat 1) (.ofNat 18446744073709551615), .bool true], .int .i64 (.ofNat 127)) = true := by kernel_rfl
theorem v9 : rowR (.agg [.sint .i64 (some 1) (.ofNat 128) (.ofNat 9223372036854775807), .sint .u64 (some 3) (.ofNat 0) (.ofNat 18446744073709551615), .sint .u64 (some 4) (.ofNat 0) (.ofNat 18446744073709551615), .bool true], .int .i64 (.ofNat 127)) = true := by kernel_rfl
theorem v13 : rowR (.agg [.int .i64 (.ofNat 126), .sint .u64 (some 3) (.ofNat 0) (.ofNat 18446744073709551615), .sint .u64 (some 4) (.ofNat 1) (.ofNat 18446744073709551615), .bool true], .int .i64 (.ofNat 126)) = true := by kernel_rfl
theorem v17 : rowR (.agg [.sint .i64 (some 1) (.ofNat 127) (.ofNat 9223372036854775807), .sint .u64 (some 3) (.ofNat 0) (.ofNat 18446744073709551615), .sint .u64 (some 4) (.ofNat 0) (.ofNat 18446744073709551615), .bool true], .int .i64 (.ofNat 126)) = true := by kernel_rfl
theorem v21 : rowR (.agg [.int .i64 (.ofNat 125), .sint .u64 (some 3) (.ofNat 4294967296) (.ofNat 18446744073709551615), .sint .u64 (some 4) (.ofNat 0) (.ofNat 18446744073709551615), .bool true], .int .i64 (.ofNat 125)) = true := by kernel_rfl
theorem v25 : rowR (.agg [.sint .i64 (some 1) (.negSucc 9223372036854775807) (.ofNat 124), .sint .u64 (some 3) (.ofNat 0) (.ofNat 18446744073709551615), .sint .u64 (some 4) (.ofNat 0) (.ofNat 18446744073709551615), .bool true], .int .i64 (.ofNat 125)) = true := by kernel_rfl
theorem v29 : rowR (.agg [.int .i64 (.ofNat 124), .sint .u64 (some 3) (.ofNat 0) (.ofNat 18446744073709551615), .sint .u64 (some 4) (.ofNat 1) (.ofNat 18446744073709551615), .bool false], .int .i64 (.ofNat 124)) = true := by kernel_rfl
theorem v33 : rowR (.agg [.sint .i64 (some 1) (.negSucc 9223372036854775807) (.ofNat 123), .sint .u64 (some 3) (.ofNat 0) (.ofNat 18446744073709551615), .sint .u64 (some 4) (.ofNat 0) (.ofNat 18446744073709551615), .bool true], .int .i64 (.ofNat 124)) = true := by kernel_rfl
theorem v37 : rowR (.agg [.int .i64 (.ofNat 123), .sint .u64 (some 3) (.ofNat 0) (.ofNat 18446744073709551615), .sint .u64 (some 4) (.ofNat 0) (.ofNat 18446744073709551615), .bool true], .int .i64 (.ofNat 123)) = true := by kernel_rfl
theorem v41 : rowR (.agg [.sint .i64 (some 1) (.ofNat 124) (.ofNat 9223372036854775807), .sint .u64 (some 3) (.ofNat 0) (.ofNat 18446744073709551615), .sint .u64 (some 4) (.ofNat 0) (.ofNat 18446744073709551615), .bool true], .int .i64 (.ofNat 123)) = true := by kernel_rfl
theorem v45 : rowR (.agg [.int .i64 (.ofNat 112), .sint .u64 (some 3) (.ofNat 0) (.ofNat 2), .sint .u64 (some 4) (.ofNat 1) (.ofNat 18446744073709551615), .bool false], .int .i64 (.ofNat 112)) = true := by kernel_rfl
theorem v49 : rowR (.agg [.sint .i64 (some 1) (.negSucc 9223372036854775807) (.ofNat 111), .sint .u64 (some 3) (.ofNat 0) (.ofNat 2), .sint .u64 (some 4) (.ofNat 0) (.ofNat 18446744073709551615), .bool false], .int .i64 (.ofNat 112)) = true := by kernel_rfl
theorem v53 : rowR (.agg [.sint .i64 (some 1) (.ofNat 113) (.ofNat 9223372036854775807), .sint .u64 (some 3) (.ofNat 3) (.ofNat 18446744073709551615), .sint .u64 (some 4) (.ofNat 0) (.ofNat 18446744073709551615), .bool false], .int .i64 (.ofNat 112)) = true := by kernel_rfl
theorem v57 : rowR (.agg [.int .i64 (.ofNat 111), .int .u64 (.ofNat 0), .int .u64 (.ofNat 0), .bool true], .int .i64 (.ofNat 111)) = true := by kernel_rfl
theorem v61 : rowR (.agg [.sint .i64 (some 1) (.negSucc 9223372036854775807) (.ofNat 110), .sint .u64 (some 3) (.ofNat 0) (.ofNat 18446744073709551615), .sint .u64 (some 4) (.ofNat 0) (.ofNat 18446744073709551615), .bool true], .int .i64 (.ofNat 111)) = true := by kernel_rfl
theorem v65 : rowR (.agg [.sint .i64 (some 2) (.negSucc 9223372036854775807) (.ofNat 110), .sint .u64 (some 3) (.ofNat 0) (.ofNat 18446744073709551615), .sint .u64 (some 4) (.ofNat 0) (.ofNat 18446744073709551615), .bool true], .sint .i64 (some 2) (.negSucc 9223372036854775807) (.ofNat 110)) = true := by kernel_rfl
theorem v69 : rowR (.agg [.sint .i64 (some 2) (.ofNat 113) (.ofNat 122), .sint .u64 (some 3) (.ofNat 0) (.ofNat 18446744073709551615), .sint .u64 (some 4) (.ofNat 0) (.ofNat 18446744073709551615), .bool true], .sint .i64 (some 2) (.ofNat 113) (.ofNat 122)) = true := by kernel_rfl
theorem v73 : rowR (.agg [.sint .i64 (some 2) (.ofNat 128) (.ofNat 9223372036854775807), .sint .u64 (some 3) (.ofNat 0) (.ofNat 18446744073709551615), .sint .u64 (some 4) (.ofNat 0) (.ofNat 18446744073709551615), .bool true], .sint .i64 (some 2) (.ofNat 128) (.ofNat 9223372036854775807)) = true := by kernel_rfl
end Go.Proofs.YtcindejphmbjpaaGreatDoor

