/- Seat runfits: the runs, part 2. -/
import Derived.Test.YtcindejphmbjpaaGreatDoorRB
set_option maxRecDepth 100000
set_option linter.unusedVariables false
set_option linter.unusedSectionVars false
namespace Go.Proofs.YtcindejphmbjpaaGreatDoor
open Go Go.Ne
theorem v2 : rowR (.agg [.int .i64 (.ofNat 127), .sint .u64 (some 3) (.ofNat 0) (.ofNat 4294967295), .sint .u64 (some 4) (.ofNat 1) (.ofNat 18446744073709551615), .bool false], .int .i64 (.ofNat 127)) = true := by kernel_rfl
theorem v6 : rowR (.agg [.sint .i64 (some 1) (.negSucc 9223372036854775807) (.ofNat 126), .sint .u64 (some 3) (.ofNat 0) (.ofNat 18446744073709551615), .sint .u64 (some 4) (.ofNat 0) (.ofNat 18446744073709551615), .bool false], .int .i64 (.ofNat 127)) = true := by kernel_rfl
theorem v10 : rowR (.agg [.int .i64 (.ofNat 126), .sint .u64 (some 3) (.ofNat 0) (.ofNat 18446744073709551615), .int .u64 (.ofNat 0), .bool false], .int .i64 (.ofNat 126)) = true := by kernel_rfl
theorem v14 : rowR (.agg [.sint .i64 (some 1) (.negSucc 9223372036854775807) (.ofNat 125), .sint .u64 (some 3) (.ofNat 0) (.ofNat 18446744073709551615), .sint .u64 (some 4) (.ofNat 0) (.ofNat 18446744073709551615), .bool false], .int .i64 (.ofNat 126)) = true := by kernel_rfl
theorem v18 : rowR (.agg [.int .i64 (.ofNat 125), .sint .u64 (some 3) (.ofNat 4294967296) (.ofNat 18446744073709551615), .sint .u64 (some 4) (.ofNat 0) (.ofNat 18446744073709551615), .bool false], .int .i64 (.ofNat 125)) = true := by kernel_rfl
theorem v22 : rowR (.agg [.int .i64 (.ofNat 125), .sint .u64 (some 3) (.ofNat 0) (.ofNat 4294967295), .int .u64 (.ofNat 0), .bool true], .int .i64 (.ofNat 125)) = true := by kernel_rfl
theorem v26 : rowR (.agg [.sint .i64 (some 1) (.ofNat 126) (.ofNat 9223372036854775807), .sint .u64 (some 3) (.ofNat 0) (.ofNat 18446744073709551615), .sint .u64 (some 4) (.ofNat 0) (.ofNat 18446744073709551615), .bool false], .int .i64 (.ofNat 125)) = true := by kernel_rfl
theorem v30 : rowR (.agg [.int .i64 (.ofNat 124), .sint .u64 (some 3) (.ofNat 0) (.ofNat 18446744073709551615), .int .u64 (.ofNat 0), .bool true], .int .i64 (.ofNat 124)) = true := by kernel_rfl
theorem v34 : rowR (.agg [.sint .i64 (some 1) (.ofNat 125) (.ofNat 9223372036854775807), .sint .u64 (some 3) (.ofNat 0) (.ofNat 18446744073709551615), .sint .u64 (some 4) (.ofNat 0) (.ofNat 18446744073709551615), .bool false], .int .i64 (.ofNat 124)) = true := by kernel_rfl
theorem v38 : rowR (.agg [.sint .i64 (some 1) (.negSucc 9223372036854775807) (.ofNat 122), .sint .u64 (some 3) (.ofNat 0) (.ofNat 18446744073709551615), .sint .u64 (some 4) (.ofNat 0) (.ofNat 18446744073709551615), .bool false], .int .i64 (.ofNat 123)) = true := by kernel_rfl
theorem v42 : rowR (.agg [.int .i64 (.ofNat 112), .sint .u64 (some 3) (.ofNat 3) (.ofNat 18446744073709551615), .int .u64 (.ofNat 0), .bool false], .int .i64 (.ofNat 112)) = true := by kernel_rfl
theorem v46 : rowR (.agg [.int .i64 (.ofNat 112), .int .u64 (.ofNat 0), .int .u64 (.ofNat 0), .bool true], .int .i64 (.ofNat 112)) = true := by kernel_rfl
theorem v50 : rowR (.agg [.sint .i64 (some 1) (.negSucc 9223372036854775807) (.ofNat 111), .sint .u64 (some 3) (.ofNat 3) (.ofNat 18446744073709551615), .sint .u64 (some 4) (.ofNat 0) (.ofNat 18446744073709551615), .bool false], .int .i64 (.ofNat 112)) = true := by kernel_rfl
theorem v54 : rowR (.agg [.sint .i64 (some 1) (.ofNat 113) (.ofNat 9223372036854775807), .sint .u64 (some 3) (.ofNat 0) (.ofNat 18446744073709551615), .sint .u64 (some 4) (.ofNat 0) (.ofNat 18446744073709551615), .bool true], .int .i64 (.ofNat 112)) = true := by kernel_rfl
theorem v58 : rowR (.agg [.int .i64 (.ofNat 111), .int .u64 (.ofNat 0), .sint .u64 (some 4) (.ofNat 1) (.ofNat 18446744073709551615), .bool true], .int .i64 (.ofNat 111)) = true := by kernel_rfl
theorem v62 : rowR (.agg [.sint .i64 (some 1) (.ofNat 112) (.ofNat 9223372036854775807), .sint .u64 (some 3) (.ofNat 0) (.ofNat 18446744073709551615), .sint .u64 (some 4) (.ofNat 0) (.ofNat 18446744073709551615), .bool false], .int .i64 (.ofNat 111)) = true := by kernel_rfl
theorem v66 : rowR (.agg [.sint .i64 (some 1) (.negSucc 9223372036854775807) (.ofNat 9223372036854775807), .sint .u64 (some 3) (.ofNat 0) (.ofNat 18446744073709551615), .sint .u64 (some 4) (.ofNat 0) (.ofNat 18446744073709551615), .bool false], .sint .i64 (some 2) (.negSucc 9223372036854775807) (.ofNat 110)) = true := by kernel_rfl
theorem v70 : rowR (.agg [.sint .i64 (some 1) (.negSucc 9223372036854775807) (.ofNat 9223372036854775807), .sint .u64 (some 3) (.ofNat 0) (.ofNat 18446744073709551615), .sint .u64 (some 4) (.ofNat 0) (.ofNat 18446744073709551615), .bool false], .sint .i64 (some 2) (.ofNat 113) (.ofNat 122)) = true := by kernel_rfl
theorem v74 : rowR (.agg [.sint .i64 (some 1) (.negSucc 9223372036854775807) (.ofNat 9223372036854775807), .sint .u64 (some 3) (.ofNat 0) (.ofNat 18446744073709551615), .sint .u64 (some 4) (.ofNat 0) (.ofNat 18446744073709551615), .bool false], .sint .i64 (some 2) (.ofNat 128) (.ofNat 9223372036854775807)) = true := by kernel_rfl
end Go.Proofs.YtcindejphmbjpaaGreatDoor

