/- Seat runfits: the runs, part 3. -/
import Derived.Test.YtcindejphmbjpaaGreatDoorRB
set_option maxRecDepth 100000
set_option linter.unusedVariables false
set_option linter.unusedSectionVars false
namespace Go.Proofs.YtcindejphmbjpaaGreatDoor
open Go Go.Ne
theorem v3 : rowR (.agg [.int .i64 (.ofNat 127), .sint .u64 (some 3) (.ofNat 4294967296) (.ofNat 18446744073709551615), .sint .u64 (some 4) (.ofNat 0) (.ofNat 18446744073709551615), .bool true], .int .i64 (.ofNat 127)) = true := by kernel_rfl
theorem v7 : rowR (.agg [.sint .i64 (some 1) (.negSucc 9223372036854775807) (.ofNat 126), .sint .u64 (some 3) (.ofNat 0) (.ofNat 18446744073709551615), .sint .u64 (some 4) (.ofNat 0) (.ofNat 18446744073709551615), .bool true], .int .i64 (.ofNat 127)) = true := by kernel_rfl
theorem v11 : rowR (.agg [.int .i64 (.ofNat 126), .sint .u64 (some 3) (.ofNat 0) (.ofNat 18446744073709551615), .sint .u64 (some 4) (.ofNat 1) (.ofNat 18446744073709551615), .bool false], .int .i64 (.ofNat 126)) = true := by kernel_rfl
theorem v15 : rowR (.agg [.sint .i64 (some 1) (.negSucc 9223372036854775807) (.ofNat 125), .sint .u64 (some 3) (.ofNat 0) (.ofNat 18446744073709551615), .sint .u64 (some 4) (.ofNat 0) (.ofNat 18446744073709551615), .bool true], .int .i64 (.ofNat 126)) = true := by kernel_rfl
theorem v19 : rowR (.agg [.int .i64 (.ofNat 125), .sint .u64 (some 3) (.ofNat 0) (.ofNat 4294967295), .int .u64 (.ofNat 0), .bool false], .int .i64 (.ofNat 125)) = true := by kernel_rfl
theorem v23 : rowR (.agg [.int .i64 (.ofNat 125), .sint .u64 (some 3) (.ofNat 0) (.ofNat 4294967295), .sint .u64 (some 4) (.ofNat 1) (.ofNat 18446744073709551615), .bool true], .int .i64 (.ofNat 125)) = true := by kernel_rfl
theorem v27 : rowR (.agg [.sint .i64 (some 1) (.ofNat 126) (.ofNat 9223372036854775807), .sint .u64 (some 3) (.ofNat 0) (.ofNat 18446744073709551615), .sint .u64 (some 4) (.ofNat 0) (.ofNat 18446744073709551615), .bool true], .int .i64 (.ofNat 125)) = true := by kernel_rfl
theorem v31 : rowR (.agg [.int .i64 (.ofNat 124), .sint .u64 (some 3) (.ofNat 0) (.ofNat 18446744073709551615), .sint .u64 (some 4) (.ofNat 1) (.ofNat 18446744073709551615), .bool true], .int .i64 (.ofNat 124)) = true := by kernel_rfl
theorem v35 : rowR (.agg [.sint .i64 (some 1) (.ofNat 125) (.ofNat 9223372036854775807), .sint .u64 (some 3) (.ofNat 0) (.ofNat 18446744073709551615), .sint .u64 (some 4) (.ofNat 0) (.ofNat 18446744073709551615), .bool true], .int .i64 (.ofNat 124)) = true := by kernel_rfl
theorem v39 : rowR (.agg [.sint .i64 (some 1) (.negSucc 9223372036854775807) (.ofNat 122), .sint .u64 (some 3) (.ofNat 0) (.ofNat 18446744073709551615), .sint .u64 (some 4) (.ofNat 0) (.ofNat 18446744073709551615), .bool true], .int .i64 (.ofNat 123)) = true := by kernel_rfl
theorem v43 : rowR (.agg [.int .i64 (.ofNat 112), .sint .u64 (some 3) (.ofNat 3) (.ofNat 18446744073709551615), .sint .u64 (some 4) (.ofNat 1) (.ofNat 18446744073709551615), .bool false], .int .i64 (.ofNat 112)) = true := by kernel_rfl
theorem v47 : rowR (.agg [.int .i64 (.ofNat 112), .int .u64 (.ofNat 0), .sint .u64 (some 4) (.ofNat 1) (.ofNat 18446744073709551615), .bool true], .int .i64 (.ofNat 112)) = true := by kernel_rfl
theorem v51 : rowR (.agg [.sint .i64 (some 1) (.negSucc 9223372036854775807) (.ofNat 111), .sint .u64 (some 3) (.ofNat 0) (.ofNat 18446744073709551615), .sint .u64 (some 4) (.ofNat 0) (.ofNat 18446744073709551615), .bool true], .int .i64 (.ofNat 112)) = true := by kernel_rfl
theorem v55 : rowR (.agg [.int .i64 (.ofNat 111), .sint .u64 (some 3) (.ofNat 0) (.ofNat 18446744073709551615), .int .u64 (.ofNat 0), .bool false], .int .i64 (.ofNat 111)) = true := by kernel_rfl
theorem v59 : rowR (.agg [.int .i64 (.ofNat 111), .sint .u64 (some 3) (.ofNat 1) (.ofNat 18446744073709551615), .sint .u64 (some 4) (.ofNat 0) (.ofNat 18446744073709551615), .bool true], .int .i64 (.ofNat 111)) = true := by kernel_rfl
theorem v63 : rowR (.agg [.sint .i64 (some 1) (.ofNat 112) (.ofNat 9223372036854775807), .sint .u64 (some 3) (.ofNat 0) (.ofNat 18446744073709551615), .sint .u64 (some 4) (.ofNat 0) (.ofNat 18446744073709551615), .bool true], .int .i64 (.ofNat 111)) = true := by kernel_rfl
theorem v67 : rowR (.agg [.sint .i64 (some 1) (.negSucc 9223372036854775807) (.ofNat 9223372036854775807), .sint .u64 (some 3) (.ofNat 0) (.ofNat 18446744073709551615), .sint .u64 (some 4) (.ofNat 0) (.ofNat 18446744073709551615), .bool true], .sint .i64 (some 2) (.negSucc 9223372036854775807) (.ofNat 110)) = true := by kernel_rfl
theorem v71 : rowR (.agg [.sint .i64 (some 1) (.negSucc 9223372036854775807) (.ofNat 9223372036854775807), .sint .u64 (some 3) (.ofNat 0) (.ofNat 18446744073709551615), .sint .u64 (some 4) (.ofNat 0) (.ofNat 18446744073709551615), .bool true], .sint .i64 (some 2) (.ofNat 113) (.ofNat 122)) = true := by kernel_rfl
theorem v75 : rowR (.agg [.sint .i64 (some 1) (.negSucc 9223372036854775807) (.ofNat 9223372036854775807), .sint .u64 (some 3) (.ofNat 0) (.ofNat 18446744073709551615), .sint .u64 (some 4) (.ofNat 0) (.ofNat 18446744073709551615), .bool true], .sint .i64 (some 2) (.ofNat 128) (.ofNat 9223372036854775807)) = true := by kernel_rfl
end Go.Proofs.YtcindejphmbjpaaGreatDoor

