/- Seat Ytcfjpomapolbfaa.ZD: the law's runs, one for each kind of handle. -/
import Derived.Test.YtcfjpomapolbfaaGreatDoorE1
set_option maxRecDepth 100000
set_option linter.unusedVariables false
namespace Go.Proofs.YtcfjpomapolbfaaGreatDoor
open Go Go.Ne
def rV : NV := .agg [.sint .i64 (some 5) (.negSucc 9223372036854775807) (.ofNat 9223372036854775807), .sint .u64 (some 6) (.ofNat 0) (.ofNat 18446744073709551615), .sint .u64 (some 7) (.ofNat 0) (.ofNat 18446744073709551615), .opq 1]
def rI : NV := .sint .u64 (some 4) (.ofNat 0) (.ofNat 18446744073709551615)
def hdL : List NV := [.sint .i64 (some 3) (.negSucc 9223372036854775807) (.ofNat 0), .int .i64 (.ofNat 1), .int .i64 (.ofNat 2), .sint .i64 (some 3) (.ofNat 3) (.ofNat 9223372036854775807)]
theorem run0 : ansB (callS tab3 100000 60 3 [.sint .i64 (some 3) (.negSucc 9223372036854775807) (.ofNat 0), rI, rV, .opq 0] hW) (.bool true) = true := by kernel_rfl
theorem run1 : ansB (callS tab3 100000 60 3 [.int .i64 (.ofNat 1), rI, rV, .opq 0] hW) (.bool true) = true := by kernel_rfl
theorem run2 : ansB (callS tab3 100000 60 3 [.int .i64 (.ofNat 2), rI, rV, .opq 0] hW) (.bool true) = true := by kernel_rfl
theorem run3 : ansB (callS tab3 100000 60 3 [.sint .i64 (some 3) (.ofNat 3) (.ofNat 9223372036854775807), rI, rV, .opq 0] hW) (.bool true) = true := by kernel_rfl
theorem one_run [Sig] {x : NV} (hx : x ∈ hdL) : ∃ h1, callS tab3 100000 60 3 [x, rI, rV, .opq 0] hW = some (.bool true, h1) := by
  simp only [hdL, List.mem_cons, List.mem_nil_iff, or_false] at hx
  rcases hx with rfl | rfl | rfl | rfl
  · exact ansB_ok run0
  · exact ansB_ok run1
  · exact ansB_ok run2
  · exact ansB_ok run3
end Go.Proofs.YtcfjpomapolbfaaGreatDoor
