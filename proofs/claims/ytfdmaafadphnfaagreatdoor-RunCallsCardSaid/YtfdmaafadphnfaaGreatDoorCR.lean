/- Seat Ytfdmaafadphnfaa.ZD: the law's runs. -/
import Derived.Test.YtfdmaafadphnfaaGreatDoorCN0
import Derived.Test.YtfdmaafadphnfaaGreatDoorCN1
import Derived.Test.YtfdmaafadphnfaaGreatDoorCN2
import Derived.Test.YtfdmaafadphnfaaGreatDoorCN3
set_option maxRecDepth 100000
set_option linter.unusedVariables false
namespace Go.Proofs.YtfdmaafadphnfaaGreatDoor
open Go Go.Ne
def atL : List NV := [.int .u32 (.ofNat 0), .int .u32 (.ofNat 1), .int .u32 (.ofNat 2), .sint .u32 (some 3) (.ofNat 3) (.ofNat 4294967295)]
def dL : List NV := [.sint .i64 (some 5) (.negSucc 9223372036854775807) (.negSucc 0), .int .i64 (.ofNat 0), .int .i64 (.ofNat 1), .int .i64 (.ofNat 2), .sint .i64 (some 5) (.ofNat 3) (.ofNat 10), .sint .i64 (some 5) (.ofNat 11) (.ofNat 9223372036854775807)]
def kN0 : NV := .sint .i64 (some 65792) (.negSucc 9223372036854775807) (.ofNat 9223372036854775807)
def arL0 : List NV := [.sint .u32 (some 4) (.ofNat 0) (.ofNat 4294967295)]
theorem one_run0 [Sig] {a z d : NV} (ha : a ∈ atL) (hz : z ∈ arL0) (hd : d ∈ dL) : ∃ h1, callS tab3 100000 60 3 [kN0, a, z, d] hW = some (.bool true, h1) := by
  simp only [atL, arL0, dL, List.mem_cons, List.mem_nil_iff, or_false] at ha hz hd
  rcases ha with rfl | rfl | rfl | rfl
  · rcases hz with rfl
    · rcases hd with rfl | rfl | rfl | rfl | rfl | rfl
      · exact ansB_ok run0000
      · exact ansB_ok run0001
      · exact ansB_ok run0002
      · exact ansB_ok run0003
      · exact ansB_ok run0004
      · exact ansB_ok run0005
  · rcases hz with rfl
    · rcases hd with rfl | rfl | rfl | rfl | rfl | rfl
      · exact ansB_ok run0100
      · exact ansB_ok run0101
      · exact ansB_ok run0102
      · exact ansB_ok run0103
      · exact ansB_ok run0104
      · exact ansB_ok run0105
  · rcases hz with rfl
    · rcases hd with rfl | rfl | rfl | rfl | rfl | rfl
      · exact ansB_ok run0200
      · exact ansB_ok run0201
      · exact ansB_ok run0202
      · exact ansB_ok run0203
      · exact ansB_ok run0204
      · exact ansB_ok run0205
  · rcases hz with rfl
    · rcases hd with rfl | rfl | rfl | rfl | rfl | rfl
      · exact ansB_ok run0300
      · exact ansB_ok run0301
      · exact ansB_ok run0302
      · exact ansB_ok run0303
      · exact ansB_ok run0304
      · exact ansB_ok run0305
def kN1 : NV := .sint .i64 (some 65793) (.negSucc 9223372036854775807) (.ofNat 9223372036854775807)
def arL1 : List NV := [.int .u32 (.ofNat 0), .sint .u32 (some 4) (.ofNat 1) (.ofNat 4294967295)]
theorem one_run1 [Sig] {a z d : NV} (ha : a ∈ atL) (hz : z ∈ arL1) (hd : d ∈ dL) : ∃ h1, callS tab3 100000 60 3 [kN1, a, z, d] hW = some (.bool true, h1) := by
  simp only [atL, arL1, dL, List.mem_cons, List.mem_nil_iff, or_false] at ha hz hd
  rcases ha with rfl | rfl | rfl | rfl
  · rcases hz with rfl | rfl
    · rcases hd with rfl | rfl | rfl | rfl | rfl | rfl
      · exact ansB_ok run1000
      · exact ansB_ok run1001
      · exact ansB_ok run1002
      · exact ansB_ok run1003
      · exact ansB_ok run1004
      · exact ansB_ok run1005
    · rcases hd with rfl | rfl | rfl | rfl | rfl | rfl
      · exact ansB_ok run1010
      · exact ansB_ok run1011
      · exact ansB_ok run1012
      · exact ansB_ok run1013
      · exact ansB_ok run1014
      · exact ansB_ok run1015
  · rcases hz with rfl | rfl
    · rcases hd with rfl | rfl | rfl | rfl | rfl | rfl
      · exact ansB_ok run1100
      · exact ansB_ok run1101
      · exact ansB_ok run1102
      · exact ansB_ok run1103
      · exact ansB_ok run1104
      · exact ansB_ok run1105
    · rcases hd with rfl | rfl | rfl | rfl | rfl | rfl
      · exact ansB_ok run1110
      · exact ansB_ok run1111
      · exact ansB_ok run1112
      · exact ansB_ok run1113
      · exact ansB_ok run1114
      · exact ansB_ok run1115
  · rcases hz with rfl | rfl
    · rcases hd with rfl | rfl | rfl | rfl | rfl | rfl
      · exact ansB_ok run1200
      · exact ansB_ok run1201
      · exact ansB_ok run1202
      · exact ansB_ok run1203
      · exact ansB_ok run1204
      · exact ansB_ok run1205
    · rcases hd with rfl | rfl | rfl | rfl | rfl | rfl
      · exact ansB_ok run1210
      · exact ansB_ok run1211
      · exact ansB_ok run1212
      · exact ansB_ok run1213
      · exact ansB_ok run1214
      · exact ansB_ok run1215
  · rcases hz with rfl | rfl
    · rcases hd with rfl | rfl | rfl | rfl | rfl | rfl
      · exact ansB_ok run1300
      · exact ansB_ok run1301
      · exact ansB_ok run1302
      · exact ansB_ok run1303
      · exact ansB_ok run1304
      · exact ansB_ok run1305
    · rcases hd with rfl | rfl | rfl | rfl | rfl | rfl
      · exact ansB_ok run1310
      · exact ansB_ok run1311
      · exact ansB_ok run1312
      · exact ansB_ok run1313
      · exact ansB_ok run1314
      · exact ansB_ok run1315
end Go.Proofs.YtfdmaafadphnfaaGreatDoor
