/- Seat Ytfdmaafadphnfaa.ZD: the shallow functions of this program, part 0: printed by a program, each held against the staged interpreter by the kernel. -/
import Derived.Test.YtfdmaafadphnfaaGreatDoorCA
set_option maxRecDepth 100000
set_option linter.unusedVariables false
namespace Go.Proofs.YtfdmaafadphnfaaGreatDoor
open Go Go.Ne
noncomputable def S3 (call : CallF) (N : Nat) (l : List NV) (h : H) : R :=
 uc l fun v0 l1 => uc l1 fun v2 l3 => uc l3 fun v4 l5 => uc l5 fun v6 l7 => un l7 (
 mK (calM call 4 [] h) fun v8 h9 =>
 bK (notO v8) fun v10 =>
 condK v10 (
 retC (NV.bool false) h9) (
 bK (ltI v6 (NV.int .i64 (.ofNat 0))) fun v11 =>
 jK (fun v12 h13 =>
 jK (fun v15 h16 =>
 bK (pickO v11 (NV.bool true) v15) fun v18 =>
 condK v18 (
 retC (NV.bool true) h16) (
 bK (binO .and v0 (NV.int .i64 (.ofNat 1))) fun v19 =>
 bK (addI (NV.int .i64 (.ofNat 1)) v19) fun v20 =>
 bK (cvI .u64 v2) fun v21 =>
 bK (bldO [(0, 1), (3, 1)] [(NV.int .i64 (.ofNat 0)), (NV.int .i64 (.ofNat 0)), (NV.int .i64 (.ofNat 0)), (NV.int .u64 (.ofNat 0)), (NV.int .u64 (.ofNat 0)), NV.nslice, NV.nslice, NV.nslice, (NV.bool false)] [(NV.int .i64 (.ofNat 65)), v21]) fun v22 =>
 bK (bldO [(0, 1), (1, 1)] [(NV.int .i64 (.ofNat 0)), (NV.int .i64 (.ofNat 0)), (NV.int .i64 (.ofNat 0)), (NV.int .u64 (.ofNat 0)), (NV.int .u64 (.ofNat 0)), NV.nslice, NV.nslice, NV.nslice, (NV.bool false)] [(NV.int .i64 (.ofNat 17)), v20]) fun v23 =>
 mK (bslM 2 false [(0, 9), (9, 9)] [(NV.int .i64 (.ofNat 0)), (NV.int .i64 (.ofNat 0)), (NV.int .i64 (.ofNat 0)), (NV.int .u64 (.ofNat 0)), (NV.int .u64 (.ofNat 0)), NV.nslice, NV.nslice, NV.nslice, (NV.bool false), (NV.int .i64 (.ofNat 0)), (NV.int .i64 (.ofNat 0)), (NV.int .i64 (.ofNat 0)), (NV.int .u64 (.ofNat 0)), (NV.int .u64 (.ofNat 0)), NV.nslice, NV.nslice, NV.nslice, (NV.bool false)] [v22, v23] h16) fun v24 h25 =>
 bK (eqI v20 (NV.int .i64 (.ofNat 2))) fun v26 =>
 joinC 2 (fun v27 v28 h29 =>
 bK (bldO [] [NV.nslice, NV.nslice] []) fun v31 =>
 mK (calM call 5 [v31, NV.nslice, v28] h29) fun v32 h33 =>
 mK (alM (NB.cells [NV.nslice, NV.nslice, NV.nslice, NV.nslice, NV.nslice, NV.nslice, NV.nslice, (NV.int .i64 (.ofNat 0)), NV.nslice, NV.nslice, (NV.bool false)]) h33) fun v34 h35 =>
 mK (stM 11 v34 v32 h35) fun v36 h37 =>
 bK (ldO 11 true h37 v34) fun v38 =>
 mK (calM call 6 [v38] h37) fun v39 h40 =>
 mK (calM call 7 [v39] h40) fun v41 h42 =>
 bK (bldO [(0, 1), (1, 1), (2, 1)] [(NV.int .i64 (.ofNat 0)), (NV.int .i64 (.ofNat 0)), (NV.int .i64 (.ofNat 0))] [(NV.int .i64 (.ofNat 20)), v27, (NV.int .i64 (.ofNat 1))]) fun v43 =>
 mK (calM call 8 [v41, (NV.int .i64 (.ofNat 1)), NV.nslice, v43] h42) fun v44 h45 =>
 bK (extO 0 v44) fun v46 =>
 bK (extO 1 v44) fun v47 =>
 bK (extO 2 v44) fun v48 =>
 mK (calM call 9 [v39, (NV.int .i64 (.ofNat 1)), NV.nslice, (NV.int .i64 (.ofNat 20)), v27, (NV.int .i64 (.ofNat 1))] h45) fun v49 h50 =>
 bK (extO 0 v49) fun v51 =>
 bK (extO 1 v49) fun v52 =>
 bK (extO 2 v49) fun v53 =>
 bK (ldO 11 true h50 v34) fun v54 =>
 mK (calM call 10 [v54] h50) fun v55 h56 =>
 bK (eqI v55 (NV.int .i64 (.ofNat 0))) fun v57 =>
 jK (fun v58 h59 =>
 jK (fun v61 h62 =>
 jK (fun v64 h65 =>
 bK (pickO v57 v64 (NV.bool false)) fun v67 =>
 jK (fun v68 h69 =>
 jK (fun v71 h72 =>
 jK (fun v74 h75 =>
 bK (pickO v67 v74 (NV.bool false)) fun v77 =>
 jK (fun v78 h79 =>
 jK (fun v81 h82 =>
 jK (fun v84 h85 =>
 bK (pickO v77 v84 (NV.bool false)) fun v87 =>
 jK (fun v88 h89 =>
 jK (fun v91 h92 =>
 jK (fun v94 h95 =>
 bK (pickO v87 v94 (NV.bool false)) fun v97 =>
 retC v97 h95) fun J96 => gK v87 true (
 mK (calM call 12 [v88, v91] h92) fun v98 h99 =>
 J96 v98 h99) (J96 (NV.tuple []) h92)) fun J93 => gK v87 true (
 J93 v39 h89) (J93 (NV.tuple []) h89)) fun J90 => gK v87 true (
 J90 v41 h85) (J90 (NV.tuple []) h85)) fun J86 => gK v77 true (
 mK (calM call 11 [v78, v81] h82) fun v100 h101 =>
 J86 v100 h101) (J86 (NV.tuple []) h82)) fun J83 => gK v77 true (
 J83 v51 h79) (J83 (NV.tuple []) h79)) fun J80 => gK v77 true (
 J80 v46 h75) (J80 (NV.tuple []) h75)) fun J76 => gK v67 true (
 bK (eqI v68 v71) fun v102 =>
 J76 v102 h72) (J76 (NV.tuple []) h72)) fun J73 => gK v67 true (
 J73 v52 h69) (J73 (NV.tuple []) h69)) fun J70 => gK v67 true (
 J70 v47 h65) (J70 (NV.tuple []) h65)) fun J66 => gK v57 true (
 bK (eqI v58 v61) fun v103 =>
 J66 v103 h62) (J66 (NV.tuple []) h62)) fun J63 => gK v57 true (
 J63 v53 h59) (J63 (NV.tuple []) h59)) fun J60 => gK v57 true (
 J60 v48 h56) (J60 (NV.tuple []) h56)) fun J30 =>
 condK v26 (
 bK (cvI .u64 v4) fun v104 =>
 bK (bldO [(0, 1), (3, 1)] [(NV.int .i64 (.ofNat 0)), (NV.int .i64 (.ofNat 0)), (NV.int .i64 (.ofNat 0)), (NV.int .u64 (.ofNat 0)), (NV.int .u64 (.ofNat 0)), NV.nslice, NV.nslice, NV.nslice, (NV.bool false)] [(NV.int .i64 (.ofNat 65)), v104]) fun v105 =>
 bK (cvI .u64 v2) fun v106 =>
 bK (bldO [(0, 1), (3, 1)] [(NV.int .i64 (.ofNat 0)), (NV.int .i64 (.ofNat 0)), (NV.int .i64 (.ofNat 0)), (NV.int .u64 (.ofNat 0)), (NV.int .u64 (.ofNat 0)), NV.nslice, NV.nslice, NV.nslice, (NV.bool false)] [(NV.int .i64 (.ofNat 65)), v106]) fun v107 =>
 bK (bldO [(0, 1), (1, 1)] [(NV.int .i64 (.ofNat 0)), (NV.int .i64 (.ofNat 0)), (NV.int .i64 (.ofNat 0)), (NV.int .u64 (.ofNat 0)), (NV.int .u64 (.ofNat 0)), NV.nslice, NV.nslice, NV.nslice, (NV.bool false)] [(NV.int .i64 (.ofNat 17)), (NV.int .i64 (.ofNat 2))]) fun v108 =>
 bK (bldO [(0, 1)] [(NV.int .i64 (.ofNat 0)), (NV.int .i64 (.ofNat 0)), (NV.int .i64 (.ofNat 0)), (NV.int .u64 (.ofNat 0)), (NV.int .u64 (.ofNat 0)), NV.nslice, NV.nslice, NV.nslice, (NV.bool false)] [(NV.int .i64 (.ofNat 26))]) fun v109 =>
 mK (bslM 4 false [(0, 9), (9, 9), (18, 9), (27, 9)] [(NV.int .i64 (.ofNat 0)), (NV.int .i64 (.ofNat 0)), (NV.int .i64 (.ofNat 0)), (NV.int .u64 (.ofNat 0)), (NV.int .u64 (.ofNat 0)), NV.nslice, NV.nslice, NV.nslice, (NV.bool false), (NV.int .i64 (.ofNat 0)), (NV.int .i64 (.ofNat 0)), (NV.int .i64 (.ofNat 0)), (NV.int .u64 (.ofNat 0)), (NV.int .u64 (.ofNat 0)), NV.nslice, NV.nslice, NV.nslice, (NV.bool false), (NV.int .i64 (.ofNat 0)), (NV.int .i64 (.ofNat 0)), (NV.int .i64 (.ofNat 0)), (NV.int .u64 (.ofNat 0)), (NV.int .u64 (.ofNat 0)), NV.nslice, NV.nslice, NV.nslice, (NV.bool false), (NV.int .i64 (.ofNat 0)), (NV.int .i64 (.ofNat 0)), (NV.int .i64 (.ofNat 0)), (NV.int .u64 (.ofNat 0)), (NV.int .u64 (.ofNat 0)), NV.nslice, NV.nslice, NV.nslice, (NV.bool false)] [v105, v107, v108, v109] h25) fun v110 h111 =>
 J30 v6 v110 h111) (
 J30 v6 v24 h25))) fun J17 => gK v11 false (
 bK (gtI v12 (NV.int .i64 (.ofNat 10))) fun v112 =>
 J17 v112 h13) (J17 (NV.tuple []) h13)) fun J14 => gK v11 false (
 J14 v6 h9) (J14 (NV.tuple []) h9)))
theorem e3 : ikB Tryz.prog 10 Tryz.f3 = S3 := by kernel_rfl
theorem k3 [Sig] (w0 : World) : SOK cW w0 3 S3 := okW Tryz.func3 (by kernel_rfl) e3
noncomputable def S4 (call : CallF) (N : Nat) (l : List NV) (h : H) : R :=
 un l (
 bK (bldO [] [NV.nslice, NV.nslice] []) fun v0 =>
 bK (bldO [(0, 1)] [(NV.int .i64 (.ofNat 0)), (NV.int .i64 (.ofNat 0)), (NV.int .i64 (.ofNat 0)), (NV.int .u64 (.ofNat 0)), (NV.int .u64 (.ofNat 0)), NV.nslice, NV.nslice, NV.nslice, (NV.bool false)] [(NV.int .i64 (.ofNat 12))]) fun v1 =>
 mK (bslM 1 false [(0, 9)] [(NV.int .i64 (.ofNat 0)), (NV.int .i64 (.ofNat 0)), (NV.int .i64 (.ofNat 0)), (NV.int .u64 (.ofNat 0)), (NV.int .u64 (.ofNat 0)), NV.nslice, NV.nslice, NV.nslice, (NV.bool false)] [v1] h) fun v2 h3 =>
 bK (bldO [(0, 1), (6, 1)] [(NV.int .i64 (.ofNat 0)), (NV.int .i64 (.ofNat 0)), (NV.int .i64 (.ofNat 0)), (NV.int .u64 (.ofNat 0)), (NV.int .u64 (.ofNat 0)), NV.nslice, NV.nslice, NV.nslice, (NV.bool false)] [(NV.int .i64 (.ofNat 3)), v2]) fun v4 =>
 mK (bslM 1 false [(0, 9)] [(NV.int .i64 (.ofNat 0)), (NV.int .i64 (.ofNat 0)), (NV.int .i64 (.ofNat 0)), (NV.int .u64 (.ofNat 0)), (NV.int .u64 (.ofNat 0)), NV.nslice, NV.nslice, NV.nslice, (NV.bool false)] [v4] h3) fun v5 h6 =>
 mK (calM call 5 [v0, NV.nslice, v5] h6) fun v7 h8 =>
 mK (alM (NB.cells [NV.nslice, NV.nslice, NV.nslice, NV.nslice, NV.nslice, NV.nslice, NV.nslice, (NV.int .i64 (.ofNat 0)), NV.nslice, NV.nslice, (NV.bool false)]) h8) fun v9 h10 =>
 mK (stM 11 v9 v7 h10) fun v11 h12 =>
 bK (bldO [] [NV.nslice, NV.nslice] []) fun v13 =>
 bK (bldO [(0, 1), (1, 1)] [(NV.int .i64 (.ofNat 0)), (NV.int .i64 (.ofNat 0)), (NV.int .i64 (.ofNat 0)), (NV.int .u64 (.ofNat 0)), (NV.int .u64 (.ofNat 0)), NV.nslice, NV.nslice, NV.nslice, (NV.bool false)] [(NV.int .i64 (.ofNat 16)), (NV.int .i64 (.ofNat 1))]) fun v14 =>
 mK (bslM 1 false [(0, 9)] [(NV.int .i64 (.ofNat 0)), (NV.int .i64 (.ofNat 0)), (NV.int .i64 (.ofNat 0)), (NV.int .u64 (.ofNat 0)), (NV.int .u64 (.ofNat 0)), NV.nslice, NV.nslice, NV.nslice, (NV.bool false)] [v14] h12) fun v15 h16 =>
 mK (calM call 5 [v13, NV.nslice, v15] h16) fun v17 h18 =>
 mK (alM (NB.cells [NV.nslice, NV.nslice, NV.nslice, NV.nslice, NV.nslice, NV.nslice, NV.nslice, (NV.int .i64 (.ofNat 0)), NV.nslice, NV.nslice, (NV.bool false)]) h18) fun v19 h20 =>
 mK (stM 11 v19 v17 h20) fun v21 h22 =>
 mK (bslM 1 false [(0, 1)] [(NV.int .i64 (.ofNat 0))] [(NV.int .i64 (.ofNat 127))] h22) fun v23 h24 =>
 mK (bslM 1 false [(0, 1)] [(NV.int .i64 (.ofNat 0))] [(NV.int .i64 (.ofNat 127))] h24) fun v25 h26 =>
 bK (bldO [(0, 1), (1, 1)] [NV.nslice, NV.nslice] [v23, v25]) fun v27 =>
 bK (bldO [(0, 1)] [(NV.int .i64 (.ofNat 0)), (NV.int .i64 (.ofNat 0)), (NV.int .i64 (.ofNat 0)), (NV.int .u64 (.ofNat 0)), (NV.int .u64 (.ofNat 0)), NV.nslice, NV.nslice, NV.nslice, (NV.bool false)] [(NV.int .i64 (.ofNat 32))]) fun v28 =>
 bK (bldO [(0, 1), (3, 1)] [(NV.int .i64 (.ofNat 0)), (NV.int .i64 (.ofNat 0)), (NV.int .i64 (.ofNat 0)), (NV.int .u64 (.ofNat 0)), (NV.int .u64 (.ofNat 0)), NV.nslice, NV.nslice, NV.nslice, (NV.bool false)] [(NV.int .i64 (.ofNat 65)), (NV.int .u64 (.ofNat 2))]) fun v29 =>
 bK (bldO [(0, 1)] [(NV.int .i64 (.ofNat 0)), (NV.int .i64 (.ofNat 0)), (NV.int .i64 (.ofNat 0)), (NV.int .u64 (.ofNat 0)), (NV.int .u64 (.ofNat 0)), NV.nslice, NV.nslice, NV.nslice, (NV.bool false)] [(NV.int .i64 (.ofNat 106))]) fun v30 =>
 mK (bslM 3 false [(0, 9), (9, 9), (18, 9)] [(NV.int .i64 (.ofNat 0)), (NV.int .i64 (.ofNat 0)), (NV.int .i64 (.ofNat 0)), (NV.int .u64 (.ofNat 0)), (NV.int .u64 (.ofNat 0)), NV.nslice, NV.nslice, NV.nslice, (NV.bool false), (NV.int .i64 (.ofNat 0)), (NV.int .i64 (.ofNat 0)), (NV.int .i64 (.ofNat 0)), (NV.int .u64 (.ofNat 0)), (NV.int .u64 (.ofNat 0)), NV.nslice, NV.nslice, NV.nslice, (NV.bool false), (NV.int .i64 (.ofNat 0)), (NV.int .i64 (.ofNat 0)), (NV.int .i64 (.ofNat 0)), (NV.int .u64 (.ofNat 0)), (NV.int .u64 (.ofNat 0)), NV.nslice, NV.nslice, NV.nslice, (NV.bool false)] [v28, v29, v30] h26) fun v31 h32 =>
 mK (calM call 5 [v27, NV.nslice, v31] h32) fun v33 h34 =>
 mK (alM (NB.cells [NV.nslice, NV.nslice, NV.nslice, NV.nslice, NV.nslice, NV.nslice, NV.nslice, (NV.int .i64 (.ofNat 0)), NV.nslice, NV.nslice, (NV.bool false)]) h34) fun v35 h36 =>
 mK (stM 11 v35 v33 h36) fun v37 h38 =>
 bK (ldO 11 true h38 v9) fun v39 =>
 mK (calM call 6 [v39] h38) fun v40 h41 =>
 mK (calM call 7 [v40] h41) fun v42 h43 =>
 bK (bldO [(0, 1), (1, 1)] [(NV.int .i64 (.ofNat 0)), (NV.int .i64 (.ofNat 0)), (NV.int .i64 (.ofNat 0))] [(NV.int .i64 (.ofNat 5)), (NV.int .i64 (.ofNat 1))]) fun v44 =>
 mK (calM call 8 [v42, (NV.int .i64 (.ofNat 1)), NV.nslice, v44] h43) fun v45 h46 =>
 bK (extO 0 v45) fun v47 =>
 bK (extO 1 v45) fun v48 =>
 bK (extO 2 v45) fun v49 =>
 bK (ldO 11 true h46 v19) fun v50 =>
 mK (calM call 6 [v50] h46) fun v51 h52 =>
 mK (calM call 7 [v51] h52) fun v53 h54 =>
 bK (bldO [(0, 1), (1, 1)] [(NV.int .i64 (.ofNat 0)), (NV.int .i64 (.ofNat 0)), (NV.int .i64 (.ofNat 0))] [(NV.int .i64 (.ofNat 9)), (NV.int .i64 (.ofNat 3))]) fun v55 =>
 mK (calM call 8 [v53, (NV.int .i64 (.ofNat 1)), NV.nslice, v55] h54) fun v56 h57 =>
 bK (extO 0 v56) fun v58 =>
 bK (extO 1 v56) fun v59 =>
 bK (extO 2 v56) fun v60 =>
 bK (ldO 11 true h57 v35) fun v61 =>
 mK (calM call 6 [v61] h57) fun v62 h63 =>
 mK (calM call 7 [v62] h63) fun v64 h65 =>
 bK (bldO [(0, 1), (1, 1)] [(NV.int .i64 (.ofNat 0)), (NV.int .u64 (.ofNat 0)), (NV.int .u64 (.ofNat 0)), (NV.bool false)] [(NV.int .i64 (.ofNat 127)), (NV.int .u64 (.ofNat 40))]) fun v66 =>
 mK (bslM 1 false [(0, 4)] [(NV.int .i64 (.ofNat 0)), (NV.int .u64 (.ofNat 0)), (NV.int .u64 (.ofNat 0)), (NV.bool false)] [v66] h65) fun v67 h68 =>
 bK (bldO [(0, 1), (1, 1)] [(NV.int .i64 (.ofNat 0)), (NV.int .i64 (.ofNat 0)), (NV.int .i64 (.ofNat 0))] [(NV.int .i64 (.ofNat 9)), (NV.int .i64 (.ofNat 3))]) fun v69 =>
 mK (calM call 8 [v64, (NV.int .i64 (.ofNat 1)), v67, v69] h68) fun v70 h71 =>
 bK (extO 0 v70) fun v72 =>
 bK (extO 1 v70) fun v73 =>
 bK (extO 2 v70) fun v74 =>
 bK (eqI v48 (NV.int .i64 (.ofNat 5))) fun v75 =>
 jK (fun v76 h77 =>
 jK (fun v79 h80 =>
 bK (pickO v75 v79 (NV.bool false)) fun v82 =>
 jK (fun v83 h84 =>
 jK (fun v86 h87 =>
 bK (pickO v82 v86 (NV.bool false)) fun v89 =>
 jK (fun v90 h91 =>
 jK (fun v93 h94 =>
 bK (pickO v89 v93 (NV.bool false)) fun v96 =>
 jK (fun v97 h98 =>
 jK (fun v100 h101 =>
 bK (pickO v96 v100 (NV.bool false)) fun v103 =>
 jK (fun v104 h105 =>
 jK (fun v107 h108 =>
 bK (pickO v103 v107 (NV.bool false)) fun v110 =>
 jK (fun v111 h112 =>
 jK (fun v114 h115 =>
 jK (fun v117 h118 =>
 bK (pickO v110 v117 (NV.bool false)) fun v120 =>
 jK (fun v121 h122 =>
 jK (fun v124 h125 =>
 jK (fun v127 h128 =>
 jK (fun v130 h131 =>
 jK (fun v133 h134 =>
 bK (pickO v120 v133 (NV.bool false)) fun v136 =>
 retC v136 h134) fun J135 => gK v120 true (
 bK (eqI v130 (NV.int .u64 (.ofNat 42))) fun v137 =>
 J135 v137 h131) (J135 (NV.tuple []) h131)) fun J132 => gK v120 true (
 bK (ldO 1 false h128 v127) fun v138 =>
 J132 v138 h128) (J132 (NV.tuple []) h128)) fun J129 => gK v120 true (
 bK (fAddr 1 v124) fun v139 =>
 J129 v139 h125) (J129 (NV.tuple []) h125)) fun J126 => gK v120 true (
 bK (ixS 4 v121 (NV.int .i64 (.ofNat 0))) fun v140 =>
 J126 v140 h122) (J126 (NV.tuple []) h122)) fun J123 => gK v120 true (
 J123 v72 h118) (J123 (NV.tuple []) h118)) fun J119 => gK v110 true (
 bK (eqI v114 (NV.int .i64 (.ofNat 1))) fun v141 =>
 J119 v141 h115) (J119 (NV.tuple []) h115)) fun J116 => gK v110 true (
 bK (lenSl v111) fun v142 =>
 J116 v142 h112) (J116 (NV.tuple []) h112)) fun J113 => gK v110 true (
 J113 v72 h108) (J113 (NV.tuple []) h108)) fun J109 => gK v103 true (
 bK (eqI v104 (NV.int .i64 (.ofNat 0))) fun v143 =>
 J109 v143 h105) (J109 (NV.tuple []) h105)) fun J106 => gK v103 true (
 J106 v74 h101) (J106 (NV.tuple []) h101)) fun J102 => gK v96 true (
 bK (eqI v97 (NV.int .i64 (.ofNat 3))) fun v144 =>
 J102 v144 h98) (J102 (NV.tuple []) h98)) fun J99 => gK v96 true (
 J99 v73 h94) (J99 (NV.tuple []) h94)) fun J95 => gK v89 true (
 bK (eqI v90 (NV.int .i64 (.ofNat 50))) fun v145 =>
 J95 v145 h91) (J95 (NV.tuple []) h91)) fun J92 => gK v89 true (
 J92 v60 h87) (J92 (NV.tuple []) h87)) fun J88 => gK v82 true (
 bK (eqI v83 (NV.int .i64 (.ofNat 3))) fun v146 =>
 J88 v146 h84) (J88 (NV.tuple []) h84)) fun J85 => gK v82 true (
 J85 v59 h80) (J85 (NV.tuple []) h80)) fun J81 => gK v75 true (
 bK (eqI v76 (NV.int .i64 (.ofNat 51))) fun v147 =>
 J81 v147 h77) (J81 (NV.tuple []) h77)) fun J78 => gK v75 true (
 J78 v49 h71) (J78 (NV.tuple []) h71))
theorem e4 : ikB Tryz.prog 10 Tryz.f4 = S4 := by kernel_rfl
theorem k4 [Sig] (w0 : World) : SOK cW w0 4 S4 := okW Tryz.func4 (by kernel_rfl) e4
noncomputable def S5 (call : CallF) (N : Nat) (l : List NV) (h : H) : R :=
 uc l fun v0 l1 => uc l1 fun v2 l3 => uc l3 fun v4 l5 => un l5 (
 mK (boxM false v0 h) fun v6 h7 =>
 mK (alM (NB.cells [NV.nslice, NV.nslice, NV.nslice, NV.nslice, NV.nslice, NV.nslice, NV.nslice, (NV.int .i64 (.ofNat 0)), NV.nslice, NV.nslice, (NV.bool false)]) h7) fun v8 h9 =>
 bK (ldO 2 true h9 v6) fun v10 =>
 bK (bldO [] [NV.nslice, NV.nslice] []) fun v11 =>
 mK (bslM 1 false [(0, 1)] [(NV.int .i64 (.ofNat 0))] [(NV.int .i64 (.ofNat 127))] h9) fun v12 h13 =>
 mK (bslM 1 false [(0, 1)] [(NV.int .i64 (.ofNat 0))] [(NV.int .i64 (.ofNat 127))] h13) fun v14 h15 =>
 bK (bldO [(0, 1), (1, 1)] [NV.nslice, NV.nslice] [v12, v14]) fun v16 =>
 mK (bslM 2 false [(0, 1), (1, 1)] [(NV.int .i64 (.ofNat 0)), (NV.int .i64 (.ofNat 0))] [(NV.int .i64 (.ofNat 127)), (NV.int .i64 (.ofNat 126))] h15) fun v17 h18 =>
 mK (bslM 1 false [(0, 1)] [(NV.int .i64 (.ofNat 0))] [(NV.int .i64 (.ofNat 125))] h18) fun v19 h20 =>
 bK (bldO [(0, 1), (1, 1)] [NV.nslice, NV.nslice] [v17, v19]) fun v21 =>
 mK (bslM 4 false [(0, 2), (2, 2), (4, 2), (6, 2)] [NV.nslice, NV.nslice, NV.nslice, NV.nslice, NV.nslice, NV.nslice, NV.nslice, NV.nslice] [v10, v11, v16, v21] h20) fun v22 h23 =>
 bK (bldO [(0, 1)] [NV.nslice, NV.nslice, NV.nslice, NV.nslice, NV.nslice, NV.nslice, NV.nslice, (NV.int .i64 (.ofNat 0)), NV.nslice, NV.nslice, (NV.bool false)] [v22]) fun v24 =>
 mK (alM (NB.cells [NV.nslice, NV.nslice, NV.nslice, NV.nslice, NV.nslice, NV.nslice, NV.nslice, (NV.int .i64 (.ofNat 0)), NV.nslice, NV.nslice, (NV.bool false)]) h23) fun v25 h26 =>
 mK (stM 11 v25 v24 h26) fun v27 h28 =>
 bK (bldO [(1, 1), (3, 1)] [(NV.str 0 0), (NV.str 0 0), (NV.int .i64 (.ofNat 0)), (NV.int .i64 (.ofNat 0)), (NV.int .i64 (.ofNat 0)), (NV.int .i64 (.ofNat 0)), (NV.int .i64 (.ofNat 0)), (NV.bool false), (NV.int .i64 (.ofNat 0)), (NV.int .i64 (.ofNat 0)), (NV.bool false), (NV.int .i64 (.ofNat 0)), (NV.bool false)] [(NV.str 1 102), (NV.int .i64 (.ofNat 2))]) fun v29 =>
 bK (bldO [(0, 1)] [(NV.int .i64 (.ofNat 0)), (NV.bool false)] [(NV.int .i64 (.ofNat 127))]) fun v30 =>
 bK (bldO [(1, 1), (2, 1), (11, 2)] [(NV.str 0 0), (NV.str 0 0), (NV.int .i64 (.ofNat 0)), (NV.int .i64 (.ofNat 0)), (NV.int .i64 (.ofNat 0)), (NV.int .i64 (.ofNat 0)), (NV.int .i64 (.ofNat 0)), (NV.bool false), (NV.int .i64 (.ofNat 0)), (NV.int .i64 (.ofNat 0)), (NV.bool false), (NV.int .i64 (.ofNat 0)), (NV.bool false)] [(NV.str 1 103), (NV.int .i64 (.ofNat 3)), v30]) fun v31 =>
 mK (bslM 2 false [(0, 13), (13, 13)] [(NV.str 0 0), (NV.str 0 0), (NV.int .i64 (.ofNat 0)), (NV.int .i64 (.ofNat 0)), (NV.int .i64 (.ofNat 0)), (NV.int .i64 (.ofNat 0)), (NV.int .i64 (.ofNat 0)), (NV.bool false), (NV.int .i64 (.ofNat 0)), (NV.int .i64 (.ofNat 0)), (NV.bool false), (NV.int .i64 (.ofNat 0)), (NV.bool false), (NV.str 0 0), (NV.str 0 0), (NV.int .i64 (.ofNat 0)), (NV.int .i64 (.ofNat 0)), (NV.int .i64 (.ofNat 0)), (NV.int .i64 (.ofNat 0)), (NV.int .i64 (.ofNat 0)), (NV.bool false), (NV.int .i64 (.ofNat 0)), (NV.int .i64 (.ofNat 0)), (NV.bool false), (NV.int .i64 (.ofNat 0)), (NV.bool false)] [v29, v31] h28) fun v32 h33 =>
 bK (fAddr 1 v25) fun v34 =>
 mK (stM 1 v34 v32 h33) fun v35 h36 =>
 bK (bldO [(1, 1), (2, 1)] [(NV.int .i64 (.ofNat 0)), NV.nslice, NV.nslice] [v2, v4]) fun v37 =>
 bK (bldO [(0, 1)] [(NV.int .i64 (.ofNat 0)), NV.nslice, NV.nslice] [(NV.int .i64 (.ofNat 1))]) fun v38 =>
 mK (bslM 2 false [(0, 3), (3, 3)] [(NV.int .i64 (.ofNat 0)), NV.nslice, NV.nslice, (NV.int .i64 (.ofNat 0)), NV.nslice, NV.nslice] [v37, v38] h36) fun v39 h40 =>
 bK (fAddr 2 v25) fun v41 =>
 mK (stM 1 v41 v39 h40) fun v42 h43 =>
 bK (bldO [(0, 1)] [(NV.int .i64 (.ofNat 0)), (NV.int .i64 (.ofNat 0)), (NV.bool false)] [(NV.int .i64 (.ofNat 3))]) fun v44 =>
 bK (bldO [(0, 1), (1, 3)] [(NV.int .i64 (.ofNat 0)), (NV.int .i64 (.ofNat 0)), (NV.int .i64 (.ofNat 0)), (NV.bool false)] [(NV.int .i64 (.ofNat 112)), v44]) fun v45 =>
 bK (bldO [(0, 1), (1, 1), (2, 1)] [(NV.int .i64 (.ofNat 0)), (NV.int .i64 (.ofNat 0)), (NV.bool false)] [(NV.int .i64 (.ofNat 2)), (NV.int .i64 (.ofNat 5)), (NV.bool true)]) fun v46 =>
 bK (bldO [(0, 1), (1, 3)] [(NV.int .i64 (.ofNat 0)), (NV.int .i64 (.ofNat 0)), (NV.int .i64 (.ofNat 0)), (NV.bool false)] [(NV.int .i64 (.ofNat 111)), v46]) fun v47 =>
 mK (bslM 2 false [(0, 4), (4, 4)] [(NV.int .i64 (.ofNat 0)), (NV.int .i64 (.ofNat 0)), (NV.int .i64 (.ofNat 0)), (NV.bool false), (NV.int .i64 (.ofNat 0)), (NV.int .i64 (.ofNat 0)), (NV.int .i64 (.ofNat 0)), (NV.bool false)] [v45, v47] h43) fun v48 h49 =>
 bK (fAddr 3 v25) fun v50 =>
 mK (stM 1 v50 v48 h49) fun v51 h52 =>
 bK (bldO [(0, 1), (1, 1), (2, 1)] [(NV.int .i64 (.ofNat 0)), (NV.int .i64 (.ofNat 0)), (NV.bool false)] [(NV.int .i64 (.ofNat 1)), (NV.int .i64 (.ofNat 2)), (NV.bool true)]) fun v53 =>
 mK (bslM 1 false [(0, 3)] [(NV.int .i64 (.ofNat 0)), (NV.int .i64 (.ofNat 0)), (NV.bool false)] [v53] h52) fun v54 h55 =>
 bK (fAddr 4 v25) fun v56 =>
 mK (stM 1 v56 v54 h55) fun v57 h58 =>
 bK (bldO [(0, 1), (1, 1)] [(NV.int .i64 (.ofNat 0)), (NV.bool false)] [(NV.int .i64 (.ofNat 126)), (NV.bool true)]) fun v59 =>
 bK (bldO [(0, 1), (3, 1)] [(NV.int .i64 (.ofNat 0)), (NV.int .i64 (.ofNat 0)), (NV.int .i64 (.ofNat 0)), (NV.int .u64 (.ofNat 0)), (NV.int .u64 (.ofNat 0)), NV.nslice, NV.nslice, NV.nslice, (NV.bool false)] [(NV.int .i64 (.ofNat 66)), (NV.int .u64 (.ofNat 5))]) fun v60 =>
 mK (bslM 1 false [(0, 9)] [(NV.int .i64 (.ofNat 0)), (NV.int .i64 (.ofNat 0)), (NV.int .i64 (.ofNat 0)), (NV.int .u64 (.ofNat 0)), (NV.int .u64 (.ofNat 0)), NV.nslice, NV.nslice, NV.nslice, (NV.bool false)] [v60] h58) fun v61 h62 =>
 bK (bldO [(0, 2), (2, 1)] [(NV.int .i64 (.ofNat 0)), (NV.bool false), NV.nslice] [v59, v61]) fun v63 =>
 bK (bldO [(0, 1), (1, 1)] [(NV.int .i64 (.ofNat 0)), (NV.bool false)] [(NV.int .i64 (.ofNat 112)), (NV.bool true)]) fun v64 =>
 bK (bldO [(0, 1), (1, 1)] [(NV.int .i64 (.ofNat 0)), (NV.int .i64 (.ofNat 0)), (NV.int .i64 (.ofNat 0)), (NV.int .u64 (.ofNat 0)), (NV.int .u64 (.ofNat 0)), NV.nslice, NV.nslice, NV.nslice, (NV.bool false)] [(NV.int .i64 (.ofNat 210)), (NV.int .i64 (.ofNat 2))]) fun v65 =>
 mK (bslM 1 false [(0, 9)] [(NV.int .i64 (.ofNat 0)), (NV.int .i64 (.ofNat 0)), (NV.int .i64 (.ofNat 0)), (NV.int .u64 (.ofNat 0)), (NV.int .u64 (.ofNat 0)), NV.nslice, NV.nslice, NV.nslice, (NV.bool false)] [v65] h62) fun v66 h67 =>
 bK (bldO [(0, 2), (2, 1)] [(NV.int .i64 (.ofNat 0)), (NV.bool false), NV.nslice] [v64, v66]) fun v68 =>
 mK (bslM 2 false [(0, 3), (3, 3)] [(NV.int .i64 (.ofNat 0)), (NV.bool false), NV.nslice, (NV.int .i64 (.ofNat 0)), (NV.bool false), NV.nslice] [v63, v68] h67) fun v69 h70 =>
 bK (fAddr 5 v25) fun v71 =>
 mK (stM 1 v71 v69 h70) fun v72 h73 =>
 bK (bldO [(0, 1)] [(NV.int .i64 (.ofNat 0)), (NV.int .i64 (.ofNat 0)), (NV.int .i64 (.ofNat 0)), (NV.int .u64 (.ofNat 0)), (NV.int .u64 (.ofNat 0)), NV.nslice, NV.nslice, NV.nslice, (NV.bool false)] [(NV.int .i64 (.ofNat 210))]) fun v74 =>
 mK (bslM 1 false [(0, 9)] [(NV.int .i64 (.ofNat 0)), (NV.int .i64 (.ofNat 0)), (NV.int .i64 (.ofNat 0)), (NV.int .u64 (.ofNat 0)), (NV.int .u64 (.ofNat 0)), NV.nslice, NV.nslice, NV.nslice, (NV.bool false)] [v74] h73) fun v75 h76 =>
 bK (bldO [(0, 1), (1, 1)] [(NV.int .i64 (.ofNat 0)), (NV.int .i64 (.ofNat 0)), (NV.int .i64 (.ofNat 0)), (NV.int .u64 (.ofNat 0)), (NV.int .u64 (.ofNat 0)), NV.nslice, NV.nslice, NV.nslice, (NV.bool false)] [(NV.int .i64 (.ofNat 208)), (NV.int .i64 (.ofNat 112))]) fun v77 =>
 mK (bslM 1 false [(0, 9)] [(NV.int .i64 (.ofNat 0)), (NV.int .i64 (.ofNat 0)), (NV.int .i64 (.ofNat 0)), (NV.int .u64 (.ofNat 0)), (NV.int .u64 (.ofNat 0)), NV.nslice, NV.nslice, NV.nslice, (NV.bool false)] [v77] h76) fun v78 h79 =>
 mK (bslM 2 false [(0, 1), (1, 1)] [NV.nslice, NV.nslice] [v75, v78] h79) fun v80 h81 =>
 bK (bldO [(0, 1), (1, 1), (4, 1)] [(NV.int .i64 (.ofNat 0)), (NV.int .i64 (.ofNat 0)), (NV.int .i64 (.ofNat 0)), NV.nslice, NV.nslice] [(NV.int .i64 (.ofNat 112)), (NV.int .i64 (.ofNat 1)), v80]) fun v82 =>
 bK (bldO [(0, 1), (1, 1)] [(NV.int .i64 (.ofNat 0)), (NV.int .i64 (.ofNat 0)), (NV.int .i64 (.ofNat 0)), NV.nslice, NV.nslice] [(NV.int .i64 (.ofNat 111)), (NV.int .i64 (.ofNat 2))]) fun v83 =>
 mK (bslM 2 false [(0, 5), (5, 5)] [(NV.int .i64 (.ofNat 0)), (NV.int .i64 (.ofNat 0)), (NV.int .i64 (.ofNat 0)), NV.nslice, NV.nslice, (NV.int .i64 (.ofNat 0)), (NV.int .i64 (.ofNat 0)), (NV.int .i64 (.ofNat 0)), NV.nslice, NV.nslice] [v82, v83] h81) fun v84 h85 =>
 bK (fAddr 8 v25) fun v86 =>
 mK (stM 1 v86 v84 h85) fun v87 h88 =>
 mK (bslM 4 true [(0, 1), (1, 1), (2, 1), (3, 1)] [(NV.int .u8 (.ofNat 0)), (NV.int .u8 (.ofNat 0)), (NV.int .u8 (.ofNat 0)), (NV.int .u8 (.ofNat 0))] [(NV.int .u8 (.ofNat 100)), (NV.int .u8 (.ofNat 97)), (NV.int .u8 (.ofNat 116)), (NV.int .u8 (.ofNat 97))] h88) fun v89 h90 =>
 mK (cvbM v89 h90) fun v91 h92 =>
 bK (bldO [(0, 1), (3, 1)] [(NV.int .i64 (.ofNat 0)), (NV.int .i64 (.ofNat 0)), NV.nslice, NV.nslice] [(NV.int .i64 (.ofNat 1)), v91]) fun v93 =>
 mK (bslM 1 false [(0, 4)] [(NV.int .i64 (.ofNat 0)), (NV.int .i64 (.ofNat 0)), NV.nslice, NV.nslice] [v93] h92) fun v94 h95 =>
 bK (fAddr 9 v25) fun v96 =>
 mK (stM 1 v96 v94 h95) fun v97 h98 =>
 bK (fAddr 10 v25) fun v99 =>
 mK (stM 1 v99 (NV.bool true) h98) fun v100 h101 =>
 bK (ldO 11 true h101 v25) fun v102 =>
 mK (stM 11 v8 v102 h101) fun v103 h104 =>
 bK (ldB 11 true h104 v8) fun v105 =>
 retC v105 h104)
theorem e5 : ikB Tryz.prog 10 Tryz.f5 = S5 := by kernel_rfl
theorem k5 [Sig] (w0 : World) : SOK cW w0 5 S5 := okW Tryz.func5 (by kernel_rfl) e5
noncomputable def S6 (call : CallF) (N : Nat) (l : List NV) (h : H) : R :=
 uc l fun v0 l1 => un l1 (
 mK (boxM false v0 h) fun v2 h3 =>
 bK (bldO [] [NV.nslice, NV.nslice, NV.nslice, NV.nslice, NV.nslice, NV.nslice, NV.nslice, NV.nslice] []) fun v4 =>
 mK (boxM false v4 h3) fun v5 h6 =>
 bK (fAddr 0 v2) fun v7 =>
 bK (ldO 1 false h6 (chkV h6 v7)) fun v8 =>
 bK (ixS 2 v8 (NV.int .i64 (.ofNat 2))) fun v9 =>
 bK (ldO 2 true h6 (chkV h6 v9)) fun v10 =>
 bK (bldO [(0, 2), (4, 1)] [NV.nslice, NV.nslice, (NV.int .i64 (.ofNat 0)), (NV.int .i64 (.ofNat 0)), (NV.int .i64 (.ofNat 0))] [v10, (NV.int .i64 (.ofNat 1))]) fun v11 =>
 bK (fAddr 0 v2) fun v12 =>
 bK (ldO 1 false h6 (chkV h6 v12)) fun v13 =>
 bK (ixS 2 v13 (NV.int .i64 (.ofNat 0))) fun v14 =>
 bK (ldO 2 true h6 (chkV h6 v14)) fun v15 =>
 bK (bldO [(0, 2)] [NV.nslice, NV.nslice, (NV.int .i64 (.ofNat 0)), (NV.int .i64 (.ofNat 0)), (NV.int .i64 (.ofNat 0))] [v15]) fun v16 =>
 bK (fAddr 0 v2) fun v17 =>
 bK (ldO 1 false h6 (chkV h6 v17)) fun v18 =>
 bK (ixS 2 v18 (NV.int .i64 (.ofNat 1))) fun v19 =>
 bK (ldO 2 true h6 (chkV h6 v19)) fun v20 =>
 bK (bldO [(0, 2), (3, 1)] [NV.nslice, NV.nslice, (NV.int .i64 (.ofNat 0)), (NV.int .i64 (.ofNat 0)), (NV.int .i64 (.ofNat 0))] [v20, (NV.int .i64 (.ofNat 1))]) fun v21 =>
 mK (bslM 3 false [(0, 5), (5, 5), (10, 5)] [NV.nslice, NV.nslice, (NV.int .i64 (.ofNat 0)), (NV.int .i64 (.ofNat 0)), (NV.int .i64 (.ofNat 0)), NV.nslice, NV.nslice, (NV.int .i64 (.ofNat 0)), (NV.int .i64 (.ofNat 0)), (NV.int .i64 (.ofNat 0)), NV.nslice, NV.nslice, (NV.int .i64 (.ofNat 0)), (NV.int .i64 (.ofNat 0)), (NV.int .i64 (.ofNat 0))] [(chkV h6 v11), (chkV h6 v16), (chkV h6 v21)] h6) fun v22 h23 =>
 bK (nilO v5) fun v24 =>
 bK (fAddr 0 v24) fun v25 =>
 mK (stM 1 (chkV h23 v25) (chkV h23 v22) h23) fun v26 h27 =>
 nextK h23 h27 (
 bK (bldO [(0, 1), (3, 1)] [(NV.int .i64 (.ofNat 0)), (NV.int .u64 (.ofNat 0)), (NV.int .u64 (.ofNat 0)), (NV.bool false)] [(NV.int .i64 (.ofNat 112)), (NV.bool true)]) fun v28 =>
 mK (alM (NB.cells [(NV.int .i64 (.ofNat 0)), (NV.int .u64 (.ofNat 0)), (NV.int .u64 (.ofNat 0)), (NV.bool false)]) h27) fun v29 h30 =>
 mK (stM 4 v29 v28 h30) fun v31 h32 =>
 bK (bldO [(0, 1), (3, 1)] [(NV.int .i64 (.ofNat 0)), (NV.int .u64 (.ofNat 0)), (NV.int .u64 (.ofNat 0)), (NV.bool false)] [(NV.int .i64 (.ofNat 111)), (NV.bool true)]) fun v33 =>
 mK (alM (NB.cells [(NV.int .i64 (.ofNat 0)), (NV.int .u64 (.ofNat 0)), (NV.int .u64 (.ofNat 0)), (NV.bool false)]) h32) fun v34 h35 =>
 mK (stM 4 v34 v33 h35) fun v36 h37 =>
 bK (fAddr 3 v2) fun v38 =>
 bK (ldO 1 false h37 (chkV h37 v38)) fun v39 =>
 bK (ixS 4 v39 (NV.int .i64 (.ofNat 0))) fun v40 =>
 bK (ldO 4 true h37 (chkV h37 v40)) fun v41 =>
 bK (bldO [(0, 1)] [(NV.int .i64 (.ofNat 0)), (NV.int .u64 (.ofNat 0)), (NV.int .u64 (.ofNat 0)), (NV.bool false)] [(NV.int .i64 (.ofNat 112))]) fun v42 =>
 bK (ldO 4 true h37 (chkV h37 v29)) fun v43 =>
 bK (bldO [(0, 1), (1, 1)] [(NV.int .i64 (.ofNat 0)), (NV.int .u64 (.ofNat 0)), (NV.int .u64 (.ofNat 0)), (NV.bool false)] [(NV.int .i64 (.ofNat 112)), (NV.int .u64 (.ofNat 2))]) fun v44 =>
 bK (fAddr 3 v2) fun v45 =>
 bK (ldO 1 false h37 (chkV h37 v45)) fun v46 =>
 bK (ixS 4 v46 (NV.int .i64 (.ofNat 1))) fun v47 =>
 bK (ldO 4 true h37 (chkV h37 v47)) fun v48 =>
 bK (ldO 4 true h37 (chkV h37 v34)) fun v49 =>
 bK (bldO [(0, 1), (1, 1)] [(NV.int .i64 (.ofNat 0)), (NV.int .u64 (.ofNat 0)), (NV.int .u64 (.ofNat 0)), (NV.bool false)] [(NV.int .i64 (.ofNat 111)), (NV.int .u64 (.ofNat 77))]) fun v50 =>
 mK (bslM 3 false [(0, 4), (4, 4), (8, 4)] [(NV.int .i64 (.ofNat 0)), (NV.int .u64 (.ofNat 0)), (NV.int .u64 (.ofNat 0)), (NV.bool false), (NV.int .i64 (.ofNat 0)), (NV.int .u64 (.ofNat 0)), (NV.int .u64 (.ofNat 0)), (NV.bool false), (NV.int .i64 (.ofNat 0)), (NV.int .u64 (.ofNat 0)), (NV.int .u64 (.ofNat 0)), (NV.bool false)] [(chkV h37 v42), (chkV h37 v43), (chkV h37 v44)] h37) fun v51 h52 =>
 bK (bldO [(0, 4), (4, 1)] [(NV.int .i64 (.ofNat 0)), (NV.int .i64 (.ofNat 0)), (NV.int .i64 (.ofNat 0)), (NV.bool false), NV.nslice] [v41, v51]) fun v53 =>
 mK (bslM 2 false [(0, 4), (4, 4)] [(NV.int .i64 (.ofNat 0)), (NV.int .u64 (.ofNat 0)), (NV.int .u64 (.ofNat 0)), (NV.bool false), (NV.int .i64 (.ofNat 0)), (NV.int .u64 (.ofNat 0)), (NV.int .u64 (.ofNat 0)), (NV.bool false)] [(chkV h52 v49), (chkV h52 v50)] h52) fun v54 h55 =>
 bK (bldO [(0, 4), (4, 1)] [(NV.int .i64 (.ofNat 0)), (NV.int .i64 (.ofNat 0)), (NV.int .i64 (.ofNat 0)), (NV.bool false), NV.nslice] [v48, v54]) fun v56 =>
 mK (bslM 2 false [(0, 5), (5, 5)] [(NV.int .i64 (.ofNat 0)), (NV.int .i64 (.ofNat 0)), (NV.int .i64 (.ofNat 0)), (NV.bool false), NV.nslice, (NV.int .i64 (.ofNat 0)), (NV.int .i64 (.ofNat 0)), (NV.int .i64 (.ofNat 0)), (NV.bool false), NV.nslice] [(chkV h55 v53), (chkV h55 v56)] h55) fun v57 h58 =>
 bK (nilO v5) fun v59 =>
 bK (fAddr 1 v59) fun v60 =>
 mK (stM 1 (chkV h58 v60) (chkV h58 v57) h58) fun v61 h62 =>
 nextK h58 h62 (
 mK (mslM 1 true (NV.int .u8 (.ofNat 0)) (NV.int .i64 (.ofNat 65536)) (NV.int .i64 (.ofNat 65536)) h62) fun v63 h64 =>
 joinC 4 (fun v65 v66 v67 v68 h69 =>
 bK (fAddr 4 v65) fun v71 =>
 bK (ldO 1 false h69 v71) fun v72 =>
 bK (ixS 3 v72 (NV.int .i64 (.ofNat 0))) fun v73 =>
 bK (ldO 3 true h69 v73) fun v74 =>
 bK (bldO [(0, 3), (3, 1)] [(NV.int .i64 (.ofNat 0)), (NV.int .i64 (.ofNat 0)), (NV.bool false), NV.nslice] [v74, v68]) fun v75 =>
 mK (bslM 1 false [(0, 4)] [(NV.int .i64 (.ofNat 0)), (NV.int .i64 (.ofNat 0)), (NV.bool false), NV.nslice] [v75] h69) fun v76 h77 =>
 bK (nilO v66) fun v78 =>
 bK (fAddr 2 v78) fun v79 =>
 mK (stM 1 v79 v76 h77) fun v80 h81 =>
 bK (bldO [(0, 1)] [(NV.int .i64 (.ofNat 0)), (NV.bool false)] [(NV.int .i64 (.ofNat 127))]) fun v82 =>
 bK (bldO [(0, 1), (1, 1)] [(NV.int .i64 (.ofNat 0)), (NV.int .u64 (.ofNat 0)), (NV.int .u64 (.ofNat 0)), (NV.bool false)] [(NV.int .i64 (.ofNat 127)), (NV.int .u64 (.ofNat 9))]) fun v83 =>
 bK (bldO [(0, 2), (2, 4)] [(NV.int .i64 (.ofNat 0)), (NV.bool false), (NV.int .i64 (.ofNat 0)), (NV.int .u64 (.ofNat 0)), (NV.int .u64 (.ofNat 0)), (NV.bool false)] [v82, v83]) fun v84 =>
 bK (fAddr 5 v65) fun v85 =>
 bK (ldO 1 false h81 (chkV h81 v85)) fun v86 =>
 bK (ixS 3 v86 (NV.int .i64 (.ofNat 0))) fun v87 =>
 bK (fAddr 0 v87) fun v88 =>
 bK (ldO 2 true h81 (chkV h81 v88)) fun v89 =>
 bK (bldO [(0, 1), (1, 1)] [(NV.int .i64 (.ofNat 0)), (NV.int .u64 (.ofNat 0)), (NV.int .u64 (.ofNat 0)), (NV.bool false)] [(NV.int .i64 (.ofNat 126)), (NV.int .u64 (.ofNat 5))]) fun v90 =>
 bK (bldO [(0, 2), (2, 4)] [(NV.int .i64 (.ofNat 0)), (NV.bool false), (NV.int .i64 (.ofNat 0)), (NV.int .u64 (.ofNat 0)), (NV.int .u64 (.ofNat 0)), (NV.bool false)] [v89, v90]) fun v91 =>
 bK (fAddr 5 v65) fun v92 =>
 bK (ldO 1 false h81 (chkV h81 v92)) fun v93 =>
 bK (ixS 3 v93 (NV.int .i64 (.ofNat 1))) fun v94 =>
 bK (fAddr 0 v94) fun v95 =>
 bK (ldO 2 true h81 (chkV h81 v95)) fun v96 =>
 bK (bldO [(0, 1), (1, 1)] [(NV.int .i64 (.ofNat 0)), (NV.int .u64 (.ofNat 0)), (NV.int .u64 (.ofNat 0)), (NV.bool false)] [(NV.int .i64 (.ofNat 112)), (NV.int .u64 (.ofNat 2))]) fun v97 =>
 bK (bldO [(0, 2), (2, 4)] [(NV.int .i64 (.ofNat 0)), (NV.bool false), (NV.int .i64 (.ofNat 0)), (NV.int .u64 (.ofNat 0)), (NV.int .u64 (.ofNat 0)), (NV.bool false)] [v96, v97]) fun v98 =>
 mK (bslM 3 false [(0, 6), (6, 6), (12, 6)] [(NV.int .i64 (.ofNat 0)), (NV.bool false), (NV.int .i64 (.ofNat 0)), (NV.int .u64 (.ofNat 0)), (NV.int .u64 (.ofNat 0)), (NV.bool false), (NV.int .i64 (.ofNat 0)), (NV.bool false), (NV.int .i64 (.ofNat 0)), (NV.int .u64 (.ofNat 0)), (NV.int .u64 (.ofNat 0)), (NV.bool false), (NV.int .i64 (.ofNat 0)), (NV.bool false), (NV.int .i64 (.ofNat 0)), (NV.int .u64 (.ofNat 0)), (NV.int .u64 (.ofNat 0)), (NV.bool false)] [(chkV h81 v84), (chkV h81 v91), (chkV h81 v98)] h81) fun v99 h100 =>
 bK (nilO v66) fun v101 =>
 bK (fAddr 3 v101) fun v102 =>
 mK (stM 1 (chkV h100 v102) (chkV h100 v99) h100) fun v103 h104 =>
 nextK h100 h104 (
 bK (bldO [(0, 1)] [(NV.int .i64 (.ofNat 0)), (NV.int .u64 (.ofNat 0)), (NV.int .u64 (.ofNat 0)), (NV.bool false)] [(NV.int .i64 (.ofNat 112))]) fun v105 =>
 bK (ldO 4 true h104 v67) fun v106 =>
 mK (bslM 2 false [(0, 4), (4, 4)] [(NV.int .i64 (.ofNat 0)), (NV.int .u64 (.ofNat 0)), (NV.int .u64 (.ofNat 0)), (NV.bool false), (NV.int .i64 (.ofNat 0)), (NV.int .u64 (.ofNat 0)), (NV.int .u64 (.ofNat 0)), (NV.bool false)] [v105, v106] h104) fun v107 h108 =>
 mK (bslM 2 false [(0, 1), (1, 1)] [NV.nslice, NV.nslice] [v107, NV.nslice] h108) fun v109 h110 =>
 bK (nilO v66) fun v111 =>
 bK (fAddr 4 v111) fun v112 =>
 mK (stM 1 v112 v109 h110) fun v113 h114 =>
 mK (bslM 4 true [(0, 1), (1, 1), (2, 1), (3, 1)] [(NV.int .u8 (.ofNat 0)), (NV.int .u8 (.ofNat 0)), (NV.int .u8 (.ofNat 0)), (NV.int .u8 (.ofNat 0))] [(NV.int .u8 (.ofNat 100)), (NV.int .u8 (.ofNat 97)), (NV.int .u8 (.ofNat 116)), (NV.int .u8 (.ofNat 97))] h114) fun v115 h116 =>
 mK (cvbM v115 h116) fun v117 h118 =>
 mK (bslM 1 false [(0, 1)] [NV.nslice] [v117] h118) fun v119 h120 =>
 bK (nilO v66) fun v121 =>
 bK (fAddr 5 v121) fun v122 =>
 mK (stM 1 v122 v119 h120) fun v123 h124 =>
 bK (ldO 11 true h124 v65) fun v125 =>
 mK (bslM 3 false [(0, 1), (1, 1), (2, 1)] [(NV.int .i64 (.ofNat 0)), (NV.int .i64 (.ofNat 0)), (NV.int .i64 (.ofNat 0))] [(NV.int .i64 (.ofNat 0)), (NV.int .i64 (.ofNat 1)), (NV.int .i64 (.ofNat 2))] h124) fun v126 h127 =>
 mK (bslM 2 false [(0, 1), (1, 1)] [(NV.int .i64 (.ofNat 0)), (NV.int .i64 (.ofNat 0))] [(NV.int .i64 (.ofNat 0)), (NV.int .i64 (.ofNat 1))] h127) fun v128 h129 =>
 mK (bslM 1 false [(0, 1)] [(NV.int .i64 (.ofNat 0))] [(NV.int .i64 (.ofNat 0))] h129) fun v130 h131 =>
 mK (bslM 3 false [(0, 1), (1, 1), (2, 1)] [(NV.int .i64 (.ofNat 0)), (NV.int .i64 (.ofNat 0)), (NV.int .i64 (.ofNat 0))] [(NV.int .i64 (.ofNat 0)), (NV.int .i64 (.ofNat 1)), (NV.int .i64 (.ofNat 2))] h131) fun v132 h133 =>
 mK (bslM 2 false [(0, 1), (1, 1)] [(NV.int .i64 (.ofNat 0)), (NV.int .i64 (.ofNat 0))] [(NV.int .i64 (.ofNat 0)), (NV.int .i64 (.ofNat 1))] h133) fun v134 h135 =>
 mK (bslM 1 false [(0, 1)] [(NV.int .i64 (.ofNat 0))] [(NV.int .i64 (.ofNat 0))] h135) fun v136 h137 =>
 bK (bldO [(0, 11), (11, 1), (12, 1), (13, 1), (14, 1), (15, 1), (16, 1)] [NV.nslice, NV.nslice, NV.nslice, NV.nslice, NV.nslice, NV.nslice, NV.nslice, (NV.int .i64 (.ofNat 0)), NV.nslice, NV.nslice, (NV.bool false), NV.nslice, NV.nslice, NV.nslice, NV.nslice, NV.nslice, NV.nslice, NV.nslice] [v125, v126, v128, v130, v132, v134, v136]) fun v138 =>
 mK (bslM 1 false [(0, 18)] [NV.nslice, NV.nslice, NV.nslice, NV.nslice, NV.nslice, NV.nslice, NV.nslice, (NV.int .i64 (.ofNat 0)), NV.nslice, NV.nslice, (NV.bool false), NV.nslice, NV.nslice, NV.nslice, NV.nslice, NV.nslice, NV.nslice, NV.nslice] [v138] h137) fun v139 h140 =>
 bK (nilO v66) fun v141 =>
 bK (fAddr 6 v141) fun v142 =>
 mK (stM 1 v142 v139 h140) fun v143 h144 =>
 retC v66 h144)) fun J70 =>
 loopC N 5 (fun L151 v145 v146 v147 v148 v149 h150 =>
 bK (ltI v149 (NV.int .i64 (.ofNat 64))) fun v152 =>
 condK v152 (
 bK (binO .mul v149 v149) fun v153 =>
 bK (binO .mul (NV.int .i64 (.ofNat 200)) v149) fun v154 =>
 bK (addI v153 v154) fun v155 =>
 bK (cvI .u8 v155) fun v156 =>
 bK (ixS 1 v148 v149) fun v157 =>
 mK (stM 1 v157 v156 h150) fun v158 h159 =>
 bK (addI v149 (NV.int .i64 (.ofNat 1))) fun v160 =>
 L151 v145 v146 v147 v148 v160 h159) (
 J70 v145 v146 v147 v148 h150)) v2 v5 v29 v63 (NV.int .i64 (.ofNat 0)) h64)))
theorem e6 : ikB Tryz.prog 10 Tryz.f6 = S6 := by kernel_rfl
theorem k6 [Sig] (w0 : World) : SOK cW w0 6 S6 := okW Tryz.func6 (by kernel_rfl) e6
noncomputable def S7 (call : CallF) (N : Nat) (l : List NV) (h : H) : R :=
 uc l fun v0 l1 => un l1 (
 bK (bldO [] [NV.nslice, NV.nslice, NV.nslice, NV.nslice, NV.nslice, NV.nslice, NV.nslice, NV.nslice] []) fun v2 =>
 mK (boxM false v2 h) fun v3 h4 =>
 joinC 2 (fun v5 v6 h7 =>
 joinC 2 (fun v9 v10 h11 =>
 joinC 2 (fun v13 v14 h15 =>
 joinC 2 (fun v17 v18 h19 =>
 joinC 2 (fun v21 v22 h23 =>
 joinC 2 (fun v25 v26 h27 =>
 joinC 1 (fun v29 h30 =>
 retC v29 h30) fun J31 =>
 loopC N 3 (fun L36 v32 v33 v34 h35 =>
 bK (nilO v32) fun v37 =>
 bK (fAddr 6 v37) fun v38 =>
 bK (ldO 1 false h35 v38) fun v39 =>
 bK (lenSl v39) fun v40 =>
 bK (ltI v34 v40) fun v41 =>
 condK v41 (
 bK (nilO v32) fun v42 =>
 bK (fAddr 6 v42) fun v43 =>
 bK (ldO 1 false h35 v43) fun v44 =>
 bK (ixS 18 v44 v34) fun v45 =>
 bK (ldO 18 true h35 v45) fun v46 =>
 mK (alM (NB.cells [NV.nslice, NV.nslice, NV.nslice, NV.nslice, NV.nslice, NV.nslice, NV.nslice, (NV.int .i64 (.ofNat 0)), NV.nslice, NV.nslice, (NV.bool false), NV.nslice, NV.nslice, NV.nslice, NV.nslice, NV.nslice, NV.nslice, NV.nslice]) h35) fun v47 h48 =>
 mK (stM 18 v47 v46 h48) fun v49 h50 =>
 bK (nilO v33) fun v51 =>
 bK (fAddr 6 v51) fun v52 =>
 bK (ldO 1 false h50 (chkV h50 v52)) fun v53 =>
 bK (fAddr 0 v47) fun v54 =>
 bK (ldO 11 true h50 (chkV h50 v54)) fun v55 =>
 bK (fAddr 11 v47) fun v56 =>
 bK (ldO 1 false h50 (chkV h50 v56)) fun v57 =>
 bK (fAddr 12 v47) fun v58 =>
 bK (ldO 1 false h50 (chkV h50 v58)) fun v59 =>
 bK (fAddr 13 v47) fun v60 =>
 bK (ldO 1 false h50 (chkV h50 v60)) fun v61 =>
 bK (fAddr 14 v47) fun v62 =>
 bK (ldO 1 false h50 (chkV h50 v62)) fun v63 =>
 bK (fAddr 15 v47) fun v64 =>
 bK (ldO 1 false h50 (chkV h50 v64)) fun v65 =>
 bK (fAddr 16 v47) fun v66 =>
 bK (ldO 1 false h50 (chkV h50 v66)) fun v67 =>
 bK (bldO [(0, 11), (11, 1), (12, 1), (13, 1), (14, 1), (15, 1), (16, 1)] [NV.nslice, NV.nslice, NV.nslice, NV.nslice, NV.nslice, NV.nslice, NV.nslice, (NV.int .i64 (.ofNat 0)), NV.nslice, NV.nslice, (NV.bool false), NV.nslice, NV.nslice, NV.nslice, NV.nslice, NV.nslice, NV.nslice, NV.nslice] [v55, v57, v59, v61, v63, v65, v67]) fun v68 =>
 mK (boxM false (chkV h50 v68) h50) fun v69 h70 =>
 mK (bslM 1 false [(0, 1)] [NV.nilptr] [(chkV h70 v69)] h70) fun v71 h72 =>
 mK (appM Tryz.prog 114 (chkV h72 v53) (chkV h72 v71) h72) fun v73 h74 =>
 nextK h72 h74 (
 bK (nilO v33) fun v75 =>
 bK (fAddr 6 v75) fun v76 =>
 mK (stM 1 (chkV h74 v76) (chkV h74 v73) h74) fun v77 h78 =>
 nextK h74 h78 (
 bK (addI v34 (NV.int .i64 (.ofNat 1))) fun v79 =>
 L36 v32 v33 v79 h78))) (
 J31 v33 h35)) v25 v26 (NV.int .i64 (.ofNat 0)) h27) fun J28 =>
 loopC N 3 (fun L84 v80 v81 v82 h83 =>
 bK (nilO v80) fun v85 =>
 bK (fAddr 5 v85) fun v86 =>
 bK (ldO 1 false h83 v86) fun v87 =>
 bK (lenSl v87) fun v88 =>
 bK (ltI v82 v88) fun v89 =>
 condK v89 (
 bK (nilO v81) fun v90 =>
 bK (fAddr 5 v90) fun v91 =>
 bK (ldO 1 false h83 (chkV h83 v91)) fun v92 =>
 bK (nilO v80) fun v93 =>
 bK (fAddr 5 v93) fun v94 =>
 bK (ldO 1 false h83 (chkV h83 v94)) fun v95 =>
 bK (ixS 1 v95 v82) fun v96 =>
 bK (ldO 1 false h83 (chkV h83 v96)) fun v97 =>
 mK (appM Tryz.prog 5 (chkV h83 NV.nslice) (chkV h83 v97) h83) fun v98 h99 =>
 nextK h83 h99 (
 bK (ldO 1 false h99 (chkV h99 v91)) fun v100 =>
 sameK v100 v92 (
 mK (bslM 1 false [(0, 1)] [NV.nslice] [(chkV h99 v98)] h99) fun v101 h102 =>
 mK (appM Tryz.prog 75 (chkV h102 v92) (chkV h102 v101) h102) fun v103 h104 =>
 nextK h102 h104 (
 bK (nilO v81) fun v105 =>
 bK (fAddr 5 v105) fun v106 =>
 mK (stM 1 (chkV h104 v106) (chkV h104 v103) h104) fun v107 h108 =>
 nextK h104 h108 (
 bK (addI v82 (NV.int .i64 (.ofNat 1))) fun v109 =>
 L84 v80 v81 v109 h108))))) (
 J28 v80 v81 h83)) v21 v22 (NV.int .i64 (.ofNat 0)) h23) fun J24 =>
 loopC N 3 (fun L114 v110 v111 v112 h113 =>
 bK (nilO v110) fun v115 =>
 bK (fAddr 4 v115) fun v116 =>
 bK (ldO 1 false h113 v116) fun v117 =>
 bK (lenSl v117) fun v118 =>
 bK (ltI v112 v118) fun v119 =>
 condK v119 (
 bK (nilO v111) fun v120 =>
 bK (fAddr 4 v120) fun v121 =>
 bK (ldO 1 false h113 (chkV h113 v121)) fun v122 =>
 bK (nilO v110) fun v123 =>
 bK (fAddr 4 v123) fun v124 =>
 bK (ldO 1 false h113 (chkV h113 v124)) fun v125 =>
 bK (ixS 1 v125 v112) fun v126 =>
 bK (ldO 1 false h113 (chkV h113 v126)) fun v127 =>
 mK (appM Tryz.prog 59 (chkV h113 NV.nslice) (chkV h113 v127) h113) fun v128 h129 =>
 nextK h113 h129 (
 bK (ldO 1 false h129 (chkV h129 v121)) fun v130 =>
 sameK v130 v122 (
 mK (bslM 1 false [(0, 1)] [NV.nslice] [(chkV h129 v128)] h129) fun v131 h132 =>
 mK (appM Tryz.prog 47 (chkV h132 v122) (chkV h132 v131) h132) fun v133 h134 =>
 nextK h132 h134 (
 bK (nilO v111) fun v135 =>
 bK (fAddr 4 v135) fun v136 =>
 mK (stM 1 (chkV h134 v136) (chkV h134 v133) h134) fun v137 h138 =>
 nextK h134 h138 (
 bK (addI v112 (NV.int .i64 (.ofNat 1))) fun v139 =>
 L114 v110 v111 v139 h138))))) (
 J24 v110 v111 h113)) v17 v18 (NV.int .i64 (.ofNat 0)) h19) fun J20 =>
 loopC N 3 (fun L144 v140 v141 v142 h143 =>
 bK (nilO v140) fun v145 =>
 bK (fAddr 3 v145) fun v146 =>
 bK (ldO 1 false h143 v146) fun v147 =>
 bK (lenSl v147) fun v148 =>
 bK (ltI v142 v148) fun v149 =>
 condK v149 (
 bK (nilO v141) fun v150 =>
 bK (fAddr 3 v150) fun v151 =>
 bK (ldO 1 false h143 (chkV h143 v151)) fun v152 =>
 bK (nilO v140) fun v153 =>
 bK (fAddr 3 v153) fun v154 =>
 bK (ldO 1 false h143 (chkV h143 v154)) fun v155 =>
 bK (ixS 6 v155 v142) fun v156 =>
 bK (fAddr 0 v156) fun v157 =>
 bK (ldO 2 true h143 (chkV h143 v157)) fun v158 =>
 bK (nilO v140) fun v159 =>
 bK (fAddr 3 v159) fun v160 =>
 bK (ldO 1 false h143 (chkV h143 v160)) fun v161 =>
 bK (ixS 6 v161 v142) fun v162 =>
 bK (fAddr 2 v162) fun v163 =>
 bK (ldO 4 true h143 (chkV h143 v163)) fun v164 =>
 bK (bldO [(0, 2), (2, 4)] [(NV.int .i64 (.ofNat 0)), (NV.bool false), (NV.int .i64 (.ofNat 0)), (NV.int .u64 (.ofNat 0)), (NV.int .u64 (.ofNat 0)), (NV.bool false)] [v158, v164]) fun v165 =>
 mK (boxM false (chkV h143 v165) h143) fun v166 h167 =>
 mK (bslM 1 false [(0, 1)] [NV.nilptr] [(chkV h167 v166)] h167) fun v168 h169 =>
 mK (appM Tryz.prog 112 (chkV h169 v152) (chkV h169 v168) h169) fun v170 h171 =>
 nextK h169 h171 (
 bK (nilO v141) fun v172 =>
 bK (fAddr 3 v172) fun v173 =>
 mK (stM 1 (chkV h171 v173) (chkV h171 v170) h171) fun v174 h175 =>
 nextK h171 h175 (
 bK (addI v142 (NV.int .i64 (.ofNat 1))) fun v176 =>
 L144 v140 v141 v176 h175))) (
 J20 v140 v141 h143)) v13 v14 (NV.int .i64 (.ofNat 0)) h15) fun J16 =>
 loopC N 3 (fun L181 v177 v178 v179 h180 =>
 bK (nilO v177) fun v182 =>
 bK (fAddr 2 v182) fun v183 =>
 bK (ldO 1 false h180 v183) fun v184 =>
 bK (lenSl v184) fun v185 =>
 bK (ltI v179 v185) fun v186 =>
 condK v186 (
 bK (nilO v177) fun v187 =>
 bK (fAddr 2 v187) fun v188 =>
 bK (ldO 1 false h180 v188) fun v189 =>
 bK (ixS 4 v189 v179) fun v190 =>
 bK (fAddr 3 v190) fun v191 =>
 bK (ldO 1 false h180 v191) fun v192 =>
 mK (appM Tryz.prog 5 NV.nslice v192 h180) fun v193 h194 =>
 bK (nilO v178) fun v195 =>
 bK (fAddr 2 v195) fun v196 =>
 bK (ldO 1 false h194 (chkV h194 v196)) fun v197 =>
 bK (nilO v177) fun v198 =>
 bK (fAddr 2 v198) fun v199 =>
 bK (ldO 1 false h194 (chkV h194 v199)) fun v200 =>
 bK (ixS 4 v200 v179) fun v201 =>
 bK (fAddr 0 v201) fun v202 =>
 bK (ldO 3 true h194 (chkV h194 v202)) fun v203 =>
 bK (bldO [(0, 3), (3, 1)] [(NV.int .i64 (.ofNat 0)), (NV.int .i64 (.ofNat 0)), (NV.bool false), NV.nslice] [v203, v193]) fun v204 =>
 mK (boxM false (chkV h194 v204) h194) fun v205 h206 =>
 mK (bslM 1 false [(0, 1)] [NV.nilptr] [(chkV h206 v205)] h206) fun v207 h208 =>
 mK (appM Tryz.prog 110 (chkV h208 v197) (chkV h208 v207) h208) fun v209 h210 =>
 nextK h208 h210 (
 bK (nilO v178) fun v211 =>
 bK (fAddr 2 v211) fun v212 =>
 mK (stM 1 (chkV h210 v212) (chkV h210 v209) h210) fun v213 h214 =>
 nextK h210 h214 (
 bK (addI v179 (NV.int .i64 (.ofNat 1))) fun v215 =>
 L181 v177 v178 v215 h214))) (
 J16 v177 v178 h180)) v9 v10 (NV.int .i64 (.ofNat 0)) h11) fun J12 =>
 loopC N 3 (fun L220 v216 v217 v218 h219 =>
 bK (nilO v216) fun v221 =>
 bK (fAddr 1 v221) fun v222 =>
 bK (ldO 1 false h219 v222) fun v223 =>
 bK (lenSl v223) fun v224 =>
 bK (ltI v218 v224) fun v225 =>
 condK v225 (
 bK (nilO v216) fun v226 =>
 bK (fAddr 1 v226) fun v227 =>
 bK (ldO 1 false h219 v227) fun v228 =>
 bK (ixS 5 v228 v218) fun v229 =>
 bK (fAddr 4 v229) fun v230 =>
 bK (ldO 1 false h219 v230) fun v231 =>
 mK (appM Tryz.prog 59 NV.nslice v231 h219) fun v232 h233 =>
 bK (nilO v217) fun v234 =>
 bK (fAddr 1 v234) fun v235 =>
 bK (ldO 1 false h233 (chkV h233 v235)) fun v236 =>
 bK (nilO v216) fun v237 =>
 bK (fAddr 1 v237) fun v238 =>
 bK (ldO 1 false h233 (chkV h233 v238)) fun v239 =>
 bK (ixS 5 v239 v218) fun v240 =>
 bK (fAddr 0 v240) fun v241 =>
 bK (ldO 4 true h233 (chkV h233 v241)) fun v242 =>
 bK (bldO [(0, 4), (4, 1)] [(NV.int .i64 (.ofNat 0)), (NV.int .i64 (.ofNat 0)), (NV.int .i64 (.ofNat 0)), (NV.bool false), NV.nslice] [v242, v232]) fun v243 =>
 mK (boxM false (chkV h233 v243) h233) fun v244 h245 =>
 mK (bslM 1 false [(0, 1)] [NV.nilptr] [(chkV h245 v244)] h245) fun v246 h247 =>
 mK (appM Tryz.prog 108 (chkV h247 v236) (chkV h247 v246) h247) fun v248 h249 =>
 nextK h247 h249 (
 bK (nilO v217) fun v250 =>
 bK (fAddr 1 v250) fun v251 =>
 mK (stM 1 (chkV h249 v251) (chkV h249 v248) h249) fun v252 h253 =>
 nextK h249 h253 (
 bK (addI v218 (NV.int .i64 (.ofNat 1))) fun v254 =>
 L220 v216 v217 v254 h253))) (
 J12 v216 v217 h219)) v5 v6 (NV.int .i64 (.ofNat 0)) h7) fun J8 =>
 loopC N 3 (fun L259 v255 v256 v257 h258 =>
 bK (nilO v255) fun v260 =>
 bK (fAddr 0 v260) fun v261 =>
 bK (ldO 1 false h258 v261) fun v262 =>
 bK (lenSl v262) fun v263 =>
 bK (ltI v257 v263) fun v264 =>
 condK v264 (
 bK (nilO v255) fun v265 =>
 bK (fAddr 0 v265) fun v266 =>
 bK (ldO 1 false h258 v266) fun v267 =>
 bK (ixS 5 v267 v257) fun v268 =>
 bK (ldO 5 true h258 v268) fun v269 =>
 mK (alM (NB.cells [NV.nslice, NV.nslice, (NV.int .i64 (.ofNat 0)), (NV.int .i64 (.ofNat 0)), (NV.int .i64 (.ofNat 0))]) h258) fun v270 h271 =>
 mK (stM 5 v270 v269 h271) fun v272 h273 =>
 bK (nilO v256) fun v274 =>
 bK (fAddr 0 v274) fun v275 =>
 bK (ldO 1 false h273 (chkV h273 v275)) fun v276 =>
 bK (fAddr 0 v270) fun v277 =>
 bK (ldO 2 true h273 (chkV h273 v277)) fun v278 =>
 bK (fAddr 2 v270) fun v279 =>
 bK (ldO 1 false h273 (chkV h273 v279)) fun v280 =>
 bK (fAddr 3 v270) fun v281 =>
 bK (ldO 1 false h273 (chkV h273 v281)) fun v282 =>
 bK (fAddr 4 v270) fun v283 =>
 bK (ldO 1 false h273 (chkV h273 v283)) fun v284 =>
 bK (bldO [(0, 2), (2, 1), (3, 1), (4, 1)] [NV.nslice, NV.nslice, (NV.int .i64 (.ofNat 0)), (NV.int .i64 (.ofNat 0)), (NV.int .i64 (.ofNat 0))] [v278, v280, v282, v284]) fun v285 =>
 mK (bslM 1 false [(0, 5)] [NV.nslice, NV.nslice, (NV.int .i64 (.ofNat 0)), (NV.int .i64 (.ofNat 0)), (NV.int .i64 (.ofNat 0))] [(chkV h273 v285)] h273) fun v286 h287 =>
 mK (appM Tryz.prog 107 (chkV h287 v276) (chkV h287 v286) h287) fun v288 h289 =>
 nextK h287 h289 (
 bK (nilO v256) fun v290 =>
 bK (fAddr 0 v290) fun v291 =>
 mK (stM 1 (chkV h289 v291) (chkV h289 v288) h289) fun v292 h293 =>
 nextK h289 h293 (
 bK (addI v257 (NV.int .i64 (.ofNat 1))) fun v294 =>
 L259 v255 v256 v294 h293))) (
 J8 v255 v256 h258)) v0 v3 (NV.int .i64 (.ofNat 0)) h4)
theorem e7 : ikB Tryz.prog 10 Tryz.f7 = S7 := by kernel_rfl
theorem k7 [Sig] (w0 : World) : SOK cW w0 7 S7 := okW Tryz.func7 (by kernel_rfl) e7
noncomputable def S8 (call : CallF) (N : Nat) (l : List NV) (h : H) : R :=
 uc l fun v0 l1 => uc l1 fun v2 l3 => uc l3 fun v4 l5 => uc l5 fun v6 l7 => un l7 (
 mK (boxM false v6 h) fun v8 h9 =>
 bK (eqD Tryz.prog .eql 45 h9 v0 NV.nilptr) fun v10 =>
 jK (fun v11 h12 =>
 jK (fun v14 h15 =>
 bK (pickO v10 (NV.bool true) v14) fun v17 =>
 jK (fun v18 h19 =>
 jK (fun v21 h22 =>
 jK (fun v24 h25 =>
 jK (fun v27 h28 =>
 jK (fun v30 h31 =>
 jK (fun v33 h34 =>
 jK (fun v36 h37 =>
 bK (pickO v17 (NV.bool true) v36) fun v39 =>
 jK (fun v40 h41 =>
 jK (fun v43 h44 =>
 jK (fun v46 h47 =>
 bK (pickO v39 (NV.bool true) v46) fun v49 =>
 jK (fun v50 h51 =>
 jK (fun v53 h54 =>
 jK (fun v56 h57 =>
 bK (pickO v49 (NV.bool true) v56) fun v59 =>
 jK (fun v60 h61 =>
 jK (fun v63 h64 =>
 jK (fun v66 h67 =>
 bK (pickO v59 (NV.bool true) v66) fun v69 =>
 condK v69 (
 retC (NV.tuple [NV.nslice, (NV.int .i64 (.ofNat 0)), (NV.int .i64 (.ofNat 1))]) h67) (
 bK (nilO v0) fun v70 =>
 bK (fAddr 0 v70) fun v71 =>
 bK (ldO 1 false h67 v71) fun v72 =>
 bK (ixS 5 v72 v2) fun v73 =>
 bK (fAddr 0 v73) fun v74 =>
 bK (ldO 2 true h67 v74) fun v75 =>
 mK (alM (NB.cells [NV.nslice, NV.nslice]) h67) fun v76 h77 =>
 mK (stM 2 v76 v75 h77) fun v78 h79 =>
 bK (lenSl v4) fun v80 =>
 bK (fAddr 0 v76) fun v81 =>
 bK (ldO 1 false h79 v81) fun v82 =>
 bK (lenSl v82) fun v83 =>
 bK (neI v80 v83) fun v84 =>
 condK v84 (
 retC (NV.tuple [NV.nslice, (NV.int .i64 (.ofNat 0)), (NV.int .i64 (.ofNat 61))]) h79) (
 bK (lenSl v4) fun v85 =>
 joinC 4 (fun v86 v87 v88 v89 h90 =>
 bK (ldO 3 true h90 (chkV h90 v89)) fun v92 =>
 mK (calM call 14 [(chkV h90 v88)] h90) fun v93 h94 =>
 nextK h90 h94 (
 bK (ldO 3 true h94 (chkV h94 v89)) fun v95 =>
 sameK v95 v92 (
 mK (mapM none h94) fun v96 h97 =>
 bK (bldO [(0, 1), (1, 3), (6, 1), (7, 1)] [NV.nilptr, (NV.int .i64 (.ofNat 0)), (NV.int .i64 (.ofNat 0)), (NV.int .i64 (.ofNat 0)), (NV.int .i64 (.ofNat 0)), NV.nslice, NV.nslice, NV.nmap] [v86, v92, v93, v96]) fun v98 =>
 mK (boxM false (chkV h97 v98) h97) fun v99 h100 =>
 mK (calM call 15 [v99, v87] h100) fun v101 h102 =>
 joinC 2 (fun v103 v104 h105 =>
 bK (neI v104 (NV.int .i64 (.ofNat 0))) fun v107 =>
 condK v107 (
 bK (nilO v103) fun v108 =>
 bK (fAddr 4 v108) fun v109 =>
 bK (ldO 1 false h105 (chkV h105 v109)) fun v110 =>
 retC (NV.tuple [NV.nslice, v110, v104]) h105) (
 bK (nilO v103) fun v111 =>
 bK (fAddr 6 v111) fun v112 =>
 bK (ldO 1 false h105 (chkV h105 v112)) fun v113 =>
 bK (nilO v103) fun v114 =>
 bK (fAddr 4 v114) fun v115 =>
 bK (ldO 1 false h105 (chkV h105 v115)) fun v116 =>
 retC (NV.tuple [v113, v116, (NV.int .i64 (.ofNat 0))]) h105)) fun J106 =>
 loopC N 2 (fun L120 v117 v118 h119 =>
 bK (eqI v118 (NV.int .i64 (.ofNat 0))) fun v121 =>
 jK (fun v122 h123 =>
 jK (fun v125 h126 =>
 jK (fun v128 h129 =>
 jK (fun v131 h132 =>
 jK (fun v134 h135 =>
 jK (fun v137 h138 =>
 bK (pickO v121 v137 (NV.bool false)) fun v140 =>
 condK v140 (
 mK (calM call 16 [v117] h138) fun v141 h142 =>
 L120 v117 v141 h142) (
 J106 v117 v118 h138)) fun J139 => gK v121 true (
 bK (gtI v134 (NV.int .i64 (.ofNat 0))) fun v143 =>
 J139 v143 h135) (J139 (NV.tuple []) h135)) fun J136 => gK v121 true (
 bK (lenSl v131) fun v144 =>
 J136 v144 h132) (J136 (NV.tuple []) h132)) fun J133 => gK v121 true (
 bK (ldO 1 false h129 v128) fun v145 =>
 J133 v145 h129) (J133 (NV.tuple []) h129)) fun J130 => gK v121 true (
 bK (fAddr 5 v125) fun v146 =>
 J130 v146 h126) (J130 (NV.tuple []) h126)) fun J127 => gK v121 true (
 bK (nilO v122) fun v147 =>
 J127 v147 h123) (J127 (NV.tuple []) h123)) fun J124 => gK v121 true (
 J124 v117 h119) (J124 (NV.tuple []) h119)) v99 v101 h102))) fun J91 =>
 loopC N 8 (fun L157 v148 v149 v150 v151 v152 v153 v154 v155 h156 =>
 bK (ltI v155 v154) fun v158 =>
 condK v158 (
 bK (ixS 4 v153 v155) fun v159 =>
 bK (ldO 4 true h156 v159) fun v160 =>
 mK (alM (NB.cells [(NV.int .i64 (.ofNat 0)), (NV.int .u64 (.ofNat 0)), (NV.int .u64 (.ofNat 0)), (NV.bool false)]) h156) fun v161 h162 =>
 mK (stM 4 v161 v160 h162) fun v163 h164 =>
 bK (ldO 4 true h164 (chkV h164 v161)) fun v165 =>
 bK (fAddr 0 v152) fun v166 =>
 bK (ldO 1 false h164 (chkV h164 v166)) fun v167 =>
 bK (ixS 1 v167 v155) fun v168 =>
 bK (ldO 1 false h164 (chkV h164 v168)) fun v169 =>
 mK (calM call 13 [(chkV h164 v148), (chkV h164 v165), (chkV h164 v169)] h164) fun v170 h171 =>
 nextK h164 h171 (
 bK (notO v170) fun v172 =>
 condK v172 (
 retC (NV.tuple [NV.nslice, (NV.int .i64 (.ofNat 0)), (NV.int .i64 (.ofNat 61))]) h171) (
 bK (addI v155 (NV.int .i64 (.ofNat 1))) fun v173 =>
 L157 v148 v149 v150 v151 v152 v153 v154 v173 h171))) (
 J91 v148 v149 v150 v151 h156)) v0 v2 v4 v8 v76 v4 v85 (NV.int .i64 (.ofNat 0)) h79))) fun J68 => gK v59 false (
 bK (ltI v63 (NV.int .i64 (.ofNat 0))) fun v174 =>
 J68 v174 h64) (J68 (NV.tuple []) h64)) fun J65 => gK v59 false (
 bK (ldO 1 false h61 v60) fun v175 =>
 J65 v175 h61) (J65 (NV.tuple []) h61)) fun J62 => gK v59 false (
 bK (fAddr 2 v8) fun v176 =>
 J62 v176 h57) (J62 (NV.tuple []) h57)) fun J58 => gK v49 false (
 bK (ltI v53 (NV.int .i64 (.ofNat 0))) fun v177 =>
 J58 v177 h54) (J58 (NV.tuple []) h54)) fun J55 => gK v49 false (
 bK (ldO 1 false h51 v50) fun v178 =>
 J55 v178 h51) (J55 (NV.tuple []) h51)) fun J52 => gK v49 false (
 bK (fAddr 1 v8) fun v179 =>
 J52 v179 h47) (J52 (NV.tuple []) h47)) fun J48 => gK v39 false (
 bK (ltI v43 (NV.int .i64 (.ofNat 0))) fun v180 =>
 J48 v180 h44) (J48 (NV.tuple []) h44)) fun J45 => gK v39 false (
 bK (ldO 1 false h41 v40) fun v181 =>
 J45 v181 h41) (J45 (NV.tuple []) h41)) fun J42 => gK v39 false (
 bK (fAddr 0 v8) fun v182 =>
 J42 v182 h37) (J42 (NV.tuple []) h37)) fun J38 => gK v17 false (
 bK (geI v18 v33) fun v183 =>
 J38 v183 h34) (J38 (NV.tuple []) h34)) fun J35 => gK v17 false (
 bK (lenSl v30) fun v184 =>
 J35 v184 h31) (J35 (NV.tuple []) h31)) fun J32 => gK v17 false (
 bK (ldO 1 false h28 v27) fun v185 =>
 J32 v185 h28) (J32 (NV.tuple []) h28)) fun J29 => gK v17 false (
 bK (fAddr 0 v24) fun v186 =>
 J29 v186 h25) (J29 (NV.tuple []) h25)) fun J26 => gK v17 false (
 bK (nilO v21) fun v187 =>
 J26 v187 h22) (J26 (NV.tuple []) h22)) fun J23 => gK v17 false (
 J23 v0 h19) (J23 (NV.tuple []) h19)) fun J20 => gK v17 false (
 J20 v2 h15) (J20 (NV.tuple []) h15)) fun J16 => gK v10 false (
 bK (ltI v11 (NV.int .i64 (.ofNat 0))) fun v188 =>
 J16 v188 h12) (J16 (NV.tuple []) h12)) fun J13 => gK v10 false (
 J13 v2 h9) (J13 (NV.tuple []) h9))
theorem e8 : ikB Tryz.prog 10 Tryz.f8 = S8 := by kernel_rfl
theorem k8 [Sig] (w0 : World) : SOK cW w0 8 S8 := okW Tryz.func8 (by kernel_rfl) e8
noncomputable def S9 (call : CallF) (N : Nat) (l : List NV) (h : H) : R :=
 uc l fun v0 l1 => uc l1 fun v2 l3 => uc l3 fun v4 l5 => uc l5 fun v6 l7 => uc l7 fun v8 l9 => uc l9 fun v10 l11 => un l11 (
 bK (ltI v2 (NV.int .i64 (.ofNat 0))) fun v12 =>
 jK (fun v13 h14 =>
 jK (fun v16 h17 =>
 jK (fun v19 h20 =>
 jK (fun v22 h23 =>
 jK (fun v25 h26 =>
 jK (fun v28 h29 =>
 jK (fun v31 h32 =>
 bK (pickO v12 (NV.bool true) v31) fun v34 =>
 jK (fun v35 h36 =>
 jK (fun v38 h39 =>
 bK (pickO v34 (NV.bool true) v38) fun v41 =>
 jK (fun v42 h43 =>
 jK (fun v45 h46 =>
 bK (pickO v41 (NV.bool true) v45) fun v48 =>
 jK (fun v49 h50 =>
 jK (fun v52 h53 =>
 bK (pickO v48 (NV.bool true) v52) fun v55 =>
 condK v55 (
 retC (NV.tuple [NV.nslice, (NV.int .i64 (.ofNat 0)), (NV.int .i64 (.ofNat 1))]) h53) (
 bK (nilO v0) fun v56 =>
 bK (fAddr 0 v56) fun v57 =>
 bK (ldO 1 false h53 v57) fun v58 =>
 bK (ixS 5 v58 v2) fun v59 =>
 bK (fAddr 0 v59) fun v60 =>
 bK (ldO 2 true h53 v60) fun v61 =>
 mK (alM (NB.cells [NV.nslice, NV.nslice]) h53) fun v62 h63 =>
 mK (stM 2 v62 v61 h63) fun v64 h65 =>
 bK (lenSl v4) fun v66 =>
 bK (fAddr 0 v62) fun v67 =>
 bK (ldO 1 false h65 v67) fun v68 =>
 bK (lenSl v68) fun v69 =>
 bK (neI v66 v69) fun v70 =>
 condK v70 (
 retC (NV.tuple [NV.nslice, (NV.int .i64 (.ofNat 0)), (NV.int .i64 (.ofNat 61))]) h65) (
 joinC 6 (fun v71 v72 v73 v74 v75 v76 h77 =>
 bK (bldO [(0, 1), (1, 1), (2, 1), (3, 1)] [NV.nilptr, (NV.int .i64 (.ofNat 0)), (NV.int .i64 (.ofNat 0)), (NV.int .i64 (.ofNat 0)), (NV.int .i64 (.ofNat 0)), (NV.int .i64 (.ofNat 0)), (NV.int .i64 (.ofNat 0))] [v71, v74, v75, v76]) fun v79 =>
 mK (boxM false v79 h77) fun v80 h81 =>
 mK (calM call 18 [v80, v72, v73] h81) fun v82 h83 =>
 bK (nilO v80) fun v84 =>
 bK (fAddr 6 v84) fun v85 =>
 bK (ldO 1 false h83 v85) fun v86 =>
 bK (neI v86 (NV.int .i64 (.ofNat 0))) fun v87 =>
 condK v87 (
 bK (nilO v80) fun v88 =>
 bK (fAddr 4 v88) fun v89 =>
 bK (ldO 1 false h83 (chkV h83 v89)) fun v90 =>
 bK (nilO v80) fun v91 =>
 bK (fAddr 6 v91) fun v92 =>
 bK (ldO 1 false h83 (chkV h83 v92)) fun v93 =>
 retC (NV.tuple [NV.nslice, v90, v93]) h83) (
 bK (nilO v80) fun v94 =>
 bK (fAddr 4 v94) fun v95 =>
 bK (ldO 1 false h83 (chkV h83 v95)) fun v96 =>
 retC (NV.tuple [v82, v96, (NV.int .i64 (.ofNat 0))]) h83)) fun J78 =>
 loopC N 8 (fun L106 v97 v98 v99 v100 v101 v102 v103 v104 h105 =>
 bK (lenSl v99) fun v107 =>
 bK (ltI v104 v107) fun v108 =>
 condK v108 (
 bK (ixS 4 v99 v104) fun v109 =>
 bK (ldO 4 true h105 (chkV h105 v109)) fun v110 =>
 bK (fAddr 0 v103) fun v111 =>
 bK (ldO 1 false h105 (chkV h105 v111)) fun v112 =>
 bK (ixS 1 v112 v104) fun v113 =>
 bK (ldO 1 false h105 (chkV h105 v113)) fun v114 =>
 mK (calM call 17 [(chkV h105 v97), (chkV h105 v110), (chkV h105 v114)] h105) fun v115 h116 =>
 nextK h105 h116 (
 bK (notO v115) fun v117 =>
 condK v117 (
 retC (NV.tuple [NV.nslice, (NV.int .i64 (.ofNat 0)), (NV.int .i64 (.ofNat 61))]) h116) (
 bK (addI v104 (NV.int .i64 (.ofNat 1))) fun v118 =>
 L106 v97 v98 v99 v100 v101 v102 v103 v118 h116))) (
 J78 v97 v98 v99 v100 v101 v102 h105)) v0 v2 v4 v6 v8 v10 v62 (NV.int .i64 (.ofNat 0)) h65))) fun J54 => gK v48 false (
 bK (ltI v49 (NV.int .i64 (.ofNat 0))) fun v119 =>
 J54 v119 h50) (J54 (NV.tuple []) h50)) fun J51 => gK v48 false (
 J51 v10 h46) (J51 (NV.tuple []) h46)) fun J47 => gK v41 false (
 bK (ltI v42 (NV.int .i64 (.ofNat 0))) fun v120 =>
 J47 v120 h43) (J47 (NV.tuple []) h43)) fun J44 => gK v41 false (
 J44 v8 h39) (J44 (NV.tuple []) h39)) fun J40 => gK v34 false (
 bK (ltI v35 (NV.int .i64 (.ofNat 0))) fun v121 =>
 J40 v121 h36) (J40 (NV.tuple []) h36)) fun J37 => gK v34 false (
 J37 v6 h32) (J37 (NV.tuple []) h32)) fun J33 => gK v12 false (
 bK (geI v13 v28) fun v122 =>
 J33 v122 h29) (J33 (NV.tuple []) h29)) fun J30 => gK v12 false (
 bK (lenSl v25) fun v123 =>
 J30 v123 h26) (J30 (NV.tuple []) h26)) fun J27 => gK v12 false (
 bK (ldO 1 false h23 v22) fun v124 =>
 J27 v124 h23) (J27 (NV.tuple []) h23)) fun J24 => gK v12 false (
 bK (fAddr 0 v19) fun v125 =>
 J24 v125 h20) (J24 (NV.tuple []) h20)) fun J21 => gK v12 false (
 bK (nilO v16) fun v126 =>
 J21 v126 h17) (J21 (NV.tuple []) h17)) fun J18 => gK v12 false (
 J18 v0 h14) (J18 (NV.tuple []) h14)) fun J15 => gK v12 false (
 J15 v2 h) (J15 (NV.tuple []) h))
theorem e9 : ikB Tryz.prog 10 Tryz.f9 = S9 := by kernel_rfl
theorem k9 [Sig] (w0 : World) : SOK cW w0 9 S9 := okW Tryz.func9 (by kernel_rfl) e9
noncomputable def S10 (call : CallF) (N : Nat) (l : List NV) (h : H) : R :=
 uc l fun v0 l1 => un l1 (
 mK (boxM false v0 h) fun v2 h3 =>
 bK (ldO 11 true h3 v2) fun v4 =>
 mK (calM call 19 [v4] h3) fun v5 h6 =>
 bK (notO v5) fun v7 =>
 condK v7 (
 retC (NV.int .i64 (.ofNat 1)) h6) (
 bK (ldO 11 true h6 v2) fun v8 =>
 mK (calM call 20 [v8] h6) fun v9 h10 =>
 mK (alM (NB.cells [NV.nslice, NV.nslice, NV.nslice, NV.nslice, NV.nslice, NV.nslice, NV.nslice, (NV.int .i64 (.ofNat 0)), NV.nslice, NV.nslice, (NV.bool false), NV.nslice, NV.nslice, NV.nslice, NV.nslice, (NV.int .i64 (.ofNat 0))]) h10) fun v11 h12 =>
 mK (stM 16 v11 v9 h12) fun v13 h14 =>
 bK (fAddr 13 v11) fun v15 =>
 bK (ldO 1 false h14 v15) fun v16 =>
 bK (lenSl v16) fun v17 =>
 bK (leI v17 (NV.int .i64 (.ofNat 1))) fun v18 =>
 joinC 3 (fun v19 v20 v21 h22 =>
 joinC 3 (fun v24 v25 v26 h27 =>
 joinC 3 (fun v29 v30 v31 h32 =>
 joinC 3 (fun v34 v35 v36 h37 =>
 bK (fAddr 7 v34) fun v39 =>
 bK (ldO 1 false h37 v39) fun v40 =>
 bK (gtI v40 (NV.int .i64 (.ofNat 0))) fun v41 =>
 joinC 3 (fun v42 v43 v44 h45 =>
 jK (fun v47 h48 =>
 jK (fun v50 h51 =>
 bK (pickO v44 v50 (NV.bool false)) fun v53 =>
 jK (fun v54 h55 =>
 jK (fun v57 h58 =>
 bK (pickO v53 v57 (NV.bool false)) fun v60 =>
 joinC 1 (fun v61 h62 =>
 bK (notO v61) fun v64 =>
 condK v64 (
 retC (NV.int .i64 (.ofNat 20)) h62) (
 retC (NV.int .i64 (.ofNat 0)) h62)) fun J63 =>
 loopC N 4 (fun L70 v65 v66 v67 v68 h69 =>
 bK (fAddr 2 v65) fun v71 =>
 bK (ldO 1 false h69 v71) fun v72 =>
 bK (lenSl v72) fun v73 =>
 bK (ltI v68 v73) fun v74 =>
 jK (fun v75 h76 =>
 bK (pickO v74 v75 (NV.bool false)) fun v78 =>
 condK v78 (
 bK (ldO 16 true h76 v66) fun v79 =>
 bK (fAddr 11 v66) fun v80 =>
 bK (ldO 1 false h76 v80) fun v81 =>
 bK (lenSl v81) fun v82 =>
 bK (fAddr 2 v65) fun v83 =>
 bK (ldO 1 false h76 v83) fun v84 =>
 bK (lenSl v84) fun v85 =>
 bK (subI v82 v85) fun v86 =>
 bK (addI v86 v68) fun v87 =>
 mK (calM call 21 [v79, v87] h76) fun v88 h89 =>
 bK (extO 0 v88) fun v90 =>
 bK (extO 1 v88) fun v91 =>
 mK (alM (NB.cells [NV.nslice, NV.nslice]) h89) fun v92 h93 =>
 mK (stM 2 v92 v90 h93) fun v94 h95 =>
 bK (fAddr 0 v92) fun v96 =>
 bK (ldO 1 false h95 v96) fun v97 =>
 mK (appM Tryz.prog 3 NV.nslice v97 h95) fun v98 h99 =>
 bK (ldO 16 true h99 (chkV h99 v66)) fun v100 =>
 bK (fAddr 2 v65) fun v101 =>
 bK (ldO 1 false h99 (chkV h99 v101)) fun v102 =>
 bK (ixS 3 v102 v68) fun v103 =>
 bK (fAddr 1 v103) fun v104 =>
 bK (ldO 1 false h99 (chkV h99 v104)) fun v105 =>
 bK (fAddr 1 v92) fun v106 =>
 bK (ldO 1 false h99 (chkV h99 v106)) fun v107 =>
 mK (appM Tryz.prog 3 (chkV h99 v98) (chkV h99 v105) h99) fun v108 h109 =>
 nextK h99 h109 (
 bK (bldO [(0, 16), (16, 1), (17, 1)] [NV.nslice, NV.nslice, NV.nslice, NV.nslice, NV.nslice, NV.nslice, NV.nslice, (NV.int .i64 (.ofNat 0)), NV.nslice, NV.nslice, (NV.bool false), NV.nslice, NV.nslice, NV.nslice, NV.nslice, (NV.int .i64 (.ofNat 0)), NV.nslice, NV.nslice] [v100, v108, v107]) fun v110 =>
 bK (ldO 16 true h109 (chkV h109 v66)) fun v111 =>
 sameK v111 v100 (
 bK (ldO 1 false h109 (chkV h109 v106)) fun v112 =>
 sameK v112 v107 (
 mK (alM (NB.cells [NV.nslice, NV.nslice, NV.nslice, NV.nslice, NV.nslice, NV.nslice, NV.nslice, (NV.int .i64 (.ofNat 0)), NV.nslice, NV.nslice, (NV.bool false), NV.nslice, NV.nslice, NV.nslice, NV.nslice, (NV.int .i64 (.ofNat 0)), NV.nslice, NV.nslice]) h109) fun v113 h114 =>
 mK (stM 18 (chkV h114 v113) (chkV h114 v110) h114) fun v115 h116 =>
 nextK h114 h116 (
 bK (ldO 18 true h116 (chkV h116 v113)) fun v117 =>
 bK (fAddr 1 v92) fun v118 =>
 bK (ldO 1 false h116 (chkV h116 v118)) fun v119 =>
 bK (fAddr 1 v92) fun v120 =>
 bK (ldO 1 false h116 (chkV h116 v120)) fun v121 =>
 bK (fAddr 2 v65) fun v122 =>
 bK (ldO 1 false h116 (chkV h116 v122)) fun v123 =>
 bK (ixS 3 v123 v68) fun v124 =>
 bK (fAddr 2 v124) fun v125 =>
 bK (ldO 1 false h116 (chkV h116 v125)) fun v126 =>
 mK (bslM 1 false [(0, 1)] [NV.nslice] [(chkV h116 v121)] h116) fun v127 h128 =>
 mK (calM call 25 [(chkV h128 v117), NV.nslice, (chkV h128 v119), (chkV h128 v127), (chkV h128 v126)] h128) fun v129 h130 =>
 nextK h128 h130 (
 bK (addI v68 (NV.int .i64 (.ofNat 1))) fun v131 =>
 L70 v65 v66 v129 v131 h130)))))) (
 J63 v67 h76)) fun J77 => gK v74 true (
 J77 v67 h69) (J77 (NV.tuple []) h69)) v42 v43 v60 (NV.int .i64 (.ofNat 0)) h58) fun J59 => gK v53 true (
 mK (calM call 24 [v54] h55) fun v132 h133 =>
 J59 v132 h133) (J59 (NV.tuple []) h55)) fun J56 => gK v53 true (
 bK (ldO 16 true h51 v43) fun v134 =>
 J56 v134 h51) (J56 (NV.tuple []) h51)) fun J52 => gK v44 true (
 mK (calM call 23 [v47] h48) fun v135 h136 =>
 J52 v135 h136) (J52 (NV.tuple []) h48)) fun J49 => gK v44 true (
 bK (ldO 16 true h45 v43) fun v137 =>
 J49 v137 h45) (J49 (NV.tuple []) h45)) fun J46 =>
 condK v41 (
 bK (ldO 16 true h37 v35) fun v138 =>
 bK (fAddr 7 v34) fun v139 =>
 bK (ldO 1 false h37 v139) fun v140 =>
 bK (subI v140 (NV.int .i64 (.ofNat 1))) fun v141 =>
 mK (calM call 21 [v138, v141] h37) fun v142 h143 =>
 bK (extO 0 v142) fun v144 =>
 bK (extO 1 v142) fun v145 =>
 mK (alM (NB.cells [NV.nslice, NV.nslice]) h143) fun v146 h147 =>
 mK (stM 2 v146 v144 h147) fun v148 h149 =>
 jK (fun v150 h151 =>
 bK (pickO v36 v150 (NV.bool false)) fun v153 =>
 jK (fun v154 h155 =>
 jK (fun v157 h158 =>
 jK (fun v160 h161 =>
 jK (fun v163 h164 =>
 bK (pickO v153 v163 (NV.bool false)) fun v166 =>
 jK (fun v167 h168 =>
 jK (fun v170 h171 =>
 jK (fun v173 h174 =>
 jK (fun v176 h177 =>
 bK (pickO v166 v176 (NV.bool false)) fun v179 =>
 J46 v34 v35 v179 h177) fun J178 => gK v166 true (
 bK (eqI v173 (NV.int .i64 (.ofNat 0))) fun v180 =>
 J178 v180 h174) (J178 (NV.tuple []) h174)) fun J175 => gK v166 true (
 bK (lenSl v170) fun v181 =>
 J175 v181 h171) (J175 (NV.tuple []) h171)) fun J172 => gK v166 true (
 bK (ldO 1 false h168 v167) fun v182 =>
 J172 v182 h168) (J172 (NV.tuple []) h168)) fun J169 => gK v166 true (
 bK (fAddr 1 v146) fun v183 =>
 J169 v183 h164) (J169 (NV.tuple []) h164)) fun J165 => gK v153 true (
 bK (eqI v160 (NV.int .i64 (.ofNat 0))) fun v184 =>
 J165 v184 h161) (J165 (NV.tuple []) h161)) fun J162 => gK v153 true (
 bK (lenSl v157) fun v185 =>
 J162 v185 h158) (J162 (NV.tuple []) h158)) fun J159 => gK v153 true (
 bK (ldO 1 false h155 v154) fun v186 =>
 J159 v186 h155) (J159 (NV.tuple []) h155)) fun J156 => gK v153 true (
 bK (fAddr 0 v146) fun v187 =>
 J156 v187 h151) (J156 (NV.tuple []) h151)) fun J152 => gK v36 true (
 J152 v145 h149) (J152 (NV.tuple []) h149)) (
 J46 v34 v35 v36 h37)) fun J38 =>
 loopC N 4 (fun L193 v188 v189 v190 v191 h192 =>
 bK (fAddr 5 v188) fun v194 =>
 bK (ldO 1 false h192 v194) fun v195 =>
 bK (lenSl v195) fun v196 =>
 bK (ltI v191 v196) fun v197 =>
 condK v197 (
 bK (ldO 16 true h192 (chkV h192 v189)) fun v198 =>
 bK (fAddr 5 v188) fun v199 =>
 bK (ldO 1 false h192 (chkV h192 v199)) fun v200 =>
 bK (ixS 3 v200 v191) fun v201 =>
 bK (fAddr 2 v201) fun v202 =>
 bK (ldO 1 false h192 (chkV h192 v202)) fun v203 =>
 bK (fAddr 5 v188) fun v204 =>
 bK (ldO 1 false h192 (chkV h192 v204)) fun v205 =>
 bK (ixS 3 v205 v191) fun v206 =>
 bK (fAddr 0 v206) fun v207 =>
 bK (fAddr 0 v207) fun v208 =>
 bK (ldO 1 false h192 (chkV h192 v208)) fun v209 =>
 mK (calM call 22 [(chkV h192 v198), (chkV h192 v203), (chkV h192 v209)] h192) fun v210 h211 =>
 nextK h192 h211 (
 jK (fun v212 h213 =>
 bK (pickO v190 v212 (NV.bool false)) fun v215 =>
 bK (addI v191 (NV.int .i64 (.ofNat 1))) fun v216 =>
 L193 v188 v189 v215 v216 h213) fun J214 => gK v190 true (
 J214 v210 h211) (J214 (NV.tuple []) h211))) (
 J38 v188 v189 v190 h192)) v29 v30 v31 (NV.int .i64 (.ofNat 0)) h32) fun J33 =>
 loopC N 4 (fun L222 v217 v218 v219 v220 h221 =>
 bK (fAddr 13 v218) fun v223 =>
 bK (ldO 1 false h221 v223) fun v224 =>
 bK (lenSl v224) fun v225 =>
 bK (ltI v220 v225) fun v226 =>
 condK v226 (
 jK (fun v227 h228 =>
 jK (fun v230 h231 =>
 jK (fun v233 h234 =>
 jK (fun v236 h237 =>
 jK (fun v239 h240 =>
 jK (fun v242 h243 =>
 jK (fun v245 h246 =>
 bK (pickO v219 v245 (NV.bool false)) fun v248 =>
 jK (fun v249 h250 =>
 jK (fun v252 h253 =>
 jK (fun v255 h256 =>
 jK (fun v258 h259 =>
 jK (fun v261 h262 =>
 jK (fun v264 h265 =>
 jK (fun v267 h268 =>
 bK (pickO v248 v267 (NV.bool false)) fun v270 =>
 jK (fun v271 h272 =>
 jK (fun v274 h275 =>
 jK (fun v277 h278 =>
 jK (fun v280 h281 =>
 jK (fun v283 h284 =>
 jK (fun v286 h287 =>
 jK (fun v289 h290 =>
 jK (fun v292 h293 =>
 jK (fun v295 h296 =>
 jK (fun v298 h299 =>
 jK (fun v301 h302 =>
 jK (fun v304 h305 =>
 jK (fun v307 h308 =>
 jK (fun v310 h311 =>
 jK (fun v313 h314 =>
 jK (fun v316 h317 =>
 jK (fun v319 h320 =>
 jK (fun v322 h323 =>
 jK (fun v325 h326 =>
 jK (fun v328 h329 =>
 jK (fun v331 h332 =>
 jK (fun v334 h335 =>
 bK (pickO v270 v334 (NV.bool false)) fun v337 =>
 bK (addI v220 (NV.int .i64 (.ofNat 1))) fun v338 =>
 L222 v217 v218 v337 v338 h221) fun J336 => gK v270 true (
 bK (pickO v292 (NV.bool true) v331) fun v339 =>
 J336 v339 h221) (J336 (NV.tuple []) h221)) fun J333 => gK v292 false (
 bK (leI v310 v328) fun v340 =>
 J333 v340 h221) (J333 (NV.tuple []) h221)) fun J330 => gK v292 false (
 bK (ldO 1 false h221 (chkV h221 v325)) fun v341 =>
 J330 v341 h221) (J330 (NV.tuple []) h221)) fun J327 => gK v292 false (
 bK (fAddr 1 v322) fun v342 =>
 J327 v342 h221) (J327 (NV.tuple []) h221)) fun J324 => gK v292 false (
 bK (ixS 3 v316 v319) fun v343 =>
 J324 v343 h221) (J324 (NV.tuple []) h221)) fun J321 => gK v292 false (
 J321 v220 h221) (J321 (NV.tuple []) h221)) fun J318 => gK v292 false (
 bK (ldO 1 false h221 (chkV h221 v313)) fun v344 =>
 J318 v344 h221) (J318 (NV.tuple []) h221)) fun J315 => gK v292 false (
 bK (fAddr 13 v218) fun v345 =>
 J315 v345 h221) (J315 (NV.tuple []) h221)) fun J312 => gK v292 false (
 bK (ldO 1 false h221 (chkV h221 v307)) fun v346 =>
 J312 v346 h221) (J312 (NV.tuple []) h221)) fun J309 => gK v292 false (
 bK (fAddr 0 v304) fun v347 =>
 J309 v347 h221) (J309 (NV.tuple []) h221)) fun J306 => gK v292 false (
 bK (ixS 3 v298 v301) fun v348 =>
 J306 v348 h221) (J306 (NV.tuple []) h221)) fun J303 => gK v292 false (
 J303 v220 h221) (J303 (NV.tuple []) h221)) fun J300 => gK v292 false (
 bK (ldO 1 false h221 (chkV h221 v295)) fun v349 =>
 J300 v349 h221) (J300 (NV.tuple []) h221)) fun J297 => gK v292 false (
 bK (fAddr 13 v218) fun v350 =>
 J297 v350 h221) (J297 (NV.tuple []) h221)) fun J294 => gK v270 true (
 J294 v289 h221) (J294 (NV.tuple []) h221)) fun J291 => gK v270 true (
 bK (notO v286) fun v351 =>
 J291 v351 h221) (J291 (NV.tuple []) h221)) fun J288 => gK v270 true (
 bK (ldO 1 false h221 (chkV h221 v283)) fun v352 =>
 J288 v352 h221) (J288 (NV.tuple []) h221)) fun J285 => gK v270 true (
 bK (fAddr 2 v280) fun v353 =>
 J285 v353 h221) (J285 (NV.tuple []) h221)) fun J282 => gK v270 true (
 bK (ixS 3 v274 v277) fun v354 =>
 J282 v354 h221) (J282 (NV.tuple []) h221)) fun J279 => gK v270 true (
 J279 v220 h221) (J279 (NV.tuple []) h221)) fun J276 => gK v270 true (
 bK (ldO 1 false h221 (chkV h221 v271)) fun v355 =>
 J276 v355 h221) (J276 (NV.tuple []) h221)) fun J273 => gK v270 true (
 bK (fAddr 13 v218) fun v356 =>
 J273 v356 h221) (J273 (NV.tuple []) h221)) fun J269 => gK v248 true (
 bK (leI v264 (NV.int .i64 (.ofNat 65536))) fun v357 =>
 J269 v357 h221) (J269 (NV.tuple []) h221)) fun J266 => gK v248 true (
 bK (ldO 1 false h221 (chkV h221 v261)) fun v358 =>
 J266 v358 h221) (J266 (NV.tuple []) h221)) fun J263 => gK v248 true (
 bK (fAddr 1 v258) fun v359 =>
 J263 v359 h221) (J263 (NV.tuple []) h221)) fun J260 => gK v248 true (
 bK (ixS 3 v252 v255) fun v360 =>
 J260 v360 h221) (J260 (NV.tuple []) h221)) fun J257 => gK v248 true (
 J257 v220 h221) (J257 (NV.tuple []) h221)) fun J254 => gK v248 true (
 bK (ldO 1 false h221 (chkV h221 v249)) fun v361 =>
 J254 v361 h221) (J254 (NV.tuple []) h221)) fun J251 => gK v248 true (
 bK (fAddr 13 v218) fun v362 =>
 J251 v362 h221) (J251 (NV.tuple []) h221)) fun J247 => gK v219 true (
 bK (leI v242 (NV.int .i64 (.ofNat 65536))) fun v363 =>
 J247 v363 h221) (J247 (NV.tuple []) h221)) fun J244 => gK v219 true (
 bK (ldO 1 false h221 (chkV h221 v239)) fun v364 =>
 J244 v364 h221) (J244 (NV.tuple []) h221)) fun J241 => gK v219 true (
 bK (fAddr 0 v236) fun v365 =>
 J241 v365 h221) (J241 (NV.tuple []) h221)) fun J238 => gK v219 true (
 bK (ixS 3 v230 v233) fun v366 =>
 J238 v366 h221) (J238 (NV.tuple []) h221)) fun J235 => gK v219 true (
 J235 v220 h221) (J235 (NV.tuple []) h221)) fun J232 => gK v219 true (
 bK (ldO 1 false h221 (chkV h221 v227)) fun v367 =>
 J232 v367 h221) (J232 (NV.tuple []) h221)) fun J229 => gK v219 true (
 bK (fAddr 13 v218) fun v368 =>
 J229 v368 h221) (J229 (NV.tuple []) h221)) (
 J33 v217 v218 v219 h221)) v24 v25 v26 (NV.int .i64 (.ofNat 0)) h27) fun J28 =>
 loopC N 4 (fun L374 v369 v370 v371 v372 h373 =>
 bK (fAddr 12 v370) fun v375 =>
 bK (ldO 1 false h373 v375) fun v376 =>
 bK (lenSl v376) fun v377 =>
 bK (ltI v372 v377) fun v378 =>
 condK v378 (
 jK (fun v379 h380 =>
 jK (fun v382 h383 =>
 jK (fun v385 h386 =>
 jK (fun v388 h389 =>
 jK (fun v391 h392 =>
 jK (fun v394 h395 =>
 jK (fun v397 h398 =>
 jK (fun v400 h401 =>
 jK (fun v403 h404 =>
 jK (fun v406 h407 =>
 jK (fun v409 h410 =>
 jK (fun v412 h413 =>
 jK (fun v415 h416 =>
 jK (fun v418 h419 =>
 jK (fun v421 h422 =>
 jK (fun v424 h425 =>
 jK (fun v427 h428 =>
 jK (fun v430 h431 =>
 jK (fun v433 h434 =>
 jK (fun v436 h437 =>
 jK (fun v439 h440 =>
 jK (fun v442 h443 =>
 jK (fun v445 h446 =>
 jK (fun v448 h449 =>
 jK (fun v451 h452 =>
 bK (pickO v371 v451 (NV.bool false)) fun v454 =>
 bK (addI v372 (NV.int .i64 (.ofNat 1))) fun v455 =>
 L374 v369 v370 v454 v455 h373) fun J453 => gK v371 true (
 bK (pickO v403 (NV.bool true) v448) fun v456 =>
 J453 v456 h373) (J453 (NV.tuple []) h373)) fun J450 => gK v403 false (
 bK (leI v424 v445) fun v457 =>
 J450 v457 h373) (J450 (NV.tuple []) h373)) fun J447 => gK v403 false (
 bK (ldO 1 false h373 (chkV h373 v442)) fun v458 =>
 J447 v458 h373) (J447 (NV.tuple []) h373)) fun J444 => gK v403 false (
 bK (fAddr 1 v439) fun v459 =>
 J444 v459 h373) (J444 (NV.tuple []) h373)) fun J441 => gK v403 false (
 bK (fAddr 1 v436) fun v460 =>
 J441 v460 h373) (J441 (NV.tuple []) h373)) fun J438 => gK v403 false (
 bK (ixS 4 v430 v433) fun v461 =>
 J438 v461 h373) (J438 (NV.tuple []) h373)) fun J435 => gK v403 false (
 J435 v372 h373) (J435 (NV.tuple []) h373)) fun J432 => gK v403 false (
 bK (ldO 1 false h373 (chkV h373 v427)) fun v462 =>
 J432 v462 h373) (J432 (NV.tuple []) h373)) fun J429 => gK v403 false (
 bK (fAddr 12 v370) fun v463 =>
 J429 v463 h373) (J429 (NV.tuple []) h373)) fun J426 => gK v403 false (
 bK (ldO 1 false h373 (chkV h373 v421)) fun v464 =>
 J426 v464 h373) (J426 (NV.tuple []) h373)) fun J423 => gK v403 false (
 bK (fAddr 0 v418) fun v465 =>
 J423 v465 h373) (J423 (NV.tuple []) h373)) fun J420 => gK v403 false (
 bK (fAddr 1 v415) fun v466 =>
 J420 v466 h373) (J420 (NV.tuple []) h373)) fun J417 => gK v403 false (
 bK (ixS 4 v409 v412) fun v467 =>
 J417 v467 h373) (J417 (NV.tuple []) h373)) fun J414 => gK v403 false (
 J414 v372 h373) (J414 (NV.tuple []) h373)) fun J411 => gK v403 false (
 bK (ldO 1 false h373 (chkV h373 v406)) fun v468 =>
 J411 v468 h373) (J411 (NV.tuple []) h373)) fun J408 => gK v403 false (
 bK (fAddr 12 v370) fun v469 =>
 J408 v469 h373) (J408 (NV.tuple []) h373)) fun J405 => gK v371 true (
 J405 v400 h373) (J405 (NV.tuple []) h373)) fun J402 => gK v371 true (
 bK (notO v397) fun v470 =>
 J402 v470 h373) (J402 (NV.tuple []) h373)) fun J399 => gK v371 true (
 bK (ldO 1 false h373 (chkV h373 v394)) fun v471 =>
 J399 v471 h373) (J399 (NV.tuple []) h373)) fun J396 => gK v371 true (
 bK (fAddr 2 v391) fun v472 =>
 J396 v472 h373) (J396 (NV.tuple []) h373)) fun J393 => gK v371 true (
 bK (fAddr 1 v388) fun v473 =>
 J393 v473 h373) (J393 (NV.tuple []) h373)) fun J390 => gK v371 true (
 bK (ixS 4 v382 v385) fun v474 =>
 J390 v474 h373) (J390 (NV.tuple []) h373)) fun J387 => gK v371 true (
 J387 v372 h373) (J387 (NV.tuple []) h373)) fun J384 => gK v371 true (
 bK (ldO 1 false h373 (chkV h373 v379)) fun v475 =>
 J384 v475 h373) (J384 (NV.tuple []) h373)) fun J381 => gK v371 true (
 bK (fAddr 12 v370) fun v476 =>
 J381 v476 h373) (J381 (NV.tuple []) h373)) (
 J28 v369 v370 v371 h373)) v19 v20 v21 (NV.int .i64 (.ofNat 0)) h22) fun J23 =>
 loopC N 4 (fun L482 v477 v478 v479 v480 h481 =>
 bK (fAddr 11 v478) fun v483 =>
 bK (ldO 1 false h481 v483) fun v484 =>
 bK (lenSl v484) fun v485 =>
 bK (ltI v480 v485) fun v486 =>
 condK v486 (
 bK (ldO 16 true h481 v478) fun v487 =>
 mK (calM call 21 [v487, v480] h481) fun v488 h489 =>
 bK (extO 0 v488) fun v490 =>
 bK (extO 1 v488) fun v491 =>
 mK (alM (NB.cells [NV.nslice, NV.nslice]) h489) fun v492 h493 =>
 mK (stM 2 v492 v490 h493) fun v494 h495 =>
 jK (fun v496 h497 =>
 bK (pickO v479 v496 (NV.bool false)) fun v499 =>
 bK (addI v480 (NV.int .i64 (.ofNat 1))) fun v500 =>
 L482 v477 v478 v499 v500 h497) fun J498 => gK v479 true (
 J498 v491 h495) (J498 (NV.tuple []) h495)) (
 J23 v477 v478 v479 h481)) v2 v11 v18 (NV.int .i64 (.ofNat 0)) h14))
theorem e10 : ikB Tryz.prog 10 Tryz.f10 = S10 := by kernel_rfl
theorem k10 [Sig] (w0 : World) : SOK cW w0 10 S10 := okW Tryz.func10 (by kernel_rfl) e10
noncomputable def S11 (call : CallF) (N : Nat) (l : List NV) (h : H) : R :=
 uc l fun v0 l1 => uc l1 fun v2 l3 => un l3 (
 bK (lenSl v0) fun v4 =>
 bK (lenSl v2) fun v5 =>
 bK (neI v4 v5) fun v6 =>
 condK v6 (
 retC (NV.bool false) h) (
 joinC 0 (fun h7 =>
 retC (NV.bool true) h7) fun J8 =>
 loopC N 3 (fun L13 v9 v10 v11 h12 =>
 bK (lenSl v9) fun v14 =>
 bK (ltI v11 v14) fun v15 =>
 condK v15 (
 bK (ixS 4 v9 v11) fun v16 =>
 bK (ldO 4 true h12 (chkV h12 v16)) fun v17 =>
 bK (ixS 4 v10 v11) fun v18 =>
 bK (ldO 4 true h12 (chkV h12 v18)) fun v19 =>
 bK (eqD Tryz.prog .neq 59 h12 (chkV h12 v17) (chkV h12 v19)) fun v20 =>
 condK v20 (
 retC (NV.bool false) h12) (
 bK (addI v11 (NV.int .i64 (.ofNat 1))) fun v21 =>
 L13 v9 v10 v21 h12)) (
 J8 h12)) v0 v2 (NV.int .i64 (.ofNat 0)) h))
theorem e11 : ikB Tryz.prog 10 Tryz.f11 = S11 := by kernel_rfl
theorem k11 [Sig] (w0 : World) : SOK cW w0 11 S11 := okW Tryz.func11 (by kernel_rfl) e11
noncomputable def S12 (call : CallF) (N : Nat) (l : List NV) (h : H) : R :=
 uc l fun v0 l1 => uc l1 fun v2 l3 => un l3 (
 bK (nilO v0) fun v4 =>
 bK (fAddr 1 v4) fun v5 =>
 bK (ldO 1 false h (chkV h v5)) fun v6 =>
 bK (lenSl v6) fun v7 =>
 bK (nilO v2) fun v8 =>
 bK (fAddr 1 v8) fun v9 =>
 bK (ldO 1 false h (chkV h v9)) fun v10 =>
 bK (lenSl v10) fun v11 =>
 bK (neI v7 v11) fun v12 =>
 jK (fun v13 h14 =>
 jK (fun v16 h17 =>
 jK (fun v19 h20 =>
 jK (fun v22 h23 =>
 jK (fun v25 h26 =>
 jK (fun v28 h29 =>
 jK (fun v31 h32 =>
 jK (fun v34 h35 =>
 jK (fun v37 h38 =>
 jK (fun v40 h41 =>
 jK (fun v43 h44 =>
 bK (pickO v12 (NV.bool true) v43) fun v46 =>
 jK (fun v47 h48 =>
 jK (fun v50 h51 =>
 jK (fun v53 h54 =>
 jK (fun v56 h57 =>
 jK (fun v59 h60 =>
 jK (fun v62 h63 =>
 jK (fun v65 h66 =>
 jK (fun v68 h69 =>
 jK (fun v71 h72 =>
 jK (fun v74 h75 =>
 jK (fun v77 h78 =>
 bK (pickO v46 (NV.bool true) v77) fun v80 =>
 jK (fun v81 h82 =>
 jK (fun v84 h85 =>
 jK (fun v87 h88 =>
 jK (fun v90 h91 =>
 jK (fun v93 h94 =>
 jK (fun v96 h97 =>
 jK (fun v99 h100 =>
 jK (fun v102 h103 =>
 jK (fun v105 h106 =>
 jK (fun v108 h109 =>
 jK (fun v111 h112 =>
 bK (pickO v80 (NV.bool true) v111) fun v114 =>
 jK (fun v115 h116 =>
 jK (fun v118 h119 =>
 jK (fun v121 h122 =>
 jK (fun v124 h125 =>
 jK (fun v127 h128 =>
 jK (fun v130 h131 =>
 jK (fun v133 h134 =>
 jK (fun v136 h137 =>
 jK (fun v139 h140 =>
 jK (fun v142 h143 =>
 jK (fun v145 h146 =>
 bK (pickO v114 (NV.bool true) v145) fun v148 =>
 jK (fun v149 h150 =>
 jK (fun v152 h153 =>
 jK (fun v155 h156 =>
 jK (fun v158 h159 =>
 jK (fun v161 h162 =>
 jK (fun v164 h165 =>
 jK (fun v167 h168 =>
 jK (fun v170 h171 =>
 jK (fun v173 h174 =>
 jK (fun v176 h177 =>
 jK (fun v179 h180 =>
 bK (pickO v148 (NV.bool true) v179) fun v182 =>
 jK (fun v183 h184 =>
 jK (fun v186 h187 =>
 jK (fun v189 h190 =>
 jK (fun v192 h193 =>
 jK (fun v195 h196 =>
 jK (fun v198 h199 =>
 jK (fun v201 h202 =>
 jK (fun v204 h205 =>
 jK (fun v207 h208 =>
 jK (fun v210 h211 =>
 jK (fun v213 h214 =>
 bK (pickO v182 (NV.bool true) v213) fun v216 =>
 condK v216 (
 retC (NV.bool false) h) (
 joinC 2 (fun v217 v218 h219 =>
 joinC 2 (fun v221 v222 h223 =>
 joinC 2 (fun v225 v226 h227 =>
 joinC 2 (fun v229 v230 h231 =>
 joinC 2 (fun v233 v234 h235 =>
 joinC 0 (fun h237 =>
 retC (NV.bool true) h237) fun J238 =>
 loopC N 3 (fun L243 v239 v240 v241 h242 =>
 bK (nilO v240) fun v244 =>
 bK (fAddr 7 v244) fun v245 =>
 bK (ldO 1 false h242 v245) fun v246 =>
 bK (lenSl v246) fun v247 =>
 bK (ltI v241 v247) fun v248 =>
 condK v248 (
 bK (nilO v239) fun v249 =>
 bK (fAddr 7 v249) fun v250 =>
 bK (ldO 1 false h242 (chkV h242 v250)) fun v251 =>
 bK (ixS 2 v251 v241) fun v252 =>
 bK (fAddr 1 v252) fun v253 =>
 bK (ldO 1 false h242 (chkV h242 v253)) fun v254 =>
 bK (nilO v240) fun v255 =>
 bK (fAddr 7 v255) fun v256 =>
 bK (ldO 1 false h242 (chkV h242 v256)) fun v257 =>
 bK (ixS 2 v257 v241) fun v258 =>
 bK (fAddr 1 v258) fun v259 =>
 bK (ldO 1 false h242 (chkV h242 v259)) fun v260 =>
 mK (calM call 11 [(chkV h242 v254), (chkV h242 v260)] h242) fun v261 h262 =>
 nextK h242 h262 (
 bK (notO v261) fun v263 =>
 jK (fun v264 h265 =>
 jK (fun v267 h268 =>
 jK (fun v270 h271 =>
 jK (fun v273 h274 =>
 jK (fun v276 h277 =>
 jK (fun v279 h280 =>
 jK (fun v282 h283 =>
 jK (fun v285 h286 =>
 jK (fun v288 h289 =>
 jK (fun v291 h292 =>
 jK (fun v294 h295 =>
 jK (fun v297 h298 =>
 jK (fun v300 h301 =>
 jK (fun v303 h304 =>
 jK (fun v306 h307 =>
 jK (fun v309 h310 =>
 jK (fun v312 h313 =>
 bK (pickO v263 (NV.bool true) v312) fun v315 =>
 condK v315 (
 retC (NV.bool false) h262) (
 bK (addI v241 (NV.int .i64 (.ofNat 1))) fun v316 =>
 L243 v239 v240 v316 h262)) fun J314 => gK v263 false (
 bK (neI v285 v309) fun v317 =>
 J314 v317 h262) (J314 (NV.tuple []) h262)) fun J311 => gK v263 false (
 bK (ldO 1 false h262 (chkV h262 v306)) fun v318 =>
 J311 v318 h262) (J311 (NV.tuple []) h262)) fun J308 => gK v263 false (
 bK (fAddr 0 v303) fun v319 =>
 J308 v319 h262) (J308 (NV.tuple []) h262)) fun J305 => gK v263 false (
 bK (ixS 2 v297 v300) fun v320 =>
 J305 v320 h262) (J305 (NV.tuple []) h262)) fun J302 => gK v263 false (
 J302 v241 h262) (J302 (NV.tuple []) h262)) fun J299 => gK v263 false (
 bK (ldO 1 false h262 (chkV h262 v294)) fun v321 =>
 J299 v321 h262) (J299 (NV.tuple []) h262)) fun J296 => gK v263 false (
 bK (fAddr 7 v291) fun v322 =>
 J296 v322 h262) (J296 (NV.tuple []) h262)) fun J293 => gK v263 false (
 bK (nilO v288) fun v323 =>
 J293 v323 h262) (J293 (NV.tuple []) h262)) fun J290 => gK v263 false (
 J290 v240 h262) (J290 (NV.tuple []) h262)) fun J287 => gK v263 false (
 bK (ldO 1 false h262 (chkV h262 v282)) fun v324 =>
 J287 v324 h262) (J287 (NV.tuple []) h262)) fun J284 => gK v263 false (
 bK (fAddr 0 v279) fun v325 =>
 J284 v325 h262) (J284 (NV.tuple []) h262)) fun J281 => gK v263 false (
 bK (ixS 2 v273 v276) fun v326 =>
 J281 v326 h262) (J281 (NV.tuple []) h262)) fun J278 => gK v263 false (
 J278 v241 h262) (J278 (NV.tuple []) h262)) fun J275 => gK v263 false (
 bK (ldO 1 false h262 (chkV h262 v270)) fun v327 =>
 J275 v327 h262) (J275 (NV.tuple []) h262)) fun J272 => gK v263 false (
 bK (fAddr 7 v267) fun v328 =>
 J272 v328 h262) (J272 (NV.tuple []) h262)) fun J269 => gK v263 false (
 bK (nilO v264) fun v329 =>
 J269 v329 h262) (J269 (NV.tuple []) h262)) fun J266 => gK v263 false (
 J266 v239 h262) (J266 (NV.tuple []) h262))) (
 J238 h242)) v233 v234 (NV.int .i64 (.ofNat 0)) h235) fun J236 =>
 loopC N 3 (fun L334 v330 v331 v332 h333 =>
 bK (nilO v331) fun v335 =>
 bK (fAddr 5 v335) fun v336 =>
 bK (ldO 1 false h333 v336) fun v337 =>
 bK (lenSl v337) fun v338 =>
 bK (ltI v332 v338) fun v339 =>
 condK v339 (
 bK (nilO v330) fun v340 =>
 bK (fAddr 5 v340) fun v341 =>
 bK (ldO 1 false h333 (chkV h333 v341)) fun v342 =>
 bK (ixS 1 v342 v332) fun v343 =>
 bK (ldO 1 false h333 (chkV h333 v343)) fun v344 =>
 bK (b2s h333 (chkV h333 v344)) fun v345 =>
 bK (nilO v331) fun v346 =>
 bK (fAddr 5 v346) fun v347 =>
 bK (ldO 1 false h333 (chkV h333 v347)) fun v348 =>
 bK (ixS 1 v348 v332) fun v349 =>
 bK (ldO 1 false h333 (chkV h333 v349)) fun v350 =>
 bK (b2s h333 (chkV h333 v350)) fun v351 =>
 bK (binO .neq v345 v351) fun v352 =>
 condK v352 (
 retC (NV.bool false) h333) (
 bK (addI v332 (NV.int .i64 (.ofNat 1))) fun v353 =>
 L334 v330 v331 v353 h333)) (
 J236 v330 v331 h333)) v229 v230 (NV.int .i64 (.ofNat 0)) h231) fun J232 =>
 loopC N 3 (fun L358 v354 v355 v356 h357 =>
 bK (nilO v355) fun v359 =>
 bK (fAddr 4 v359) fun v360 =>
 bK (ldO 1 false h357 v360) fun v361 =>
 bK (lenSl v361) fun v362 =>
 bK (ltI v356 v362) fun v363 =>
 condK v363 (
 bK (nilO v354) fun v364 =>
 bK (fAddr 4 v364) fun v365 =>
 bK (ldO 1 false h357 (chkV h357 v365)) fun v366 =>
 bK (ixS 1 v366 v356) fun v367 =>
 bK (ldO 1 false h357 (chkV h357 v367)) fun v368 =>
 bK (nilO v355) fun v369 =>
 bK (fAddr 4 v369) fun v370 =>
 bK (ldO 1 false h357 (chkV h357 v370)) fun v371 =>
 bK (ixS 1 v371 v356) fun v372 =>
 bK (ldO 1 false h357 (chkV h357 v372)) fun v373 =>
 mK (calM call 11 [(chkV h357 v368), (chkV h357 v373)] h357) fun v374 h375 =>
 nextK h357 h375 (
 bK (notO v374) fun v376 =>
 condK v376 (
 retC (NV.bool false) h375) (
 bK (addI v356 (NV.int .i64 (.ofNat 1))) fun v377 =>
 L358 v354 v355 v377 h375))) (
 J232 v354 v355 h357)) v225 v226 (NV.int .i64 (.ofNat 0)) h227) fun J228 =>
 loopC N 3 (fun L382 v378 v379 v380 h381 =>
 bK (nilO v379) fun v383 =>
 bK (fAddr 3 v383) fun v384 =>
 bK (ldO 1 false h381 v384) fun v385 =>
 bK (lenSl v385) fun v386 =>
 bK (ltI v380 v386) fun v387 =>
 condK v387 (
 bK (nilO v378) fun v388 =>
 bK (fAddr 3 v388) fun v389 =>
 bK (ldO 1 false h381 (chkV h381 v389)) fun v390 =>
 bK (ixS 1 v390 v380) fun v391 =>
 bK (ldO 1 false h381 (chkV h381 v391)) fun v392 =>
 bK (nilO v392) fun v393 =>
 bK (fAddr 2 v393) fun v394 =>
 bK (ldO 4 true h381 (chkV h381 v394)) fun v395 =>
 bK (nilO v379) fun v396 =>
 bK (fAddr 3 v396) fun v397 =>
 bK (ldO 1 false h381 (chkV h381 v397)) fun v398 =>
 bK (ixS 6 v398 v380) fun v399 =>
 bK (fAddr 2 v399) fun v400 =>
 bK (ldO 4 true h381 (chkV h381 v400)) fun v401 =>
 bK (eqD Tryz.prog .neq 59 h381 (chkV h381 v395) (chkV h381 v401)) fun v402 =>
 condK v402 (
 retC (NV.bool false) h381) (
 bK (addI v380 (NV.int .i64 (.ofNat 1))) fun v403 =>
 L382 v378 v379 v403 h381)) (
 J228 v378 v379 h381)) v221 v222 (NV.int .i64 (.ofNat 0)) h223) fun J224 =>
 loopC N 3 (fun L408 v404 v405 v406 h407 =>
 bK (nilO v405) fun v409 =>
 bK (fAddr 2 v409) fun v410 =>
 bK (ldO 1 false h407 v410) fun v411 =>
 bK (lenSl v411) fun v412 =>
 bK (ltI v406 v412) fun v413 =>
 condK v413 (
 bK (nilO v404) fun v414 =>
 bK (fAddr 2 v414) fun v415 =>
 bK (ldO 1 false h407 (chkV h407 v415)) fun v416 =>
 bK (ixS 1 v416 v406) fun v417 =>
 bK (ldO 1 false h407 (chkV h407 v417)) fun v418 =>
 bK (nilO v418) fun v419 =>
 bK (fAddr 3 v419) fun v420 =>
 bK (ldO 1 false h407 (chkV h407 v420)) fun v421 =>
 bK (b2s h407 (chkV h407 v421)) fun v422 =>
 bK (nilO v405) fun v423 =>
 bK (fAddr 2 v423) fun v424 =>
 bK (ldO 1 false h407 (chkV h407 v424)) fun v425 =>
 bK (ixS 4 v425 v406) fun v426 =>
 bK (fAddr 3 v426) fun v427 =>
 bK (ldO 1 false h407 (chkV h407 v427)) fun v428 =>
 bK (b2s h407 (chkV h407 v428)) fun v429 =>
 bK (binO .neq v422 v429) fun v430 =>
 condK v430 (
 retC (NV.bool false) h407) (
 bK (addI v406 (NV.int .i64 (.ofNat 1))) fun v431 =>
 L408 v404 v405 v431 h407)) (
 J224 v404 v405 h407)) v217 v218 (NV.int .i64 (.ofNat 0)) h219) fun J220 =>
 loopC N 3 (fun L436 v432 v433 v434 h435 =>
 bK (nilO v433) fun v437 =>
 bK (fAddr 1 v437) fun v438 =>
 bK (ldO 1 false h435 v438) fun v439 =>
 bK (lenSl v439) fun v440 =>
 bK (ltI v434 v440) fun v441 =>
 condK v441 (
 bK (nilO v432) fun v442 =>
 bK (fAddr 1 v442) fun v443 =>
 bK (ldO 1 false h435 (chkV h435 v443)) fun v444 =>
 bK (ixS 1 v444 v434) fun v445 =>
 bK (ldO 1 false h435 (chkV h435 v445)) fun v446 =>
 bK (nilO v446) fun v447 =>
 bK (fAddr 4 v447) fun v448 =>
 bK (ldO 1 false h435 (chkV h435 v448)) fun v449 =>
 bK (nilO v433) fun v450 =>
 bK (fAddr 1 v450) fun v451 =>
 bK (ldO 1 false h435 (chkV h435 v451)) fun v452 =>
 bK (ixS 5 v452 v434) fun v453 =>
 bK (fAddr 4 v453) fun v454 =>
 bK (ldO 1 false h435 (chkV h435 v454)) fun v455 =>
 mK (calM call 11 [(chkV h435 v449), (chkV h435 v455)] h435) fun v456 h457 =>
 nextK h435 h457 (
 bK (notO v456) fun v458 =>
 condK v458 (
 retC (NV.bool false) h457) (
 bK (addI v434 (NV.int .i64 (.ofNat 1))) fun v459 =>
 L436 v432 v433 v459 h457))) (
 J220 v432 v433 h435)) v0 v2 (NV.int .i64 (.ofNat 0)) h)) fun J215 => gK v182 false (
 bK (neI v195 v210) fun v460 =>
 J215 v460 h) (J215 (NV.tuple []) h)) fun J212 => gK v182 false (
 bK (lenSl v207) fun v461 =>
 J212 v461 h) (J212 (NV.tuple []) h)) fun J209 => gK v182 false (
 bK (ldO 1 false h (chkV h v204)) fun v462 =>
 J209 v462 h) (J209 (NV.tuple []) h)) fun J206 => gK v182 false (
 bK (fAddr 0 v201) fun v463 =>
 J206 v463 h) (J206 (NV.tuple []) h)) fun J203 => gK v182 false (
 bK (nilO v198) fun v464 =>
 J203 v464 h) (J203 (NV.tuple []) h)) fun J200 => gK v182 false (
 J200 v2 h) (J200 (NV.tuple []) h)) fun J197 => gK v182 false (
 bK (lenSl v192) fun v465 =>
 J197 v465 h) (J197 (NV.tuple []) h)) fun J194 => gK v182 false (
 bK (ldO 1 false h (chkV h v189)) fun v466 =>
 J194 v466 h) (J194 (NV.tuple []) h)) fun J191 => gK v182 false (
 bK (fAddr 0 v186) fun v467 =>
 J191 v467 h) (J191 (NV.tuple []) h)) fun J188 => gK v182 false (
 bK (nilO v183) fun v468 =>
 J188 v468 h) (J188 (NV.tuple []) h)) fun J185 => gK v182 false (
 J185 v0 h) (J185 (NV.tuple []) h)) fun J181 => gK v148 false (
 bK (neI v161 v176) fun v469 =>
 J181 v469 h) (J181 (NV.tuple []) h)) fun J178 => gK v148 false (
 bK (lenSl v173) fun v470 =>
 J178 v470 h) (J178 (NV.tuple []) h)) fun J175 => gK v148 false (
 bK (ldO 1 false h (chkV h v170)) fun v471 =>
 J175 v471 h) (J175 (NV.tuple []) h)) fun J172 => gK v148 false (
 bK (fAddr 7 v167) fun v472 =>
 J172 v472 h) (J172 (NV.tuple []) h)) fun J169 => gK v148 false (
 bK (nilO v164) fun v473 =>
 J169 v473 h) (J169 (NV.tuple []) h)) fun J166 => gK v148 false (
 J166 v2 h) (J166 (NV.tuple []) h)) fun J163 => gK v148 false (
 bK (lenSl v158) fun v474 =>
 J163 v474 h) (J163 (NV.tuple []) h)) fun J160 => gK v148 false (
 bK (ldO 1 false h (chkV h v155)) fun v475 =>
 J160 v475 h) (J160 (NV.tuple []) h)) fun J157 => gK v148 false (
 bK (fAddr 7 v152) fun v476 =>
 J157 v476 h) (J157 (NV.tuple []) h)) fun J154 => gK v148 false (
 bK (nilO v149) fun v477 =>
 J154 v477 h) (J154 (NV.tuple []) h)) fun J151 => gK v148 false (
 J151 v0 h) (J151 (NV.tuple []) h)) fun J147 => gK v114 false (
 bK (neI v127 v142) fun v478 =>
 J147 v478 h) (J147 (NV.tuple []) h)) fun J144 => gK v114 false (
 bK (lenSl v139) fun v479 =>
 J144 v479 h) (J144 (NV.tuple []) h)) fun J141 => gK v114 false (
 bK (ldO 1 false h (chkV h v136)) fun v480 =>
 J141 v480 h) (J141 (NV.tuple []) h)) fun J138 => gK v114 false (
 bK (fAddr 5 v133) fun v481 =>
 J138 v481 h) (J138 (NV.tuple []) h)) fun J135 => gK v114 false (
 bK (nilO v130) fun v482 =>
 J135 v482 h) (J135 (NV.tuple []) h)) fun J132 => gK v114 false (
 J132 v2 h) (J132 (NV.tuple []) h)) fun J129 => gK v114 false (
 bK (lenSl v124) fun v483 =>
 J129 v483 h) (J129 (NV.tuple []) h)) fun J126 => gK v114 false (
 bK (ldO 1 false h (chkV h v121)) fun v484 =>
 J126 v484 h) (J126 (NV.tuple []) h)) fun J123 => gK v114 false (
 bK (fAddr 5 v118) fun v485 =>
 J123 v485 h) (J123 (NV.tuple []) h)) fun J120 => gK v114 false (
 bK (nilO v115) fun v486 =>
 J120 v486 h) (J120 (NV.tuple []) h)) fun J117 => gK v114 false (
 J117 v0 h) (J117 (NV.tuple []) h)) fun J113 => gK v80 false (
 bK (neI v93 v108) fun v487 =>
 J113 v487 h) (J113 (NV.tuple []) h)) fun J110 => gK v80 false (
 bK (lenSl v105) fun v488 =>
 J110 v488 h) (J110 (NV.tuple []) h)) fun J107 => gK v80 false (
 bK (ldO 1 false h (chkV h v102)) fun v489 =>
 J107 v489 h) (J107 (NV.tuple []) h)) fun J104 => gK v80 false (
 bK (fAddr 4 v99) fun v490 =>
 J104 v490 h) (J104 (NV.tuple []) h)) fun J101 => gK v80 false (
 bK (nilO v96) fun v491 =>
 J101 v491 h) (J101 (NV.tuple []) h)) fun J98 => gK v80 false (
 J98 v2 h) (J98 (NV.tuple []) h)) fun J95 => gK v80 false (
 bK (lenSl v90) fun v492 =>
 J95 v492 h) (J95 (NV.tuple []) h)) fun J92 => gK v80 false (
 bK (ldO 1 false h (chkV h v87)) fun v493 =>
 J92 v493 h) (J92 (NV.tuple []) h)) fun J89 => gK v80 false (
 bK (fAddr 4 v84) fun v494 =>
 J89 v494 h) (J89 (NV.tuple []) h)) fun J86 => gK v80 false (
 bK (nilO v81) fun v495 =>
 J86 v495 h) (J86 (NV.tuple []) h)) fun J83 => gK v80 false (
 J83 v0 h) (J83 (NV.tuple []) h)) fun J79 => gK v46 false (
 bK (neI v59 v74) fun v496 =>
 J79 v496 h) (J79 (NV.tuple []) h)) fun J76 => gK v46 false (
 bK (lenSl v71) fun v497 =>
 J76 v497 h) (J76 (NV.tuple []) h)) fun J73 => gK v46 false (
 bK (ldO 1 false h (chkV h v68)) fun v498 =>
 J73 v498 h) (J73 (NV.tuple []) h)) fun J70 => gK v46 false (
 bK (fAddr 3 v65) fun v499 =>
 J70 v499 h) (J70 (NV.tuple []) h)) fun J67 => gK v46 false (
 bK (nilO v62) fun v500 =>
 J67 v500 h) (J67 (NV.tuple []) h)) fun J64 => gK v46 false (
 J64 v2 h) (J64 (NV.tuple []) h)) fun J61 => gK v46 false (
 bK (lenSl v56) fun v501 =>
 J61 v501 h) (J61 (NV.tuple []) h)) fun J58 => gK v46 false (
 bK (ldO 1 false h (chkV h v53)) fun v502 =>
 J58 v502 h) (J58 (NV.tuple []) h)) fun J55 => gK v46 false (
 bK (fAddr 3 v50) fun v503 =>
 J55 v503 h) (J55 (NV.tuple []) h)) fun J52 => gK v46 false (
 bK (nilO v47) fun v504 =>
 J52 v504 h) (J52 (NV.tuple []) h)) fun J49 => gK v46 false (
 J49 v0 h) (J49 (NV.tuple []) h)) fun J45 => gK v12 false (
 bK (neI v25 v40) fun v505 =>
 J45 v505 h) (J45 (NV.tuple []) h)) fun J42 => gK v12 false (
 bK (lenSl v37) fun v506 =>
 J42 v506 h) (J42 (NV.tuple []) h)) fun J39 => gK v12 false (
 bK (ldO 1 false h (chkV h v34)) fun v507 =>
 J39 v507 h) (J39 (NV.tuple []) h)) fun J36 => gK v12 false (
 bK (fAddr 2 v31) fun v508 =>
 J36 v508 h) (J36 (NV.tuple []) h)) fun J33 => gK v12 false (
 bK (nilO v28) fun v509 =>
 J33 v509 h) (J33 (NV.tuple []) h)) fun J30 => gK v12 false (
 J30 v2 h) (J30 (NV.tuple []) h)) fun J27 => gK v12 false (
 bK (lenSl v22) fun v510 =>
 J27 v510 h) (J27 (NV.tuple []) h)) fun J24 => gK v12 false (
 bK (ldO 1 false h (chkV h v19)) fun v511 =>
 J24 v511 h) (J24 (NV.tuple []) h)) fun J21 => gK v12 false (
 bK (fAddr 2 v16) fun v512 =>
 J21 v512 h) (J21 (NV.tuple []) h)) fun J18 => gK v12 false (
 bK (nilO v13) fun v513 =>
 J18 v513 h) (J18 (NV.tuple []) h)) fun J15 => gK v12 false (
 J15 v0 h) (J15 (NV.tuple []) h))
theorem e12 : ikB Tryz.prog 10 Tryz.f12 = S12 := by kernel_rfl
theorem k12 [Sig] (w0 : World) : SOK cW w0 12 S12 := okW Tryz.func12 (by kernel_rfl) e12
noncomputable def S13 (call : CallF) (N : Nat) (l : List NV) (h : H) : R :=
 uc l fun v0 l1 => uc l1 fun v2 l3 => uc l3 fun v4 l5 => un l5 (
 mK (boxM false v2 h) fun v6 h7 =>
 bK (eqD Tryz.prog .eql 45 h7 v0 NV.nilptr) fun v8 =>
 condK v8 (
 retC (NV.bool false) h7) (
 bK (fAddr 1 v6) fun v9 =>
 bK (ldO 1 false h7 v9) fun v10 =>
 bK (bldO [(0, 1), (1, 1)] [(NV.int .i64 (.ofNat 0)), (NV.int .u64 (.ofNat 0)), (NV.int .u64 (.ofNat 0)), (NV.bool false)] [v4, v10]) fun v11 =>
 mK (alM (NB.cells [(NV.int .i64 (.ofNat 0)), (NV.int .u64 (.ofNat 0)), (NV.int .u64 (.ofNat 0)), (NV.bool false)]) h7) fun v12 h13 =>
 mK (stM 4 v12 v11 h13) fun v14 h15 =>
 bK (eqI v4 (NV.int .i64 (.ofNat 127))) fun v16 =>
 joinC 6 (fun v17 v18 v19 v20 v21 v22 h23 =>
 joinC 2 (fun v25 v26 h27 =>
 bK (ldO 4 true h27 v25) fun v29 =>
 bK (ldO 4 true h27 v26) fun v30 =>
 bK (eqD Tryz.prog .eql 59 h27 v29 v30) fun v31 =>
 retC v31 h27) fun J28 =>
 condK v22 (
 bK (fAddr 1 v20) fun v32 =>
 bK (ldO 1 false h23 v32) fun v33 =>
 bK (binO .and v33 (NV.int .u64 (.ofNat 4294967295))) fun v34 =>
 bK (fAddr 1 v20) fun v35 =>
 mK (stM 1 v35 v34 h23) fun v36 h37 =>
 J28 v19 v20 h37) (
 bK (eqI v21 (NV.int .i64 (.ofNat 126))) fun v38 =>
 joinC 6 (fun v39 v40 v41 v42 v43 v44 h45 =>
 condK v44 (
 J28 v41 v42 h45) (
 bK (eqI v43 (NV.int .i64 (.ofNat 123))) fun v47 =>
 condK v47 (
 bK (fAddr 2 v41) fun v48 =>
 bK (ldO 1 false h45 v48) fun v49 =>
 bK (fAddr 2 v42) fun v50 =>
 mK (stM 1 v50 v49 h45) fun v51 h52 =>
 J28 v41 v42 h52) (
 bK (eqI v43 (NV.int .i64 (.ofNat 112))) fun v53 =>
 joinC 5 (fun v54 v55 v56 v57 v58 h59 =>
 condK v58 (
 bK (fAddr 3 v56) fun v61 =>
 bK (ldO 1 false h59 v61) fun v62 =>
 condK v62 (
 mK (calM call 26 [v55] h59) fun v63 h64 =>
 mK (stM 4 v57 v63 h64) fun v65 h66 =>
 J28 v56 v57 h66) (
 bK (eqI v55 (NV.int .i64 (.ofNat 112))) fun v67 =>
 jK (fun v68 h69 =>
 jK (fun v71 h72 =>
 jK (fun v74 h75 =>
 jK (fun v77 h78 =>
 jK (fun v80 h81 =>
 jK (fun v83 h84 =>
 jK (fun v86 h87 =>
 jK (fun v89 h90 =>
 jK (fun v92 h93 =>
 bK (pickO v67 v92 (NV.bool false)) fun v95 =>
 condK v95 (
 retC (NV.bool false) h59) (
 J28 v56 v57 h59)) fun J94 => gK v67 true (
 bK (geI v71 v89) fun v96 =>
 J94 v96 h59) (J94 (NV.tuple []) h59)) fun J91 => gK v67 true (
 bK (cvI .u64 v86) fun v97 =>
 J91 v97 h59) (J91 (NV.tuple []) h59)) fun J88 => gK v67 true (
 bK (lenSl v83) fun v98 =>
 J88 v98 h59) (J88 (NV.tuple []) h59)) fun J85 => gK v67 true (
 bK (ldO 1 false h59 (chkV h59 v80)) fun v99 =>
 J85 v99 h59) (J85 (NV.tuple []) h59)) fun J82 => gK v67 true (
 bK (fAddr 0 v77) fun v100 =>
 J82 v100 h59) (J82 (NV.tuple []) h59)) fun J79 => gK v67 true (
 bK (nilO v74) fun v101 =>
 J79 v101 h59) (J79 (NV.tuple []) h59)) fun J76 => gK v67 true (
 J76 v54 h59) (J76 (NV.tuple []) h59)) fun J73 => gK v67 true (
 bK (ldO 1 false h59 (chkV h59 v68)) fun v102 =>
 J73 v102 h59) (J73 (NV.tuple []) h59)) fun J70 => gK v67 true (
 bK (fAddr 1 v56) fun v103 =>
 J70 v103 h59) (J70 (NV.tuple []) h59))) (
 retC (NV.bool false) h59)) fun J60 =>
 condK v53 (
 J60 v39 v40 v41 v42 v53 h45) (
 bK (eqI v43 (NV.int .i64 (.ofNat 111))) fun v104 =>
 J60 v39 v40 v41 v42 v104 h45)))) fun J46 =>
 condK v38 (
 J46 v17 v18 v19 v20 v21 v38 h23) (
 bK (eqI v21 (NV.int .i64 (.ofNat 124))) fun v105 =>
 J46 v17 v18 v19 v20 v21 v105 h23))) fun J24 =>
 condK v16 (
 J24 v0 v4 v6 v12 v4 v16 h15) (
 bK (eqI v4 (NV.int .i64 (.ofNat 125))) fun v106 =>
 J24 v0 v4 v6 v12 v4 v106 h15)))
theorem e13 : ikB Tryz.prog 10 Tryz.f13 = S13 := by kernel_rfl
theorem k13 [Sig] (w0 : World) : SOK cW w0 13 S13 := okW Tryz.func13 (by kernel_rfl) e13
noncomputable def S14 (call : CallF) (N : Nat) (l : List NV) (h : H) : R :=
 uc l fun v0 l1 => un l1 (
 bK (eqD Tryz.prog .eql 47 h v0 NV.nslice) fun v2 =>
 condK v2 (
 retC NV.nslice h) (
 mK (bslM 0 false [] [] [] h) fun v3 h4 =>
 mK (appM Tryz.prog 59 v3 v0 h4) fun v5 h6 =>
 retC v5 h6))
theorem e14 : ikB Tryz.prog 10 Tryz.f14 = S14 := by kernel_rfl
theorem k14 [Sig] (w0 : World) : SOK cW w0 14 S14 := okW Tryz.func14 (by kernel_rfl) e14
noncomputable def S15 (call : CallF) (N : Nat) (l : List NV) (h : H) : R :=
 uc l fun v0 l1 => uc l1 fun v2 l3 => un l3 (
 bK (nilO v0) fun v4 =>
 bK (fAddr 0 v4) fun v5 =>
 bK (ldO 1 false h v5) fun v6 =>
 bK (nilO v6) fun v7 =>
 bK (fAddr 0 v7) fun v8 =>
 bK (ldO 1 false h v8) fun v9 =>
 bK (ixS 5 v9 v2) fun v10 =>
 bK (ldO 5 true h v10) fun v11 =>
 mK (alM (NB.cells [NV.nslice, NV.nslice, (NV.int .i64 (.ofNat 0)), (NV.int .i64 (.ofNat 0)), (NV.int .i64 (.ofNat 0))]) h) fun v12 h13 =>
 mK (stM 5 v12 v11 h13) fun v14 h15 =>
 bK (nilO v0) fun v16 =>
 bK (fAddr 6 v16) fun v17 =>
 bK (ldO 1 false h15 (chkV h15 v17)) fun v18 =>
 bK (lenSl v18) fun v19 =>
 bK (fAddr 0 v12) fun v20 =>
 bK (fAddr 0 v20) fun v21 =>
 bK (ldO 1 false h15 (chkV h15 v21)) fun v22 =>
 bK (lenSl v22) fun v23 =>
 bK (subI v19 v23) fun v24 =>
 bK (nilO v0) fun v25 =>
 bK (fAddr 6 v25) fun v26 =>
 bK (ldO 1 false h15 v26) fun v27 =>
 bK (slcO Tryz.prog 47 h15 v27 (some v24) none none) fun v28 =>
 mK (calM call 14 [v28] h15) fun v29 h30 =>
 bK (nilO v0) fun v31 =>
 bK (fAddr 6 v31) fun v32 =>
 bK (ldO 1 false h30 v32) fun v33 =>
 bK (slcO Tryz.prog 47 h30 v33 none (some v24) none) fun v34 =>
 bK (nilO v0) fun v35 =>
 bK (fAddr 6 v35) fun v36 =>
 mK (stM 1 v36 v34 h30) fun v37 h38 =>
 bK (fAddr 4 v12) fun v39 =>
 bK (ldO 1 false h38 v39) fun v40 =>
 bK (gtI v40 (NV.int .i64 (.ofNat 0))) fun v41 =>
 condK v41 (
 bK (nilO v0) fun v42 =>
 bK (fAddr 0 v42) fun v43 =>
 bK (ldO 1 false h38 (chkV h38 v43)) fun v44 =>
 bK (nilO v0) fun v45 =>
 bK (fAddr 0 v45) fun v46 =>
 bK (ldO 1 false h38 (chkV h38 v46)) fun v47 =>
 bK (nilO v47) fun v48 =>
 bK (fAddr 7 v48) fun v49 =>
 bK (ldO 1 false h38 (chkV h38 v49)) fun v50 =>
 bK (fAddr 4 v12) fun v51 =>
 bK (ldO 1 false h38 (chkV h38 v51)) fun v52 =>
 bK (subI v52 (NV.int .i64 (.ofNat 1))) fun v53 =>
 bK (bldO [(0, 1), (1, 1)] [(NV.int .i64 (.ofNat 0)), NV.nslice] [v53, v29]) fun v54 =>
 mK (bslM 1 false [(0, 2)] [(NV.int .i64 (.ofNat 0)), NV.nslice] [(chkV h38 v54)] h38) fun v55 h56 =>
 mK (appM Tryz.prog 145 (chkV h56 v50) (chkV h56 v55) h56) fun v57 h58 =>
 nextK h56 h58 (
 bK (nilO v44) fun v59 =>
 bK (fAddr 7 v59) fun v60 =>
 bK (ldO 1 false h58 (chkV h58 v43)) fun v61 =>
 sameK v61 v44 (
 mK (stM 1 (chkV h58 v60) (chkV h58 v57) h58) fun v62 h63 =>
 nextK h58 h63 (
 bK (fAddr 0 v12) fun v64 =>
 bK (fAddr 1 v64) fun v65 =>
 bK (ldO 1 false h63 v65) fun v66 =>
 bK (lenSl v66) fun v67 =>
 joinC 0 (fun h68 =>
 retC (NV.int .i64 (.ofNat 0)) h68) fun J69 =>
 loopC N 4 (fun L75 v70 v71 v72 v73 h74 =>
 bK (ltI v73 v72) fun v76 =>
 condK v76 (
 bK (ixS 1 v71 v73) fun v77 =>
 bK (ldO 1 false h74 v77) fun v78 =>
 mK (calM call 26 [v78] h74) fun v79 h80 =>
 mK (bslM 1 false [(0, 4)] [(NV.int .i64 (.ofNat 0)), (NV.int .u64 (.ofNat 0)), (NV.int .u64 (.ofNat 0)), (NV.bool false)] [v79] h80) fun v81 h82 =>
 mK (calM call 27 [v70, v81] h82) fun v83 h84 =>
 bK (addI v73 (NV.int .i64 (.ofNat 1))) fun v85 =>
 L75 v70 v71 v72 v85 h84) (
 J69 h74)) v0 v66 v67 (NV.int .i64 (.ofNat 0)) h63)))) (
 bK (nilO v0) fun v86 =>
 bK (fAddr 5 v86) fun v87 =>
 bK (ldO 1 false h38 (chkV h38 v87)) fun v88 =>
 bK (lenSl v88) fun v89 =>
 bK (nilO v0) fun v90 =>
 bK (fAddr 1 v90) fun v91 =>
 bK (fAddr 1 v91) fun v92 =>
 bK (ldO 1 false h38 (chkV h38 v92)) fun v93 =>
 bK (geI v89 v93) fun v94 =>
 condK v94 (
 retC (NV.int .i64 (.ofNat 50)) h38) (
 bK (fAddr 2 v12) fun v95 =>
 bK (ldO 1 false h38 v95) fun v96 =>
 bK (fAddr 3 v12) fun v97 =>
 bK (ldO 1 false h38 v97) fun v98 =>
 bK (bldO [(0, 1), (1, 1)] [(NV.int .i64 (.ofNat 0)), (NV.int .i64 (.ofNat 0))] [v96, v98]) fun v99 =>
 mK (alM (NB.cells [(NV.int .i64 (.ofNat 0)), (NV.int .i64 (.ofNat 0))]) h38) fun v100 h101 =>
 mK (stM 2 v100 v99 h101) fun v102 h103 =>
 bK (nilO v0) fun v104 =>
 bK (fAddr 7 v104) fun v105 =>
 bK (ldO 1 false h103 (chkV h103 v105)) fun v106 =>
 bK (ldO 2 true h103 (chkV h103 v100)) fun v107 =>
 bK (lookO Tryz.prog 150 (NV.agg [NV.nslice, NV.nslice, NV.nslice, NV.nslice]) true h103 (chkV h103 v106) (chkV h103 v107)) fun v108 =>
 bK (extO 0 v108) fun v109 =>
 bK (extO 1 v108) fun v110 =>
 mK (alM (NB.cells [NV.nslice, NV.nslice, NV.nslice, NV.nslice]) h103) fun v111 h112 =>
 mK (stM 4 (chkV h112 v111) (chkV h112 v109) h112) fun v113 h114 =>
 nextK h112 h114 (
 bK (nilO v0) fun v115 =>
 bK (fAddr 0 v115) fun v116 =>
 bK (ldO 1 false h114 (chkV h114 v116)) fun v117 =>
 bK (nilO v117) fun v118 =>
 bK (fAddr 6 v118) fun v119 =>
 bK (ldO 1 false h114 (chkV h114 v119)) fun v120 =>
 bK (fAddr 2 v12) fun v121 =>
 bK (ldO 1 false h114 (chkV h114 v121)) fun v122 =>
 bK (ixS 1 v120 v122) fun v123 =>
 bK (ldO 1 false h114 (chkV h114 v123)) fun v124 =>
 bK (notO v110) fun v125 =>
 joinC 5 (fun v126 v127 v128 v129 v130 h131 =>
 bK (fAddr 2 v129) fun v133 =>
 bK (ldO 1 false h131 v133) fun v134 =>
 bK (lenSl v134) fun v135 =>
 joinC 5 (fun v136 v137 v138 v139 v140 h141 =>
 bK (nilO v136) fun v143 =>
 bK (fAddr 5 v143) fun v144 =>
 bK (ldO 1 false h141 (chkV h141 v144)) fun v145 =>
 bK (ldO 4 true h141 (chkV h141 v139)) fun v146 =>
 bK (bldO [(0, 4), (4, 1), (5, 1), (6, 1), (7, 1)] [NV.nslice, NV.nslice, NV.nslice, NV.nslice, NV.nilptr, (NV.int .i64 (.ofNat 0)), NV.nslice, (NV.int .i64 (.ofNat 0))] [v146, v140, (NV.int .i64 (.ofNat 0)), v138, v137]) fun v147 =>
 mK (bslM 1 false [(0, 8)] [NV.nslice, NV.nslice, NV.nslice, NV.nslice, NV.nilptr, (NV.int .i64 (.ofNat 0)), NV.nslice, (NV.int .i64 (.ofNat 0))] [(chkV h141 v147)] h141) fun v148 h149 =>
 mK (appM Tryz.prog 158 (chkV h149 v145) (chkV h149 v148) h149) fun v150 h151 =>
 nextK h149 h151 (
 bK (nilO v136) fun v152 =>
 bK (fAddr 5 v152) fun v153 =>
 mK (stM 1 (chkV h151 v153) (chkV h151 v150) h151) fun v154 h155 =>
 nextK h151 h155 (
 retC (NV.int .i64 (.ofNat 0)) h155))) fun J142 =>
 loopC N 8 (fun L165 v156 v157 v158 v159 v160 v161 v162 v163 h164 =>
 bK (ltI v163 v162) fun v166 =>
 condK v166 (
 bK (ixS 1 v161 v163) fun v167 =>
 bK (ldO 1 false h164 v167) fun v168 =>
 mK (calM call 26 [v168] h164) fun v169 h170 =>
 mK (bslM 1 false [(0, 4)] [(NV.int .i64 (.ofNat 0)), (NV.int .u64 (.ofNat 0)), (NV.int .u64 (.ofNat 0)), (NV.bool false)] [v169] h170) fun v171 h172 =>
 mK (appM Tryz.prog 59 v158 v171 h172) fun v173 h174 =>
 bK (addI v163 (NV.int .i64 (.ofNat 1))) fun v175 =>
 L165 v156 v157 v173 v159 v160 v161 v162 v175 h174) (
 J142 v156 v157 v158 v159 v160 h164)) v126 v127 v128 v129 v130 v134 v135 (NV.int .i64 (.ofNat 0)) h131) fun J132 =>
 condK v125 (
 bK (nilO v124) fun v176 =>
 bK (fAddr 0 v176) fun v177 =>
 bK (ldO 11 true h114 (chkV h114 v177)) fun v178 =>
 bK (fAddr 3 v12) fun v179 =>
 bK (ldO 1 false h114 (chkV h114 v179)) fun v180 =>
 mK (calM call 28 [(chkV h114 v178), (chkV h114 v180)] h114) fun v181 h182 =>
 nextK h114 h182 (
 bK (extO 0 v181) fun v183 =>
 bK (extO 1 v181) fun v184 =>
 mK (stM 4 (chkV h182 v111) (chkV h182 v183) h182) fun v185 h186 =>
 nextK h182 h186 (
 bK (nilO v0) fun v187 =>
 bK (fAddr 7 v187) fun v188 =>
 bK (ldO 1 false h186 (chkV h186 v188)) fun v189 =>
 bK (ldO 2 true h186 (chkV h186 v100)) fun v190 =>
 bK (ldO 4 true h186 (chkV h186 v111)) fun v191 =>
 mK (updM Tryz.prog 121 (chkV h186 v189) (chkV h186 v190) (chkV h186 v191) h186) fun v192 h193 =>
 nextK h186 h193 (
 J132 v0 v24 v29 v111 v124 h193)))) (
 J132 v0 v24 v29 v111 v124 h114)))))
theorem e15 : ikB Tryz.prog 10 Tryz.f15 = S15 := by kernel_rfl
theorem k15 [Sig] (w0 : World) : SOK cW w0 15 S15 := okW Tryz.func15 (by kernel_rfl) e15
noncomputable def S16 (call : CallF) (N : Nat) (l : List NV) (h : H) : R :=
 uc l fun v0 l1 => un l1 (
 mK (calM call 29 [v0] h) fun v2 h3 =>
 bK (nilO v2) fun v4 =>
 bK (fAddr 0 v4) fun v5 =>
 bK (fAddr 3 v5) fun v6 =>
 bK (ldO 1 false h3 (chkV h3 v6)) fun v7 =>
 bK (nilO v2) fun v8 =>
 bK (fAddr 5 v8) fun v9 =>
 bK (ldO 1 false h3 (chkV h3 v9)) fun v10 =>
 bK (ixS 11 v7 v10) fun v11 =>
 bK (ldO 11 true h3 (chkV h3 v11)) fun v12 =>
 mK (alM (NB.cells [(NV.int .i64 (.ofNat 0)), (NV.int .i64 (.ofNat 0)), (NV.int .i64 (.ofNat 0)), (NV.int .u64 (.ofNat 0)), (NV.int .u64 (.ofNat 0)), NV.nslice, (NV.int .i64 (.ofNat 0)), (NV.int .i64 (.ofNat 0)), (NV.int .i64 (.ofNat 0)), NV.nslice, (NV.bool false)]) h3) fun v13 h14 =>
 mK (stM 11 (chkV h14 v13) (chkV h14 v12) h14) fun v15 h16 =>
 nextK h14 h16 (
 bK (fAddr 10 v13) fun v17 =>
 bK (ldO 1 false h16 v17) fun v18 =>
 bK (notO v18) fun v19 =>
 joinC 3 (fun v20 v21 v22 h23 =>
 bK (nilO v21) fun v25 =>
 bK (fAddr 5 v25) fun v26 =>
 bK (ldO 1 false h23 v26) fun v27 =>
 bK (addI v27 (NV.int .i64 (.ofNat 1))) fun v28 =>
 bK (nilO v21) fun v29 =>
 bK (fAddr 5 v29) fun v30 =>
 mK (stM 1 v30 v28 h23) fun v31 h32 =>
 bK (fAddr 0 v22) fun v33 =>
 bK (ldO 1 false h32 v33) fun v34 =>
 bK (eqI v34 (NV.int .i64 (.ofNat 65536))) fun v35 =>
 joinC 0 (fun h36 =>
 retC (NV.int .i64 (.ofNat 0)) h36) fun J37 =>
 condK v35 (
 bK (fAddr 6 v22) fun v38 =>
 bK (ldO 3 true h32 v38) fun v39 =>
 mK (calM call 30 [v20, v39] h32) fun v40 h41 =>
 J37 h41) (
 bK (eqI v34 (NV.int .i64 (.ofNat 65537))) fun v42 =>
 joinC 5 (fun v43 v44 v45 v46 v47 h48 =>
 condK v47 (
 bK (fAddr 0 v45) fun v50 =>
 bK (ldO 1 false h48 (chkV h48 v50)) fun v51 =>
 bK (eqI v51 (NV.int .i64 (.ofNat 65537))) fun v52 =>
 mK (calM call 31 [(chkV h48 v43)] h48) fun v53 h54 =>
 nextK h48 h54 (
 bK (neI v53 (NV.int .u64 (.ofNat 0))) fun v55 =>
 bK (eqD Tryz.prog .eql 4 h54 (chkV h54 v55) (chkV h54 v52)) fun v56 =>
 bK (ldO 1 false h54 (chkV h54 v50)) fun v57 =>
 sameK v57 v51 (
 condK v56 (
 bK (fAddr 6 v45) fun v58 =>
 bK (ldO 3 true h54 v58) fun v59 =>
 mK (calM call 30 [v43, v59] h54) fun v60 h61 =>
 J37 h61) (
 J37 h54)))) (
 bK (eqI v46 (NV.int .i64 (.ofNat 65539))) fun v62 =>
 condK v62 (
 mK (calM call 31 [v43] h48) fun v63 h64 =>
 bK (fAddr 9 v45) fun v65 =>
 bK (ldO 1 false h64 v65) fun v66 =>
 bK (fAddr 9 v45) fun v67 =>
 bK (ldO 1 false h64 v67) fun v68 =>
 bK (lenSl v68) fun v69 =>
 bK (subI v69 (NV.int .i64 (.ofNat 1))) fun v70 =>
 bK (cvI .u64 v70) fun v71 =>
 bK (foldMM false v63 [v71]) fun v72 =>
 bK (ixS 3 v66 v72) fun v73 =>
 bK (ldO 3 true h64 v73) fun v74 =>
 mK (calM call 30 [v43, v74] h64) fun v75 h76 =>
 J37 h76) (
 bK (eqI v46 (NV.int .i64 (.ofNat 65540))) fun v77 =>
 condK v77 (
 bK (fAddr 6 v45) fun v78 =>
 bK (fAddr 1 v78) fun v79 =>
 bK (ldO 1 false h48 v79) fun v80 =>
 mK (calM call 32 [v43, v80] h48) fun v81 h82 =>
 J37 h82) (
 bK (eqI v46 (NV.int .i64 (.ofNat 0))) fun v83 =>
 condK v83 (
 retC (NV.int .i64 (.ofNat 40)) h48) (
 bK (eqI v46 (NV.int .i64 (.ofNat 1))) fun v84 =>
 condK v84 (
 J37 h48) (
 bK (eqI v46 (NV.int .i64 (.ofNat 16))) fun v85 =>
 condK v85 (
 bK (nilO v44) fun v86 =>
 bK (fAddr 4 v86) fun v87 =>
 bK (ldO 1 false h48 (chkV h48 v87)) fun v88 =>
 bK (nilO v88) fun v89 =>
 bK (fAddr 11 v89) fun v90 =>
 bK (ldO 1 false h48 (chkV h48 v90)) fun v91 =>
 bK (fAddr 1 v45) fun v92 =>
 bK (ldO 1 false h48 (chkV h48 v92)) fun v93 =>
 bK (ixS 1 v91 v93) fun v94 =>
 bK (ldO 1 false h48 (chkV h48 v94)) fun v95 =>
 mK (calM call 15 [(chkV h48 v43), (chkV h48 v95)] h48) fun v96 h97 =>
 nextK h48 h97 (
 retC v96 h97)) (
 bK (eqI v46 (NV.int .i64 (.ofNat 17))) fun v98 =>
 condK v98 (
 bK (ldO 11 true h48 v45) fun v99 =>
 mK (calM call 33 [v43, v44, v99] h48) fun v100 h101 =>
 retC v100 h101) (
 bK (ldO 11 true h48 v45) fun v102 =>
 mK (calM call 34 [v43, v44, v102] h48) fun v103 h104 =>
 retC v103 h104)))))))) fun J49 =>
 condK v42 (
 J49 v20 v21 v22 v34 v42 h32) (
 bK (eqI v34 (NV.int .i64 (.ofNat 65538))) fun v105 =>
 J49 v20 v21 v22 v34 v105 h32))) fun J24 =>
 condK v19 (
 bK (nilO v0) fun v106 =>
 bK (fAddr 4 v106) fun v107 =>
 bK (ldO 1 false h16 (chkV h16 v107)) fun v108 =>
 bK (nilO v0) fun v109 =>
 bK (fAddr 1 v109) fun v110 =>
 bK (fAddr 0 v110) fun v111 =>
 bK (ldO 1 false h16 (chkV h16 v111)) fun v112 =>
 bK (geI v108 v112) fun v113 =>
 condK v113 (
 retC (NV.int .i64 (.ofNat 51)) h16) (
 bK (nilO v0) fun v114 =>
 bK (fAddr 4 v114) fun v115 =>
 bK (ldO 1 false h16 v115) fun v116 =>
 bK (addI v116 (NV.int .i64 (.ofNat 1))) fun v117 =>
 bK (nilO v0) fun v118 =>
 bK (fAddr 4 v118) fun v119 =>
 mK (stM 1 v119 v117 h16) fun v120 h121 =>
 J24 v0 v2 v13 h121)) (
 J24 v0 v2 v13 h16)))
theorem e16 : ikB Tryz.prog 10 Tryz.f16 = S16 := by kernel_rfl
theorem k16 [Sig] (w0 : World) : SOK cW w0 16 S16 := okW Tryz.func16 (by kernel_rfl) e16
noncomputable def S18 (call : CallF) (N : Nat) (l : List NV) (h : H) : R :=
 uc l fun v0 l1 => uc l1 fun v2 l3 => uc l3 fun v4 l5 => un l5 (
 bK (nilO v0) fun v6 =>
 bK (fAddr 0 v6) fun v7 =>
 bK (ldO 1 false h v7) fun v8 =>
 bK (nilO v8) fun v9 =>
 bK (fAddr 0 v9) fun v10 =>
 bK (ldO 1 false h v10) fun v11 =>
 bK (ixS 5 v11 v2) fun v12 =>
 bK (ldO 5 true h v12) fun v13 =>
 mK (alM (NB.cells [NV.nslice, NV.nslice, (NV.int .i64 (.ofNat 0)), (NV.int .i64 (.ofNat 0)), (NV.int .i64 (.ofNat 0))]) h) fun v14 h15 =>
 mK (stM 5 v14 v13 h15) fun v16 h17 =>
 mK (appM Tryz.prog 59 NV.nslice v4 h17) fun v18 h19 =>
 bK (fAddr 4 v14) fun v20 =>
 bK (ldO 1 false h19 v20) fun v21 =>
 bK (gtI v21 (NV.int .i64 (.ofNat 0))) fun v22 =>
 condK v22 (
 bK (nilO v0) fun v23 =>
 bK (fAddr 0 v23) fun v24 =>
 bK (ldO 1 false h19 v24) fun v25 =>
 bK (nilO v25) fun v26 =>
 bK (fAddr 7 v26) fun v27 =>
 bK (ldO 1 false h19 v27) fun v28 =>
 mK (appM Tryz.prog 146 NV.nslice v28 h19) fun v29 h30 =>
 bK (nilO v0) fun v31 =>
 bK (fAddr 0 v31) fun v32 =>
 bK (ldO 1 false h30 (chkV h30 v32)) fun v33 =>
 bK (fAddr 4 v14) fun v34 =>
 bK (ldO 1 false h30 (chkV h30 v34)) fun v35 =>
 bK (subI v35 (NV.int .i64 (.ofNat 1))) fun v36 =>
 bK (bldO [(0, 1), (1, 1)] [(NV.int .i64 (.ofNat 0)), NV.nslice] [v36, v18]) fun v37 =>
 mK (bslM 1 false [(0, 2)] [(NV.int .i64 (.ofNat 0)), NV.nslice] [(chkV h30 v37)] h30) fun v38 h39 =>
 mK (appM Tryz.prog 146 (chkV h39 v29) (chkV h39 v38) h39) fun v40 h41 =>
 nextK h39 h41 (
 bK (nilO v33) fun v42 =>
 bK (fAddr 7 v42) fun v43 =>
 bK (ldO 1 false h41 (chkV h41 v32)) fun v44 =>
 sameK v44 v33 (
 mK (stM 1 (chkV h41 v43) (chkV h41 v40) h41) fun v45 h46 =>
 nextK h41 h46 (
 joinC 1 (fun v47 h48 =>
 retC v47 h48) fun J49 =>
 loopC N 3 (fun L54 v50 v51 v52 h53 =>
 bK (fAddr 0 v50) fun v55 =>
 bK (fAddr 1 v55) fun v56 =>
 bK (ldO 1 false h53 v56) fun v57 =>
 bK (lenSl v57) fun v58 =>
 bK (ltI v52 v58) fun v59 =>
 condK v59 (
 bK (fAddr 0 v50) fun v60 =>
 bK (fAddr 1 v60) fun v61 =>
 bK (ldO 1 false h53 v61) fun v62 =>
 bK (ixS 1 v62 v52) fun v63 =>
 bK (ldO 1 false h53 v63) fun v64 =>
 mK (calM call 35 [v64] h53) fun v65 h66 =>
 mK (bslM 1 false [(0, 4)] [(NV.int .i64 (.ofNat 0)), (NV.int .u64 (.ofNat 0)), (NV.int .u64 (.ofNat 0)), (NV.bool false)] [v65] h66) fun v67 h68 =>
 mK (appM Tryz.prog 59 v51 v67 h68) fun v69 h70 =>
 bK (addI v52 (NV.int .i64 (.ofNat 1))) fun v71 =>
 L54 v50 v69 v71 h70) (
 J49 v51 h53)) v14 NV.nslice (NV.int .i64 (.ofNat 0)) h46)))) (
 bK (nilO v0) fun v72 =>
 bK (fAddr 5 v72) fun v73 =>
 bK (ldO 1 false h19 (chkV h19 v73)) fun v74 =>
 bK (nilO v0) fun v75 =>
 bK (fAddr 2 v75) fun v76 =>
 bK (ldO 1 false h19 (chkV h19 v76)) fun v77 =>
 bK (eqI v74 v77) fun v78 =>
 condK v78 (
 bK (nilO v0) fun v79 =>
 bK (fAddr 6 v79) fun v80 =>
 mK (stM 1 v80 (NV.int .i64 (.ofNat 50)) h19) fun v81 h82 =>
 retC NV.nslice h82) (
 bK (nilO v0) fun v83 =>
 bK (fAddr 0 v83) fun v84 =>
 bK (ldO 1 false h19 (chkV h19 v84)) fun v85 =>
 bK (nilO v85) fun v86 =>
 bK (fAddr 6 v86) fun v87 =>
 bK (ldO 1 false h19 (chkV h19 v87)) fun v88 =>
 bK (fAddr 2 v14) fun v89 =>
 bK (ldO 1 false h19 (chkV h19 v89)) fun v90 =>
 bK (ixS 18 v88 v90) fun v91 =>
 bK (ldO 18 true h19 (chkV h19 v91)) fun v92 =>
 mK (alM (NB.cells [NV.nslice, NV.nslice, NV.nslice, NV.nslice, NV.nslice, NV.nslice, NV.nslice, (NV.int .i64 (.ofNat 0)), NV.nslice, NV.nslice, (NV.bool false), NV.nslice, NV.nslice, NV.nslice, NV.nslice, NV.nslice, NV.nslice, NV.nslice]) h19) fun v93 h94 =>
 mK (stM 18 (chkV h94 v93) (chkV h94 v92) h94) fun v95 h96 =>
 nextK h94 h96 (
 bK (fAddr 0 v93) fun v97 =>
 bK (fAddr 2 v97) fun v98 =>
 bK (ldO 1 false h96 v98) fun v99 =>
 bK (fAddr 3 v14) fun v100 =>
 bK (ldO 1 false h96 v100) fun v101 =>
 bK (ixS 3 v99 v101) fun v102 =>
 bK (ldO 3 true h96 v102) fun v103 =>
 mK (alM (NB.cells [(NV.int .i64 (.ofNat 0)), NV.nslice, NV.nslice]) h96) fun v104 h105 =>
 mK (stM 3 v104 v103 h105) fun v106 h107 =>
 joinC 5 (fun v108 v109 v110 v111 v112 h113 =>
 bK (ldO 18 true h113 v111) fun v115 =>
 bK (fAddr 0 v109) fun v116 =>
 bK (fAddr 1 v116) fun v117 =>
 bK (ldO 1 false h113 v117) fun v118 =>
 bK (lenSl v118) fun v119 =>
 bK (bldO [(0, 18), (18, 1), (20, 1)] [NV.nslice, NV.nslice, NV.nslice, NV.nslice, NV.nslice, NV.nslice, NV.nslice, (NV.int .i64 (.ofNat 0)), NV.nslice, NV.nslice, (NV.bool false), NV.nslice, NV.nslice, NV.nslice, NV.nslice, NV.nslice, NV.nslice, NV.nslice, NV.nslice, NV.nslice, (NV.int .i64 (.ofNat 0))] [v115, v110, v119]) fun v120 =>
 mK (boxM false v120 h113) fun v121 h122 =>
 bK (nilO v108) fun v123 =>
 bK (fAddr 5 v123) fun v124 =>
 bK (ldO 1 false h122 v124) fun v125 =>
 bK (addI v125 (NV.int .i64 (.ofNat 1))) fun v126 =>
 bK (nilO v108) fun v127 =>
 bK (fAddr 5 v127) fun v128 =>
 mK (stM 1 v128 v126 h122) fun v129 h130 =>
 bK (fAddr 2 v112) fun v131 =>
 bK (ldO 1 false h130 v131) fun v132 =>
 mK (calM call 36 [v108, v121, v132] h130) fun v133 h134 =>
 bK (nilO v108) fun v135 =>
 bK (fAddr 5 v135) fun v136 =>
 bK (ldO 1 false h134 v136) fun v137 =>
 bK (subI v137 (NV.int .i64 (.ofNat 1))) fun v138 =>
 bK (nilO v108) fun v139 =>
 bK (fAddr 5 v139) fun v140 =>
 mK (stM 1 v140 v138 h134) fun v141 h142 =>
 bK (nilO v108) fun v143 =>
 bK (fAddr 6 v143) fun v144 =>
 bK (ldO 1 false h142 v144) fun v145 =>
 bK (neI v145 (NV.int .i64 (.ofNat 0))) fun v146 =>
 condK v146 (
 retC NV.nslice h142) (
 bK (nilO v121) fun v147 =>
 bK (fAddr 19 v147) fun v148 =>
 bK (ldO 1 false h142 (chkV h142 v148)) fun v149 =>
 bK (nilO v121) fun v150 =>
 bK (fAddr 19 v150) fun v151 =>
 bK (ldO 1 false h142 (chkV h142 v151)) fun v152 =>
 bK (lenSl v152) fun v153 =>
 bK (nilO v121) fun v154 =>
 bK (fAddr 20 v154) fun v155 =>
 bK (ldO 1 false h142 (chkV h142 v155)) fun v156 =>
 bK (subI v153 v156) fun v157 =>
 bK (slcO Tryz.prog 47 h142 (chkV h142 v149) (some (chkV h142 v157)) none none) fun v158 =>
 retC v158 h142)) fun J114 =>
 loopC N 6 (fun L166 v159 v160 v161 v162 v163 v164 h165 =>
 bK (fAddr 1 v163) fun v167 =>
 bK (ldO 1 false h165 v167) fun v168 =>
 bK (lenSl v168) fun v169 =>
 bK (ltI v164 v169) fun v170 =>
 condK v170 (
 bK (fAddr 1 v163) fun v171 =>
 bK (ldO 1 false h165 v171) fun v172 =>
 bK (ixS 1 v172 v164) fun v173 =>
 bK (ldO 1 false h165 v173) fun v174 =>
 mK (calM call 35 [v174] h165) fun v175 h176 =>
 mK (bslM 1 false [(0, 4)] [(NV.int .i64 (.ofNat 0)), (NV.int .u64 (.ofNat 0)), (NV.int .u64 (.ofNat 0)), (NV.bool false)] [v175] h176) fun v177 h178 =>
 mK (appM Tryz.prog 59 v161 v177 h178) fun v179 h180 =>
 bK (addI v164 (NV.int .i64 (.ofNat 1))) fun v181 =>
 L166 v159 v160 v179 v162 v163 v181 h180) (
 J114 v159 v160 v161 v162 v163 h165)) v0 v14 v18 v93 v104 (NV.int .i64 (.ofNat 0)) h107))))
theorem e18 : ikB Tryz.prog 10 Tryz.f18 = S18 := by kernel_rfl
theorem k18 [Sig] (w0 : World) : SOK cW w0 18 S18 := okW Tryz.func18 (by kernel_rfl) e18
noncomputable def S19 (call : CallF) (N : Nat) (l : List NV) (h : H) : R :=
 uc l fun v0 l1 => un l1 (
 mK (boxM false v0 h) fun v2 h3 =>
 bK (fAddr 7 v2) fun v4 =>
 bK (ldO 1 false h3 v4) fun v5 =>
 bK (geI v5 (NV.int .i64 (.ofNat 0))) fun v6 =>
 jK (fun v7 h8 =>
 jK (fun v10 h11 =>
 jK (fun v13 h14 =>
 bK (pickO v6 v13 (NV.bool false)) fun v16 =>
 joinC 2 (fun v17 v18 h19 =>
 joinC 2 (fun v21 v22 h23 =>
 joinC 2 (fun v25 v26 h27 =>
 joinC 2 (fun v29 v30 h31 =>
 joinC 2 (fun v33 v34 h35 =>
 joinC 2 (fun v37 v38 h39 =>
 joinC 2 (fun v41 v42 h43 =>
 jK (fun v45 h46 =>
 jK (fun v48 h49 =>
 bK (pickO v42 v48 (NV.bool false)) fun v51 =>
 retC v51 h49) fun J50 => gK v42 true (
 mK (calM call 46 [v45] h46) fun v52 h53 =>
 J50 v52 h53) (J50 (NV.tuple []) h46)) fun J47 => gK v42 true (
 bK (ldO 11 true h43 v41) fun v54 =>
 J47 v54 h43) (J47 (NV.tuple []) h43)) fun J44 =>
 loopC N 3 (fun L59 v55 v56 v57 h58 =>
 bK (fAddr 6 v55) fun v60 =>
 bK (ldO 1 false h58 v60) fun v61 =>
 bK (lenSl v61) fun v62 =>
 bK (ltI v57 v62) fun v63 =>
 condK v63 (
 bK (fAddr 6 v55) fun v64 =>
 bK (ldO 1 false h58 v64) fun v65 =>
 bK (ixS 3 v65 v57) fun v66 =>
 bK (ldO 3 true h58 v66) fun v67 =>
 mK (alM (NB.cells [(NV.str 0 0), (NV.int .i64 (.ofNat 0)), (NV.int .i64 (.ofNat 0))]) h58) fun v68 h69 =>
 mK (stM 3 v68 v67 h69) fun v70 h71 =>
 bK (fAddr 0 v68) fun v72 =>
 bK (ldO 1 false h71 v72) fun v73 =>
 mK (calM call 45 [v73, (NV.str 0 0)] h71) fun v74 h75 =>
 bK (fAddr 2 v68) fun v76 =>
 bK (ldO 1 false h75 v76) fun v77 =>
 mK (calM call 39 [v77] h75) fun v78 h79 =>
 jK (fun v80 h81 =>
 bK (pickO v56 v80 (NV.bool false)) fun v83 =>
 jK (fun v84 h85 =>
 bK (pickO v83 v84 (NV.bool false)) fun v87 =>
 jK (fun v88 h89 =>
 jK (fun v91 h92 =>
 jK (fun v94 h95 =>
 bK (pickO v87 v94 (NV.bool false)) fun v97 =>
 jK (fun v98 h99 =>
 jK (fun v101 h102 =>
 jK (fun v104 h105 =>
 bK (pickO v97 v104 (NV.bool false)) fun v107 =>
 bK (addI v57 (NV.int .i64 (.ofNat 1))) fun v108 =>
 L59 v55 v107 v108 h105) fun J106 => gK v97 true (
 bK (leI v101 (NV.int .i64 (.ofNat 3))) fun v109 =>
 J106 v109 h102) (J106 (NV.tuple []) h102)) fun J103 => gK v97 true (
 bK (ldO 1 false h99 v98) fun v110 =>
 J103 v110 h99) (J103 (NV.tuple []) h99)) fun J100 => gK v97 true (
 bK (fAddr 1 v68) fun v111 =>
 J100 v111 h95) (J100 (NV.tuple []) h95)) fun J96 => gK v87 true (
 bK (geI v91 (NV.int .i64 (.ofNat 0))) fun v112 =>
 J96 v112 h92) (J96 (NV.tuple []) h92)) fun J93 => gK v87 true (
 bK (ldO 1 false h89 v88) fun v113 =>
 J93 v113 h89) (J93 (NV.tuple []) h89)) fun J90 => gK v87 true (
 bK (fAddr 1 v68) fun v114 =>
 J90 v114 h85) (J90 (NV.tuple []) h85)) fun J86 => gK v83 true (
 J86 v78 h81) (J86 (NV.tuple []) h81)) fun J82 => gK v56 true (
 J82 v74 h79) (J82 (NV.tuple []) h79)) (
 J44 v55 v56 h58)) v37 v38 (NV.int .i64 (.ofNat 0)) h39) fun J40 =>
 loopC N 3 (fun L119 v115 v116 v117 h118 =>
 bK (fAddr 5 v115) fun v120 =>
 bK (ldO 1 false h118 v120) fun v121 =>
 bK (lenSl v121) fun v122 =>
 bK (ltI v117 v122) fun v123 =>
 condK v123 (
 bK (fAddr 5 v115) fun v124 =>
 bK (ldO 1 false h118 v124) fun v125 =>
 bK (ixS 3 v125 v117) fun v126 =>
 bK (fAddr 0 v126) fun v127 =>
 bK (fAddr 0 v127) fun v128 =>
 bK (ldO 1 false h118 v128) fun v129 =>
 mK (calM call 44 [v129] h118) fun v130 h131 =>
 bK (fAddr 5 v115) fun v132 =>
 bK (ldO 1 false h131 v132) fun v133 =>
 bK (ixS 3 v133 v117) fun v134 =>
 bK (fAddr 2 v134) fun v135 =>
 bK (ldO 1 false h131 v135) fun v136 =>
 mK (calM call 40 [v136] h131) fun v137 h138 =>
 jK (fun v139 h140 =>
 bK (pickO v116 v139 (NV.bool false)) fun v142 =>
 jK (fun v143 h144 =>
 bK (pickO v142 v143 (NV.bool false)) fun v146 =>
 bK (addI v117 (NV.int .i64 (.ofNat 1))) fun v147 =>
 L119 v115 v146 v147 h144) fun J145 => gK v142 true (
 J145 v137 h140) (J145 (NV.tuple []) h140)) fun J141 => gK v116 true (
 J141 v130 h138) (J141 (NV.tuple []) h138)) (
 J40 v115 v116 h118)) v33 v34 (NV.int .i64 (.ofNat 0)) h35) fun J36 =>
 loopC N 3 (fun L152 v148 v149 v150 h151 =>
 bK (fAddr 4 v148) fun v153 =>
 bK (ldO 1 false h151 v153) fun v154 =>
 bK (lenSl v154) fun v155 =>
 bK (ltI v150 v155) fun v156 =>
 condK v156 (
 bK (fAddr 4 v148) fun v157 =>
 bK (ldO 1 false h151 v157) fun v158 =>
 bK (ixS 3 v158 v150) fun v159 =>
 bK (ldO 3 true h151 v159) fun v160 =>
 mK (calM call 43 [v160] h151) fun v161 h162 =>
 jK (fun v163 h164 =>
 bK (pickO v149 v163 (NV.bool false)) fun v166 =>
 bK (addI v150 (NV.int .i64 (.ofNat 1))) fun v167 =>
 L152 v148 v166 v167 h164) fun J165 => gK v149 true (
 J165 v161 h162) (J165 (NV.tuple []) h162)) (
 J36 v148 v149 h151)) v29 v30 (NV.int .i64 (.ofNat 0)) h31) fun J32 =>
 loopC N 3 (fun L172 v168 v169 v170 h171 =>
 bK (fAddr 3 v168) fun v173 =>
 bK (ldO 1 false h171 v173) fun v174 =>
 bK (lenSl v174) fun v175 =>
 bK (ltI v170 v175) fun v176 =>
 condK v176 (
 bK (fAddr 3 v168) fun v177 =>
 bK (ldO 1 false h171 v177) fun v178 =>
 bK (ixS 4 v178 v170) fun v179 =>
 bK (ldO 4 true h171 v179) fun v180 =>
 mK (calM call 42 [v180] h171) fun v181 h182 =>
 jK (fun v183 h184 =>
 bK (pickO v169 v183 (NV.bool false)) fun v186 =>
 bK (addI v170 (NV.int .i64 (.ofNat 1))) fun v187 =>
 L172 v168 v186 v187 h184) fun J185 => gK v169 true (
 J185 v181 h182) (J185 (NV.tuple []) h182)) (
 J32 v168 v169 h171)) v25 v26 (NV.int .i64 (.ofNat 0)) h27) fun J28 =>
 loopC N 3 (fun L192 v188 v189 v190 h191 =>
 bK (fAddr 2 v188) fun v193 =>
 bK (ldO 1 false h191 v193) fun v194 =>
 bK (lenSl v194) fun v195 =>
 bK (ltI v190 v195) fun v196 =>
 condK v196 (
 bK (fAddr 2 v188) fun v197 =>
 bK (ldO 1 false h191 v197) fun v198 =>
 bK (ixS 3 v198 v190) fun v199 =>
 bK (ldO 3 true h191 v199) fun v200 =>
 mK (alM (NB.cells [(NV.int .i64 (.ofNat 0)), NV.nslice, NV.nslice]) h191) fun v201 h202 =>
 mK (stM 3 v201 v200 h202) fun v203 h204 =>
 bK (fAddr 0 v201) fun v205 =>
 bK (ldO 1 false h204 v205) fun v206 =>
 mK (calM call 39 [v206] h204) fun v207 h208 =>
 bK (fAddr 1 v201) fun v209 =>
 bK (ldO 1 false h208 v209) fun v210 =>
 mK (calM call 37 [v210] h208) fun v211 h212 =>
 bK (fAddr 2 v201) fun v213 =>
 bK (ldO 1 false h212 v213) fun v214 =>
 mK (calM call 40 [v214] h212) fun v215 h216 =>
 bK (fAddr 2 v201) fun v217 =>
 bK (ldO 1 false h216 v217) fun v218 =>
 mK (calM call 41 [v218] h216) fun v219 h220 =>
 jK (fun v221 h222 =>
 bK (pickO v189 v221 (NV.bool false)) fun v224 =>
 jK (fun v225 h226 =>
 bK (pickO v224 v225 (NV.bool false)) fun v228 =>
 jK (fun v229 h230 =>
 bK (pickO v228 v229 (NV.bool false)) fun v232 =>
 jK (fun v233 h234 =>
 jK (fun v236 h237 =>
 jK (fun v239 h240 =>
 jK (fun v242 h243 =>
 bK (pickO v232 v242 (NV.bool false)) fun v245 =>
 jK (fun v246 h247 =>
 jK (fun v249 h250 =>
 jK (fun v252 h253 =>
 jK (fun v255 h256 =>
 jK (fun v258 h259 =>
 jK (fun v261 h262 =>
 bK (pickO v245 v261 (NV.bool false)) fun v264 =>
 bK (addI v190 (NV.int .i64 (.ofNat 1))) fun v265 =>
 L192 v188 v264 v265 h262) fun J263 => gK v245 true (
 bK (pickO v252 (NV.bool true) v258) fun v266 =>
 J263 v266 h259) (J263 (NV.tuple []) h259)) fun J260 => gK v252 false (
 bK (notO v255) fun v267 =>
 J260 v267 h256) (J260 (NV.tuple []) h256)) fun J257 => gK v252 false (
 J257 v219 h253) (J257 (NV.tuple []) h253)) fun J254 => gK v245 true (
 J254 v249 h250) (J254 (NV.tuple []) h250)) fun J251 => gK v245 true (
 bK (ldO 1 false h247 v246) fun v268 =>
 J251 v268 h247) (J251 (NV.tuple []) h247)) fun J248 => gK v245 true (
 bK (fAddr 10 v188) fun v269 =>
 J248 v269 h243) (J248 (NV.tuple []) h243)) fun J244 => gK v232 true (
 bK (leI v239 (NV.int .i64 (.ofNat 50000))) fun v270 =>
 J244 v270 h240) (J244 (NV.tuple []) h240)) fun J241 => gK v232 true (
 bK (lenSl v236) fun v271 =>
 J241 v271 h237) (J241 (NV.tuple []) h237)) fun J238 => gK v232 true (
 bK (ldO 1 false h234 v233) fun v272 =>
 J238 v272 h234) (J238 (NV.tuple []) h234)) fun J235 => gK v232 true (
 bK (fAddr 1 v201) fun v273 =>
 J235 v273 h230) (J235 (NV.tuple []) h230)) fun J231 => gK v228 true (
 J231 v215 h226) (J231 (NV.tuple []) h226)) fun J227 => gK v224 true (
 J227 v211 h222) (J227 (NV.tuple []) h222)) fun J223 => gK v189 true (
 J223 v207 h220) (J223 (NV.tuple []) h220)) (
 J28 v188 v189 h191)) v21 v22 (NV.int .i64 (.ofNat 0)) h23) fun J24 =>
 loopC N 3 (fun L278 v274 v275 v276 h277 =>
 bK (fAddr 1 v274) fun v279 =>
 bK (ldO 1 false h277 v279) fun v280 =>
 bK (lenSl v280) fun v281 =>
 bK (ltI v276 v281) fun v282 =>
 condK v282 (
 bK (fAddr 1 v274) fun v283 =>
 bK (ldO 1 false h277 v283) fun v284 =>
 bK (ixS 13 v284 v276) fun v285 =>
 bK (ldO 13 true h277 v285) fun v286 =>
 mK (calM call 38 [v286] h277) fun v287 h288 =>
 jK (fun v289 h290 =>
 bK (pickO v275 v289 (NV.bool false)) fun v292 =>
 bK (addI v276 (NV.int .i64 (.ofNat 1))) fun v293 =>
 L278 v274 v292 v293 h290) fun J291 => gK v275 true (
 J291 v287 h288) (J291 (NV.tuple []) h288)) (
 J24 v274 v275 h277)) v17 v18 (NV.int .i64 (.ofNat 0)) h19) fun J20 =>
 loopC N 3 (fun L298 v294 v295 v296 h297 =>
 bK (fAddr 0 v294) fun v299 =>
 bK (ldO 1 false h297 v299) fun v300 =>
 bK (lenSl v300) fun v301 =>
 bK (ltI v296 v301) fun v302 =>
 condK v302 (
 bK (fAddr 0 v294) fun v303 =>
 bK (ldO 1 false h297 v303) fun v304 =>
 bK (ixS 2 v304 v296) fun v305 =>
 bK (fAddr 0 v305) fun v306 =>
 bK (ldO 1 false h297 v306) fun v307 =>
 mK (calM call 37 [v307] h297) fun v308 h309 =>
 bK (fAddr 0 v294) fun v310 =>
 bK (ldO 1 false h309 v310) fun v311 =>
 bK (ixS 2 v311 v296) fun v312 =>
 bK (fAddr 1 v312) fun v313 =>
 bK (ldO 1 false h309 v313) fun v314 =>
 mK (calM call 37 [v314] h309) fun v315 h316 =>
 jK (fun v317 h318 =>
 bK (pickO v295 v317 (NV.bool false)) fun v320 =>
 jK (fun v321 h322 =>
 bK (pickO v320 v321 (NV.bool false)) fun v324 =>
 bK (addI v296 (NV.int .i64 (.ofNat 1))) fun v325 =>
 L298 v294 v324 v325 h322) fun J323 => gK v320 true (
 J323 v315 h318) (J323 (NV.tuple []) h318)) fun J319 => gK v295 true (
 J319 v308 h316) (J319 (NV.tuple []) h316)) (
 J20 v294 v295 h297)) v2 v16 (NV.int .i64 (.ofNat 0)) h14) fun J15 => gK v6 true (
 bK (leI v10 (NV.int .i64 (.ofNat 4294967296))) fun v326 =>
 J15 v326 h11) (J15 (NV.tuple []) h11)) fun J12 => gK v6 true (
 bK (ldO 1 false h8 v7) fun v327 =>
 J12 v327 h8) (J12 (NV.tuple []) h8)) fun J9 => gK v6 true (
 bK (fAddr 7 v2) fun v328 =>
 J9 v328 h3) (J9 (NV.tuple []) h3))
theorem e19 : ikB Tryz.prog 10 Tryz.f19 = S19 := by kernel_rfl
theorem k19 [Sig] (w0 : World) : SOK cW w0 19 S19 := okW Tryz.func19 (by kernel_rfl) e19
noncomputable def S20 (call : CallF) (N : Nat) (l : List NV) (h : H) : R :=
 uc l fun v0 l1 => un l1 (
 mK (boxM false v0 h) fun v2 h3 =>
 mK (alM (NB.cells [NV.nslice, NV.nslice, NV.nslice, NV.nslice, NV.nslice, NV.nslice, NV.nslice, (NV.int .i64 (.ofNat 0)), NV.nslice, NV.nslice, (NV.bool false), NV.nslice, NV.nslice, NV.nslice, NV.nslice, (NV.int .i64 (.ofNat 0))]) h3) fun v4 h5 =>
 bK (ldO 11 true h5 v2) fun v6 =>
 bK (bldO [(0, 11)] [NV.nslice, NV.nslice, NV.nslice, NV.nslice, NV.nslice, NV.nslice, NV.nslice, (NV.int .i64 (.ofNat 0)), NV.nslice, NV.nslice, (NV.bool false), NV.nslice, NV.nslice, NV.nslice, NV.nslice, (NV.int .i64 (.ofNat 0))] [v6]) fun v7 =>
 mK (alM (NB.cells [NV.nslice, NV.nslice, NV.nslice, NV.nslice, NV.nslice, NV.nslice, NV.nslice, (NV.int .i64 (.ofNat 0)), NV.nslice, NV.nslice, (NV.bool false), NV.nslice, NV.nslice, NV.nslice, NV.nslice, (NV.int .i64 (.ofNat 0))]) h5) fun v8 h9 =>
 mK (stM 16 v8 v7 h9) fun v10 h11 =>
 joinC 3 (fun v12 v13 v14 h15 =>
 joinC 3 (fun v17 v18 v19 h20 =>
 bK (fAddr 12 v19) fun v22 =>
 bK (ldO 1 false h20 v22) fun v23 =>
 bK (fAddr 3 v17) fun v24 =>
 bK (ldO 1 false h20 v24) fun v25 =>
 mK (appM Tryz.prog 63 v23 v25 h20) fun v26 h27 =>
 bK (fAddr 12 v19) fun v28 =>
 mK (stM 1 v28 v26 h27) fun v29 h30 =>
 bK (fAddr 13 v19) fun v31 =>
 bK (ldO 1 false h30 v31) fun v32 =>
 bK (fAddr 4 v17) fun v33 =>
 bK (ldO 1 false h30 v33) fun v34 =>
 mK (appM Tryz.prog 61 v32 v34 h30) fun v35 h36 =>
 bK (fAddr 13 v19) fun v37 =>
 mK (stM 1 v37 v35 h36) fun v38 h39 =>
 joinC 2 (fun v40 v41 h42 =>
 bK (ldO 16 true h42 v41) fun v44 =>
 mK (stM 16 v40 v44 h42) fun v45 h46 =>
 bK (ldB 16 true h46 v40) fun v47 =>
 retC v47 h46) fun J43 =>
 loopC N 4 (fun L53 v48 v49 v50 v51 h52 =>
 bK (fAddr 5 v48) fun v54 =>
 bK (ldO 1 false h52 v54) fun v55 =>
 bK (lenSl v55) fun v56 =>
 bK (ltI v51 v56) fun v57 =>
 condK v57 (
 bK (fAddr 14 v50) fun v58 =>
 bK (ldO 1 false h52 (chkV h52 v58)) fun v59 =>
 bK (fAddr 5 v48) fun v60 =>
 bK (ldO 1 false h52 (chkV h52 v60)) fun v61 =>
 bK (ixS 3 v61 v51) fun v62 =>
 bK (fAddr 0 v62) fun v63 =>
 bK (ldO 2 true h52 (chkV h52 v63)) fun v64 =>
 mK (bslM 1 false [(0, 2)] [(NV.int .i64 (.ofNat 0)), (NV.bool false)] [(chkV h52 v64)] h52) fun v65 h66 =>
 mK (appM Tryz.prog 65 (chkV h66 v59) (chkV h66 v65) h66) fun v67 h68 =>
 nextK h66 h68 (
 bK (fAddr 14 v50) fun v69 =>
 mK (stM 1 (chkV h68 v69) (chkV h68 v67) h68) fun v70 h71 =>
 nextK h68 h71 (
 bK (addI v51 (NV.int .i64 (.ofNat 1))) fun v72 =>
 L53 v48 v49 v50 v72 h71))) (
 J43 v49 v50 h52)) v17 v18 v19 (NV.int .i64 (.ofNat 0)) h39) fun J21 =>
 loopC N 4 (fun L78 v73 v74 v75 v76 h77 =>
 bK (fAddr 2 v73) fun v79 =>
 bK (ldO 1 false h77 v79) fun v80 =>
 bK (lenSl v80) fun v81 =>
 bK (ltI v76 v81) fun v82 =>
 condK v82 (
 bK (fAddr 11 v75) fun v83 =>
 bK (ldO 1 false h77 (chkV h77 v83)) fun v84 =>
 bK (fAddr 2 v73) fun v85 =>
 bK (ldO 1 false h77 (chkV h77 v85)) fun v86 =>
 bK (ixS 3 v86 v76) fun v87 =>
 bK (fAddr 0 v87) fun v88 =>
 bK (ldO 1 false h77 (chkV h77 v88)) fun v89 =>
 mK (bslM 1 false [(0, 1)] [(NV.int .i64 (.ofNat 0))] [(chkV h77 v89)] h77) fun v90 h91 =>
 mK (appM Tryz.prog 3 (chkV h91 v84) (chkV h91 v90) h91) fun v92 h93 =>
 nextK h91 h93 (
 bK (fAddr 11 v75) fun v94 =>
 mK (stM 1 (chkV h93 v94) (chkV h93 v92) h93) fun v95 h96 =>
 nextK h93 h96 (
 bK (addI v76 (NV.int .i64 (.ofNat 1))) fun v97 =>
 L78 v73 v74 v75 v97 h96))) (
 J21 v73 v74 v75 h77)) v12 v13 v14 (NV.int .i64 (.ofNat 0)) h15) fun J16 =>
 loopC N 4 (fun L103 v98 v99 v100 v101 h102 =>
 bK (fAddr 1 v98) fun v104 =>
 bK (ldO 1 false h102 v104) fun v105 =>
 bK (lenSl v105) fun v106 =>
 bK (ltI v101 v106) fun v107 =>
 condK v107 (
 bK (fAddr 1 v98) fun v108 =>
 bK (ldO 1 false h102 v108) fun v109 =>
 bK (ixS 13 v109 v101) fun v110 =>
 bK (ldO 13 true h102 v110) fun v111 =>
 mK (alM (NB.cells [(NV.str 0 0), (NV.str 0 0), (NV.int .i64 (.ofNat 0)), (NV.int .i64 (.ofNat 0)), (NV.int .i64 (.ofNat 0)), (NV.int .i64 (.ofNat 0)), (NV.int .i64 (.ofNat 0)), (NV.bool false), (NV.int .i64 (.ofNat 0)), (NV.int .i64 (.ofNat 0)), (NV.bool false), (NV.int .i64 (.ofNat 0)), (NV.bool false)]) h102) fun v112 h113 =>
 mK (stM 13 v112 v111 h113) fun v114 h115 =>
 bK (fAddr 2 v112) fun v116 =>
 bK (ldO 1 false h115 v116) fun v117 =>
 bK (eqI v117 (NV.int .i64 (.ofNat 0))) fun v118 =>
 joinC 4 (fun v119 v120 v121 v122 h123 =>
 bK (addI v122 (NV.int .i64 (.ofNat 1))) fun v125 =>
 L103 v119 v120 v121 v125 h123) fun J124 =>
 condK v118 (
 bK (fAddr 11 v100) fun v126 =>
 bK (ldO 1 false h115 v126) fun v127 =>
 bK (fAddr 3 v112) fun v128 =>
 bK (ldO 1 false h115 v128) fun v129 =>
 mK (bslM 1 false [(0, 1)] [(NV.int .i64 (.ofNat 0))] [v129] h115) fun v130 h131 =>
 mK (appM Tryz.prog 3 v127 v130 h131) fun v132 h133 =>
 bK (fAddr 11 v100) fun v134 =>
 mK (stM 1 v134 v132 h133) fun v135 h136 =>
 J124 v98 v99 v100 v101 h136) (
 bK (eqI v117 (NV.int .i64 (.ofNat 1))) fun v137 =>
 condK v137 (
 bK (fAddr 12 v100) fun v138 =>
 bK (ldO 1 false h115 v138) fun v139 =>
 bK (fAddr 4 v112) fun v140 =>
 bK (ldO 4 true h115 v140) fun v141 =>
 mK (bslM 1 false [(0, 4)] [(NV.int .i64 (.ofNat 0)), (NV.int .i64 (.ofNat 0)), (NV.int .i64 (.ofNat 0)), (NV.bool false)] [v141] h115) fun v142 h143 =>
 mK (appM Tryz.prog 63 v139 v142 h143) fun v144 h145 =>
 bK (fAddr 12 v100) fun v146 =>
 mK (stM 1 v146 v144 h145) fun v147 h148 =>
 J124 v98 v99 v100 v101 h148) (
 bK (eqI v117 (NV.int .i64 (.ofNat 2))) fun v149 =>
 condK v149 (
 bK (fAddr 13 v100) fun v150 =>
 bK (ldO 1 false h115 v150) fun v151 =>
 bK (fAddr 8 v112) fun v152 =>
 bK (ldO 3 true h115 v152) fun v153 =>
 mK (bslM 1 false [(0, 3)] [(NV.int .i64 (.ofNat 0)), (NV.int .i64 (.ofNat 0)), (NV.bool false)] [v153] h115) fun v154 h155 =>
 mK (appM Tryz.prog 61 v151 v154 h155) fun v156 h157 =>
 bK (fAddr 13 v100) fun v158 =>
 mK (stM 1 v158 v156 h157) fun v159 h160 =>
 J124 v98 v99 v100 v101 h160) (
 bK (fAddr 14 v100) fun v161 =>
 bK (ldO 1 false h115 v161) fun v162 =>
 bK (fAddr 11 v112) fun v163 =>
 bK (ldO 2 true h115 v163) fun v164 =>
 mK (bslM 1 false [(0, 2)] [(NV.int .i64 (.ofNat 0)), (NV.bool false)] [v164] h115) fun v165 h166 =>
 mK (appM Tryz.prog 65 v162 v165 h166) fun v167 h168 =>
 bK (fAddr 14 v100) fun v169 =>
 mK (stM 1 v169 v167 h168) fun v170 h171 =>
 bK (fAddr 15 v100) fun v172 =>
 bK (ldO 1 false h171 v172) fun v173 =>
 bK (addI v173 (NV.int .i64 (.ofNat 1))) fun v174 =>
 bK (fAddr 15 v100) fun v175 =>
 mK (stM 1 v175 v174 h171) fun v176 h177 =>
 J124 v98 v99 v100 v101 h177)))) (
 J16 v98 v99 v100 h102)) v2 v4 v8 (NV.int .i64 (.ofNat 0)) h11)
theorem e20 : ikB Tryz.prog 10 Tryz.f20 = S20 := by kernel_rfl
theorem k20 [Sig] (w0 : World) : SOK cW w0 20 S20 := okW Tryz.func20 (by kernel_rfl) e20
noncomputable def S21 (call : CallF) (N : Nat) (l : List NV) (h : H) : R :=
 uc l fun v0 l1 => uc l1 fun v2 l3 => un l3 (
 mK (boxM false v0 h) fun v4 h5 =>
 mK (alM (NB.cells [NV.nslice, NV.nslice]) h5) fun v6 h7 =>
 bK (ltI v2 (NV.int .i64 (.ofNat 0))) fun v8 =>
 jK (fun v9 h10 =>
 jK (fun v12 h13 =>
 jK (fun v15 h16 =>
 jK (fun v18 h19 =>
 jK (fun v21 h22 =>
 bK (pickO v8 (NV.bool true) v21) fun v24 =>
 jK (fun v25 h26 =>
 jK (fun v28 h29 =>
 jK (fun v31 h32 =>
 jK (fun v34 h35 =>
 jK (fun v37 h38 =>
 jK (fun v40 h41 =>
 jK (fun v43 h44 =>
 jK (fun v46 h47 =>
 jK (fun v49 h50 =>
 jK (fun v52 h53 =>
 bK (pickO v24 (NV.bool true) v52) fun v55 =>
 condK v55 (
 bK (bldO [] [NV.nslice, NV.nslice] []) fun v56 =>
 mK (stM 2 v6 v56 h7) fun v57 h58 =>
 bK (ldB 2 true h58 v6) fun v59 =>
 retC (NV.tuple [v59, (NV.bool false)]) h58) (
 bK (fAddr 0 v4) fun v60 =>
 bK (fAddr 0 v60) fun v61 =>
 bK (ldO 1 false h7 (chkV h7 v61)) fun v62 =>
 bK (fAddr 11 v4) fun v63 =>
 bK (ldO 1 false h7 (chkV h7 v63)) fun v64 =>
 bK (ixS 1 v64 v2) fun v65 =>
 bK (ldO 1 false h7 (chkV h7 v65)) fun v66 =>
 bK (ixS 2 v62 v66) fun v67 =>
 bK (ldO 2 true h7 (chkV h7 v67)) fun v68 =>
 mK (stM 2 (chkV h7 v6) (chkV h7 v68) h7) fun v69 h70 =>
 nextK h7 h70 (
 bK (ldB 2 true h70 v6) fun v71 =>
 retC (NV.tuple [v71, (NV.bool true)]) h70))) fun J54 => gK v24 false (
 bK (geI v37 v49) fun v72 =>
 J54 v72 h7) (J54 (NV.tuple []) h7)) fun J51 => gK v24 false (
 bK (lenSl v46) fun v73 =>
 J51 v73 h7) (J51 (NV.tuple []) h7)) fun J48 => gK v24 false (
 bK (ldO 1 false h7 (chkV h7 v43)) fun v74 =>
 J48 v74 h7) (J48 (NV.tuple []) h7)) fun J45 => gK v24 false (
 bK (fAddr 0 v40) fun v75 =>
 J45 v75 h7) (J45 (NV.tuple []) h7)) fun J42 => gK v24 false (
 bK (fAddr 0 v4) fun v76 =>
 J42 v76 h7) (J42 (NV.tuple []) h7)) fun J39 => gK v24 false (
 bK (ldO 1 false h7 (chkV h7 v34)) fun v77 =>
 J39 v77 h7) (J39 (NV.tuple []) h7)) fun J36 => gK v24 false (
 bK (ixS 1 v28 v31) fun v78 =>
 J36 v78 h7) (J36 (NV.tuple []) h7)) fun J33 => gK v24 false (
 J33 v2 h7) (J33 (NV.tuple []) h7)) fun J30 => gK v24 false (
 bK (ldO 1 false h7 (chkV h7 v25)) fun v79 =>
 J30 v79 h7) (J30 (NV.tuple []) h7)) fun J27 => gK v24 false (
 bK (fAddr 11 v4) fun v80 =>
 J27 v80 h7) (J27 (NV.tuple []) h7)) fun J23 => gK v8 false (
 bK (geI v9 v18) fun v81 =>
 J23 v81 h7) (J23 (NV.tuple []) h7)) fun J20 => gK v8 false (
 bK (lenSl v15) fun v82 =>
 J20 v82 h7) (J20 (NV.tuple []) h7)) fun J17 => gK v8 false (
 bK (ldO 1 false h7 (chkV h7 v12)) fun v83 =>
 J17 v83 h7) (J17 (NV.tuple []) h7)) fun J14 => gK v8 false (
 bK (fAddr 11 v4) fun v84 =>
 J14 v84 h7) (J14 (NV.tuple []) h7)) fun J11 => gK v8 false (
 J11 v2 h7) (J11 (NV.tuple []) h7))
theorem e21 : ikB Tryz.prog 10 Tryz.f21 = S21 := by kernel_rfl
theorem k21 [Sig] (w0 : World) : SOK cW w0 21 S21 := okW Tryz.func21 (by kernel_rfl) e21
noncomputable def S22 (call : CallF) (N : Nat) (l : List NV) (h : H) : R :=
 uc l fun v0 l1 => uc l1 fun v2 l3 => uc l3 fun v4 l5 => un l5 (
 mK (boxM false v0 h) fun v6 h7 =>
 bK (lenSl v2) fun v8 =>
 bK (neI v8 (NV.int .i64 (.ofNat 1))) fun v9 =>
 condK v9 (
 retC (NV.bool false) h7) (
 bK (ixS 9 v2 (NV.int .i64 (.ofNat 0))) fun v10 =>
 bK (ldO 9 true h7 v10) fun v11 =>
 mK (alM (NB.cells [(NV.int .i64 (.ofNat 0)), (NV.int .i64 (.ofNat 0)), (NV.int .i64 (.ofNat 0)), (NV.int .u64 (.ofNat 0)), (NV.int .u64 (.ofNat 0)), NV.nslice, NV.nslice, NV.nslice, (NV.bool false)]) h7) fun v12 h13 =>
 mK (stM 9 v12 v11 h13) fun v14 h15 =>
 bK (fAddr 0 v12) fun v16 =>
 bK (ldO 1 false h15 v16) fun v17 =>
 mK (calM call 47 [v17] h15) fun v18 h19 =>
 bK (fldO false 1 1 v18) fun v20 =>
 bK (binO .eql v20 (NV.str 9 2148140020583875359593)) fun v21 =>
 joinC 5 (fun v22 v23 v24 v25 v26 h27 =>
 condK v26 (
 bK (fAddr 0 v24) fun v29 =>
 bK (ldO 1 false h27 v29) fun v30 =>
 mK (calM call 47 [v30] h27) fun v31 h32 =>
 bK (fldO false 1 4 v31) fun v33 =>
 mK (calM call 48 [v33] h32) fun v34 h35 =>
 bK (ixS 1 v34 (NV.int .i64 (.ofNat 0))) fun v36 =>
 bK (ldO 1 false h35 v36) fun v37 =>
 bK (eqI v37 v22) fun v38 =>
 retC v38 h35) (
 bK (binO .eql v25 (NV.str 8 7812748569666282866)) fun v39 =>
 condK v39 (
 bK (fAddr 1 v24) fun v40 =>
 bK (ldO 1 false h27 v40) fun v41 =>
 bK (eqI v41 v22) fun v42 =>
 retC v42 h27) (
 bK (binO .eql v25 (NV.str 8 7164793138918614386)) fun v43 =>
 condK v43 (
 bK (fAddr 1 v24) fun v44 =>
 bK (ldO 1 false h27 v44) fun v45 =>
 bK (fAddr 11 v23) fun v46 =>
 bK (ldO 1 false h27 v46) fun v47 =>
 bK (lenSl v47) fun v48 =>
 bK (ltI v45 v48) fun v49 =>
 jK (fun v50 h51 =>
 jK (fun v53 h54 =>
 bK (pickO v49 v53 (NV.bool false)) fun v56 =>
 retC v56 h54) fun J55 => gK v49 true (
 bK (eqI v50 (NV.int .i64 (.ofNat 112))) fun v57 =>
 J55 v57 h51) (J55 (NV.tuple []) h51)) fun J52 => gK v49 true (
 J52 v22 h27) (J52 (NV.tuple []) h27)) (
 bK (binO .eql v25 (NV.str 10 549665068163523863866471)) fun v58 =>
 condK v58 (
 bK (fAddr 1 v24) fun v59 =>
 bK (ldO 1 false h27 v59) fun v60 =>
 bK (fAddr 15 v23) fun v61 =>
 bK (ldO 1 false h27 v61) fun v62 =>
 bK (ltI v60 v62) fun v63 =>
 jK (fun v64 h65 =>
 jK (fun v67 h68 =>
 jK (fun v70 h71 =>
 jK (fun v73 h74 =>
 jK (fun v76 h77 =>
 jK (fun v79 h80 =>
 jK (fun v82 h83 =>
 jK (fun v85 h86 =>
 bK (pickO v63 v85 (NV.bool false)) fun v88 =>
 jK (fun v89 h90 =>
 jK (fun v92 h93 =>
 jK (fun v95 h96 =>
 jK (fun v98 h99 =>
 jK (fun v101 h102 =>
 jK (fun v104 h105 =>
 jK (fun v107 h108 =>
 jK (fun v110 h111 =>
 jK (fun v113 h114 =>
 bK (pickO v88 v113 (NV.bool false)) fun v116 =>
 retC v116 h114) fun J115 => gK v88 true (
 bK (eqI v107 v110) fun v117 =>
 J115 v117 h111) (J115 (NV.tuple []) h111)) fun J112 => gK v88 true (
 J112 v22 h108) (J112 (NV.tuple []) h108)) fun J109 => gK v88 true (
 bK (ldO 1 false h105 v104) fun v118 =>
 J109 v118 h105) (J109 (NV.tuple []) h105)) fun J106 => gK v88 true (
 bK (fAddr 0 v101) fun v119 =>
 J106 v119 h102) (J106 (NV.tuple []) h102)) fun J103 => gK v88 true (
 bK (ixS 2 v92 v98) fun v120 =>
 J103 v120 h99) (J103 (NV.tuple []) h99)) fun J100 => gK v88 true (
 bK (ldO 1 false h96 v95) fun v121 =>
 J100 v121 h96) (J100 (NV.tuple []) h96)) fun J97 => gK v88 true (
 bK (fAddr 1 v24) fun v122 =>
 J97 v122 h93) (J97 (NV.tuple []) h93)) fun J94 => gK v88 true (
 bK (ldO 1 false h90 v89) fun v123 =>
 J94 v123 h90) (J94 (NV.tuple []) h90)) fun J91 => gK v88 true (
 bK (fAddr 14 v23) fun v124 =>
 J91 v124 h86) (J91 (NV.tuple []) h86)) fun J87 => gK v63 true (
 bK (notO v82) fun v125 =>
 J87 v125 h83) (J87 (NV.tuple []) h83)) fun J84 => gK v63 true (
 bK (ldO 1 false h80 v79) fun v126 =>
 J84 v126 h80) (J84 (NV.tuple []) h80)) fun J81 => gK v63 true (
 bK (fAddr 1 v76) fun v127 =>
 J81 v127 h77) (J81 (NV.tuple []) h77)) fun J78 => gK v63 true (
 bK (ixS 2 v67 v73) fun v128 =>
 J78 v128 h74) (J78 (NV.tuple []) h74)) fun J75 => gK v63 true (
 bK (ldO 1 false h71 v70) fun v129 =>
 J75 v129 h71) (J75 (NV.tuple []) h71)) fun J72 => gK v63 true (
 bK (fAddr 1 v24) fun v130 =>
 J72 v130 h68) (J72 (NV.tuple []) h68)) fun J69 => gK v63 true (
 bK (ldO 1 false h65 v64) fun v131 =>
 J69 v131 h65) (J69 (NV.tuple []) h65)) fun J66 => gK v63 true (
 bK (fAddr 14 v23) fun v132 =>
 J66 v132 h27) (J66 (NV.tuple []) h27)) (
 retC (NV.bool false) h27))))) fun J28 =>
 condK v21 (
 J28 v4 v6 v12 v20 v21 h19) (
 bK (binO .eql v20 (NV.str 9 2148140020583875491433)) fun v133 =>
 condK v133 (
 J28 v4 v6 v12 v20 v133 h19) (
 bK (binO .eql v20 (NV.str 9 2148140020583875359590)) fun v134 =>
 condK v134 (
 J28 v4 v6 v12 v20 v134 h19) (
 bK (binO .eql v20 (NV.str 9 2148140020583875491430)) fun v135 =>
 condK v135 (
 J28 v4 v6 v12 v20 v135 h19) (
 bK (binO .eql v20 (NV.str 10 549923845269472192639350)) fun v136 =>
 J28 v4 v6 v12 v20 v136 h19))))))
theorem e22 : ikB Tryz.prog 10 Tryz.f22 = S22 := by kernel_rfl
theorem k22 [Sig] (w0 : World) : SOK cW w0 22 S22 := okW Tryz.func22 (by kernel_rfl) e22
noncomputable def S23 (call : CallF) (N : Nat) (l : List NV) (h : H) : R :=
 uc l fun v0 l1 => un l1 (
 mK (boxM false v0 h) fun v2 h3 =>
 bK (fAddr 0 v2) fun v4 =>
 bK (fAddr 6 v4) fun v5 =>
 bK (ldO 1 false h3 v5) fun v6 =>
 bK (fAddr 11 v2) fun v7 =>
 bK (ldO 1 false h3 v7) fun v8 =>
 bK (lenSl v8) fun v9 =>
 bK (fAddr 12 v2) fun v10 =>
 bK (ldO 1 false h3 v10) fun v11 =>
 bK (lenSl v11) fun v12 =>
 bK (fAddr 13 v2) fun v13 =>
 bK (ldO 1 false h3 v13) fun v14 =>
 bK (lenSl v14) fun v15 =>
 bK (fAddr 14 v2) fun v16 =>
 bK (ldO 1 false h3 v16) fun v17 =>
 bK (lenSl v17) fun v18 =>
 mK (bslM 4 false [(0, 1), (1, 1), (2, 1), (3, 1)] [(NV.int .i64 (.ofNat 0)), (NV.int .i64 (.ofNat 0)), (NV.int .i64 (.ofNat 0)), (NV.int .i64 (.ofNat 0))] [v9, v12, v15, v18] h3) fun v19 h20 =>
 joinC 0 (fun h21 =>
 retC (NV.bool true) h21) fun J22 =>
 loopC N 3 (fun L27 v23 v24 v25 h26 =>
 bK (lenSl v23) fun v28 =>
 bK (ltI v25 v28) fun v29 =>
 condK v29 (
 joinC 3 (fun v30 v31 v32 h33 =>
 bK (addI v32 (NV.int .i64 (.ofNat 1))) fun v35 =>
 L27 v30 v31 v35 h33) fun J34 =>
 bK (ixS 3 v23 v25) fun v36 =>
 bK (fAddr 2 v36) fun v37 =>
 bK (ldO 1 false h26 (chkV h26 v37)) fun v38 =>
 bK (ixS 3 v23 v25) fun v39 =>
 bK (fAddr 1 v39) fun v40 =>
 bK (ldO 1 false h26 (chkV h26 v40)) fun v41 =>
 bK (ixS 1 v24 v41) fun v42 =>
 bK (ldO 1 false h26 (chkV h26 v42)) fun v43 =>
 bK (geI v38 v43) fun v44 =>
 condK v44 (
 retC (NV.bool false) h26) (
 loopC N 4 (fun L50 v45 v46 v47 v48 h49 =>
 bK (ltI v48 v47) fun v51 =>
 condK v51 (
 bK (ixS 3 v45 v48) fun v52 =>
 bK (fAddr 0 v52) fun v53 =>
 bK (ldO 1 false h49 (chkV h49 v53)) fun v54 =>
 bK (ixS 3 v45 v47) fun v55 =>
 bK (fAddr 0 v55) fun v56 =>
 bK (ldO 1 false h49 (chkV h49 v56)) fun v57 =>
 bK (binO .eql v54 v57) fun v58 =>
 condK v58 (
 retC (NV.bool false) h49) (
 bK (addI v48 (NV.int .i64 (.ofNat 1))) fun v59 =>
 L50 v45 v46 v47 v59 h49)) (
 J34 v45 v46 v47 h49)) v23 v24 v25 (NV.int .i64 (.ofNat 0)) h26)) (
 J22 h26)) v6 v19 (NV.int .i64 (.ofNat 0)) h20)
theorem e23 : ikB Tryz.prog 10 Tryz.f23 = S23 := by kernel_rfl
theorem k23 [Sig] (w0 : World) : SOK cW w0 23 S23 := okW Tryz.func23 (by kernel_rfl) e23
noncomputable def S24 (call : CallF) (N : Nat) (l : List NV) (h : H) : R :=
 uc l fun v0 l1 => un l1 (
 mK (boxM false v0 h) fun v2 h3 =>
 joinC 2 (fun v4 v5 h6 =>
 joinC 1 (fun v8 h9 =>
 retC v8 h9) fun J10 =>
 loopC N 3 (fun L15 v11 v12 v13 h14 =>
 bK (fAddr 0 v11) fun v16 =>
 bK (fAddr 9 v16) fun v17 =>
 bK (ldO 1 false h14 v17) fun v18 =>
 bK (lenSl v18) fun v19 =>
 bK (ltI v13 v19) fun v20 =>
 jK (fun v21 h22 =>
 bK (pickO v20 v21 (NV.bool false)) fun v24 =>
 condK v24 (
 bK (fAddr 0 v11) fun v25 =>
 bK (fAddr 9 v25) fun v26 =>
 bK (ldO 1 false h22 v26) fun v27 =>
 bK (ixS 4 v27 v13) fun v28 =>
 bK (ldO 4 true h22 v28) fun v29 =>
 mK (alM (NB.cells [(NV.int .i64 (.ofNat 0)), (NV.int .i64 (.ofNat 0)), NV.nslice, NV.nslice]) h22) fun v30 h31 =>
 mK (stM 4 v30 v29 h31) fun v32 h33 =>
 bK (fAddr 0 v30) fun v34 =>
 bK (ldO 1 false h33 v34) fun v35 =>
 bK (eqI v35 (NV.int .i64 (.ofNat 0))) fun v36 =>
 joinC 3 (fun v37 v38 v39 h40 =>
 bK (addI v39 (NV.int .i64 (.ofNat 1))) fun v42 =>
 L15 v37 v38 v42 h40) fun J41 =>
 condK v36 (
 bK (ldO 16 true h33 v11) fun v43 =>
 bK (fAddr 2 v30) fun v44 =>
 bK (ldO 1 false h33 v44) fun v45 =>
 mK (calM call 22 [v43, v45, (NV.int .i64 (.ofNat 127))] h33) fun v46 h47 =>
 jK (fun v48 h49 =>
 jK (fun v51 h52 =>
 jK (fun v54 h55 =>
 jK (fun v57 h58 =>
 jK (fun v60 h61 =>
 jK (fun v63 h64 =>
 bK (pickO v46 v63 (NV.bool false)) fun v66 =>
 J41 v11 v66 v13 h64) fun J65 => gK v46 true (
 bK (ltI v51 v60) fun v67 =>
 J65 v67 h61) (J65 (NV.tuple []) h61)) fun J62 => gK v46 true (
 bK (lenSl v57) fun v68 =>
 J62 v68 h58) (J62 (NV.tuple []) h58)) fun J59 => gK v46 true (
 bK (ldO 1 false h55 v54) fun v69 =>
 J59 v69 h55) (J59 (NV.tuple []) h55)) fun J56 => gK v46 true (
 bK (fAddr 13 v11) fun v70 =>
 J56 v70 h52) (J56 (NV.tuple []) h52)) fun J53 => gK v46 true (
 bK (ldO 1 false h49 v48) fun v71 =>
 J53 v71 h49) (J53 (NV.tuple []) h49)) fun J50 => gK v46 true (
 bK (fAddr 1 v30) fun v72 =>
 J50 v72 h47) (J50 (NV.tuple []) h47)) (
 J41 v11 v12 v13 h33)) (
 J10 v12 h22)) fun J23 => gK v20 true (
 J23 v12 h14) (J23 (NV.tuple []) h14)) v4 v5 (NV.int .i64 (.ofNat 0)) h6) fun J7 =>
 loopC N 3 (fun L77 v73 v74 v75 h76 =>
 bK (fAddr 0 v73) fun v78 =>
 bK (fAddr 8 v78) fun v79 =>
 bK (ldO 1 false h76 v79) fun v80 =>
 bK (lenSl v80) fun v81 =>
 bK (ltI v75 v81) fun v82 =>
 jK (fun v83 h84 =>
 bK (pickO v82 v83 (NV.bool false)) fun v86 =>
 condK v86 (
 joinC 3 (fun v87 v88 v89 h90 =>
 bK (addI v89 (NV.int .i64 (.ofNat 1))) fun v92 =>
 L77 v87 v88 v92 h90) fun J91 =>
 bK (fAddr 0 v73) fun v93 =>
 bK (fAddr 8 v93) fun v94 =>
 bK (ldO 1 false h84 v94) fun v95 =>
 bK (ixS 5 v95 v75) fun v96 =>
 bK (ldO 5 true h84 v96) fun v97 =>
 mK (alM (NB.cells [(NV.int .i64 (.ofNat 0)), (NV.int .i64 (.ofNat 0)), (NV.int .i64 (.ofNat 0)), NV.nslice, NV.nslice]) h84) fun v98 h99 =>
 mK (stM 5 v98 v97 h99) fun v100 h101 =>
 joinC 4 (fun v102 v103 v104 v105 h106 =>
 bK (fAddr 1 v105) fun v108 =>
 bK (ldO 1 false h106 v108) fun v109 =>
 bK (eqI v109 (NV.int .i64 (.ofNat 0))) fun v110 =>
 condK v110 (
 bK (ldO 16 true h106 v102) fun v111 =>
 bK (fAddr 3 v105) fun v112 =>
 bK (ldO 1 false h106 v112) fun v113 =>
 mK (calM call 22 [v111, v113, (NV.int .i64 (.ofNat 127))] h106) fun v114 h115 =>
 jK (fun v116 h117 =>
 bK (pickO v103 v116 (NV.bool false)) fun v119 =>
 jK (fun v120 h121 =>
 jK (fun v123 h124 =>
 jK (fun v126 h127 =>
 jK (fun v129 h130 =>
 jK (fun v132 h133 =>
 jK (fun v135 h136 =>
 bK (pickO v119 v135 (NV.bool false)) fun v138 =>
 jK (fun v139 h140 =>
 jK (fun v142 h143 =>
 jK (fun v145 h146 =>
 jK (fun v148 h149 =>
 jK (fun v151 h152 =>
 jK (fun v154 h155 =>
 jK (fun v157 h158 =>
 jK (fun v160 h161 =>
 jK (fun v163 h164 =>
 jK (fun v166 h167 =>
 bK (pickO v138 v166 (NV.bool false)) fun v169 =>
 J91 v102 v169 v104 h115) fun J168 => gK v138 true (
 bK (eqI v157 v163) fun v170 =>
 J168 v170 h115) (J168 (NV.tuple []) h115)) fun J165 => gK v138 true (
 bK (ldO 1 false h115 (chkV h115 v160)) fun v171 =>
 J165 v171 h115) (J165 (NV.tuple []) h115)) fun J162 => gK v138 true (
 bK (fAddr 0 v105) fun v172 =>
 J162 v172 h115) (J162 (NV.tuple []) h115)) fun J159 => gK v138 true (
 bK (ldO 1 false h115 (chkV h115 v154)) fun v173 =>
 J159 v173 h115) (J159 (NV.tuple []) h115)) fun J156 => gK v138 true (
 bK (fAddr 0 v151) fun v174 =>
 J156 v174 h115) (J156 (NV.tuple []) h115)) fun J153 => gK v138 true (
 bK (ixS 4 v142 v148) fun v175 =>
 J153 v175 h115) (J153 (NV.tuple []) h115)) fun J150 => gK v138 true (
 bK (ldO 1 false h115 (chkV h115 v145)) fun v176 =>
 J150 v176 h115) (J150 (NV.tuple []) h115)) fun J147 => gK v138 true (
 bK (fAddr 2 v105) fun v177 =>
 J147 v177 h115) (J147 (NV.tuple []) h115)) fun J144 => gK v138 true (
 bK (ldO 1 false h115 (chkV h115 v139)) fun v178 =>
 J144 v178 h115) (J144 (NV.tuple []) h115)) fun J141 => gK v138 true (
 bK (fAddr 12 v102) fun v179 =>
 J141 v179 h115) (J141 (NV.tuple []) h115)) fun J137 => gK v119 true (
 bK (ltI v123 v132) fun v180 =>
 J137 v180 h115) (J137 (NV.tuple []) h115)) fun J134 => gK v119 true (
 bK (lenSl v129) fun v181 =>
 J134 v181 h115) (J134 (NV.tuple []) h115)) fun J131 => gK v119 true (
 bK (ldO 1 false h115 (chkV h115 v126)) fun v182 =>
 J131 v182 h115) (J131 (NV.tuple []) h115)) fun J128 => gK v119 true (
 bK (fAddr 12 v102) fun v183 =>
 J128 v183 h115) (J128 (NV.tuple []) h115)) fun J125 => gK v119 true (
 bK (ldO 1 false h115 (chkV h115 v120)) fun v184 =>
 J125 v184 h115) (J125 (NV.tuple []) h115)) fun J122 => gK v119 true (
 bK (fAddr 2 v105) fun v185 =>
 J122 v185 h115) (J122 (NV.tuple []) h115)) fun J118 => gK v103 true (
 J118 v114 h115) (J118 (NV.tuple []) h115)) (
 J91 v102 v103 v104 h106)) fun J107 =>
 loopC N 5 (fun L192 v186 v187 v188 v189 v190 h191 =>
 bK (fAddr 4 v189) fun v193 =>
 bK (ldO 1 false h191 v193) fun v194 =>
 bK (lenSl v194) fun v195 =>
 bK (ltI v190 v195) fun v196 =>
 condK v196 (
 bK (ldO 16 true h191 (chkV h191 v186)) fun v197 =>
 bK (fAddr 4 v189) fun v198 =>
 bK (ldO 1 false h191 (chkV h191 v198)) fun v199 =>
 bK (ixS 1 v199 v190) fun v200 =>
 bK (ldO 1 false h191 (chkV h191 v200)) fun v201 =>
 bK (fAddr 0 v189) fun v202 =>
 bK (ldO 1 false h191 (chkV h191 v202)) fun v203 =>
 mK (calM call 22 [(chkV h191 v197), (chkV h191 v201), (chkV h191 v203)] h191) fun v204 h205 =>
 nextK h191 h205 (
 jK (fun v206 h207 =>
 bK (pickO v187 v206 (NV.bool false)) fun v209 =>
 bK (addI v190 (NV.int .i64 (.ofNat 1))) fun v210 =>
 L192 v186 v209 v188 v189 v210 h207) fun J208 => gK v187 true (
 J208 v204 h205) (J208 (NV.tuple []) h205))) (
 J107 v186 v187 v188 v189 h191)) v73 v74 v75 v98 (NV.int .i64 (.ofNat 0)) h101) (
 J7 v73 v74 h84)) fun J85 => gK v82 true (
 J85 v74 h76) (J85 (NV.tuple []) h76)) v2 (NV.bool true) (NV.int .i64 (.ofNat 0)) h3)
theorem e24 : ikB Tryz.prog 10 Tryz.f24 = S24 := by kernel_rfl
theorem k24 [Sig] (w0 : World) : SOK cW w0 24 S24 := okW Tryz.func24 (by kernel_rfl) e24
noncomputable def S25 (call : CallF) (N : Nat) (l : List NV) (h : H) : R :=
 uc l fun v0 l1 => uc l1 fun v2 l3 => uc l3 fun v4 l5 => uc l5 fun v6 l7 => uc l7 fun v8 l9 => un l9 (
 mK (boxM false v0 h) fun v10 h11 =>
 bK (bldO [(0, 1)] [NV.nslice, (NV.bool false), (NV.bool false)] [v2]) fun v12 =>
 mK (alM (NB.cells [NV.nslice, (NV.bool false), (NV.bool false)]) h11) fun v13 h14 =>
 mK (stM 3 v13 v12 h14) fun v15 h16 =>
 joinC 2 (fun v17 v18 h19 =>
 bK (ldO 3 true h19 v18) fun v21 =>
 mK (calM call 50 [v21, v17] h19) fun v22 h23 =>
 mK (stM 3 v18 v22 h23) fun v24 h25 =>
 bK (fAddr 2 v18) fun v26 =>
 bK (ldO 1 false h25 v26) fun v27 =>
 bK (notO v27) fun v28 =>
 jK (fun v29 h30 =>
 jK (fun v32 h33 =>
 jK (fun v35 h36 =>
 jK (fun v38 h39 =>
 bK (pickO v28 v38 (NV.bool false)) fun v41 =>
 retC v41 h39) fun J40 => gK v28 true (
 bK (eqI v35 (NV.int .i64 (.ofNat 0))) fun v42 =>
 J40 v42 h36) (J40 (NV.tuple []) h36)) fun J37 => gK v28 true (
 bK (lenSl v32) fun v43 =>
 J37 v43 h33) (J37 (NV.tuple []) h33)) fun J34 => gK v28 true (
 bK (ldO 1 false h30 v29) fun v44 =>
 J34 v44 h30) (J34 (NV.tuple []) h30)) fun J31 => gK v28 true (
 bK (fAddr 0 v18) fun v45 =>
 J31 v45 h25) (J31 (NV.tuple []) h25)) fun J20 =>
 loopC N 6 (fun L53 v46 v47 v48 v49 v50 v51 h52 =>
 bK (lenSl v48) fun v54 =>
 bK (ltI v51 v54) fun v55 =>
 jK (fun v56 h57 =>
 jK (fun v59 h60 =>
 jK (fun v62 h63 =>
 bK (pickO v55 v62 (NV.bool false)) fun v65 =>
 condK v65 (
 bK (ldO 18 true h63 (chkV h63 v49)) fun v66 =>
 bK (ldO 3 true h63 (chkV h63 v50)) fun v67 =>
 bK (ixS 9 v48 v51) fun v68 =>
 bK (ldO 9 true h63 (chkV h63 v68)) fun v69 =>
 mK (calM call 49 [(chkV h63 v66), (chkV h63 v67), (chkV h63 v47), (chkV h63 v69)] h63) fun v70 h71 =>
 nextK h63 h71 (
 mK (stM 3 (chkV h71 v50) (chkV h71 v70) h71) fun v72 h73 =>
 nextK h71 h73 (
 bK (addI v51 (NV.int .i64 (.ofNat 1))) fun v74 =>
 L53 v46 v47 v48 v49 v50 v74 h73))) (
 J20 v46 v50 h63)) fun J64 => gK v55 true (
 bK (notO v59) fun v75 =>
 J64 v75 h60) (J64 (NV.tuple []) h60)) fun J61 => gK v55 true (
 bK (ldO 1 false h57 v56) fun v76 =>
 J61 v76 h57) (J61 (NV.tuple []) h57)) fun J58 => gK v55 true (
 bK (fAddr 2 v50) fun v77 =>
 J58 v77 h52) (J58 (NV.tuple []) h52)) v4 v6 v8 v10 v13 (NV.int .i64 (.ofNat 0)) h16)
theorem e25 : ikB Tryz.prog 10 Tryz.f25 = S25 := by kernel_rfl
theorem k25 [Sig] (w0 : World) : SOK cW w0 25 S25 := okW Tryz.func25 (by kernel_rfl) e25
noncomputable def S26 (call : CallF) (N : Nat) (l : List NV) (h : H) : R :=
 uc l fun v0 l1 => un l1 (
 mK (alM (NB.cells [(NV.int .i64 (.ofNat 0)), (NV.int .u64 (.ofNat 0)), (NV.int .u64 (.ofNat 0)), (NV.bool false)]) h) fun v2 h3 =>
 bK (eqI v0 (NV.int .i64 (.ofNat 112))) fun v4 =>
 jK (fun v5 h6 =>
 jK (fun v8 h9 =>
 bK (pickO v4 (NV.bool true) v8) fun v11 =>
 bK (bldO [(0, 1), (3, 1)] [(NV.int .i64 (.ofNat 0)), (NV.int .u64 (.ofNat 0)), (NV.int .u64 (.ofNat 0)), (NV.bool false)] [v0, v11]) fun v12 =>
 mK (stM 4 v2 v12 h9) fun v13 h14 =>
 bK (ldB 4 true h14 v2) fun v15 =>
 retC v15 h14) fun J10 => gK v4 false (
 bK (eqI v5 (NV.int .i64 (.ofNat 111))) fun v16 =>
 J10 v16 h6) (J10 (NV.tuple []) h6)) fun J7 => gK v4 false (
 J7 v0 h3) (J7 (NV.tuple []) h3))
theorem e26 : ikB Tryz.prog 10 Tryz.f26 = S26 := by kernel_rfl
theorem k26 [Sig] (w0 : World) : SOK cW w0 26 S26 := okW Tryz.func26 (by kernel_rfl) e26
noncomputable def S27 (call : CallF) (N : Nat) (l : List NV) (h : H) : R :=
 uc l fun v0 l1 => uc l1 fun v2 l3 => un l3 (
 bK (nilO v0) fun v4 =>
 bK (fAddr 6 v4) fun v5 =>
 bK (ldO 1 false h v5) fun v6 =>
 mK (appM Tryz.prog 59 v6 v2 h) fun v7 h8 =>
 bK (nilO v0) fun v9 =>
 bK (fAddr 6 v9) fun v10 =>
 mK (stM 1 v10 v7 h8) fun v11 h12 =>
 retC (NV.tuple []) h12)
theorem e27 : ikB Tryz.prog 10 Tryz.f27 = S27 := by kernel_rfl
theorem k27 [Sig] (w0 : World) : SOK cW w0 27 S27 := okW Tryz.func27 (by kernel_rfl) e27
noncomputable def S28 (call : CallF) (N : Nat) (l : List NV) (h : H) : R :=
 uc l fun v0 l1 => uc l1 fun v2 l3 => un l3 (
 mK (boxM false v0 h) fun v4 h5 =>
 mK (alM (NB.cells [NV.nslice, NV.nslice, NV.nslice, NV.nslice]) h5) fun v6 h7 =>
 bK (ldO 11 true h7 v4) fun v8 =>
 mK (calM call 51 [v8] h7) fun v9 h10 =>
 bK (neI v9 (NV.int .i64 (.ofNat 0))) fun v11 =>
 condK v11 (
 bK (bldO [] [NV.nslice, NV.nslice, NV.nslice, NV.nslice] []) fun v12 =>
 mK (stM 4 v6 v12 h10) fun v13 h14 =>
 bK (ldB 4 true h14 v6) fun v15 =>
 retC (NV.tuple [v15, v9]) h14) (
 bK (ltI v2 (NV.int .i64 (.ofNat 0))) fun v16 =>
 jK (fun v17 h18 =>
 jK (fun v20 h21 =>
 jK (fun v23 h24 =>
 jK (fun v26 h27 =>
 jK (fun v29 h30 =>
 bK (pickO v16 (NV.bool true) v29) fun v32 =>
 condK v32 (
 bK (bldO [] [NV.nslice, NV.nslice, NV.nslice, NV.nslice] []) fun v33 =>
 mK (stM 4 v6 v33 h30) fun v34 h35 =>
 bK (ldB 4 true h35 v6) fun v36 =>
 retC (NV.tuple [v36, (NV.int .i64 (.ofNat 1))]) h35) (
 bK (ldO 11 true h30 v4) fun v37 =>
 mK (calM call 52 [v37, v2] h30) fun v38 h39 =>
 mK (stM 4 v6 v38 h39) fun v40 h41 =>
 bK (ldB 4 true h41 v6) fun v42 =>
 retC (NV.tuple [v42, (NV.int .i64 (.ofNat 0))]) h41)) fun J31 => gK v16 false (
 bK (geI v17 v26) fun v43 =>
 J31 v43 h27) (J31 (NV.tuple []) h27)) fun J28 => gK v16 false (
 bK (lenSl v23) fun v44 =>
 J28 v44 h24) (J28 (NV.tuple []) h24)) fun J25 => gK v16 false (
 bK (ldO 1 false h21 v20) fun v45 =>
 J25 v45 h21) (J25 (NV.tuple []) h21)) fun J22 => gK v16 false (
 bK (fAddr 2 v4) fun v46 =>
 J22 v46 h18) (J22 (NV.tuple []) h18)) fun J19 => gK v16 false (
 J19 v2 h10) (J19 (NV.tuple []) h10)))
theorem e28 : ikB Tryz.prog 10 Tryz.f28 = S28 := by kernel_rfl
theorem k28 [Sig] (w0 : World) : SOK cW w0 28 S28 := okW Tryz.func28 (by kernel_rfl) e28
noncomputable def S29 (call : CallF) (N : Nat) (l : List NV) (h : H) : R :=
 uc l fun v0 l1 => un l1 (
 bK (nilO v0) fun v2 =>
 bK (fAddr 5 v2) fun v3 =>
 bK (ldO 1 false h (chkV h v3)) fun v4 =>
 bK (nilO v0) fun v5 =>
 bK (fAddr 5 v5) fun v6 =>
 bK (ldO 1 false h (chkV h v6)) fun v7 =>
 bK (lenSl v7) fun v8 =>
 bK (subI v8 (NV.int .i64 (.ofNat 1))) fun v9 =>
 bK (ixS 8 v4 v9) fun v10 =>
 retC v10 h)
theorem e29 : ikB Tryz.prog 10 Tryz.f29 = S29 := by kernel_rfl
theorem k29 [Sig] (w0 : World) : SOK cW w0 29 S29 := okW Tryz.func29 (by kernel_rfl) e29
noncomputable def S30 (call : CallF) (N : Nat) (l : List NV) (h : H) : R :=
 uc l fun v0 l1 => uc l1 fun v2 l3 => un l3 (
 mK (boxM false v2 h) fun v4 h5 =>
 bK (nilO v0) fun v6 =>
 bK (fAddr 6 v6) fun v7 =>
 bK (ldO 1 false h5 v7) fun v8 =>
 bK (lenSl v8) fun v9 =>
 bK (nilO v0) fun v10 =>
 bK (fAddr 6 v10) fun v11 =>
 bK (ldO 1 false h5 (chkV h5 v11)) fun v12 =>
 bK (fAddr 1 v4) fun v13 =>
 bK (ldO 1 false h5 (chkV h5 v13)) fun v14 =>
 bK (subI v9 v14) fun v15 =>
 bK (fAddr 2 v4) fun v16 =>
 bK (ldO 1 false h5 (chkV h5 v16)) fun v17 =>
 bK (subI v15 v17) fun v18 =>
 bK (fAddr 1 v4) fun v19 =>
 bK (ldO 1 false h5 (chkV h5 v19)) fun v20 =>
 bK (subI v9 v20) fun v21 =>
 mK (calM call 53 [(chkV h5 v12), (chkV h5 v18), (chkV h5 v21)] h5) fun v22 h23 =>
 nextK h5 h23 (
 bK (nilO v0) fun v24 =>
 bK (fAddr 6 v24) fun v25 =>
 mK (stM 1 (chkV h23 v25) (chkV h23 v22) h23) fun v26 h27 =>
 nextK h23 h27 (
 bK (fAddr 0 v4) fun v28 =>
 bK (ldO 1 false h27 (chkV h27 v28)) fun v29 =>
 mK (calM call 29 [(chkV h27 v0)] h27) fun v30 h31 =>
 nextK h27 h31 (
 bK (nilO v30) fun v32 =>
 bK (fAddr 5 v32) fun v33 =>
 bK (ldO 1 false h31 (chkV h31 v28)) fun v34 =>
 sameK v34 v29 (
 mK (stM 1 (chkV h31 v33) (chkV h31 v29) h31) fun v35 h36 =>
 nextK h31 h36 (
 retC (NV.tuple []) h36))))))
theorem e30 : ikB Tryz.prog 10 Tryz.f30 = S30 := by kernel_rfl
theorem k30 [Sig] (w0 : World) : SOK cW w0 30 S30 := okW Tryz.func30 (by kernel_rfl) e30
noncomputable def S31 (call : CallF) (N : Nat) (l : List NV) (h : H) : R :=
 uc l fun v0 l1 => un l1 (
 mK (calM call 54 [v0] h) fun v2 h3 =>
 bK (fldO false 1 1 v2) fun v4 =>
 retC v4 h3)
theorem e31 : ikB Tryz.prog 10 Tryz.f31 = S31 := by kernel_rfl
theorem k31 [Sig] (w0 : World) : SOK cW w0 31 S31 := okW Tryz.func31 (by kernel_rfl) e31
noncomputable def S32 (call : CallF) (N : Nat) (l : List NV) (h : H) : R :=
 uc l fun v0 l1 => uc l1 fun v2 l3 => un l3 (
 bK (nilO v0) fun v4 =>
 bK (fAddr 6 v4) fun v5 =>
 bK (ldO 1 false h (chkV h v5)) fun v6 =>
 bK (nilO v0) fun v7 =>
 bK (fAddr 6 v7) fun v8 =>
 bK (ldO 1 false h (chkV h v8)) fun v9 =>
 bK (lenSl v9) fun v10 =>
 bK (subI v10 v2) fun v11 =>
 mK (calM call 29 [(chkV h v0)] h) fun v12 h13 =>
 nextK h h13 (
 bK (nilO v12) fun v14 =>
 bK (fAddr 7 v14) fun v15 =>
 bK (ldO 1 false h13 (chkV h13 v15)) fun v16 =>
 bK (ldO 1 false h13 (chkV h13 v5)) fun v17 =>
 sameK v17 v6 (
 bK (ldO 1 false h13 (chkV h13 v8)) fun v18 =>
 sameK v18 v9 (
 mK (calM call 53 [(chkV h13 v6), (chkV h13 v16), (chkV h13 v11)] h13) fun v19 h20 =>
 nextK h13 h20 (
 bK (nilO v0) fun v21 =>
 bK (fAddr 6 v21) fun v22 =>
 mK (stM 1 (chkV h20 v22) (chkV h20 v19) h20) fun v23 h24 =>
 nextK h20 h24 (
 bK (nilO v0) fun v25 =>
 bK (fAddr 5 v25) fun v26 =>
 bK (ldO 1 false h24 (chkV h24 v26)) fun v27 =>
 bK (nilO v0) fun v28 =>
 bK (fAddr 5 v28) fun v29 =>
 bK (ldO 1 false h24 (chkV h24 v29)) fun v30 =>
 bK (lenSl v30) fun v31 =>
 bK (subI v31 (NV.int .i64 (.ofNat 1))) fun v32 =>
 bK (slcO Tryz.prog 122 h24 (chkV h24 v27) none (some (chkV h24 v32)) none) fun v33 =>
 bK (nilO v0) fun v34 =>
 bK (fAddr 5 v34) fun v35 =>
 mK (stM 1 (chkV h24 v35) (chkV h24 v33) h24) fun v36 h37 =>
 nextK h24 h37 (
 retC (NV.tuple []) h37)))))))
theorem e32 : ikB Tryz.prog 10 Tryz.f32 = S32 := by kernel_rfl
theorem k32 [Sig] (w0 : World) : SOK cW w0 32 S32 := okW Tryz.func32 (by kernel_rfl) e32
noncomputable def S33 (call : CallF) (N : Nat) (l : List NV) (h : H) : R :=
 uc l fun v0 l1 => uc l1 fun v2 l3 => uc l3 fun v4 l5 => un l5 (
 mK (boxM false v4 h) fun v6 h7 =>
 bK (nilO v0) fun v8 =>
 bK (fAddr 0 v8) fun v9 =>
 bK (ldO 1 false h7 (chkV h7 v9)) fun v10 =>
 bK (nilO v10) fun v11 =>
 bK (fAddr 1 v11) fun v12 =>
 bK (ldO 1 false h7 (chkV h7 v12)) fun v13 =>
 bK (nilO v2) fun v14 =>
 bK (fAddr 4 v14) fun v15 =>
 bK (ldO 1 false h7 (chkV h7 v15)) fun v16 =>
 bK (nilO v16) fun v17 =>
 bK (fAddr 12 v17) fun v18 =>
 bK (ldO 1 false h7 (chkV h7 v18)) fun v19 =>
 bK (fAddr 2 v6) fun v20 =>
 bK (ldO 1 false h7 (chkV h7 v20)) fun v21 =>
 bK (ixS 1 v19 v21) fun v22 =>
 bK (ldO 1 false h7 (chkV h7 v22)) fun v23 =>
 bK (ixS 1 v13 v23) fun v24 =>
 bK (ldO 1 false h7 (chkV h7 v24)) fun v25 =>
 mK (calM call 31 [v0] h7) fun v26 h27 =>
 bK (nilO v25) fun v28 =>
 bK (fAddr 4 v28) fun v29 =>
 bK (ldO 1 false h27 v29) fun v30 =>
 bK (lenSl v30) fun v31 =>
 bK (cvI .u64 v31) fun v32 =>
 bK (geI v26 v32) fun v33 =>
 condK v33 (
 retC (NV.int .i64 (.ofNat 48)) h27) (
 bK (nilO v25) fun v34 =>
 bK (fAddr 4 v34) fun v35 =>
 bK (ldO 1 false h27 v35) fun v36 =>
 bK (ixS 4 v36 v26) fun v37 =>
 bK (ldO 4 true h27 v37) fun v38 =>
 mK (alM (NB.cells [(NV.int .i64 (.ofNat 0)), (NV.int .u64 (.ofNat 0)), (NV.int .u64 (.ofNat 0)), (NV.bool false)]) h27) fun v39 h40 =>
 mK (stM 4 v39 v38 h40) fun v41 h42 =>
 bK (fAddr 3 v39) fun v43 =>
 bK (ldO 1 false h42 v43) fun v44 =>
 condK v44 (
 retC (NV.int .i64 (.ofNat 46)) h42) (
 bK (nilO v0) fun v45 =>
 bK (fAddr 0 v45) fun v46 =>
 bK (ldO 1 false h42 (chkV h42 v46)) fun v47 =>
 bK (nilO v47) fun v48 =>
 bK (fAddr 0 v48) fun v49 =>
 bK (ldO 1 false h42 (chkV h42 v49)) fun v50 =>
 bK (fAddr 1 v39) fun v51 =>
 bK (ldO 1 false h42 (chkV h42 v51)) fun v52 =>
 bK (ixS 5 v50 v52) fun v53 =>
 bK (fAddr 0 v53) fun v54 =>
 bK (ldO 2 true h42 (chkV h42 v54)) fun v55 =>
 bK (nilO v2) fun v56 =>
 bK (fAddr 4 v56) fun v57 =>
 bK (ldO 1 false h42 (chkV h42 v57)) fun v58 =>
 bK (nilO v58) fun v59 =>
 bK (fAddr 0 v59) fun v60 =>
 bK (fAddr 0 v60) fun v61 =>
 bK (ldO 1 false h42 (chkV h42 v61)) fun v62 =>
 bK (fAddr 1 v6) fun v63 =>
 bK (ldO 1 false h42 (chkV h42 v63)) fun v64 =>
 bK (ixS 2 v62 v64) fun v65 =>
 bK (ldO 2 true h42 (chkV h42 v65)) fun v66 =>
 mK (alM (NB.cells [NV.nslice, NV.nslice]) h42) fun v67 h68 =>
 mK (alM (NB.cells [NV.nslice, NV.nslice]) h68) fun v69 h70 =>
 mK (stM 2 (chkV h70 v67) (chkV h70 v55) h70) fun v71 h72 =>
 nextK h70 h72 (
 bK (ldO 1 false h72 (chkV h72 v57)) fun v73 =>
 sameK v73 v58 (
 bK (ldO 1 false h72 (chkV h72 v61)) fun v74 =>
 sameK v74 v62 (
 bK (ldO 1 false h72 (chkV h72 v63)) fun v75 =>
 sameK v75 v64 (
 bK (ldO 2 true h72 (chkV h72 v65)) fun v76 =>
 sameK v76 v66 (
 mK (stM 2 (chkV h72 v69) (chkV h72 v66) h72) fun v77 h78 =>
 nextK h72 h78 (
 bK (fAddr 0 v67) fun v79 =>
 bK (ldO 1 false h78 v79) fun v80 =>
 bK (fAddr 0 v69) fun v81 =>
 bK (ldO 1 false h78 v81) fun v82 =>
 mK (calM call 55 [v80, v82] h78) fun v83 h84 =>
 bK (notO v83) fun v85 =>
 jK (fun v86 h87 =>
 jK (fun v89 h90 =>
 jK (fun v92 h93 =>
 jK (fun v95 h96 =>
 jK (fun v98 h99 =>
 jK (fun v101 h102 =>
 bK (pickO v85 (NV.bool true) v101) fun v104 =>
 condK v104 (
 retC (NV.int .i64 (.ofNat 47)) h102) (
 bK (fAddr 1 v39) fun v105 =>
 bK (ldO 1 false h102 v105) fun v106 =>
 bK (cvI .i64 v106) fun v107 =>
 mK (calM call 15 [v0, v107] h102) fun v108 h109 =>
 retC v108 h109)) fun J103 => gK v85 false (
 bK (notO v98) fun v110 =>
 J103 v110 h99) (J103 (NV.tuple []) h99)) fun J100 => gK v85 false (
 mK (calM call 55 [v89, v95] h96) fun v111 h112 =>
 J100 v111 h112) (J100 (NV.tuple []) h96)) fun J97 => gK v85 false (
 bK (ldO 1 false h93 v92) fun v113 =>
 J97 v113 h93) (J97 (NV.tuple []) h93)) fun J94 => gK v85 false (
 bK (fAddr 1 v69) fun v114 =>
 J94 v114 h90) (J94 (NV.tuple []) h90)) fun J91 => gK v85 false (
 bK (ldO 1 false h87 v86) fun v115 =>
 J91 v115 h87) (J91 (NV.tuple []) h87)) fun J88 => gK v85 false (
 bK (fAddr 1 v67) fun v116 =>
 J88 v116 h84) (J88 (NV.tuple []) h84))))))))))
theorem e33 : ikB Tryz.prog 10 Tryz.f33 = S33 := by kernel_rfl
theorem k33 [Sig] (w0 : World) : SOK cW w0 33 S33 := okW Tryz.func33 (by kernel_rfl) e33
noncomputable def S34 (call : CallF) (N : Nat) (l : List NV) (h : H) : R :=
 uc l fun v0 l1 => uc l1 fun v2 l3 => uc l3 fun v4 l5 => un l5 (
 mK (boxM false v4 h) fun v6 h7 =>
 bK (fAddr 0 v6) fun v8 =>
 bK (ldO 1 false h7 v8) fun v9 =>
 bK (geI v9 (NV.int .i64 (.ofNat 65))) fun v10 =>
 jK (fun v11 h12 =>
 jK (fun v14 h15 =>
 bK (pickO v10 v14 (NV.bool false)) fun v17 =>
 jK (fun v18 h19 =>
 jK (fun v21 h22 =>
 bK (pickO v17 (NV.bool true) v21) fun v24 =>
 joinC 0 (fun h25 =>
 retC (NV.int .i64 (.ofNat 0)) h25) fun J26 =>
 condK v24 (
 mK (calM call 56 [v9] h22) fun v27 h28 =>
 bK (extO 0 v27) fun v29 =>
 bK (extO 1 v27) fun v30 =>
 bK (extO 2 v27) fun v31 =>
 bK (ixS 1 v30 (NV.int .i64 (.ofNat 0))) fun v32 =>
 bK (ldO 1 false h28 (chkV h28 v32)) fun v33 =>
 bK (fAddr 3 v6) fun v34 =>
 bK (ldO 1 false h28 (chkV h28 v34)) fun v35 =>
 bK (fAddr 4 v6) fun v36 =>
 bK (ldO 1 false h28 (chkV h28 v36)) fun v37 =>
 bK (bldO [(0, 1), (1, 1), (2, 1)] [(NV.int .i64 (.ofNat 0)), (NV.int .u64 (.ofNat 0)), (NV.int .u64 (.ofNat 0)), (NV.bool false)] [v33, v35, v37]) fun v38 =>
 mK (bslM 1 false [(0, 4)] [(NV.int .i64 (.ofNat 0)), (NV.int .u64 (.ofNat 0)), (NV.int .u64 (.ofNat 0)), (NV.bool false)] [(chkV h28 v38)] h28) fun v39 h40 =>
 mK (calM call 27 [(chkV h40 v0), (chkV h40 v39)] h40) fun v41 h42 =>
 nextK h40 h42 (
 J26 h42)) (
 mK (calM call 57 [v9] h22) fun v43 h44 =>
 condK v43 (
 bK (ldO 11 true h44 v6) fun v45 =>
 mK (calM call 58 [v0, v45] h44) fun v46 h47 =>
 retC v46 h47) (
 bK (geI v9 (NV.int .i64 (.ofNat 40))) fun v48 =>
 jK (fun v49 h50 =>
 jK (fun v52 h53 =>
 bK (pickO v48 v52 (NV.bool false)) fun v55 =>
 jK (fun v56 h57 =>
 jK (fun v59 h60 =>
 bK (pickO v55 (NV.bool true) v59) fun v62 =>
 condK v62 (
 bK (ldO 11 true h60 v6) fun v63 =>
 mK (calM call 59 [v0, v2, v63] h60) fun v64 h65 =>
 retC v64 h65) (
 bK (geI v9 (NV.int .i64 (.ofNat 32))) fun v66 =>
 jK (fun v67 h68 =>
 jK (fun v70 h71 =>
 bK (pickO v66 v70 (NV.bool false)) fun v73 =>
 condK v73 (
 bK (ldO 11 true h71 v6) fun v74 =>
 mK (calM call 60 [v0, v2, v74] h71) fun v75 h76 =>
 J26 h76) (
 bK (eqI v9 (NV.int .i64 (.ofNat 208))) fun v77 =>
 condK v77 (
 bK (fAddr 1 v6) fun v78 =>
 bK (ldO 1 false h71 v78) fun v79 =>
 bK (bldO [(0, 1), (3, 1)] [(NV.int .i64 (.ofNat 0)), (NV.int .u64 (.ofNat 0)), (NV.int .u64 (.ofNat 0)), (NV.bool false)] [v79, (NV.bool true)]) fun v80 =>
 mK (bslM 1 false [(0, 4)] [(NV.int .i64 (.ofNat 0)), (NV.int .u64 (.ofNat 0)), (NV.int .u64 (.ofNat 0)), (NV.bool false)] [v80] h71) fun v81 h82 =>
 mK (calM call 27 [v0, v81] h82) fun v83 h84 =>
 J26 h84) (
 bK (eqI v9 (NV.int .i64 (.ofNat 209))) fun v85 =>
 condK v85 (
 mK (calM call 54 [v0] h71) fun v86 h87 =>
 bK (fldO false 1 3 v86) fun v88 =>
 joinC 2 (fun v89 v90 h91 =>
 mK (calM call 61 [v89, v90] h91) fun v93 h94 =>
 J26 h94) fun J92 =>
 condK v88 (
 J92 v0 (NV.int .i64 (.ofNat 1)) h87) (
 J92 v0 (NV.int .i64 (.ofNat 0)) h87)) (
 bK (eqI v9 (NV.int .i64 (.ofNat 210))) fun v95 =>
 condK v95 (
 bK (nilO v2) fun v96 =>
 bK (fAddr 4 v96) fun v97 =>
 bK (ldO 1 false h71 (chkV h71 v97)) fun v98 =>
 bK (nilO v98) fun v99 =>
 bK (fAddr 11 v99) fun v100 =>
 bK (ldO 1 false h71 (chkV h71 v100)) fun v101 =>
 bK (fAddr 1 v6) fun v102 =>
 bK (ldO 1 false h71 (chkV h71 v102)) fun v103 =>
 bK (ixS 1 v101 v103) fun v104 =>
 bK (ldO 1 false h71 (chkV h71 v104)) fun v105 =>
 bK (cvI .u64 v105) fun v106 =>
 bK (bldO [(0, 1), (1, 1)] [(NV.int .i64 (.ofNat 0)), (NV.int .u64 (.ofNat 0)), (NV.int .u64 (.ofNat 0)), (NV.bool false)] [(NV.int .i64 (.ofNat 112)), v106]) fun v107 =>
 mK (bslM 1 false [(0, 4)] [(NV.int .i64 (.ofNat 0)), (NV.int .u64 (.ofNat 0)), (NV.int .u64 (.ofNat 0)), (NV.bool false)] [(chkV h71 v107)] h71) fun v108 h109 =>
 mK (calM call 27 [(chkV h109 v0), (chkV h109 v108)] h109) fun v110 h111 =>
 nextK h109 h111 (
 J26 h111)) (
 bK (eqI v9 (NV.int .i64 (.ofNat 26))) fun v112 =>
 condK v112 (
 mK (calM call 54 [v0] h71) fun v113 h114 =>
 J26 h114) (
 bK (eqI v9 (NV.int .i64 (.ofNat 27))) fun v115 =>
 jK (fun v116 h117 =>
 jK (fun v119 h120 =>
 bK (pickO v115 (NV.bool true) v119) fun v122 =>
 condK v122 (
 mK (calM call 31 [v0] h120) fun v123 h124 =>
 mK (calM call 54 [v0] h124) fun v125 h126 =>
 mK (alM (NB.cells [(NV.int .i64 (.ofNat 0)), (NV.int .u64 (.ofNat 0)), (NV.int .u64 (.ofNat 0)), (NV.bool false)]) h126) fun v127 h128 =>
 mK (stM 4 v127 v125 h128) fun v129 h130 =>
 bK (eqI v123 (NV.int .u64 (.ofNat 0))) fun v131 =>
 condK v131 (
 mK (calM call 54 [v0] h130) fun v132 h133 =>
 bK (ldO 4 true h133 v127) fun v134 =>
 mK (bslM 1 false [(0, 4)] [(NV.int .i64 (.ofNat 0)), (NV.int .u64 (.ofNat 0)), (NV.int .u64 (.ofNat 0)), (NV.bool false)] [v134] h133) fun v135 h136 =>
 mK (calM call 27 [v0, v135] h136) fun v137 h138 =>
 J26 h138) (
 J26 h130)) (
 bK (eqI v9 (NV.int .i64 (.ofNat 37))) fun v139 =>
 jK (fun v140 h141 =>
 jK (fun v143 h144 =>
 bK (pickO v139 (NV.bool true) v143) fun v146 =>
 jK (fun v147 h148 =>
 jK (fun v150 h151 =>
 bK (pickO v146 (NV.bool true) v150) fun v153 =>
 condK v153 (
 bK (ldO 11 true h151 v6) fun v154 =>
 mK (calM call 62 [v0, v2, v154] h151) fun v155 h156 =>
 retC v155 h156) (
 bK (ldO 11 true h151 v6) fun v157 =>
 mK (calM call 63 [v0, v2, v157] h151) fun v158 h159 =>
 retC v158 h159)) fun J152 => gK v146 false (
 bK (geI v147 (NV.int .i64 (.ofNat 64524))) fun v160 =>
 J152 v160 h148) (J152 (NV.tuple []) h148)) fun J149 => gK v146 false (
 J149 v9 h144) (J149 (NV.tuple []) h144)) fun J145 => gK v139 false (
 bK (eqI v140 (NV.int .i64 (.ofNat 38))) fun v161 =>
 J145 v161 h141) (J145 (NV.tuple []) h141)) fun J142 => gK v139 false (
 J142 v9 h120) (J142 (NV.tuple []) h120))) fun J121 => gK v115 false (
 bK (eqI v116 (NV.int .i64 (.ofNat 28))) fun v162 =>
 J121 v162 h117) (J121 (NV.tuple []) h117)) fun J118 => gK v115 false (
 J118 v9 h71) (J118 (NV.tuple []) h71))))))) fun J72 => gK v66 true (
 bK (leI v67 (NV.int .i64 (.ofNat 36))) fun v163 =>
 J72 v163 h68) (J72 (NV.tuple []) h68)) fun J69 => gK v66 true (
 J69 v9 h60) (J69 (NV.tuple []) h60))) fun J61 => gK v55 false (
 bK (geI v56 (NV.int .i64 (.ofNat 64768))) fun v164 =>
 J61 v164 h57) (J61 (NV.tuple []) h57)) fun J58 => gK v55 false (
 J58 v9 h53) (J58 (NV.tuple []) h53)) fun J54 => gK v48 true (
 bK (leI v49 (NV.int .i64 (.ofNat 62))) fun v165 =>
 J54 v165 h50) (J54 (NV.tuple []) h50)) fun J51 => gK v48 true (
 J51 v9 h44) (J51 (NV.tuple []) h44)))) fun J23 => gK v17 false (
 bK (eqI v18 (NV.int .i64 (.ofNat 64780))) fun v166 =>
 J23 v166 h19) (J23 (NV.tuple []) h19)) fun J20 => gK v17 false (
 J20 v9 h15) (J20 (NV.tuple []) h15)) fun J16 => gK v10 true (
 bK (leI v11 (NV.int .i64 (.ofNat 68))) fun v167 =>
 J16 v167 h12) (J16 (NV.tuple []) h12)) fun J13 => gK v10 true (
 J13 v9 h7) (J13 (NV.tuple []) h7))
theorem e34 : ikB Tryz.prog 10 Tryz.f34 = S34 := by kernel_rfl
theorem k34 [Sig] (w0 : World) : SOK cW w0 34 S34 := okW Tryz.func34 (by kernel_rfl) e34
noncomputable def S35 (call : CallF) (N : Nat) (l : List NV) (h : H) : R :=
 uc l fun v0 l1 => un l1 (
 mK (alM (NB.cells [(NV.int .i64 (.ofNat 0)), (NV.int .u64 (.ofNat 0)), (NV.int .u64 (.ofNat 0)), (NV.bool false)]) h) fun v2 h3 =>
 bK (eqI v0 (NV.int .i64 (.ofNat 112))) fun v4 =>
 jK (fun v5 h6 =>
 jK (fun v8 h9 =>
 bK (pickO v4 (NV.bool true) v8) fun v11 =>
 bK (bldO [(0, 1), (3, 1)] [(NV.int .i64 (.ofNat 0)), (NV.int .u64 (.ofNat 0)), (NV.int .u64 (.ofNat 0)), (NV.bool false)] [v0, v11]) fun v12 =>
 mK (stM 4 v2 v12 h9) fun v13 h14 =>
 bK (ldB 4 true h14 v2) fun v15 =>
 retC v15 h14) fun J10 => gK v4 false (
 bK (eqI v5 (NV.int .i64 (.ofNat 111))) fun v16 =>
 J10 v16 h6) (J10 (NV.tuple []) h6)) fun J7 => gK v4 false (
 J7 v0 h3) (J7 (NV.tuple []) h3))
theorem e35 : ikB Tryz.prog 10 Tryz.f35 = S35 := by kernel_rfl
theorem k35 [Sig] (w0 : World) : SOK cW w0 35 S35 := okW Tryz.func35 (by kernel_rfl) e35
noncomputable def S36 (call : CallF) (N : Nat) (l : List NV) (h : H) : R :=
 uc l fun v0 l1 => uc l1 fun v2 l3 => uc l3 fun v4 l5 => un l5 (
 joinC 0 (fun h6 =>
 retC (NV.int .i64 (.negSucc 0)) h6) fun J7 =>
 loopC N 4 (fun L13 v8 v9 v10 v11 h12 =>
 bK (lenSl v10) fun v14 =>
 bK (ltI v11 v14) fun v15 =>
 jK (fun v16 h17 =>
 jK (fun v19 h20 =>
 jK (fun v22 h23 =>
 jK (fun v25 h26 =>
 jK (fun v28 h29 =>
 bK (pickO v15 v28 (NV.bool false)) fun v31 =>
 condK v31 (
 bK (ixS 9 v10 v11) fun v32 =>
 bK (ldO 9 true h29 v32) fun v33 =>
 mK (calM call 64 [v8, v9, v33] h29) fun v34 h35 =>
 bK (neI v34 (NV.int .i64 (.negSucc 0))) fun v36 =>
 condK v36 (
 retC v34 h35) (
 bK (addI v11 (NV.int .i64 (.ofNat 1))) fun v37 =>
 L13 v8 v9 v10 v37 h35)) (
 J7 h29)) fun J30 => gK v15 true (
 bK (eqI v25 (NV.int .i64 (.ofNat 0))) fun v38 =>
 J30 v38 h26) (J30 (NV.tuple []) h26)) fun J27 => gK v15 true (
 bK (ldO 1 false h23 v22) fun v39 =>
 J27 v39 h23) (J27 (NV.tuple []) h23)) fun J24 => gK v15 true (
 bK (fAddr 6 v19) fun v40 =>
 J24 v40 h20) (J24 (NV.tuple []) h20)) fun J21 => gK v15 true (
 bK (nilO v16) fun v41 =>
 J21 v41 h17) (J21 (NV.tuple []) h17)) fun J18 => gK v15 true (
 J18 v8 h12) (J18 (NV.tuple []) h12)) v0 v2 v4 (NV.int .i64 (.ofNat 0)) h)
theorem e36 : ikB Tryz.prog 10 Tryz.f36 = S36 := by kernel_rfl
theorem k36 [Sig] (w0 : World) : SOK cW w0 36 S36 := okW Tryz.func36 (by kernel_rfl) e36
noncomputable def S37 (call : CallF) (N : Nat) (l : List NV) (h : H) : R :=
 uc l fun v0 l1 => un l1 (
 joinC 0 (fun h2 =>
 retC (NV.bool true) h2) fun J3 =>
 loopC N 2 (fun L7 v4 v5 h6 =>
 bK (lenSl v4) fun v8 =>
 bK (ltI v5 v8) fun v9 =>
 condK v9 (
 bK (ixS 1 v4 v5) fun v10 =>
 bK (ldO 1 false h6 v10) fun v11 =>
 mK (calM call 44 [v11] h6) fun v12 h13 =>
 bK (notO v12) fun v14 =>
 condK v14 (
 retC (NV.bool false) h13) (
 bK (addI v5 (NV.int .i64 (.ofNat 1))) fun v15 =>
 L7 v4 v15 h13)) (
 J3 h6)) v0 (NV.int .i64 (.ofNat 0)) h)
theorem e37 : ikB Tryz.prog 10 Tryz.f37 = S37 := by kernel_rfl
theorem k37 [Sig] (w0 : World) : SOK cW w0 37 S37 := okW Tryz.func37 (by kernel_rfl) e37
noncomputable def S38 (call : CallF) (N : Nat) (l : List NV) (h : H) : R :=
 uc l fun v0 l1 => un l1 (
 mK (boxM false v0 h) fun v2 h3 =>
 bK (fAddr 0 v2) fun v4 =>
 bK (ldO 1 false h3 v4) fun v5 =>
 bK (fAddr 1 v2) fun v6 =>
 bK (ldO 1 false h3 v6) fun v7 =>
 mK (calM call 45 [v5, v7] h3) fun v8 h9 =>
 mK (alM (NB.cells [(NV.int .i64 (.ofNat 0)), (NV.int .i64 (.ofNat 0)), (NV.int .i64 (.ofNat 0)), (NV.bool false)]) h9) fun v10 h11 =>
 mK (alM (NB.cells [(NV.int .i64 (.ofNat 0)), (NV.int .i64 (.ofNat 0)), (NV.bool false)]) h11) fun v12 h13 =>
 mK (alM (NB.cells [(NV.int .i64 (.ofNat 0)), (NV.bool false)]) h13) fun v14 h15 =>
 bK (fAddr 2 v2) fun v16 =>
 bK (ldO 1 false h15 v16) fun v17 =>
 bK (eqI v17 (NV.int .i64 (.ofNat 0))) fun v18 =>
 joinC 2 (fun v19 v20 h21 =>
 jK (fun v23 h24 =>
 bK (pickO v19 v23 (NV.bool false)) fun v26 =>
 retC v26 h24) fun J25 => gK v19 true (
 J25 v20 h21) (J25 (NV.tuple []) h21)) fun J22 =>
 condK v18 (
 bK (fAddr 3 v2) fun v27 =>
 bK (ldO 1 false h15 v27) fun v28 =>
 mK (calM call 39 [v28] h15) fun v29 h30 =>
 jK (fun v31 h32 =>
 jK (fun v34 h35 =>
 jK (fun v37 h38 =>
 jK (fun v40 h41 =>
 bK (pickO v29 v40 (NV.bool false)) fun v43 =>
 jK (fun v44 h45 =>
 jK (fun v47 h48 =>
 jK (fun v50 h51 =>
 jK (fun v53 h54 =>
 bK (pickO v43 v53 (NV.bool false)) fun v56 =>
 jK (fun v57 h58 =>
 jK (fun v60 h61 =>
 jK (fun v63 h64 =>
 jK (fun v66 h67 =>
 bK (pickO v56 v66 (NV.bool false)) fun v69 =>
 J22 v8 v69 h67) fun J68 => gK v56 true (
 bK (eqD Tryz.prog .eql 65 h64 v60 v63) fun v70 =>
 J68 v70 h64) (J68 (NV.tuple []) h64)) fun J65 => gK v56 true (
 bK (ldO 2 true h61 v14) fun v71 =>
 J65 v71 h61) (J65 (NV.tuple []) h61)) fun J62 => gK v56 true (
 bK (ldO 2 true h58 v57) fun v72 =>
 J62 v72 h58) (J62 (NV.tuple []) h58)) fun J59 => gK v56 true (
 bK (fAddr 11 v2) fun v73 =>
 J59 v73 h54) (J59 (NV.tuple []) h54)) fun J55 => gK v43 true (
 bK (eqD Tryz.prog .eql 61 h51 v47 v50) fun v74 =>
 J55 v74 h51) (J55 (NV.tuple []) h51)) fun J52 => gK v43 true (
 bK (ldO 3 true h48 v12) fun v75 =>
 J52 v75 h48) (J52 (NV.tuple []) h48)) fun J49 => gK v43 true (
 bK (ldO 3 true h45 v44) fun v76 =>
 J49 v76 h45) (J49 (NV.tuple []) h45)) fun J46 => gK v43 true (
 bK (fAddr 8 v2) fun v77 =>
 J46 v77 h41) (J46 (NV.tuple []) h41)) fun J42 => gK v29 true (
 bK (eqD Tryz.prog .eql 63 h38 v34 v37) fun v78 =>
 J42 v78 h38) (J42 (NV.tuple []) h38)) fun J39 => gK v29 true (
 bK (ldO 4 true h35 v10) fun v79 =>
 J39 v79 h35) (J39 (NV.tuple []) h35)) fun J36 => gK v29 true (
 bK (ldO 4 true h32 v31) fun v80 =>
 J36 v80 h32) (J36 (NV.tuple []) h32)) fun J33 => gK v29 true (
 bK (fAddr 4 v2) fun v81 =>
 J33 v81 h30) (J33 (NV.tuple []) h30)) (
 bK (eqI v17 (NV.int .i64 (.ofNat 1))) fun v82 =>
 condK v82 (
 bK (fAddr 4 v2) fun v83 =>
 bK (ldO 4 true h15 v83) fun v84 =>
 mK (calM call 42 [v84] h15) fun v85 h86 =>
 jK (fun v87 h88 =>
 jK (fun v90 h91 =>
 jK (fun v93 h94 =>
 bK (pickO v85 v93 (NV.bool false)) fun v96 =>
 jK (fun v97 h98 =>
 jK (fun v100 h101 =>
 jK (fun v103 h104 =>
 jK (fun v106 h107 =>
 bK (pickO v96 v106 (NV.bool false)) fun v109 =>
 jK (fun v110 h111 =>
 jK (fun v113 h114 =>
 jK (fun v116 h117 =>
 jK (fun v119 h120 =>
 bK (pickO v109 v119 (NV.bool false)) fun v122 =>
 J22 v8 v122 h120) fun J121 => gK v109 true (
 bK (eqD Tryz.prog .eql 65 h117 v113 v116) fun v123 =>
 J121 v123 h117) (J121 (NV.tuple []) h117)) fun J118 => gK v109 true (
 bK (ldO 2 true h114 v14) fun v124 =>
 J118 v124 h114) (J118 (NV.tuple []) h114)) fun J115 => gK v109 true (
 bK (ldO 2 true h111 v110) fun v125 =>
 J115 v125 h111) (J115 (NV.tuple []) h111)) fun J112 => gK v109 true (
 bK (fAddr 11 v2) fun v126 =>
 J112 v126 h107) (J112 (NV.tuple []) h107)) fun J108 => gK v96 true (
 bK (eqD Tryz.prog .eql 61 h104 v100 v103) fun v127 =>
 J108 v127 h104) (J108 (NV.tuple []) h104)) fun J105 => gK v96 true (
 bK (ldO 3 true h101 v12) fun v128 =>
 J105 v128 h101) (J105 (NV.tuple []) h101)) fun J102 => gK v96 true (
 bK (ldO 3 true h98 v97) fun v129 =>
 J102 v129 h98) (J102 (NV.tuple []) h98)) fun J99 => gK v96 true (
 bK (fAddr 8 v2) fun v130 =>
 J99 v130 h94) (J99 (NV.tuple []) h94)) fun J95 => gK v85 true (
 bK (eqI v90 (NV.int .i64 (.ofNat 0))) fun v131 =>
 J95 v131 h91) (J95 (NV.tuple []) h91)) fun J92 => gK v85 true (
 bK (ldO 1 false h88 v87) fun v132 =>
 J92 v132 h88) (J92 (NV.tuple []) h88)) fun J89 => gK v85 true (
 bK (fAddr 3 v2) fun v133 =>
 J89 v133 h86) (J89 (NV.tuple []) h86)) (
 bK (eqI v17 (NV.int .i64 (.ofNat 2))) fun v134 =>
 condK v134 (
 bK (fAddr 8 v2) fun v135 =>
 bK (ldO 3 true h15 v135) fun v136 =>
 mK (calM call 43 [v136] h15) fun v137 h138 =>
 jK (fun v139 h140 =>
 jK (fun v142 h143 =>
 jK (fun v145 h146 =>
 bK (pickO v137 v145 (NV.bool false)) fun v148 =>
 jK (fun v149 h150 =>
 jK (fun v152 h153 =>
 jK (fun v155 h156 =>
 jK (fun v158 h159 =>
 bK (pickO v148 v158 (NV.bool false)) fun v161 =>
 jK (fun v162 h163 =>
 jK (fun v165 h166 =>
 jK (fun v168 h169 =>
 jK (fun v171 h172 =>
 bK (pickO v161 v171 (NV.bool false)) fun v174 =>
 J22 v8 v174 h172) fun J173 => gK v161 true (
 bK (eqD Tryz.prog .eql 65 h169 v165 v168) fun v175 =>
 J173 v175 h169) (J173 (NV.tuple []) h169)) fun J170 => gK v161 true (
 bK (ldO 2 true h166 v14) fun v176 =>
 J170 v176 h166) (J170 (NV.tuple []) h166)) fun J167 => gK v161 true (
 bK (ldO 2 true h163 v162) fun v177 =>
 J167 v177 h163) (J167 (NV.tuple []) h163)) fun J164 => gK v161 true (
 bK (fAddr 11 v2) fun v178 =>
 J164 v178 h159) (J164 (NV.tuple []) h159)) fun J160 => gK v148 true (
 bK (eqD Tryz.prog .eql 63 h156 v152 v155) fun v179 =>
 J160 v179 h156) (J160 (NV.tuple []) h156)) fun J157 => gK v148 true (
 bK (ldO 4 true h153 v10) fun v180 =>
 J157 v180 h153) (J157 (NV.tuple []) h153)) fun J154 => gK v148 true (
 bK (ldO 4 true h150 v149) fun v181 =>
 J154 v181 h150) (J154 (NV.tuple []) h150)) fun J151 => gK v148 true (
 bK (fAddr 4 v2) fun v182 =>
 J151 v182 h146) (J151 (NV.tuple []) h146)) fun J147 => gK v137 true (
 bK (eqI v142 (NV.int .i64 (.ofNat 0))) fun v183 =>
 J147 v183 h143) (J147 (NV.tuple []) h143)) fun J144 => gK v137 true (
 bK (ldO 1 false h140 v139) fun v184 =>
 J144 v184 h140) (J144 (NV.tuple []) h140)) fun J141 => gK v137 true (
 bK (fAddr 3 v2) fun v185 =>
 J141 v185 h138) (J141 (NV.tuple []) h138)) (
 bK (eqI v17 (NV.int .i64 (.ofNat 3))) fun v186 =>
 condK v186 (
 bK (fAddr 11 v2) fun v187 =>
 bK (fAddr 0 v187) fun v188 =>
 bK (ldO 1 false h15 v188) fun v189 =>
 mK (calM call 44 [v189] h15) fun v190 h191 =>
 jK (fun v192 h193 =>
 jK (fun v195 h196 =>
 jK (fun v198 h199 =>
 bK (pickO v190 v198 (NV.bool false)) fun v201 =>
 jK (fun v202 h203 =>
 jK (fun v205 h206 =>
 jK (fun v208 h209 =>
 jK (fun v211 h212 =>
 bK (pickO v201 v211 (NV.bool false)) fun v214 =>
 jK (fun v215 h216 =>
 jK (fun v218 h219 =>
 jK (fun v221 h222 =>
 jK (fun v224 h225 =>
 bK (pickO v214 v224 (NV.bool false)) fun v227 =>
 J22 v8 v227 h225) fun J226 => gK v214 true (
 bK (eqD Tryz.prog .eql 61 h222 v218 v221) fun v228 =>
 J226 v228 h222) (J226 (NV.tuple []) h222)) fun J223 => gK v214 true (
 bK (ldO 3 true h219 v12) fun v229 =>
 J223 v229 h219) (J223 (NV.tuple []) h219)) fun J220 => gK v214 true (
 bK (ldO 3 true h216 v215) fun v230 =>
 J220 v230 h216) (J220 (NV.tuple []) h216)) fun J217 => gK v214 true (
 bK (fAddr 8 v2) fun v231 =>
 J217 v231 h212) (J217 (NV.tuple []) h212)) fun J213 => gK v201 true (
 bK (eqD Tryz.prog .eql 63 h209 v205 v208) fun v232 =>
 J213 v232 h209) (J213 (NV.tuple []) h209)) fun J210 => gK v201 true (
 bK (ldO 4 true h206 v10) fun v233 =>
 J210 v233 h206) (J210 (NV.tuple []) h206)) fun J207 => gK v201 true (
 bK (ldO 4 true h203 v202) fun v234 =>
 J207 v234 h203) (J207 (NV.tuple []) h203)) fun J204 => gK v201 true (
 bK (fAddr 4 v2) fun v235 =>
 J204 v235 h199) (J204 (NV.tuple []) h199)) fun J200 => gK v190 true (
 bK (eqI v195 (NV.int .i64 (.ofNat 0))) fun v236 =>
 J200 v236 h196) (J200 (NV.tuple []) h196)) fun J197 => gK v190 true (
 bK (ldO 1 false h193 v192) fun v237 =>
 J197 v237 h193) (J197 (NV.tuple []) h193)) fun J194 => gK v190 true (
 bK (fAddr 3 v2) fun v238 =>
 J194 v238 h191) (J194 (NV.tuple []) h191)) (
 J22 v8 (NV.bool false) h15)))))
theorem e38 : ikB Tryz.prog 10 Tryz.f38 = S38 := by kernel_rfl
theorem k38 [Sig] (w0 : World) : SOK cW w0 38 S38 := okW Tryz.func38 (by kernel_rfl) e38
noncomputable def S39 (call : CallF) (N : Nat) (l : List NV) (h : H) : R :=
 uc l fun v0 l1 => un l1 (
 bK (geI v0 (NV.int .i64 (.ofNat 0))) fun v2 =>
 jK (fun v3 h4 =>
 jK (fun v6 h7 =>
 bK (pickO v2 v6 (NV.bool false)) fun v9 =>
 retC v9 h7) fun J8 => gK v2 true (
 bK (ltI v3 (NV.int .i64 (.ofNat 4294967296))) fun v10 =>
 J8 v10 h4) (J8 (NV.tuple []) h4)) fun J5 => gK v2 true (
 J5 v0 h) (J5 (NV.tuple []) h))
theorem e39 : ikB Tryz.prog 10 Tryz.f39 = S39 := by kernel_rfl
theorem k39 [Sig] (w0 : World) : SOK cW w0 39 S39 := okW Tryz.func39 (by kernel_rfl) e39
noncomputable def S40 (call : CallF) (N : Nat) (l : List NV) (h : H) : R :=
 uc l fun v0 l1 => un l1 (
 mK (calM call 65 [v0] h) fun v2 h3 =>
 jK (fun v4 h5 =>
 jK (fun v7 h8 =>
 jK (fun v10 h11 =>
 bK (pickO v2 v10 (NV.bool false)) fun v13 =>
 retC v13 h11) fun J12 => gK v2 true (
 bK (leI v7 (NV.int .i64 (.ofNat 500))) fun v14 =>
 J12 v14 h8) (J12 (NV.tuple []) h8)) fun J9 => gK v2 true (
 mK (calM call 66 [v4] h5) fun v15 h16 =>
 J9 v15 h16) (J9 (NV.tuple []) h5)) fun J6 => gK v2 true (
 J6 v0 h3) (J6 (NV.tuple []) h3))
theorem e40 : ikB Tryz.prog 10 Tryz.f40 = S40 := by kernel_rfl
theorem k40 [Sig] (w0 : World) : SOK cW w0 40 S40 := okW Tryz.func40 (by kernel_rfl) e40
noncomputable def S41 (call : CallF) (N : Nat) (l : List NV) (h : H) : R :=
 uc l fun v0 l1 => un l1 (
 joinC 0 (fun h2 =>
 retC (NV.bool false) h2) fun J3 =>
 loopC N 2 (fun L7 v4 v5 h6 =>
 bK (lenSl v4) fun v8 =>
 bK (ltI v5 v8) fun v9 =>
 condK v9 (
 bK (ixS 9 v4 v5) fun v10 =>
 bK (fAddr 0 v10) fun v11 =>
 bK (ldO 1 false h6 v11) fun v12 =>
 mK (calM call 47 [v12] h6) fun v13 h14 =>
 mK (alM (NB.cells [(NV.int .i64 (.ofNat 0)), (NV.str 0 0), (NV.int .i64 (.ofNat 0)), (NV.str 0 0), (NV.str 0 0), (NV.bool false)]) h14) fun v15 h16 =>
 mK (stM 6 v15 v13 h16) fun v17 h18 =>
 bK (ixS 9 v4 v5) fun v19 =>
 bK (fAddr 6 v19) fun v20 =>
 bK (ldO 1 false h18 v20) fun v21 =>
 mK (calM call 41 [v21] h18) fun v22 h23 =>
 bK (ixS 9 v4 v5) fun v24 =>
 bK (fAddr 7 v24) fun v25 =>
 bK (ldO 1 false h23 v25) fun v26 =>
 mK (calM call 41 [v26] h23) fun v27 h28 =>
 bK (fAddr 0 v15) fun v29 =>
 bK (ldO 1 false h28 v29) fun v30 =>
 bK (geI v30 (NV.int .i64 (.ofNat 0))) fun v31 =>
 jK (fun v32 h33 =>
 jK (fun v35 h36 =>
 jK (fun v38 h39 =>
 jK (fun v41 h42 =>
 jK (fun v44 h45 =>
 jK (fun v47 h48 =>
 jK (fun v50 h51 =>
 jK (fun v53 h54 =>
 bK (pickO v31 v53 (NV.bool false)) fun v56 =>
 jK (fun v57 h58 =>
 bK (pickO v56 (NV.bool true) v57) fun v60 =>
 jK (fun v61 h62 =>
 bK (pickO v60 (NV.bool true) v61) fun v64 =>
 condK v64 (
 retC (NV.bool true) h62) (
 bK (addI v5 (NV.int .i64 (.ofNat 1))) fun v65 =>
 L7 v4 v65 h62)) fun J63 => gK v60 false (
 J63 v27 h58) (J63 (NV.tuple []) h58)) fun J59 => gK v56 false (
 J59 v22 h54) (J59 (NV.tuple []) h54)) fun J55 => gK v31 true (
 bK (pickO v41 (NV.bool true) v50) fun v66 =>
 J55 v66 h51) (J55 (NV.tuple []) h51)) fun J52 => gK v41 false (
 bK (eqI v47 (NV.int .i64 (.ofNat 18))) fun v67 =>
 J52 v67 h48) (J52 (NV.tuple []) h48)) fun J49 => gK v41 false (
 bK (ldO 1 false h45 v44) fun v68 =>
 J49 v68 h45) (J49 (NV.tuple []) h45)) fun J46 => gK v41 false (
 bK (fAddr 2 v15) fun v69 =>
 J46 v69 h42) (J46 (NV.tuple []) h42)) fun J43 => gK v31 true (
 J43 v38 h39) (J43 (NV.tuple []) h39)) fun J40 => gK v31 true (
 bK (eqI v35 (NV.int .i64 (.ofNat 17))) fun v70 =>
 J40 v70 h36) (J40 (NV.tuple []) h36)) fun J37 => gK v31 true (
 bK (ldO 1 false h33 v32) fun v71 =>
 J37 v71 h33) (J37 (NV.tuple []) h33)) fun J34 => gK v31 true (
 bK (fAddr 2 v15) fun v72 =>
 J34 v72 h28) (J34 (NV.tuple []) h28)) (
 J3 h6)) v0 (NV.int .i64 (.ofNat 0)) h)
theorem e41 : ikB Tryz.prog 10 Tryz.f41 = S41 := by kernel_rfl
theorem k41 [Sig] (w0 : World) : SOK cW w0 41 S41 := okW Tryz.func41 (by kernel_rfl) e41
noncomputable def S42 (call : CallF) (N : Nat) (l : List NV) (h : H) : R :=
 uc l fun v0 l1 => un l1 (
 mK (boxM false v0 h) fun v2 h3 =>
 bK (fAddr 0 v2) fun v4 =>
 bK (ldO 1 false h3 v4) fun v5 =>
 mK (calM call 67 [v5] h3) fun v6 h7 =>
 bK (fAddr 1 v2) fun v8 =>
 bK (ldO 3 true h7 v8) fun v9 =>
 mK (calM call 43 [v9] h7) fun v10 h11 =>
 jK (fun v12 h13 =>
 bK (pickO v6 v12 (NV.bool false)) fun v15 =>
 retC v15 h13) fun J14 => gK v6 true (
 J14 v10 h11) (J14 (NV.tuple []) h11))
theorem e42 : ikB Tryz.prog 10 Tryz.f42 = S42 := by kernel_rfl
theorem k42 [Sig] (w0 : World) : SOK cW w0 42 S42 := okW Tryz.func42 (by kernel_rfl) e42
noncomputable def S43 (call : CallF) (N : Nat) (l : List NV) (h : H) : R :=
 uc l fun v0 l1 => un l1 (
 mK (boxM false v0 h) fun v2 h3 =>
 bK (fAddr 0 v2) fun v4 =>
 bK (ldO 1 false h3 v4) fun v5 =>
 mK (calM call 39 [v5] h3) fun v6 h7 =>
 bK (fAddr 1 v2) fun v8 =>
 bK (ldO 1 false h7 v8) fun v9 =>
 mK (calM call 39 [v9] h7) fun v10 h11 =>
 jK (fun v12 h13 =>
 bK (pickO v6 v12 (NV.bool false)) fun v15 =>
 jK (fun v16 h17 =>
 jK (fun v19 h20 =>
 jK (fun v22 h23 =>
 jK (fun v25 h26 =>
 jK (fun v28 h29 =>
 jK (fun v31 h32 =>
 jK (fun v34 h35 =>
 bK (pickO v15 v34 (NV.bool false)) fun v37 =>
 retC v37 h35) fun J36 => gK v15 true (
 bK (pickO v22 (NV.bool true) v31) fun v38 =>
 J36 v38 h32) (J36 (NV.tuple []) h32)) fun J33 => gK v22 false (
 bK (eqI v28 (NV.int .i64 (.ofNat 0))) fun v39 =>
 J33 v39 h29) (J33 (NV.tuple []) h29)) fun J30 => gK v22 false (
 bK (ldO 1 false h26 v25) fun v40 =>
 J30 v40 h26) (J30 (NV.tuple []) h26)) fun J27 => gK v22 false (
 bK (fAddr 1 v2) fun v41 =>
 J27 v41 h23) (J27 (NV.tuple []) h23)) fun J24 => gK v15 true (
 J24 v19 h20) (J24 (NV.tuple []) h20)) fun J21 => gK v15 true (
 bK (ldO 1 false h17 v16) fun v42 =>
 J21 v42 h17) (J21 (NV.tuple []) h17)) fun J18 => gK v15 true (
 bK (fAddr 2 v2) fun v43 =>
 J18 v43 h13) (J18 (NV.tuple []) h13)) fun J14 => gK v6 true (
 J14 v10 h11) (J14 (NV.tuple []) h11))
theorem e43 : ikB Tryz.prog 10 Tryz.f43 = S43 := by kernel_rfl
theorem k43 [Sig] (w0 : World) : SOK cW w0 43 S43 := okW Tryz.func43 (by kernel_rfl) e43
noncomputable def S44 (call : CallF) (N : Nat) (l : List NV) (h : H) : R :=
 uc l fun v0 l1 => un l1 (
 bK (eqI v0 (NV.int .i64 (.ofNat 127))) fun v2 =>
 jK (fun v3 h4 =>
 jK (fun v6 h7 =>
 bK (pickO v2 (NV.bool true) v6) fun v9 =>
 jK (fun v10 h11 =>
 jK (fun v13 h14 =>
 bK (pickO v9 (NV.bool true) v13) fun v16 =>
 jK (fun v17 h18 =>
 jK (fun v20 h21 =>
 bK (pickO v16 (NV.bool true) v20) fun v23 =>
 jK (fun v24 h25 =>
 jK (fun v27 h28 =>
 bK (pickO v23 (NV.bool true) v27) fun v30 =>
 jK (fun v31 h32 =>
 jK (fun v34 h35 =>
 bK (pickO v30 (NV.bool true) v34) fun v37 =>
 jK (fun v38 h39 =>
 jK (fun v41 h42 =>
 bK (pickO v37 (NV.bool true) v41) fun v44 =>
 retC v44 h42) fun J43 => gK v37 false (
 bK (eqI v38 (NV.int .i64 (.ofNat 111))) fun v45 =>
 J43 v45 h39) (J43 (NV.tuple []) h39)) fun J40 => gK v37 false (
 J40 v0 h35) (J40 (NV.tuple []) h35)) fun J36 => gK v30 false (
 bK (eqI v31 (NV.int .i64 (.ofNat 112))) fun v46 =>
 J36 v46 h32) (J36 (NV.tuple []) h32)) fun J33 => gK v30 false (
 J33 v0 h28) (J33 (NV.tuple []) h28)) fun J29 => gK v23 false (
 bK (eqI v24 (NV.int .i64 (.ofNat 123))) fun v47 =>
 J29 v47 h25) (J29 (NV.tuple []) h25)) fun J26 => gK v23 false (
 J26 v0 h21) (J26 (NV.tuple []) h21)) fun J22 => gK v16 false (
 bK (eqI v17 (NV.int .i64 (.ofNat 124))) fun v48 =>
 J22 v48 h18) (J22 (NV.tuple []) h18)) fun J19 => gK v16 false (
 J19 v0 h14) (J19 (NV.tuple []) h14)) fun J15 => gK v9 false (
 bK (eqI v10 (NV.int .i64 (.ofNat 125))) fun v49 =>
 J15 v49 h11) (J15 (NV.tuple []) h11)) fun J12 => gK v9 false (
 J12 v0 h7) (J12 (NV.tuple []) h7)) fun J8 => gK v2 false (
 bK (eqI v3 (NV.int .i64 (.ofNat 126))) fun v50 =>
 J8 v50 h4) (J8 (NV.tuple []) h4)) fun J5 => gK v2 false (
 J5 v0 h) (J5 (NV.tuple []) h))
theorem e44 : ikB Tryz.prog 10 Tryz.f44 = S44 := by kernel_rfl
theorem k44 [Sig] (w0 : World) : SOK cW w0 44 S44 := okW Tryz.func44 (by kernel_rfl) e44
noncomputable def S45 (call : CallF) (N : Nat) (l : List NV) (h : H) : R :=
 uc l fun v0 l1 => uc l1 fun v2 l3 => un l3 (
 mK (calM call 68 [v0] h) fun v4 h5 =>
 mK (calM call 68 [v2] h5) fun v6 h7 =>
 jK (fun v8 h9 =>
 bK (pickO v4 v8 (NV.bool false)) fun v11 =>
 retC v11 h9) fun J10 => gK v4 true (
 J10 v6 h7) (J10 (NV.tuple []) h7))
theorem e45 : ikB Tryz.prog 10 Tryz.f45 = S45 := by kernel_rfl
theorem k45 [Sig] (w0 : World) : SOK cW w0 45 S45 := okW Tryz.func45 (by kernel_rfl) e45
noncomputable def S46 (call : CallF) (N : Nat) (l : List NV) (h : H) : R :=
 uc l fun v0 l1 => un l1 (
 mK (boxM false v0 h) fun v2 h3 =>
 joinC 2 (fun v4 v5 h6 =>
 joinC 1 (fun v8 h9 =>
 retC v8 h9) fun J10 =>
 loopC N 3 (fun L15 v11 v12 v13 h14 =>
 bK (fAddr 9 v11) fun v16 =>
 bK (ldO 1 false h14 v16) fun v17 =>
 bK (lenSl v17) fun v18 =>
 bK (ltI v13 v18) fun v19 =>
 condK v19 (
 bK (fAddr 9 v11) fun v20 =>
 bK (ldO 1 false h14 v20) fun v21 =>
 bK (ixS 4 v21 v13) fun v22 =>
 bK (ldO 4 true h14 v22) fun v23 =>
 mK (alM (NB.cells [(NV.int .i64 (.ofNat 0)), (NV.int .i64 (.ofNat 0)), NV.nslice, NV.nslice]) h14) fun v24 h25 =>
 mK (stM 4 v24 v23 h25) fun v26 h27 =>
 bK (fAddr 0 v24) fun v28 =>
 bK (ldO 1 false h27 v28) fun v29 =>
 bK (fAddr 1 v24) fun v30 =>
 bK (ldO 1 false h27 v30) fun v31 =>
 bK (fAddr 2 v24) fun v32 =>
 bK (ldO 1 false h27 v32) fun v33 =>
 mK (calM call 69 [v29, v31, v33] h27) fun v34 h35 =>
 jK (fun v36 h37 =>
 bK (pickO v12 v36 (NV.bool false)) fun v39 =>
 jK (fun v40 h41 =>
 jK (fun v43 h44 =>
 jK (fun v46 h47 =>
 bK (pickO v39 v46 (NV.bool false)) fun v49 =>
 jK (fun v50 h51 =>
 jK (fun v53 h54 =>
 jK (fun v56 h57 =>
 bK (pickO v49 v56 (NV.bool false)) fun v59 =>
 bK (addI v13 (NV.int .i64 (.ofNat 1))) fun v60 =>
 L15 v11 v59 v60 h57) fun J58 => gK v49 true (
 bK (leI v53 (NV.int .i64 (.ofNat 1))) fun v61 =>
 J58 v61 h54) (J58 (NV.tuple []) h54)) fun J55 => gK v49 true (
 bK (ldO 1 false h51 v50) fun v62 =>
 J55 v62 h51) (J55 (NV.tuple []) h51)) fun J52 => gK v49 true (
 bK (fAddr 0 v24) fun v63 =>
 J52 v63 h47) (J52 (NV.tuple []) h47)) fun J48 => gK v39 true (
 bK (geI v43 (NV.int .i64 (.ofNat 0))) fun v64 =>
 J48 v64 h44) (J48 (NV.tuple []) h44)) fun J45 => gK v39 true (
 bK (ldO 1 false h41 v40) fun v65 =>
 J45 v65 h41) (J45 (NV.tuple []) h41)) fun J42 => gK v39 true (
 bK (fAddr 0 v24) fun v66 =>
 J42 v66 h37) (J42 (NV.tuple []) h37)) fun J38 => gK v12 true (
 J38 v34 h35) (J38 (NV.tuple []) h35)) (
 J10 v12 h14)) v4 v5 (NV.int .i64 (.ofNat 0)) h6) fun J7 =>
 loopC N 3 (fun L71 v67 v68 v69 h70 =>
 bK (fAddr 8 v67) fun v72 =>
 bK (ldO 1 false h70 v72) fun v73 =>
 bK (lenSl v73) fun v74 =>
 bK (ltI v69 v74) fun v75 =>
 condK v75 (
 joinC 3 (fun v76 v77 v78 h79 =>
 bK (addI v78 (NV.int .i64 (.ofNat 1))) fun v81 =>
 L71 v76 v77 v81 h79) fun J80 =>
 bK (fAddr 8 v67) fun v82 =>
 bK (ldO 1 false h70 v82) fun v83 =>
 bK (ixS 5 v83 v69) fun v84 =>
 bK (ldO 5 true h70 v84) fun v85 =>
 mK (alM (NB.cells [(NV.int .i64 (.ofNat 0)), (NV.int .i64 (.ofNat 0)), (NV.int .i64 (.ofNat 0)), NV.nslice, NV.nslice]) h70) fun v86 h87 =>
 mK (stM 5 v86 v85 h87) fun v88 h89 =>
 bK (fAddr 0 v86) fun v90 =>
 bK (ldO 1 false h89 v90) fun v91 =>
 mK (calM call 67 [v91] h89) fun v92 h93 =>
 bK (fAddr 1 v86) fun v94 =>
 bK (ldO 1 false h93 v94) fun v95 =>
 bK (fAddr 2 v86) fun v96 =>
 bK (ldO 1 false h93 v96) fun v97 =>
 bK (fAddr 3 v86) fun v98 =>
 bK (ldO 1 false h93 v98) fun v99 =>
 mK (calM call 69 [v95, v97, v99] h93) fun v100 h101 =>
 jK (fun v102 h103 =>
 bK (pickO v68 v102 (NV.bool false)) fun v105 =>
 jK (fun v106 h107 =>
 bK (pickO v105 v106 (NV.bool false)) fun v109 =>
 jK (fun v110 h111 =>
 jK (fun v113 h114 =>
 jK (fun v116 h117 =>
 bK (pickO v109 v116 (NV.bool false)) fun v119 =>
 jK (fun v120 h121 =>
 jK (fun v123 h124 =>
 jK (fun v126 h127 =>
 bK (pickO v119 v126 (NV.bool false)) fun v129 =>
 loopC N 5 (fun L136 v130 v131 v132 v133 v134 h135 =>
 bK (fAddr 4 v133) fun v137 =>
 bK (ldO 1 false h135 v137) fun v138 =>
 bK (lenSl v138) fun v139 =>
 bK (ltI v134 v139) fun v140 =>
 condK v140 (
 bK (fAddr 4 v133) fun v141 =>
 bK (ldO 1 false h135 v141) fun v142 =>
 bK (ixS 1 v142 v134) fun v143 =>
 bK (ldO 1 false h135 v143) fun v144 =>
 mK (calM call 40 [v144] h135) fun v145 h146 =>
 jK (fun v147 h148 =>
 bK (pickO v131 v147 (NV.bool false)) fun v150 =>
 bK (addI v134 (NV.int .i64 (.ofNat 1))) fun v151 =>
 L136 v130 v150 v132 v133 v151 h148) fun J149 => gK v131 true (
 J149 v145 h146) (J149 (NV.tuple []) h146)) (
 J80 v130 v131 v132 h135)) v67 v129 v69 v86 (NV.int .i64 (.ofNat 0)) h127) fun J128 => gK v119 true (
 bK (leI v123 (NV.int .i64 (.ofNat 2))) fun v152 =>
 J128 v152 h124) (J128 (NV.tuple []) h124)) fun J125 => gK v119 true (
 bK (ldO 1 false h121 v120) fun v153 =>
 J125 v153 h121) (J125 (NV.tuple []) h121)) fun J122 => gK v119 true (
 bK (fAddr 1 v86) fun v154 =>
 J122 v154 h117) (J122 (NV.tuple []) h117)) fun J118 => gK v109 true (
 bK (geI v113 (NV.int .i64 (.ofNat 0))) fun v155 =>
 J118 v155 h114) (J118 (NV.tuple []) h114)) fun J115 => gK v109 true (
 bK (ldO 1 false h111 v110) fun v156 =>
 J115 v156 h111) (J115 (NV.tuple []) h111)) fun J112 => gK v109 true (
 bK (fAddr 1 v86) fun v157 =>
 J112 v157 h107) (J112 (NV.tuple []) h107)) fun J108 => gK v105 true (
 J108 v100 h103) (J108 (NV.tuple []) h103)) fun J104 => gK v68 true (
 J104 v92 h101) (J104 (NV.tuple []) h101)) (
 J7 v67 v68 h70)) v2 (NV.bool true) (NV.int .i64 (.ofNat 0)) h3)
theorem e46 : ikB Tryz.prog 10 Tryz.f46 = S46 := by kernel_rfl
theorem k46 [Sig] (w0 : World) : SOK cW w0 46 S46 := okW Tryz.func46 (by kernel_rfl) e46
noncomputable def S47 (call : CallF) (N : Nat) (l : List NV) (h : H) : R :=
 uc l fun v0 l1 => un l1 (
 mK (alM (NB.cells [(NV.int .i64 (.ofNat 0)), (NV.str 0 0), (NV.int .i64 (.ofNat 0)), (NV.str 0 0), (NV.str 0 0), (NV.bool false)]) h) fun v2 h3 =>
 bK (geI v0 (NV.int .i64 (.ofNat 0))) fun v4 =>
 jK (fun v5 h6 =>
 jK (fun v8 h9 =>
 bK (pickO v4 v8 (NV.bool false)) fun v11 =>
 joinC 3 (fun v12 v13 v14 h15 =>
 mK (calM call 73 [v14] h15) fun v17 h18 =>
 bK (lenSl v17) fun v19 =>
 bK (neI v19 (NV.int .i64 (.ofNat 3))) fun v20 =>
 condK v20 (
 mK (calM call 74 [] h18) fun v21 h22 =>
 mK (stM 6 v13 v21 h22) fun v23 h24 =>
 bK (ldB 6 true h24 v13) fun v25 =>
 retC v25 h24) (
 bK (ixS 1 v17 (NV.int .i64 (.ofNat 0))) fun v26 =>
 bK (ldO 1 false h18 (chkV h18 v26)) fun v27 =>
 bK (ixS 1 v17 (NV.int .i64 (.ofNat 1))) fun v28 =>
 bK (ldO 1 false h18 (chkV h18 v28)) fun v29 =>
 mK (calM call 75 [(chkV h18 v29)] h18) fun v30 h31 =>
 nextK h18 h31 (
 bK (bldO [(0, 1), (1, 1), (2, 1)] [(NV.int .i64 (.ofNat 0)), (NV.str 0 0), (NV.int .i64 (.ofNat 0)), (NV.str 0 0), (NV.str 0 0), (NV.bool false)] [v12, v27, v30]) fun v32 =>
 bK (ldO 1 false h31 (chkV h31 v26)) fun v33 =>
 sameK v33 v27 (
 mK (alM (NB.cells [(NV.int .i64 (.ofNat 0)), (NV.str 0 0), (NV.int .i64 (.ofNat 0)), (NV.str 0 0), (NV.str 0 0), (NV.bool false)]) h31) fun v34 h35 =>
 mK (stM 6 (chkV h35 v34) (chkV h35 v32) h35) fun v36 h37 =>
 nextK h35 h37 (
 bK (ixS 1 v17 (NV.int .i64 (.ofNat 2))) fun v38 =>
 bK (ldO 1 false h37 v38) fun v39 =>
 bK (binO .eql v39 (NV.str 1 63)) fun v40 =>
 condK v40 (
 bK (ldO 6 true h37 v34) fun v41 =>
 mK (stM 6 v13 v41 h37) fun v42 h43 =>
 bK (ldB 6 true h43 v13) fun v44 =>
 retC v44 h43) (
 bK (fAddr 5 v34) fun v45 =>
 mK (stM 1 v45 (NV.bool true) h37) fun v46 h47 =>
 joinC 2 (fun v48 v49 h50 =>
 bK (ldO 6 true h50 v49) fun v52 =>
 mK (stM 6 v48 v52 h50) fun v53 h54 =>
 bK (ldB 6 true h54 v48) fun v55 =>
 retC v55 h54) fun J51 =>
 loopC N 5 (fun L62 v56 v57 v58 v59 v60 h61 =>
 bK (ixS 1 v57 (NV.int .i64 (.ofNat 2))) fun v63 =>
 bK (ldO 1 false h61 v63) fun v64 =>
 bK (lenStr v64) fun v65 =>
 bK (ltI v60 v65) fun v66 =>
 condK v66 (
 bK (ixS 1 v57 (NV.int .i64 (.ofNat 2))) fun v67 =>
 bK (ldO 1 false h61 v67) fun v68 =>
 bK (ixStr v68 v60) fun v69 =>
 bK (eqI v69 (NV.int .u8 (.ofNat 62))) fun v70 =>
 joinC 5 (fun v71 v72 v73 v74 v75 h76 =>
 bK (addI v75 (NV.int .i64 (.ofNat 1))) fun v78 =>
 L62 v71 v72 v73 v74 v78 h76) fun J77 =>
 condK v70 (
 J77 v56 v57 v58 (NV.bool true) v60 h61) (
 condK v59 (
 bK (fAddr 4 v58) fun v79 =>
 bK (ldO 1 false h61 (chkV h61 v79)) fun v80 =>
 bK (ixS 1 v57 (NV.int .i64 (.ofNat 2))) fun v81 =>
 bK (ldO 1 false h61 (chkV h61 v81)) fun v82 =>
 bK (addI v60 (NV.int .i64 (.ofNat 1))) fun v83 =>
 bK (slStr v82 (some v60) (some v83)) fun v84 =>
 bK (binO .add v80 v84) fun v85 =>
 bK (fAddr 4 v58) fun v86 =>
 mK (stM 1 (chkV h61 v86) (chkV h61 v85) h61) fun v87 h88 =>
 nextK h61 h88 (
 J77 v56 v57 v58 v59 v60 h88)) (
 bK (fAddr 3 v58) fun v89 =>
 bK (ldO 1 false h61 (chkV h61 v89)) fun v90 =>
 bK (ixS 1 v57 (NV.int .i64 (.ofNat 2))) fun v91 =>
 bK (ldO 1 false h61 (chkV h61 v91)) fun v92 =>
 bK (addI v60 (NV.int .i64 (.ofNat 1))) fun v93 =>
 bK (slStr v92 (some v60) (some v93)) fun v94 =>
 bK (binO .add v90 v94) fun v95 =>
 bK (fAddr 3 v58) fun v96 =>
 mK (stM 1 (chkV h61 v96) (chkV h61 v95) h61) fun v97 h98 =>
 nextK h61 h98 (
 J77 v56 v57 v58 v59 v60 h98)))) (
 J51 v56 v58 h61)) v13 v17 v34 (NV.bool false) (NV.int .i64 (.ofNat 0)) h47)))))) fun J16 =>
 condK v11 (
 mK (calM call 70 [v0] h9) fun v99 h100 =>
 J16 v0 v2 v99 h100) (
 bK (geI v0 (NV.int .i64 (.ofNat 64512))) fun v101 =>
 jK (fun v102 h103 =>
 jK (fun v105 h106 =>
 bK (pickO v101 v105 (NV.bool false)) fun v108 =>
 condK v108 (
 bK (subI v0 (NV.int .i64 (.ofNat 64512))) fun v109 =>
 mK (calM call 71 [v109] h106) fun v110 h111 =>
 J16 v0 v2 v110 h111) (
 bK (geI v0 (NV.int .i64 (.ofNat 64768))) fun v112 =>
 jK (fun v113 h114 =>
 jK (fun v116 h117 =>
 bK (pickO v112 v116 (NV.bool false)) fun v119 =>
 condK v119 (
 bK (subI v0 (NV.int .i64 (.ofNat 64768))) fun v120 =>
 mK (calM call 72 [v120] h117) fun v121 h122 =>
 J16 v0 v2 v121 h122) (
 J16 v0 v2 (NV.str 0 0) h117)) fun J118 => gK v112 true (
 bK (ltI v113 (NV.int .i64 (.ofNat 65024))) fun v123 =>
 J118 v123 h114) (J118 (NV.tuple []) h114)) fun J115 => gK v112 true (
 J115 v0 h106) (J115 (NV.tuple []) h106))) fun J107 => gK v101 true (
 bK (ltI v102 (NV.int .i64 (.ofNat 64530))) fun v124 =>
 J107 v124 h103) (J107 (NV.tuple []) h103)) fun J104 => gK v101 true (
 J104 v0 h9) (J104 (NV.tuple []) h9))) fun J10 => gK v4 true (
 bK (ltI v5 (NV.int .i64 (.ofNat 211))) fun v125 =>
 J10 v125 h6) (J10 (NV.tuple []) h6)) fun J7 => gK v4 true (
 J7 v0 h3) (J7 (NV.tuple []) h3))
theorem e47 : ikB Tryz.prog 10 Tryz.f47 = S47 := by kernel_rfl
theorem k47 [Sig] (w0 : World) : SOK cW w0 47 S47 := okW Tryz.func47 (by kernel_rfl) e47
end Go.Proofs.YtfdmaafadphnfaaGreatDoor
