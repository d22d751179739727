/- Seat runfits: the shallow functions of this program, part 1: printed by a program, each held against the staged interpreter by the kernel. -/
import Derived.Test.YtcindejphmbjpaaGreatDoorRA
set_option maxRecDepth 100000
set_option linter.unusedVariables false
namespace Go.Proofs.YtcindejphmbjpaaGreatDoor
open Go Go.Ne
noncomputable def S23 (call : CallF) (N : Nat) (l : List NV) (h : H) : R :=
 uc l fun v0 l1 => un l1 (
 mK (boxM false v0 h) fun v2 h3 =>
 bK (ldO 11 true h3 v2) fun v4 =>
 mK (calM call 36 [v4] h3) fun v5 h6 =>
 bK (notO v5) fun v7 =>
 condK v7 (
 retC (NV.int .i64 (.ofNat 1)) h6) (
 bK (ldO 11 true h6 v2) fun v8 =>
 mK (calM call 37 [v8] h6) fun v9 h10 =>
 mK (calM call 38 [v9] h10) fun v11 h12 =>
 bK (notO v11) fun v13 =>
 condK v13 (
 retC (NV.int .i64 (.ofNat 20)) h12) (
 retC (NV.int .i64 (.ofNat 0)) h12)))
theorem e23 : ikB Tryz.prog 9 Tryz.f23 = S23 := by kernel_rfl
theorem k23 [Sig] (w0 : World) : SOK cW w0 23 S23 := okW Tryz.func23 (by kernel_rfl) e23
noncomputable def S24 (call : CallF) (N : Nat) (l : List NV) (h : H) : R :=
 uc l fun v0 l1 => uc l1 fun v2 l3 => un l3 (
 mK (boxM false v0 h) fun v4 h5 =>
 mK (alM (NB.cells [NV.nslice, NV.nslice, NV.nslice, NV.nslice]) h5) fun v6 h7 =>
 bK (fAddr 2 v4) fun v8 =>
 bK (ldO 1 false h7 v8) fun v9 =>
 bK (ixS 3 v9 v2) fun v10 =>
 bK (ldO 3 true h7 v10) fun v11 =>
 mK (alM (NB.cells [(NV.int .i64 (.ofNat 0)), NV.nslice, NV.nslice]) h7) fun v12 h13 =>
 mK (stM 3 v12 v11 h13) fun v14 h15 =>
 bK (fAddr 0 v4) fun v16 =>
 bK (ldO 1 false h15 v16) fun v17 =>
 bK (fAddr 0 v12) fun v18 =>
 bK (ldO 1 false h15 v18) fun v19 =>
 bK (ixS 2 v17 v19) fun v20 =>
 bK (ldO 2 true h15 v20) fun v21 =>
 mK (alM (NB.cells [NV.nslice, NV.nslice]) h15) fun v22 h23 =>
 mK (stM 2 v22 v21 h23) fun v24 h25 =>
 bK (ldO 11 true h25 v4) fun v26 =>
 bK (fAddr 1 v22) fun v27 =>
 bK (ldO 1 false h25 v27) fun v28 =>
 bK (lenSl v28) fun v29 =>
 bK (bldO [(0, 11), (15, 1)] [NV.nslice, NV.nslice, NV.nslice, NV.nslice, NV.nslice, NV.nslice, NV.nslice, (NV.int .i64 (.ofNat 0)), NV.nslice, NV.nslice, (NV.bool false), NV.nslice, NV.nslice, NV.nslice, (NV.int .i64 (.ofNat 0)), (NV.int .i64 (.ofNat 0)), (NV.bool false)] [v26, v29]) fun v30 =>
 mK (boxM false v30 h25) fun v31 h32 =>
 bK (fAddr 1 v4) fun v33 =>
 bK (ldO 1 false h32 v33) fun v34 =>
 bK (lenSl v34) fun v35 =>
 joinC 5 (fun v36 v37 v38 v39 v40 h41 =>
 bK (fAddr 2 v36) fun v43 =>
 bK (ldO 1 false h41 v43) fun v44 =>
 bK (lenSl v44) fun v45 =>
 joinC 4 (fun v46 v47 v48 v49 h50 =>
 bK (nilO v49) fun v52 =>
 bK (fAddr 15 v52) fun v53 =>
 bK (ldO 1 false h50 v53) fun v54 =>
 bK (bldO [(0, 1), (2, 1)] [(NV.int .i64 (.ofNat 0)), (NV.int .i64 (.ofNat 0)), (NV.int .i64 (.ofNat 0)), NV.nslice] [v54, (NV.int .i64 (.negSucc 0))]) fun v55 =>
 mK (boxM false v55 h50) fun v56 h57 =>
 mK (bslM 1 false [(0, 1)] [NV.nilptr] [v56] h57) fun v58 h59 =>
 bK (nilO v49) fun v60 =>
 bK (fAddr 13 v60) fun v61 =>
 mK (stM 1 v61 v58 h59) fun v62 h63 =>
 bK (fAddr 2 v47) fun v64 =>
 bK (ldO 1 false h63 v64) fun v65 =>
 mK (calM call 39 [v49, v65] h63) fun v66 h67 =>
 bK (nilO v49) fun v68 =>
 bK (fAddr 12 v68) fun v69 =>
 bK (ldO 1 false h67 v69) fun v70 =>
 bK (lenSl v70) fun v71 =>
 mK (calM call 40 [v56, v71] h67) fun v72 h73 =>
 bK (nilO v49) fun v74 =>
 bK (fAddr 12 v74) fun v75 =>
 bK (ldO 1 false h73 (chkV h73 v75)) fun v76 =>
 bK (nilO v49) fun v77 =>
 bK (fAddr 15 v77) fun v78 =>
 bK (ldO 1 false h73 (chkV h73 v78)) fun v79 =>
 bK (bldO [(1, 1)] [(NV.int .i64 (.ofNat 0)), (NV.int .i64 (.ofNat 0)), (NV.int .i64 (.ofNat 0))] [v79]) fun v80 =>
 bK (bldO [(0, 1), (6, 3), (10, 1)] [(NV.int .i64 (.ofNat 0)), (NV.int .i64 (.ofNat 0)), (NV.int .i64 (.ofNat 0)), (NV.int .u64 (.ofNat 0)), (NV.int .u64 (.ofNat 0)), NV.nslice, (NV.int .i64 (.ofNat 0)), (NV.int .i64 (.ofNat 0)), (NV.int .i64 (.ofNat 0)), NV.nslice, (NV.bool false)] [(NV.int .i64 (.ofNat 65540)), v80, (NV.bool true)]) fun v81 =>
 mK (bslM 1 false [(0, 11)] [(NV.int .i64 (.ofNat 0)), (NV.int .i64 (.ofNat 0)), (NV.int .i64 (.ofNat 0)), (NV.int .u64 (.ofNat 0)), (NV.int .u64 (.ofNat 0)), NV.nslice, (NV.int .i64 (.ofNat 0)), (NV.int .i64 (.ofNat 0)), (NV.int .i64 (.ofNat 0)), NV.nslice, (NV.bool false)] [(chkV h73 v81)] h73) fun v82 h83 =>
 mK (appM Tryz.prog 145 (chkV h83 v76) (chkV h83 v82) h83) fun v84 h85 =>
 nextK h83 h85 (
 bK (nilO v49) fun v86 =>
 bK (fAddr 12 v86) fun v87 =>
 mK (stM 1 (chkV h85 v87) (chkV h85 v84) h85) fun v88 h89 =>
 nextK h85 h89 (
 bK (fAddr 0 v48) fun v90 =>
 bK (ldO 1 false h89 (chkV h89 v90)) fun v91 =>
 bK (fAddr 1 v48) fun v92 =>
 bK (ldO 1 false h89 (chkV h89 v92)) fun v93 =>
 bK (fAddr 1 v47) fun v94 =>
 bK (ldO 1 false h89 (chkV h89 v94)) fun v95 =>
 bK (nilO v49) fun v96 =>
 bK (fAddr 12 v96) fun v97 =>
 bK (ldO 1 false h89 (chkV h89 v97)) fun v98 =>
 mK (calM call 41 [(chkV h89 v91)] h89) fun v99 h100 =>
 nextK h89 h100 (
 bK (ldO 1 false h100 (chkV h100 v92)) fun v101 =>
 sameK v101 v93 (
 bK (ldO 1 false h100 (chkV h100 v94)) fun v102 =>
 sameK v102 v95 (
 bK (ldO 1 false h100 (chkV h100 v97)) fun v103 =>
 sameK v103 v98 (
 mK (calM call 41 [(chkV h100 v93)] h100) fun v104 h105 =>
 nextK h100 h105 (
 bK (bldO [(0, 1), (1, 1)] [NV.nslice, NV.nslice] [v99, v104]) fun v106 =>
 bK (ldO 1 false h105 (chkV h105 v94)) fun v107 =>
 sameK v107 v95 (
 bK (ldO 1 false h105 (chkV h105 v97)) fun v108 =>
 sameK v108 v98 (
 mK (calM call 41 [(chkV h105 v95)] h105) fun v109 h110 =>
 nextK h105 h110 (
 bK (bldO [(0, 2), (2, 1), (3, 1)] [NV.nslice, NV.nslice, NV.nslice, NV.nslice] [v106, v109, v98]) fun v111 =>
 bK (ldO 1 false h110 (chkV h110 v97)) fun v112 =>
 sameK v112 v98 (
 mK (stM 4 (chkV h110 v46) (chkV h110 v111) h110) fun v113 h114 =>
 nextK h110 h114 (
 bK (ldB 4 true h114 v46) fun v115 =>
 retC v115 h114))))))))))))) fun J51 =>
 loopC N 7 (fun L124 v116 v117 v118 v119 v120 v121 v122 h123 =>
 bK (ltI v122 v121) fun v125 =>
 condK v125 (
 bK (ixS 3 v120 v122) fun v126 =>
 bK (ldO 3 true h123 v126) fun v127 =>
 mK (alM (NB.cells [(NV.int .i64 (.ofNat 0)), NV.nslice, NV.nslice]) h123) fun v128 h129 =>
 mK (stM 3 v128 v127 h129) fun v130 h131 =>
 bK (nilO v119) fun v132 =>
 bK (fAddr 11 v132) fun v133 =>
 bK (ldO 1 false h131 (chkV h131 v133)) fun v134 =>
 bK (fAddr 0 v128) fun v135 =>
 bK (ldO 1 false h131 (chkV h131 v135)) fun v136 =>
 mK (bslM 1 false [(0, 1)] [(NV.int .i64 (.ofNat 0))] [(chkV h131 v136)] h131) fun v137 h138 =>
 mK (appM Tryz.prog 3 (chkV h138 v134) (chkV h138 v137) h138) fun v139 h140 =>
 nextK h138 h140 (
 bK (nilO v119) fun v141 =>
 bK (fAddr 11 v141) fun v142 =>
 mK (stM 1 (chkV h140 v142) (chkV h140 v139) h140) fun v143 h144 =>
 nextK h140 h144 (
 bK (addI v122 (NV.int .i64 (.ofNat 1))) fun v145 =>
 L124 v116 v117 v118 v119 v120 v121 v145 h144))) (
 J51 v116 v117 v118 v119 h123)) v37 v38 v39 v40 v44 v45 (NV.int .i64 (.ofNat 0)) h41) fun J42 =>
 loopC N 8 (fun L155 v146 v147 v148 v149 v150 v151 v152 v153 h154 =>
 bK (ltI v153 v152) fun v156 =>
 condK v156 (
 bK (ixS 13 v151 v153) fun v157 =>
 bK (ldO 13 true h154 v157) fun v158 =>
 mK (alM (NB.cells [(NV.str 0 0), (NV.str 0 0), (NV.int .i64 (.ofNat 0)), (NV.int .i64 (.ofNat 0)), (NV.int .i64 (.ofNat 0)), (NV.int .i64 (.ofNat 0)), (NV.int .i64 (.ofNat 0)), (NV.bool false), (NV.int .i64 (.ofNat 0)), (NV.int .i64 (.ofNat 0)), (NV.bool false), (NV.int .i64 (.ofNat 0)), (NV.bool false)]) h154) fun v159 h160 =>
 mK (stM 13 v159 v158 h160) fun v161 h162 =>
 bK (fAddr 2 v159) fun v163 =>
 bK (ldO 1 false h162 v163) fun v164 =>
 bK (eqI v164 (NV.int .i64 (.ofNat 0))) fun v165 =>
 joinC 8 (fun v166 v167 v168 v169 v170 v171 v172 v173 h174 =>
 bK (addI v173 (NV.int .i64 (.ofNat 1))) fun v176 =>
 L155 v166 v167 v168 v169 v170 v171 v172 v176 h174) fun J175 =>
 condK v165 (
 bK (nilO v150) fun v177 =>
 bK (fAddr 11 v177) fun v178 =>
 bK (ldO 1 false h162 (chkV h162 v178)) fun v179 =>
 bK (fAddr 3 v159) fun v180 =>
 bK (ldO 1 false h162 (chkV h162 v180)) fun v181 =>
 mK (bslM 1 false [(0, 1)] [(NV.int .i64 (.ofNat 0))] [(chkV h162 v181)] h162) fun v182 h183 =>
 mK (appM Tryz.prog 3 (chkV h183 v179) (chkV h183 v182) h183) fun v184 h185 =>
 nextK h183 h185 (
 bK (nilO v150) fun v186 =>
 bK (fAddr 11 v186) fun v187 =>
 mK (stM 1 (chkV h185 v187) (chkV h185 v184) h185) fun v188 h189 =>
 nextK h185 h189 (
 J175 v146 v147 v148 v149 v150 v151 v152 v153 h189))) (
 J175 v146 v147 v148 v149 v150 v151 v152 v153 h162)) (
 J42 v146 v147 v148 v149 v150 h154)) v4 v6 v12 v22 v31 v34 v35 (NV.int .i64 (.ofNat 0)) h32)
theorem e24 : ikB Tryz.prog 9 Tryz.f24 = S24 := by kernel_rfl
theorem k24 [Sig] (w0 : World) : SOK cW w0 24 S24 := okW Tryz.func24 (by kernel_rfl) e24
noncomputable def S25 (call : CallF) (N : Nat) (l : List NV) (h : H) : R :=
 uc l fun v0 l1 => uc l1 fun v2 l3 => uc l3 fun v4 l5 => un l5 (
 bK (lenSl v0) fun v6 =>
 bK (slcO Tryz.prog 25 h v0 (some v2) (some v4) (some v6)) fun v7 =>
 bK (eqI v2 v4) fun v8 =>
 condK v8 (
 retC v0 h) (
 bK (lenSl v0) fun v9 =>
 bK (slcO Tryz.prog 25 h (chkV h v0) none (some (chkV h v2)) none) fun v10 =>
 bK (slcO Tryz.prog 25 h (chkV h v0) (some (chkV h v4)) none none) fun v11 =>
 mK (appM Tryz.prog 24 (chkV h v10) (chkV h v11) h) fun v12 h13 =>
 nextK h h13 (
 bK (lenSl v12) fun v14 =>
 bK (slcO Tryz.prog 25 h13 v12 (some v14) (some v9) none) fun v15 =>
 none /- builtin Go.Builtin.clear -/)))
theorem e25 : ikB Tryz.prog 9 Tryz.f25 = S25 := by kernel_rfl
theorem k25 [Sig] (w0 : World) : SOK cW w0 25 S25 := okW Tryz.func25 (by kernel_rfl) e25
noncomputable def S28 (call : CallF) (N : Nat) (l : List NV) (h : H) : R :=
 uc l fun v0 l1 => un l1 (
 mK (calM call 43 [v0, (NV.int .i64 (.ofNat 2))] h) fun v2 h3 =>
 mK (calM call 42 [v2, (NV.str 1 62)] h3) fun v4 h5 =>
 bK (extO 0 v4) fun v6 =>
 bK (extO 1 v4) fun v7 =>
 bK (extO 2 v4) fun v8 =>
 bK (notO v8) fun v9 =>
 condK v9 (
 retC (NV.tuple [NV.nslice, NV.nslice, (NV.bool false)]) h5) (
 mK (calM call 44 [v6] h5) fun v10 h11 =>
 mK (calM call 44 [v7] h11) fun v12 h13 =>
 retC (NV.tuple [v10, v12, (NV.bool true)]) h13))
theorem e28 : ikB Tryz.prog 9 Tryz.f28 = S28 := by kernel_rfl
theorem k28 [Sig] (w0 : World) : SOK cW w0 28 S28 := okW Tryz.func28 (by kernel_rfl) e28
noncomputable def S29 (call : CallF) (N : Nat) (l : List NV) (h : H) : R :=
 uc l fun v0 l1 => un l1 (
 bK (geI v0 (NV.int .i64 (.ofNat 64768))) fun v2 =>
 condK v2 (
 mK (calM call 45 [v0] h) fun v3 h4 =>
 mK (calM call 46 [v0] h4) fun v5 h6 =>
 jK (fun v7 h8 =>
 jK (fun v10 h11 =>
 jK (fun v13 h14 =>
 jK (fun v16 h17 =>
 jK (fun v19 h20 =>
 jK (fun v22 h23 =>
 jK (fun v25 h26 =>
 jK (fun v28 h29 =>
 jK (fun v31 h32 =>
 jK (fun v34 h35 =>
 bK (pickO v5 v34 (NV.bool false)) fun v37 =>
 retC v37 h35) fun J36 => gK v5 true (
 bK (pickO v25 (NV.bool true) v31) fun v38 =>
 J36 v38 h32) (J36 (NV.tuple []) h32)) fun J33 => gK v25 false (
 bK (eqI v28 (NV.int .i64 (.ofNat 24))) fun v39 =>
 J33 v39 h29) (J33 (NV.tuple []) h29)) fun J30 => gK v25 false (
 J30 v3 h26) (J30 (NV.tuple []) h26)) fun J27 => gK v5 true (
 J27 v22 h23) (J27 (NV.tuple []) h23)) fun J24 => gK v5 true (
 bK (pickO v13 (NV.bool true) v19) fun v40 =>
 J24 v40 h20) (J24 (NV.tuple []) h20)) fun J21 => gK v13 false (
 bK (eqI v16 (NV.int .i64 (.ofNat 25))) fun v41 =>
 J21 v41 h17) (J21 (NV.tuple []) h17)) fun J18 => gK v13 false (
 J18 v3 h14) (J18 (NV.tuple []) h14)) fun J15 => gK v5 true (
 J15 v10 h11) (J15 (NV.tuple []) h11)) fun J12 => gK v5 true (
 bK (eqI v7 (NV.int .i64 (.ofNat 0))) fun v42 =>
 J12 v42 h8) (J12 (NV.tuple []) h8)) fun J9 => gK v5 true (
 J9 v3 h6) (J9 (NV.tuple []) h6)) (
 bK (geI v0 (NV.int .i64 (.ofNat 69))) fun v43 =>
 jK (fun v44 h45 =>
 jK (fun v47 h48 =>
 bK (pickO v43 v47 (NV.bool false)) fun v50 =>
 jK (fun v51 h52 =>
 jK (fun v54 h55 =>
 jK (fun v57 h58 =>
 jK (fun v60 h61 =>
 jK (fun v63 h64 =>
 jK (fun v66 h67 =>
 bK (pickO v50 (NV.bool true) v66) fun v69 =>
 retC v69 h67) fun J68 => gK v50 false (
 bK (pickO v57 v63 (NV.bool false)) fun v70 =>
 J68 v70 h64) (J68 (NV.tuple []) h64)) fun J65 => gK v57 true (
 bK (leI v60 (NV.int .i64 (.ofNat 64519))) fun v71 =>
 J65 v71 h61) (J65 (NV.tuple []) h61)) fun J62 => gK v57 true (
 J62 v0 h58) (J62 (NV.tuple []) h58)) fun J59 => gK v50 false (
 J59 v54 h55) (J59 (NV.tuple []) h55)) fun J56 => gK v50 false (
 bK (geI v51 (NV.int .i64 (.ofNat 64512))) fun v72 =>
 J56 v72 h52) (J56 (NV.tuple []) h52)) fun J53 => gK v50 false (
 J53 v0 h48) (J53 (NV.tuple []) h48)) fun J49 => gK v43 true (
 bK (leI v44 (NV.int .i64 (.ofNat 196))) fun v73 =>
 J49 v73 h45) (J49 (NV.tuple []) h45)) fun J46 => gK v43 true (
 J46 v0 h) (J46 (NV.tuple []) h)))
theorem e29 : ikB Tryz.prog 9 Tryz.f29 = S29 := by kernel_rfl
theorem k29 [Sig] (w0 : World) : SOK cW w0 29 S29 := okW Tryz.func29 (by kernel_rfl) e29
noncomputable def S30 (call : CallF) (N : Nat) (l : List NV) (h : H) : R :=
 uc l fun v0 l1 => uc l1 fun v2 l3 => un l3 (
 mK (boxM false v2 h) fun v4 h5 =>
 bK (fAddr 0 v4) fun v6 =>
 bK (ldO 1 false h5 v6) fun v7 =>
 mK (calM call 28 [v7] h5) fun v8 h9 =>
 bK (extO 0 v8) fun v10 =>
 bK (extO 1 v8) fun v11 =>
 bK (extO 2 v8) fun v12 =>
 bK (nilO v0) fun v13 =>
 bK (fAddr 6 v13) fun v14 =>
 bK (ldO 1 false h9 v14) fun v15 =>
 bK (lenSl v15) fun v16 =>
 bK (lenSl v10) fun v17 =>
 bK (subI v16 v17) fun v18 =>
 bK (fAddr 5 v4) fun v19 =>
 bK (ldO 1 false h9 v19) fun v20 =>
 bK (fAddr 0 v4) fun v21 =>
 bK (ldO 1 false h9 v21) fun v22 =>
 mK (calM call 45 [v22] h9) fun v23 h24 =>
 bK (eqI v23 (NV.int .i64 (.ofNat 25))) fun v25 =>
 joinC 4 (fun v26 v27 v28 v29 h30 =>
 bK (fAddr 0 v27) fun v32 =>
 bK (ldO 1 false h30 (chkV h30 v32)) fun v33 =>
 bK (nilO v26) fun v34 =>
 bK (fAddr 6 v34) fun v35 =>
 bK (ldO 1 false h30 (chkV h30 v35)) fun v36 =>
 bK (slcO Tryz.prog 25 h30 (chkV h30 v36) (some (chkV h30 v28)) none none) fun v37 =>
 mK (calM call 47 [(chkV h30 v33), (chkV h30 v29), (chkV h30 v37)] h30) fun v38 h39 =>
 nextK h30 h39 (
 bK (extO 0 v38) fun v40 =>
 bK (extO 1 v38) fun v41 =>
 mK (alM (NB.cells [(NV.int .i64 (.ofNat 0)), (NV.int .u64 (.ofNat 0)), (NV.int .u64 (.ofNat 0)), (NV.bool false)]) h39) fun v42 h43 =>
 mK (stM 4 (chkV h43 v42) (chkV h43 v40) h43) fun v44 h45 =>
 nextK h43 h45 (
 bK (nilO v26) fun v46 =>
 bK (fAddr 6 v46) fun v47 =>
 bK (ldO 1 false h45 v47) fun v48 =>
 bK (slcO Tryz.prog 25 h45 v48 none (some v28) none) fun v49 =>
 bK (nilO v26) fun v50 =>
 bK (fAddr 6 v50) fun v51 =>
 mK (stM 1 v51 v49 h45) fun v52 h53 =>
 bK (ldO 4 true h53 v42) fun v54 =>
 mK (bslM 1 false [(0, 4)] [(NV.int .i64 (.ofNat 0)), (NV.int .u64 (.ofNat 0)), (NV.int .u64 (.ofNat 0)), (NV.bool false)] [v54] h53) fun v55 h56 =>
 mK (calM call 15 [v26, v55] h56) fun v57 h58 =>
 retC v41 h58))) fun J31 =>
 condK v25 (
 bK (fAddr 1 v4) fun v59 =>
 bK (ldO 1 false h24 v59) fun v60 =>
 mK (bslM 1 false [(0, 1)] [(NV.int .i64 (.ofNat 0))] [v60] h24) fun v61 h62 =>
 J31 v0 v4 v18 v61 h62) (
 J31 v0 v4 v18 v20 h24))
theorem e30 : ikB Tryz.prog 9 Tryz.f30 = S30 := by kernel_rfl
theorem k30 [Sig] (w0 : World) : SOK cW w0 30 S30 := okW Tryz.func30 (by kernel_rfl) e30
noncomputable def S32 (call : CallF) (N : Nat) (l : List NV) (h : H) : R :=
 uc l fun v0 l1 => uc l1 fun v2 l3 => uc l3 fun v4 l5 => un l5 (
 mK (boxM false v4 h) fun v6 h7 =>
 bK (fAddr 0 v6) fun v8 =>
 bK (ldO 1 false h7 v8) fun v9 =>
 bK (eqI v9 (NV.int .i64 (.ofNat 32))) fun v10 =>
 condK v10 (
 bK (nilO v2) fun v11 =>
 bK (fAddr 6 v11) fun v12 =>
 bK (ldO 1 false h7 (chkV h7 v12)) fun v13 =>
 bK (fAddr 1 v6) fun v14 =>
 bK (ldO 1 false h7 (chkV h7 v14)) fun v15 =>
 bK (ixS 4 v13 v15) fun v16 =>
 bK (ldO 4 true h7 (chkV h7 v16)) fun v17 =>
 mK (bslM 1 false [(0, 4)] [(NV.int .i64 (.ofNat 0)), (NV.int .u64 (.ofNat 0)), (NV.int .u64 (.ofNat 0)), (NV.bool false)] [(chkV h7 v17)] h7) fun v18 h19 =>
 mK (calM call 15 [(chkV h19 v0), (chkV h19 v18)] h19) fun v20 h21 =>
 nextK h19 h21 (
 retC (NV.tuple []) h21)) (
 bK (eqI v9 (NV.int .i64 (.ofNat 33))) fun v22 =>
 condK v22 (
 bK (nilO v2) fun v23 =>
 bK (fAddr 6 v23) fun v24 =>
 bK (ldO 1 false h7 (chkV h7 v24)) fun v25 =>
 bK (fAddr 1 v6) fun v26 =>
 bK (ldO 1 false h7 (chkV h7 v26)) fun v27 =>
 mK (calM call 26 [(chkV h7 v0)] h7) fun v28 h29 =>
 nextK h7 h29 (
 bK (ixS 4 v25 v27) fun v30 =>
 bK (ldO 1 false h29 (chkV h29 v24)) fun v31 =>
 sameK v31 v25 (
 bK (ldO 1 false h29 (chkV h29 v26)) fun v32 =>
 sameK v32 v27 (
 mK (stM 4 (chkV h29 v30) (chkV h29 v28) h29) fun v33 h34 =>
 nextK h29 h34 (
 retC (NV.tuple []) h34))))) (
 bK (eqI v9 (NV.int .i64 (.ofNat 34))) fun v35 =>
 condK v35 (
 bK (nilO v2) fun v36 =>
 bK (fAddr 6 v36) fun v37 =>
 bK (ldO 1 false h7 (chkV h7 v37)) fun v38 =>
 bK (fAddr 1 v6) fun v39 =>
 bK (ldO 1 false h7 (chkV h7 v39)) fun v40 =>
 bK (nilO v0) fun v41 =>
 bK (fAddr 6 v41) fun v42 =>
 bK (ldO 1 false h7 (chkV h7 v42)) fun v43 =>
 bK (nilO v0) fun v44 =>
 bK (fAddr 6 v44) fun v45 =>
 bK (ldO 1 false h7 (chkV h7 v45)) fun v46 =>
 bK (lenSl v46) fun v47 =>
 bK (subI v47 (NV.int .i64 (.ofNat 1))) fun v48 =>
 bK (ixS 4 v43 v48) fun v49 =>
 bK (ldO 4 true h7 (chkV h7 v49)) fun v50 =>
 bK (ixS 4 v38 v40) fun v51 =>
 mK (stM 4 (chkV h7 v51) (chkV h7 v50) h7) fun v52 h53 =>
 nextK h7 h53 (
 retC (NV.tuple []) h53)) (
 bK (eqI v9 (NV.int .i64 (.ofNat 35))) fun v54 =>
 condK v54 (
 bK (nilO v0) fun v55 =>
 bK (fAddr 0 v55) fun v56 =>
 bK (ldO 1 false h7 (chkV h7 v56)) fun v57 =>
 bK (nilO v57) fun v58 =>
 bK (fAddr 3 v58) fun v59 =>
 bK (ldO 1 false h7 (chkV h7 v59)) fun v60 =>
 bK (nilO v2) fun v61 =>
 bK (fAddr 4 v61) fun v62 =>
 bK (ldO 1 false h7 (chkV h7 v62)) fun v63 =>
 bK (nilO v63) fun v64 =>
 bK (fAddr 14 v64) fun v65 =>
 bK (ldO 1 false h7 (chkV h7 v65)) fun v66 =>
 bK (fAddr 1 v6) fun v67 =>
 bK (ldO 1 false h7 (chkV h7 v67)) fun v68 =>
 bK (ixS 1 v66 v68) fun v69 =>
 bK (ldO 1 false h7 (chkV h7 v69)) fun v70 =>
 bK (ixS 1 v60 v70) fun v71 =>
 bK (ldO 1 false h7 (chkV h7 v71)) fun v72 =>
 bK (nilO v72) fun v73 =>
 bK (fAddr 2 v73) fun v74 =>
 bK (ldO 4 true h7 (chkV h7 v74)) fun v75 =>
 mK (bslM 1 false [(0, 4)] [(NV.int .i64 (.ofNat 0)), (NV.int .u64 (.ofNat 0)), (NV.int .u64 (.ofNat 0)), (NV.bool false)] [(chkV h7 v75)] h7) fun v76 h77 =>
 mK (calM call 15 [(chkV h77 v0), (chkV h77 v76)] h77) fun v78 h79 =>
 nextK h77 h79 (
 retC (NV.tuple []) h79)) (
 bK (nilO v0) fun v80 =>
 bK (fAddr 0 v80) fun v81 =>
 bK (ldO 1 false h7 (chkV h7 v81)) fun v82 =>
 bK (nilO v82) fun v83 =>
 bK (fAddr 3 v83) fun v84 =>
 bK (ldO 1 false h7 (chkV h7 v84)) fun v85 =>
 bK (nilO v2) fun v86 =>
 bK (fAddr 4 v86) fun v87 =>
 bK (ldO 1 false h7 (chkV h7 v87)) fun v88 =>
 bK (nilO v88) fun v89 =>
 bK (fAddr 14 v89) fun v90 =>
 bK (ldO 1 false h7 (chkV h7 v90)) fun v91 =>
 bK (fAddr 1 v6) fun v92 =>
 bK (ldO 1 false h7 (chkV h7 v92)) fun v93 =>
 bK (ixS 1 v91 v93) fun v94 =>
 bK (ldO 1 false h7 (chkV h7 v94)) fun v95 =>
 bK (ixS 1 v85 v95) fun v96 =>
 bK (ldO 1 false h7 (chkV h7 v96)) fun v97 =>
 mK (calM call 26 [(chkV h7 v0)] h7) fun v98 h99 =>
 nextK h7 h99 (
 bK (nilO v97) fun v100 =>
 bK (fAddr 2 v100) fun v101 =>
 bK (ldO 1 false h99 (chkV h99 v81)) fun v102 =>
 sameK v102 v82 (
 bK (ldO 1 false h99 (chkV h99 v84)) fun v103 =>
 sameK v103 v85 (
 bK (ldO 1 false h99 (chkV h99 v87)) fun v104 =>
 sameK v104 v88 (
 bK (ldO 1 false h99 (chkV h99 v90)) fun v105 =>
 sameK v105 v91 (
 bK (ldO 1 false h99 (chkV h99 v92)) fun v106 =>
 sameK v106 v93 (
 bK (ldO 1 false h99 (chkV h99 v94)) fun v107 =>
 sameK v107 v95 (
 bK (ldO 1 false h99 (chkV h99 v96)) fun v108 =>
 sameK v108 v97 (
 mK (stM 4 (chkV h99 v101) (chkV h99 v98) h99) fun v109 h110 =>
 nextK h99 h110 (
 retC (NV.tuple []) h110))))))))))))))
theorem e32 : ikB Tryz.prog 9 Tryz.f32 = S32 := by kernel_rfl
theorem k32 [Sig] (w0 : World) : SOK cW w0 32 S32 := okW Tryz.func32 (by kernel_rfl) e32
noncomputable def S36 (call : CallF) (N : Nat) (l : List NV) (h : H) : R :=
 uc l fun v0 l1 => un l1 (
 mK (boxM false v0 h) fun v2 h3 =>
 mK (alM (NB.cells [NV.nilFunc]) h3) fun v4 h5 =>
 mK (stM 1 v4 (NV.func (.func 78) [] []) h5) fun v6 h7 =>
 bK (fAddr 0 v2) fun v8 =>
 bK (ldO 1 false h7 v8) fun v9 =>
 mK (calM call 83 [v9, (NV.func (.func 69) [] [])] h7) fun v10 h11 =>
 jK (fun v12 h13 =>
 jK (fun v15 h16 =>
 jK (fun v18 h19 =>
 bK (pickO v10 v18 (NV.bool false)) fun v21 =>
 jK (fun v22 h23 =>
 jK (fun v25 h26 =>
 jK (fun v28 h29 =>
 jK (fun v31 h32 =>
 bK (pickO v21 v31 (NV.bool false)) fun v34 =>
 jK (fun v35 h36 =>
 jK (fun v38 h39 =>
 jK (fun v41 h42 =>
 bK (pickO v34 v41 (NV.bool false)) fun v44 =>
 jK (fun v45 h46 =>
 jK (fun v48 h49 =>
 jK (fun v51 h52 =>
 bK (pickO v44 v51 (NV.bool false)) fun v54 =>
 jK (fun v55 h56 =>
 jK (fun v58 h59 =>
 jK (fun v61 h62 =>
 jK (fun v64 h65 =>
 bK (pickO v54 v64 (NV.bool false)) fun v67 =>
 jK (fun v68 h69 =>
 jK (fun v71 h72 =>
 jK (fun v74 h75 =>
 jK (fun v77 h78 =>
 bK (pickO v67 v77 (NV.bool false)) fun v80 =>
 jK (fun v81 h82 =>
 jK (fun v84 h85 =>
 jK (fun v87 h88 =>
 bK (pickO v80 v87 (NV.bool false)) fun v90 =>
 jK (fun v91 h92 =>
 jK (fun v94 h95 =>
 jK (fun v97 h98 =>
 bK (pickO v90 v97 (NV.bool false)) fun v100 =>
 jK (fun v101 h102 =>
 jK (fun v104 h105 =>
 jK (fun v107 h108 =>
 jK (fun v110 h111 =>
 bK (pickO v100 v110 (NV.bool false)) fun v113 =>
 jK (fun v114 h115 =>
 jK (fun v117 h118 =>
 jK (fun v120 h121 =>
 jK (fun v123 h124 =>
 bK (pickO v113 v123 (NV.bool false)) fun v126 =>
 jK (fun v127 h128 =>
 jK (fun v130 h131 =>
 jK (fun v133 h134 =>
 jK (fun v136 h137 =>
 jK (fun v139 h140 =>
 jK (fun v142 h143 =>
 jK (fun v145 h146 =>
 bK (pickO v126 v145 (NV.bool false)) fun v148 =>
 retC v148 h146) fun J147 => gK v126 true (
 bK (pickO v133 (NV.bool true) v142) fun v149 =>
 J147 v149 h143) (J147 (NV.tuple []) h143)) fun J144 => gK v133 false (
 bK (notO v139) fun v150 =>
 J144 v150 h140) (J144 (NV.tuple []) h140)) fun J141 => gK v133 false (
 mK (calM call 95 [v136] h137) fun v151 h152 =>
 J141 v151 h152) (J141 (NV.tuple []) h137)) fun J138 => gK v133 false (
 bK (ldO 11 true h134 v2) fun v153 =>
 J138 v153 h134) (J138 (NV.tuple []) h134)) fun J135 => gK v126 true (
 J135 v130 h131) (J135 (NV.tuple []) h131)) fun J132 => gK v126 true (
 bK (ldO 1 false h128 v127) fun v154 =>
 J132 v154 h128) (J132 (NV.tuple []) h128)) fun J129 => gK v126 true (
 bK (fAddr 10 v2) fun v155 =>
 J129 v155 h124) (J129 (NV.tuple []) h124)) fun J125 => gK v113 true (
 mK (calM call 94 [v117, v120] h121) fun v156 h157 =>
 J125 v156 h157) (J125 (NV.tuple []) h121)) fun J122 => gK v113 true (
 J122 (NV.func (.func 82) [] [v4]) h118) (J122 (NV.tuple []) h118)) fun J119 => gK v113 true (
 bK (ldO 1 false h115 v114) fun v158 =>
 J119 v158 h115) (J119 (NV.tuple []) h115)) fun J116 => gK v113 true (
 bK (fAddr 9 v2) fun v159 =>
 J116 v159 h111) (J116 (NV.tuple []) h111)) fun J112 => gK v100 true (
 mK (calM call 93 [v104, v107] h108) fun v160 h161 =>
 J112 v160 h161) (J112 (NV.tuple []) h108)) fun J109 => gK v100 true (
 J109 (NV.func (.func 79) [] [v4]) h105) (J109 (NV.tuple []) h105)) fun J106 => gK v100 true (
 bK (ldO 1 false h102 v101) fun v162 =>
 J106 v162 h102) (J106 (NV.tuple []) h102)) fun J103 => gK v100 true (
 bK (fAddr 8 v2) fun v163 =>
 J103 v163 h98) (J103 (NV.tuple []) h98)) fun J99 => gK v90 true (
 bK (leI v94 (NV.int .i64 (.ofNat 4294967296))) fun v164 =>
 J99 v164 h95) (J99 (NV.tuple []) h95)) fun J96 => gK v90 true (
 bK (ldO 1 false h92 v91) fun v165 =>
 J96 v165 h92) (J96 (NV.tuple []) h92)) fun J93 => gK v90 true (
 bK (fAddr 7 v2) fun v166 =>
 J93 v166 h88) (J93 (NV.tuple []) h88)) fun J89 => gK v80 true (
 bK (geI v84 (NV.int .i64 (.ofNat 0))) fun v167 =>
 J89 v167 h85) (J89 (NV.tuple []) h85)) fun J86 => gK v80 true (
 bK (ldO 1 false h82 v81) fun v168 =>
 J86 v168 h82) (J86 (NV.tuple []) h82)) fun J83 => gK v80 true (
 bK (fAddr 7 v2) fun v169 =>
 J83 v169 h78) (J83 (NV.tuple []) h78)) fun J79 => gK v67 true (
 mK (calM call 92 [v71, v74] h75) fun v170 h171 =>
 J79 v170 h171) (J79 (NV.tuple []) h75)) fun J76 => gK v67 true (
 J76 (NV.func (.func 76) [] []) h72) (J76 (NV.tuple []) h72)) fun J73 => gK v67 true (
 bK (ldO 1 false h69 v68) fun v172 =>
 J73 v172 h69) (J73 (NV.tuple []) h69)) fun J70 => gK v67 true (
 bK (fAddr 6 v2) fun v173 =>
 J70 v173 h65) (J70 (NV.tuple []) h65)) fun J66 => gK v54 true (
 mK (calM call 91 [v58, v61] h62) fun v174 h175 =>
 J66 v174 h175) (J66 (NV.tuple []) h62)) fun J63 => gK v54 true (
 J63 (NV.func (.func 75) [] []) h59) (J63 (NV.tuple []) h59)) fun J60 => gK v54 true (
 bK (ldO 1 false h56 v55) fun v176 =>
 J60 v176 h56) (J60 (NV.tuple []) h56)) fun J57 => gK v54 true (
 bK (fAddr 5 v2) fun v177 =>
 J57 v177 h52) (J57 (NV.tuple []) h52)) fun J53 => gK v44 true (
 mK (calM call 89 [v48, (NV.func (.func 90) [] [])] h49) fun v178 h179 =>
 J53 v178 h179) (J53 (NV.tuple []) h49)) fun J50 => gK v44 true (
 bK (ldO 1 false h46 v45) fun v180 =>
 J50 v180 h46) (J50 (NV.tuple []) h46)) fun J47 => gK v44 true (
 bK (fAddr 4 v2) fun v181 =>
 J47 v181 h42) (J47 (NV.tuple []) h42)) fun J43 => gK v34 true (
 mK (calM call 87 [v38, (NV.func (.func 88) [] [])] h39) fun v182 h183 =>
 J43 v182 h183) (J43 (NV.tuple []) h39)) fun J40 => gK v34 true (
 bK (ldO 1 false h36 v35) fun v184 =>
 J40 v184 h36) (J40 (NV.tuple []) h36)) fun J37 => gK v34 true (
 bK (fAddr 3 v2) fun v185 =>
 J37 v185 h32) (J37 (NV.tuple []) h32)) fun J33 => gK v21 true (
 mK (calM call 86 [v25, v28] h29) fun v186 h187 =>
 J33 v186 h187) (J33 (NV.tuple []) h29)) fun J30 => gK v21 true (
 J30 (NV.func (.func 72) [] []) h26) (J30 (NV.tuple []) h26)) fun J27 => gK v21 true (
 bK (ldO 1 false h23 v22) fun v188 =>
 J27 v188 h23) (J27 (NV.tuple []) h23)) fun J24 => gK v21 true (
 bK (fAddr 2 v2) fun v189 =>
 J24 v189 h19) (J24 (NV.tuple []) h19)) fun J20 => gK v10 true (
 mK (calM call 84 [v15, (NV.func (.func 85) [] [])] h16) fun v190 h191 =>
 J20 v190 h191) (J20 (NV.tuple []) h16)) fun J17 => gK v10 true (
 bK (ldO 1 false h13 v12) fun v192 =>
 J17 v192 h13) (J17 (NV.tuple []) h13)) fun J14 => gK v10 true (
 bK (fAddr 1 v2) fun v193 =>
 J14 v193 h11) (J14 (NV.tuple []) h11))
theorem e36 : ikB Tryz.prog 9 Tryz.f36 = S36 := by kernel_rfl
theorem k36 [Sig] (w0 : World) : SOK cW w0 36 S36 := okW Tryz.func36 (by kernel_rfl) e36
noncomputable def S37 (call : CallF) (N : Nat) (l : List NV) (h : H) : R :=
 uc l fun v0 l1 => un l1 (
 mK (boxM false v0 h) fun v2 h3 =>
 bK (ldO 11 true h3 v2) fun v4 =>
 mK (mapM none h3) fun v5 h6 =>
 bK (bldO [(0, 11), (16, 1)] [NV.nslice, NV.nslice, NV.nslice, NV.nslice, NV.nslice, NV.nslice, NV.nslice, (NV.int .i64 (.ofNat 0)), NV.nslice, NV.nslice, (NV.bool false), NV.nslice, NV.nslice, NV.nslice, NV.nslice, (NV.int .i64 (.ofNat 0)), NV.nmap] [v4, v5]) fun v7 =>
 mK (boxM false v7 h6) fun v8 h9 =>
 bK (fAddr 1 v2) fun v10 =>
 bK (ldO 1 false h9 v10) fun v11 =>
 bK (lenSl v11) fun v12 =>
 joinC 2 (fun v13 v14 h15 =>
 bK (nilO v14) fun v17 =>
 bK (fAddr 14 v17) fun v18 =>
 bK (ldO 1 false h15 v18) fun v19 =>
 bK (lenSl v19) fun v20 =>
 bK (nilO v14) fun v21 =>
 bK (fAddr 15 v21) fun v22 =>
 mK (stM 1 v22 v20 h15) fun v23 h24 =>
 bK (fAddr 2 v13) fun v25 =>
 bK (ldO 1 false h24 v25) fun v26 =>
 bK (lenSl v26) fun v27 =>
 joinC 2 (fun v28 v29 h30 =>
 bK (nilO v29) fun v32 =>
 bK (fAddr 12 v32) fun v33 =>
 bK (ldO 1 false h30 (chkV h30 v33)) fun v34 =>
 bK (fAddr 3 v28) fun v35 =>
 bK (ldO 1 false h30 (chkV h30 v35)) fun v36 =>
 mK (appM Tryz.prog 62 (chkV h30 v34) (chkV h30 v36) h30) fun v37 h38 =>
 nextK h30 h38 (
 bK (nilO v29) fun v39 =>
 bK (fAddr 12 v39) fun v40 =>
 mK (stM 1 (chkV h38 v40) (chkV h38 v37) h38) fun v41 h42 =>
 nextK h38 h42 (
 bK (nilO v29) fun v43 =>
 bK (fAddr 13 v43) fun v44 =>
 bK (ldO 1 false h42 (chkV h42 v44)) fun v45 =>
 bK (fAddr 4 v28) fun v46 =>
 bK (ldO 1 false h42 (chkV h42 v46)) fun v47 =>
 mK (appM Tryz.prog 60 (chkV h42 v45) (chkV h42 v47) h42) fun v48 h49 =>
 nextK h42 h49 (
 bK (nilO v29) fun v50 =>
 bK (fAddr 13 v50) fun v51 =>
 mK (stM 1 (chkV h49 v51) (chkV h49 v48) h49) fun v52 h53 =>
 nextK h49 h53 (
 bK (fAddr 5 v28) fun v54 =>
 bK (ldO 1 false h53 v54) fun v55 =>
 bK (lenSl v55) fun v56 =>
 joinC 2 (fun v57 v58 h59 =>
 bK (fAddr 8 v57) fun v61 =>
 bK (ldO 1 false h59 v61) fun v62 =>
 bK (lenSl v62) fun v63 =>
 joinC 2 (fun v64 v65 h66 =>
 bK (fAddr 6 v64) fun v68 =>
 bK (ldO 1 false h66 v68) fun v69 =>
 bK (lenSl v69) fun v70 =>
 joinC 1 (fun v71 h72 =>
 retC v71 h72) fun J73 =>
 loopC N 4 (fun L79 v74 v75 v76 v77 h78 =>
 bK (ltI v77 v76) fun v80 =>
 condK v80 (
 bK (ixS 3 v75 v77) fun v81 =>
 bK (ldO 3 true h78 v81) fun v82 =>
 mK (alM (NB.cells [(NV.str 0 0), (NV.int .i64 (.ofNat 0)), (NV.int .i64 (.ofNat 0))]) h78) fun v83 h84 =>
 mK (stM 3 v83 v82 h84) fun v85 h86 =>
 bK (fAddr 1 v83) fun v87 =>
 bK (ldO 1 false h86 v87) fun v88 =>
 bK (eqI v88 (NV.int .i64 (.ofNat 0))) fun v89 =>
 joinC 4 (fun v90 v91 v92 v93 h94 =>
 bK (addI v93 (NV.int .i64 (.ofNat 1))) fun v96 =>
 L79 v90 v91 v92 v96 h94) fun J95 =>
 condK v89 (
 bK (nilO v74) fun v97 =>
 bK (fAddr 16 v97) fun v98 =>
 bK (ldO 1 false h86 (chkV h86 v98)) fun v99 =>
 bK (fAddr 2 v83) fun v100 =>
 bK (ldO 1 false h86 (chkV h86 v100)) fun v101 =>
 mK (updM Tryz.prog 229 (chkV h86 v99) (chkV h86 v101) (NV.bool true) h86) fun v102 h103 =>
 nextK h86 h103 (
 J95 v74 v75 v76 v77 h103)) (
 J95 v74 v75 v76 v77 h86)) (
 J73 v74 h78)) v65 v69 v70 (NV.int .i64 (.ofNat 0)) h66) fun J67 =>
 loopC N 5 (fun L110 v104 v105 v106 v107 v108 h109 =>
 bK (ltI v108 v107) fun v111 =>
 condK v111 (
 joinC 5 (fun v112 v113 v114 v115 v116 h117 =>
 bK (addI v116 (NV.int .i64 (.ofNat 1))) fun v119 =>
 L110 v112 v113 v114 v115 v119 h117) fun J118 =>
 bK (ixS 5 v106 v108) fun v120 =>
 bK (ldO 5 true h109 v120) fun v121 =>
 mK (alM (NB.cells [(NV.int .i64 (.ofNat 0)), (NV.int .i64 (.ofNat 0)), (NV.int .i64 (.ofNat 0)), NV.nslice, NV.nslice]) h109) fun v122 h123 =>
 mK (stM 5 v122 v121 h123) fun v124 h125 =>
 bK (fAddr 4 v122) fun v126 =>
 bK (ldO 1 false h125 v126) fun v127 =>
 bK (lenSl v127) fun v128 =>
 loopC N 8 (fun L138 v129 v130 v131 v132 v133 v134 v135 v136 h137 =>
 bK (ltI v136 v135) fun v139 =>
 condK v139 (
 bK (ixS 1 v134 v136) fun v140 =>
 bK (ldO 1 false h137 v140) fun v141 =>
 mK (calM call 96 [v130, v141] h137) fun v142 h143 =>
 bK (addI v136 (NV.int .i64 (.ofNat 1))) fun v144 =>
 L138 v129 v130 v131 v132 v133 v134 v135 v144 h143) (
 J118 v129 v130 v131 v132 v133 h137)) v104 v105 v106 v107 v108 v127 v128 (NV.int .i64 (.ofNat 0)) h125) (
 J67 v104 v105 h109)) v57 v58 v62 v63 (NV.int .i64 (.ofNat 0)) h59) fun J60 =>
 loopC N 5 (fun L151 v145 v146 v147 v148 v149 h150 =>
 bK (ltI v149 v148) fun v152 =>
 condK v152 (
 bK (ixS 3 v147 v149) fun v153 =>
 bK (ldO 3 true h150 v153) fun v154 =>
 mK (alM (NB.cells [(NV.int .i64 (.ofNat 0)), (NV.bool false), NV.nslice]) h150) fun v155 h156 =>
 mK (stM 3 v155 v154 h156) fun v157 h158 =>
 bK (nilO v146) fun v159 =>
 bK (fAddr 14 v159) fun v160 =>
 bK (ldO 1 false h158 (chkV h158 v160)) fun v161 =>
 bK (fAddr 0 v155) fun v162 =>
 bK (ldO 2 true h158 (chkV h158 v162)) fun v163 =>
 mK (bslM 1 false [(0, 2)] [(NV.int .i64 (.ofNat 0)), (NV.bool false)] [(chkV h158 v163)] h158) fun v164 h165 =>
 mK (appM Tryz.prog 64 (chkV h165 v161) (chkV h165 v164) h165) fun v166 h167 =>
 nextK h165 h167 (
 bK (nilO v146) fun v168 =>
 bK (fAddr 14 v168) fun v169 =>
 mK (stM 1 (chkV h167 v169) (chkV h167 v166) h167) fun v170 h171 =>
 nextK h167 h171 (
 bK (fAddr 2 v155) fun v172 =>
 bK (ldO 1 false h171 v172) fun v173 =>
 mK (calM call 96 [v146, v173] h171) fun v174 h175 =>
 bK (addI v149 (NV.int .i64 (.ofNat 1))) fun v176 =>
 L151 v145 v146 v147 v148 v176 h175))) (
 J60 v145 v146 h150)) v28 v29 v55 v56 (NV.int .i64 (.ofNat 0)) h53))))) fun J31 =>
 loopC N 5 (fun L183 v177 v178 v179 v180 v181 h182 =>
 bK (ltI v181 v180) fun v184 =>
 condK v184 (
 bK (ixS 3 v179 v181) fun v185 =>
 bK (ldO 3 true h182 v185) fun v186 =>
 mK (alM (NB.cells [(NV.int .i64 (.ofNat 0)), NV.nslice, NV.nslice]) h182) fun v187 h188 =>
 mK (stM 3 v187 v186 h188) fun v189 h190 =>
 bK (nilO v178) fun v191 =>
 bK (fAddr 11 v191) fun v192 =>
 bK (ldO 1 false h190 (chkV h190 v192)) fun v193 =>
 bK (fAddr 0 v187) fun v194 =>
 bK (ldO 1 false h190 (chkV h190 v194)) fun v195 =>
 mK (bslM 1 false [(0, 1)] [(NV.int .i64 (.ofNat 0))] [(chkV h190 v195)] h190) fun v196 h197 =>
 mK (appM Tryz.prog 3 (chkV h197 v193) (chkV h197 v196) h197) fun v198 h199 =>
 nextK h197 h199 (
 bK (nilO v178) fun v200 =>
 bK (fAddr 11 v200) fun v201 =>
 mK (stM 1 (chkV h199 v201) (chkV h199 v198) h199) fun v202 h203 =>
 nextK h199 h203 (
 bK (addI v181 (NV.int .i64 (.ofNat 1))) fun v204 =>
 L183 v177 v178 v179 v180 v204 h203))) (
 J31 v177 v178 h182)) v13 v14 v26 v27 (NV.int .i64 (.ofNat 0)) h24) fun J16 =>
 loopC N 5 (fun L211 v205 v206 v207 v208 v209 h210 =>
 bK (ltI v209 v208) fun v212 =>
 condK v212 (
 bK (ixS 13 v207 v209) fun v213 =>
 bK (ldO 13 true h210 v213) fun v214 =>
 mK (alM (NB.cells [(NV.str 0 0), (NV.str 0 0), (NV.int .i64 (.ofNat 0)), (NV.int .i64 (.ofNat 0)), (NV.int .i64 (.ofNat 0)), (NV.int .i64 (.ofNat 0)), (NV.int .i64 (.ofNat 0)), (NV.bool false), (NV.int .i64 (.ofNat 0)), (NV.int .i64 (.ofNat 0)), (NV.bool false), (NV.int .i64 (.ofNat 0)), (NV.bool false)]) h210) fun v215 h216 =>
 mK (stM 13 v215 v214 h216) fun v217 h218 =>
 bK (fAddr 2 v215) fun v219 =>
 bK (ldO 1 false h218 v219) fun v220 =>
 bK (eqI v220 (NV.int .i64 (.ofNat 0))) fun v221 =>
 joinC 5 (fun v222 v223 v224 v225 v226 h227 =>
 bK (addI v226 (NV.int .i64 (.ofNat 1))) fun v229 =>
 L211 v222 v223 v224 v225 v229 h227) fun J228 =>
 condK v221 (
 bK (nilO v206) fun v230 =>
 bK (fAddr 11 v230) fun v231 =>
 bK (ldO 1 false h218 (chkV h218 v231)) fun v232 =>
 bK (fAddr 3 v215) fun v233 =>
 bK (ldO 1 false h218 (chkV h218 v233)) fun v234 =>
 mK (bslM 1 false [(0, 1)] [(NV.int .i64 (.ofNat 0))] [(chkV h218 v234)] h218) fun v235 h236 =>
 mK (appM Tryz.prog 3 (chkV h236 v232) (chkV h236 v235) h236) fun v237 h238 =>
 nextK h236 h238 (
 bK (nilO v206) fun v239 =>
 bK (fAddr 11 v239) fun v240 =>
 mK (stM 1 (chkV h238 v240) (chkV h238 v237) h238) fun v241 h242 =>
 nextK h238 h242 (
 J228 v205 v206 v207 v208 v209 h242))) (
 bK (eqI v220 (NV.int .i64 (.ofNat 1))) fun v243 =>
 condK v243 (
 bK (nilO v206) fun v244 =>
 bK (fAddr 12 v244) fun v245 =>
 bK (ldO 1 false h218 (chkV h218 v245)) fun v246 =>
 bK (fAddr 4 v215) fun v247 =>
 bK (ldO 4 true h218 (chkV h218 v247)) fun v248 =>
 mK (bslM 1 false [(0, 4)] [(NV.int .i64 (.ofNat 0)), (NV.int .i64 (.ofNat 0)), (NV.int .i64 (.ofNat 0)), (NV.bool false)] [(chkV h218 v248)] h218) fun v249 h250 =>
 mK (appM Tryz.prog 62 (chkV h250 v246) (chkV h250 v249) h250) fun v251 h252 =>
 nextK h250 h252 (
 bK (nilO v206) fun v253 =>
 bK (fAddr 12 v253) fun v254 =>
 mK (stM 1 (chkV h252 v254) (chkV h252 v251) h252) fun v255 h256 =>
 nextK h252 h256 (
 J228 v205 v206 v207 v208 v209 h256))) (
 bK (eqI v220 (NV.int .i64 (.ofNat 2))) fun v257 =>
 condK v257 (
 bK (nilO v206) fun v258 =>
 bK (fAddr 13 v258) fun v259 =>
 bK (ldO 1 false h218 (chkV h218 v259)) fun v260 =>
 bK (fAddr 8 v215) fun v261 =>
 bK (ldO 3 true h218 (chkV h218 v261)) fun v262 =>
 mK (bslM 1 false [(0, 3)] [(NV.int .i64 (.ofNat 0)), (NV.int .i64 (.ofNat 0)), (NV.bool false)] [(chkV h218 v262)] h218) fun v263 h264 =>
 mK (appM Tryz.prog 60 (chkV h264 v260) (chkV h264 v263) h264) fun v265 h266 =>
 nextK h264 h266 (
 bK (nilO v206) fun v267 =>
 bK (fAddr 13 v267) fun v268 =>
 mK (stM 1 (chkV h266 v268) (chkV h266 v265) h266) fun v269 h270 =>
 nextK h266 h270 (
 J228 v205 v206 v207 v208 v209 h270))) (
 bK (nilO v206) fun v271 =>
 bK (fAddr 14 v271) fun v272 =>
 bK (ldO 1 false h218 (chkV h218 v272)) fun v273 =>
 bK (fAddr 11 v215) fun v274 =>
 bK (ldO 2 true h218 (chkV h218 v274)) fun v275 =>
 mK (bslM 1 false [(0, 2)] [(NV.int .i64 (.ofNat 0)), (NV.bool false)] [(chkV h218 v275)] h218) fun v276 h277 =>
 mK (appM Tryz.prog 64 (chkV h277 v273) (chkV h277 v276) h277) fun v278 h279 =>
 nextK h277 h279 (
 bK (nilO v206) fun v280 =>
 bK (fAddr 14 v280) fun v281 =>
 mK (stM 1 (chkV h279 v281) (chkV h279 v278) h279) fun v282 h283 =>
 nextK h279 h283 (
 J228 v205 v206 v207 v208 v209 h283)))))) (
 J16 v205 v206 h210)) v2 v8 v11 v12 (NV.int .i64 (.ofNat 0)) h9)
theorem e37 : ikB Tryz.prog 9 Tryz.f37 = S37 := by kernel_rfl
theorem k37 [Sig] (w0 : World) : SOK cW w0 37 S37 := okW Tryz.func37 (by kernel_rfl) e37
noncomputable def S38 (call : CallF) (N : Nat) (l : List NV) (h : H) : R :=
 uc l fun v0 l1 => un l1 (
 bK (nilO v0) fun v2 =>
 bK (fAddr 0 v2) fun v3 =>
 bK (ldO 11 true h v3) fun v4 =>
 mK (alM (NB.cells [NV.nslice, NV.nslice, NV.nslice, NV.nslice, NV.nslice, NV.nslice, NV.nslice, (NV.int .i64 (.ofNat 0)), NV.nslice, NV.nslice, (NV.bool false)]) h) fun v5 h6 =>
 mK (stM 11 v5 v4 h6) fun v7 h8 =>
 bK (nilO v0) fun v9 =>
 bK (fAddr 11 v9) fun v10 =>
 bK (ldO 1 false h8 v10) fun v11 =>
 bK (lenSl v11) fun v12 =>
 joinC 2 (fun v13 v14 h15 =>
 bK (nilO v13) fun v17 =>
 bK (fAddr 12 v17) fun v18 =>
 bK (ldO 1 false h15 v18) fun v19 =>
 mK (calM call 101 [v19, (NV.func (.func 98) [] [])] h15) fun v20 h21 =>
 jK (fun v22 h23 =>
 jK (fun v25 h26 =>
 jK (fun v28 h29 =>
 jK (fun v31 h32 =>
 jK (fun v34 h35 =>
 jK (fun v37 h38 =>
 bK (pickO v20 (NV.bool true) v37) fun v40 =>
 jK (fun v41 h42 =>
 jK (fun v44 h45 =>
 jK (fun v47 h48 =>
 jK (fun v50 h51 =>
 jK (fun v53 h54 =>
 jK (fun v56 h57 =>
 bK (pickO v40 (NV.bool true) v56) fun v59 =>
 condK v59 (
 retC (NV.bool false) h57) (
 bK (fAddr 5 v14) fun v60 =>
 bK (ldO 1 false h57 v60) fun v61 =>
 bK (lenSl v61) fun v62 =>
 joinC 2 (fun v63 v64 h65 =>
 bK (fAddr 7 v64) fun v67 =>
 bK (ldO 1 false h65 v67) fun v68 =>
 bK (gtI v68 (NV.int .i64 (.ofNat 0))) fun v69 =>
 joinC 1 (fun v70 h71 =>
 mK (calM call 104 [v70] h71) fun v73 h74 =>
 jK (fun v75 h76 =>
 jK (fun v78 h79 =>
 bK (pickO v73 v78 (NV.bool false)) fun v81 =>
 jK (fun v82 h83 =>
 jK (fun v85 h86 =>
 bK (pickO v81 v85 (NV.bool false)) fun v88 =>
 retC v88 h86) fun J87 => gK v81 true (
 mK (calM call 106 [v82] h83) fun v89 h90 =>
 J87 v89 h90) (J87 (NV.tuple []) h83)) fun J84 => gK v81 true (
 J84 v70 h79) (J84 (NV.tuple []) h79)) fun J80 => gK v73 true (
 mK (calM call 105 [v75] h76) fun v91 h92 =>
 J80 v91 h92) (J80 (NV.tuple []) h76)) fun J77 => gK v73 true (
 J77 v70 h74) (J77 (NV.tuple []) h74)) fun J72 =>
 condK v69 (
 bK (fAddr 7 v64) fun v93 =>
 bK (ldO 1 false h65 v93) fun v94 =>
 bK (subI v94 (NV.int .i64 (.ofNat 1))) fun v95 =>
 mK (calM call 97 [v63, v95] h65) fun v96 h97 =>
 bK (extO 0 v96) fun v98 =>
 bK (extO 1 v96) fun v99 =>
 mK (alM (NB.cells [NV.nslice, NV.nslice]) h97) fun v100 h101 =>
 mK (stM 2 v100 v98 h101) fun v102 h103 =>
 bK (notO v99) fun v104 =>
 jK (fun v105 h106 =>
 jK (fun v108 h109 =>
 jK (fun v111 h112 =>
 jK (fun v114 h115 =>
 jK (fun v117 h118 =>
 jK (fun v120 h121 =>
 jK (fun v123 h124 =>
 jK (fun v126 h127 =>
 bK (pickO v104 (NV.bool true) v126) fun v129 =>
 condK v129 (
 retC (NV.bool false) h127) (
 J72 v63 h127)) fun J128 => gK v104 false (
 bK (gtI v123 (NV.int .i64 (.ofNat 0))) fun v130 =>
 J128 v130 h124) (J128 (NV.tuple []) h124)) fun J125 => gK v104 false (
 bK (addI v111 v120) fun v131 =>
 J125 v131 h121) (J125 (NV.tuple []) h121)) fun J122 => gK v104 false (
 bK (lenSl v117) fun v132 =>
 J122 v132 h118) (J122 (NV.tuple []) h118)) fun J119 => gK v104 false (
 bK (ldO 1 false h115 v114) fun v133 =>
 J119 v133 h115) (J119 (NV.tuple []) h115)) fun J116 => gK v104 false (
 bK (fAddr 1 v100) fun v134 =>
 J116 v134 h112) (J116 (NV.tuple []) h112)) fun J113 => gK v104 false (
 bK (lenSl v108) fun v135 =>
 J113 v135 h109) (J113 (NV.tuple []) h109)) fun J110 => gK v104 false (
 bK (ldO 1 false h106 v105) fun v136 =>
 J110 v136 h106) (J110 (NV.tuple []) h106)) fun J107 => gK v104 false (
 bK (fAddr 0 v100) fun v137 =>
 J107 v137 h103) (J107 (NV.tuple []) h103)) (
 J72 v63 h65)) fun J66 =>
 loopC N 5 (fun L144 v138 v139 v140 v141 v142 h143 =>
 bK (ltI v142 v141) fun v145 =>
 condK v145 (
 bK (ixS 3 v140 v142) fun v146 =>
 bK (ldO 3 true h143 v146) fun v147 =>
 mK (alM (NB.cells [(NV.int .i64 (.ofNat 0)), (NV.bool false), NV.nslice]) h143) fun v148 h149 =>
 mK (stM 3 v148 v147 h149) fun v150 h151 =>
 bK (fAddr 2 v148) fun v152 =>
 bK (ldO 1 false h151 v152) fun v153 =>
 bK (fAddr 0 v148) fun v154 =>
 bK (fAddr 0 v154) fun v155 =>
 bK (ldO 1 false h151 v155) fun v156 =>
 mK (calM call 103 [v138, v153, v156] h151) fun v157 h158 =>
 bK (notO v157) fun v159 =>
 condK v159 (
 retC (NV.bool false) h158) (
 bK (addI v142 (NV.int .i64 (.ofNat 1))) fun v160 =>
 L144 v138 v139 v140 v141 v160 h158)) (
 J66 v138 v139 h143)) v13 v14 v61 v62 (NV.int .i64 (.ofNat 0)) h57)) fun J58 => gK v40 false (
 bK (gtI v53 (NV.int .i64 (.ofNat 1))) fun v161 =>
 J58 v161 h54) (J58 (NV.tuple []) h54)) fun J55 => gK v40 false (
 bK (lenSl v50) fun v162 =>
 J55 v162 h51) (J55 (NV.tuple []) h51)) fun J52 => gK v40 false (
 bK (ldO 1 false h48 v47) fun v163 =>
 J52 v163 h48) (J52 (NV.tuple []) h48)) fun J49 => gK v40 false (
 bK (fAddr 13 v44) fun v164 =>
 J49 v164 h45) (J49 (NV.tuple []) h45)) fun J46 => gK v40 false (
 bK (nilO v41) fun v165 =>
 J46 v165 h42) (J46 (NV.tuple []) h42)) fun J43 => gK v40 false (
 J43 v13 h38) (J43 (NV.tuple []) h38)) fun J39 => gK v20 false (
 mK (calM call 102 [v31, v34] h35) fun v166 h167 =>
 J39 v166 h167) (J39 (NV.tuple []) h35)) fun J36 => gK v20 false (
 J36 (NV.func (.func 100) [] []) h32) (J36 (NV.tuple []) h32)) fun J33 => gK v20 false (
 bK (ldO 1 false h29 v28) fun v168 =>
 J33 v168 h29) (J33 (NV.tuple []) h29)) fun J30 => gK v20 false (
 bK (fAddr 13 v25) fun v169 =>
 J30 v169 h26) (J30 (NV.tuple []) h26)) fun J27 => gK v20 false (
 bK (nilO v22) fun v170 =>
 J27 v170 h23) (J27 (NV.tuple []) h23)) fun J24 => gK v20 false (
 J24 v13 h21) (J24 (NV.tuple []) h21)) fun J16 =>
 loopC N 4 (fun L176 v171 v172 v173 v174 h175 =>
 bK (ltI v174 v173) fun v177 =>
 condK v177 (
 mK (calM call 97 [v171, v174] h175) fun v178 h179 =>
 bK (extO 0 v178) fun v180 =>
 bK (extO 1 v178) fun v181 =>
 mK (alM (NB.cells [NV.nslice, NV.nslice]) h179) fun v182 h183 =>
 mK (stM 2 v182 v180 h183) fun v184 h185 =>
 bK (notO v181) fun v186 =>
 condK v186 (
 retC (NV.bool false) h185) (
 bK (addI v174 (NV.int .i64 (.ofNat 1))) fun v187 =>
 L176 v171 v172 v173 v187 h185)) (
 J16 v171 v172 h175)) v0 v5 v12 (NV.int .i64 (.ofNat 0)) h8)
theorem e38 : ikB Tryz.prog 9 Tryz.f38 = S38 := by kernel_rfl
theorem k38 [Sig] (w0 : World) : SOK cW w0 38 S38 := okW Tryz.func38 (by kernel_rfl) e38
noncomputable def S39 (call : CallF) (N : Nat) (l : List NV) (h : H) : R :=
 uc l fun v0 l1 => uc l1 fun v2 l3 => un l3 (
 bK (nilO v0) fun v4 =>
 bK (fAddr 16 v4) fun v5 =>
 mK (stM 1 v5 (NV.bool false) h) fun v6 h7 =>
 bK (lenSl v2) fun v8 =>
 loopC N 4 (fun L14 v9 v10 v11 v12 h13 =>
 bK (ltI v12 v11) fun v15 =>
 condK v15 (
 bK (ixS 9 v10 v12) fun v16 =>
 bK (ldO 9 true h13 v16) fun v17 =>
 mK (alM (NB.cells [(NV.int .i64 (.ofNat 0)), (NV.int .i64 (.ofNat 0)), (NV.int .i64 (.ofNat 0)), (NV.int .u64 (.ofNat 0)), (NV.int .u64 (.ofNat 0)), NV.nslice, NV.nslice, NV.nslice, (NV.bool false)]) h13) fun v18 h19 =>
 mK (stM 9 v18 v17 h19) fun v20 h21 =>
 bK (nilO v9) fun v22 =>
 bK (fAddr 16 v22) fun v23 =>
 bK (ldO 1 false h21 v23) fun v24 =>
 bK (notO v24) fun v25 =>
 joinC 4 (fun v26 v27 v28 v29 h30 =>
 bK (addI v29 (NV.int .i64 (.ofNat 1))) fun v32 =>
 L14 v26 v27 v28 v32 h30) fun J31 =>
 condK v25 (
 bK (ldO 9 true h21 v18) fun v33 =>
 mK (calM call 107 [v9, v33] h21) fun v34 h35 =>
 J31 v9 v10 v11 v12 h35) (
 J31 v9 v10 v11 v12 h21)) (
 retC (NV.tuple []) h13)) v0 v2 v8 (NV.int .i64 (.ofNat 0)) h7)
theorem e39 : ikB Tryz.prog 9 Tryz.f39 = S39 := by kernel_rfl
theorem k39 [Sig] (w0 : World) : SOK cW w0 39 S39 := okW Tryz.func39 (by kernel_rfl) e39
noncomputable def S40 (call : CallF) (N : Nat) (l : List NV) (h : H) : R :=
 uc l fun v0 l1 => uc l1 fun v2 l3 => un l3 (
 bK (nilO v0) fun v4 =>
 bK (fAddr 2 v4) fun v5 =>
 mK (stM 1 v5 v2 h) fun v6 h7 =>
 bK (nilO v0) fun v8 =>
 bK (fAddr 3 v8) fun v9 =>
 bK (ldO 1 false h7 v9) fun v10 =>
 bK (lenSl v10) fun v11 =>
 loopC N 4 (fun L17 v12 v13 v14 v15 h16 =>
 bK (ltI v15 v14) fun v18 =>
 condK v18 (
 bK (ixS 1 v13 v15) fun v19 =>
 bK (ldO 1 false h16 v19) fun v20 =>
 mK (calV call v20 [v12] h16) fun v21 h22 =>
 bK (addI v15 (NV.int .i64 (.ofNat 1))) fun v23 =>
 L17 v12 v13 v14 v23 h22) (
 retC (NV.tuple []) h16)) v2 v10 v11 (NV.int .i64 (.ofNat 0)) h7)
theorem e40 : ikB Tryz.prog 9 Tryz.f40 = S40 := by kernel_rfl
theorem k40 [Sig] (w0 : World) : SOK cW w0 40 S40 := okW Tryz.func40 (by kernel_rfl) e40
noncomputable def S41 (call : CallF) (N : Nat) (l : List NV) (h : H) : R :=
 uc l fun v0 l1 => un l1 (
 bK (eqD Tryz.prog .eql 41 h v0 NV.nslice) fun v2 =>
 condK v2 (
 retC NV.nslice h) (
 mK (bslM 0 false [] [] [] h) fun v3 h4 =>
 mK (appM Tryz.prog 3 v3 v0 h4) fun v5 h6 =>
 retC v5 h6))
theorem e41 : ikB Tryz.prog 9 Tryz.f41 = S41 := by kernel_rfl
theorem k41 [Sig] (w0 : World) : SOK cW w0 41 S41 := okW Tryz.func41 (by kernel_rfl) e41
noncomputable def S43 (call : CallF) (N : Nat) (l : List NV) (h : H) : R :=
 uc l fun v0 l1 => uc l1 fun v2 l3 => un l3 (
 mK (calM call 110 [v0] h) fun v4 h5 =>
 mK (calM call 109 [v4] h5) fun v6 h7 =>
 bK (lenSl v6) fun v8 =>
 bK (ltI v2 v8) fun v9 =>
 condK v9 (
 bK (ixS 1 v6 v2) fun v10 =>
 bK (ldO 1 false h7 v10) fun v11 =>
 retC v11 h7) (
 retC (NV.str 0 0) h7))
theorem e43 : ikB Tryz.prog 9 Tryz.f43 = S43 := by kernel_rfl
theorem k43 [Sig] (w0 : World) : SOK cW w0 43 S43 := okW Tryz.func43 (by kernel_rfl) e43
noncomputable def S42 (call : CallF) (N : Nat) (l : List NV) (h : H) : R :=
 uc l fun v0 l1 => uc l1 fun v2 l3 => un l3 (
 mK (calM call 108 [v0, v2] h) fun v4 h5 =>
 bK (extO 0 v4) fun v6 =>
 bK (extO 1 v4) fun v7 =>
 bK (extO 2 v4) fun v8 =>
 retC (NV.tuple [v6, v7, v8]) h5)
theorem e42 : ikB Tryz.prog 9 Tryz.f42 = S42 := by kernel_rfl
theorem k42 [Sig] (w0 : World) : SOK cW w0 42 S42 := okW Tryz.func42 (by kernel_rfl) e42
noncomputable def S44 (call : CallF) (N : Nat) (l : List NV) (h : H) : R :=
 uc l fun v0 l1 => un l1 (
 mK (s2bM v0 h) fun v2 h3 =>
 bK (lenSl v2) fun v4 =>
 joinC 1 (fun v5 h6 =>
 retC v5 h6) fun J7 =>
 loopC N 4 (fun L13 v8 v9 v10 v11 h12 =>
 bK (ltI v11 v10) fun v14 =>
 condK v14 (
 bK (ixS 1 v9 v11) fun v15 =>
 bK (ldO 1 false h12 v15) fun v16 =>
 bK (eqI v16 (NV.int .u8 (.ofNat 105))) fun v17 =>
 joinC 4 (fun v18 v19 v20 v21 h22 =>
 bK (addI v21 (NV.int .i64 (.ofNat 1))) fun v24 =>
 L13 v18 v19 v20 v24 h22) fun J23 =>
 condK v17 (
 mK (bslM 1 false [(0, 1)] [(NV.int .i64 (.ofNat 0))] [(NV.int .i64 (.ofNat 127))] h12) fun v25 h26 =>
 mK (appM Tryz.prog 3 v8 v25 h26) fun v27 h28 =>
 J23 v27 v9 v10 v11 h28) (
 bK (eqI v16 (NV.int .u8 (.ofNat 108))) fun v29 =>
 condK v29 (
 mK (bslM 1 false [(0, 1)] [(NV.int .i64 (.ofNat 0))] [(NV.int .i64 (.ofNat 126))] h12) fun v30 h31 =>
 mK (appM Tryz.prog 3 v8 v30 h31) fun v32 h33 =>
 J23 v32 v9 v10 v11 h33) (
 bK (eqI v16 (NV.int .u8 (.ofNat 102))) fun v34 =>
 condK v34 (
 mK (bslM 1 false [(0, 1)] [(NV.int .i64 (.ofNat 0))] [(NV.int .i64 (.ofNat 125))] h12) fun v35 h36 =>
 mK (appM Tryz.prog 3 v8 v35 h36) fun v37 h38 =>
 J23 v37 v9 v10 v11 h38) (
 bK (eqI v16 (NV.int .u8 (.ofNat 100))) fun v39 =>
 condK v39 (
 mK (bslM 1 false [(0, 1)] [(NV.int .i64 (.ofNat 0))] [(NV.int .i64 (.ofNat 124))] h12) fun v40 h41 =>
 mK (appM Tryz.prog 3 v8 v40 h41) fun v42 h43 =>
 J23 v42 v9 v10 v11 h43) (
 bK (eqI v16 (NV.int .u8 (.ofNat 118))) fun v44 =>
 condK v44 (
 mK (bslM 1 false [(0, 1)] [(NV.int .i64 (.ofNat 0))] [(NV.int .i64 (.ofNat 123))] h12) fun v45 h46 =>
 mK (appM Tryz.prog 3 v8 v45 h46) fun v47 h48 =>
 J23 v47 v9 v10 v11 h48) (
 mK (bslM 1 false [(0, 1)] [(NV.int .i64 (.ofNat 0))] [(NV.int .i64 (.ofNat 112))] h12) fun v49 h50 =>
 mK (appM Tryz.prog 3 v8 v49 h50) fun v51 h52 =>
 J23 v51 v9 v10 v11 h52)))))) (
 J7 v8 h12)) NV.nslice v2 v4 (NV.int .i64 (.ofNat 0)) h3)
theorem e44 : ikB Tryz.prog 9 Tryz.f44 = S44 := by kernel_rfl
theorem k44 [Sig] (w0 : World) : SOK cW w0 44 S44 := okW Tryz.func44 (by kernel_rfl) e44
noncomputable def S45 (call : CallF) (N : Nat) (l : List NV) (h : H) : R :=
 uc l fun v0 l1 => un l1 (
 mK (calM call 43 [v0, (NV.int .i64 (.ofNat 1))] h) fun v2 h3 =>
 mK (s2bM v2 h3) fun v4 h5 =>
 bK (lenSl v4) fun v6 =>
 joinC 1 (fun v7 h8 =>
 retC v7 h8) fun J9 =>
 loopC N 4 (fun L15 v10 v11 v12 v13 h14 =>
 bK (ltI v13 v12) fun v16 =>
 condK v16 (
 bK (ixS 1 v11 v13) fun v17 =>
 bK (ldO 1 false h14 v17) fun v18 =>
 bK (binO .mul (NV.int .i64 (.ofNat 10)) v10) fun v19 =>
 bK (subI v18 (NV.int .u8 (.ofNat 48))) fun v20 =>
 bK (cvI .i64 v20) fun v21 =>
 bK (addI v19 v21) fun v22 =>
 bK (addI v13 (NV.int .i64 (.ofNat 1))) fun v23 =>
 L15 v22 v11 v12 v23 h14) (
 J9 v10 h14)) (NV.int .i64 (.ofNat 0)) v4 v6 (NV.int .i64 (.ofNat 0)) h5)
theorem e45 : ikB Tryz.prog 9 Tryz.f45 = S45 := by kernel_rfl
theorem k45 [Sig] (w0 : World) : SOK cW w0 45 S45 := okW Tryz.func45 (by kernel_rfl) e45
noncomputable def S46 (call : CallF) (N : Nat) (l : List NV) (h : H) : R :=
 uc l fun v0 l1 => un l1 (
 mK (calM call 110 [v0] h) fun v2 h3 =>
 bK (binO .neq v2 (NV.str 0 0)) fun v4 =>
 retC v4 h3)
theorem e46 : ikB Tryz.prog 9 Tryz.f46 = S46 := by kernel_rfl
theorem k46 [Sig] (w0 : World) : SOK cW w0 46 S46 := okW Tryz.func46 (by kernel_rfl) e46
noncomputable def S47 (call : CallF) (N : Nat) (l : List NV) (h : H) : R :=
 uc l fun v0 l1 => uc l1 fun v2 l3 => uc l3 fun v4 l5 => un l5 (
 mK (alM (NB.cells [(NV.int .i64 (.ofNat 0)), (NV.int .u64 (.ofNat 0)), (NV.int .u64 (.ofNat 0)), (NV.bool false)]) h) fun v6 h7 =>
 bK (geI v0 (NV.int .i64 (.ofNat 64768))) fun v8 =>
 condK v8 (
 mK (calM call 112 [v4] h7) fun v9 h10 =>
 mK (calM call 111 [v0, v2, v9] h10) fun v11 h12 =>
 bK (extO 0 v11) fun v13 =>
 bK (extO 1 v11) fun v14 =>
 mK (stM 4 v6 v13 h12) fun v15 h16 =>
 bK (ldB 4 true h16 v6) fun v17 =>
 retC (NV.tuple [v17, v14]) h16) (
 mK (calM call 28 [v0] h7) fun v18 h19 =>
 bK (extO 0 v18) fun v20 =>
 bK (extO 1 v18) fun v21 =>
 bK (extO 2 v18) fun v22 =>
 mK (calM call 29 [v0] h19) fun v23 h24 =>
 bK (notO v23) fun v25 =>
 jK (fun v26 h27 =>
 jK (fun v29 h30 =>
 jK (fun v32 h33 =>
 bK (pickO v25 (NV.bool true) v32) fun v35 =>
 jK (fun v36 h37 =>
 jK (fun v39 h40 =>
 jK (fun v42 h43 =>
 jK (fun v45 h46 =>
 jK (fun v48 h49 =>
 bK (pickO v35 (NV.bool true) v48) fun v51 =>
 condK v51 (
 bK (bldO [] [(NV.int .i64 (.ofNat 0)), (NV.int .u64 (.ofNat 0)), (NV.int .u64 (.ofNat 0)), (NV.bool false)] []) fun v52 =>
 mK (stM 4 v6 v52 h49) fun v53 h54 =>
 bK (ldB 4 true h54 v6) fun v55 =>
 retC (NV.tuple [v55, (NV.int .i64 (.ofNat 1))]) h54) (
 bK (lenSl v4) fun v56 =>
 joinC 5 (fun v57 v58 v59 v60 v61 h62 =>
 mK (calM call 112 [v58] h62) fun v64 h65 =>
 bK (ixS 4 v64 (NV.int .i64 (.ofNat 0))) fun v66 =>
 bK (fAddr 1 v66) fun v67 =>
 bK (ldO 1 false h65 v67) fun v68 =>
 bK (lenSl v64) fun v69 =>
 bK (gtI v69 (NV.int .i64 (.ofNat 1))) fun v70 =>
 joinC 6 (fun v71 v72 v73 v74 v75 v76 h77 =>
 bK (ixS 1 v73 (NV.int .i64 (.ofNat 0))) fun v79 =>
 bK (ldO 1 false h77 v79) fun v80 =>
 mK (calM call 114 [v80] h77) fun v81 h82 =>
 mK (calM call 113 [v71, v81, v75, v76] h82) fun v83 h84 =>
 bK (extO 0 v83) fun v85 =>
 bK (extO 1 v83) fun v86 =>
 bK (neI v86 (NV.int .i64 (.ofNat 0))) fun v87 =>
 condK v87 (
 bK (bldO [] [(NV.int .i64 (.ofNat 0)), (NV.int .u64 (.ofNat 0)), (NV.int .u64 (.ofNat 0)), (NV.bool false)] []) fun v88 =>
 mK (stM 4 v72 v88 h84) fun v89 h90 =>
 bK (ldB 4 true h90 v72) fun v91 =>
 retC (NV.tuple [v91, v86]) h90) (
 bK (ixS 1 v74 (NV.int .i64 (.ofNat 0))) fun v92 =>
 bK (ldO 1 false h84 v92) fun v93 =>
 bK (bldO [(0, 1), (1, 1)] [(NV.int .i64 (.ofNat 0)), (NV.int .u64 (.ofNat 0)), (NV.int .u64 (.ofNat 0)), (NV.bool false)] [v93, v85]) fun v94 =>
 mK (bslM 1 false [(0, 4)] [(NV.int .i64 (.ofNat 0)), (NV.int .u64 (.ofNat 0)), (NV.int .u64 (.ofNat 0)), (NV.bool false)] [v94] h84) fun v95 h96 =>
 mK (calM call 112 [v95] h96) fun v97 h98 =>
 bK (ixS 4 v97 (NV.int .i64 (.ofNat 0))) fun v99 =>
 bK (ldO 4 true h98 v99) fun v100 =>
 mK (stM 4 v72 v100 h98) fun v101 h102 =>
 bK (ldB 4 true h102 v72) fun v103 =>
 retC (NV.tuple [v103, (NV.int .i64 (.ofNat 0))]) h102)) fun J78 =>
 condK v70 (
 bK (ixS 4 v64 (NV.int .i64 (.ofNat 1))) fun v104 =>
 bK (fAddr 1 v104) fun v105 =>
 bK (ldO 1 false h65 v105) fun v106 =>
 J78 v57 v59 v60 v61 v68 v106 h65) (
 J78 v57 v59 v60 v61 v68 (NV.int .u64 (.ofNat 0)) h65)) fun J63 =>
 loopC N 8 (fun L116 v107 v108 v109 v110 v111 v112 v113 v114 h115 =>
 bK (ltI v114 v113) fun v117 =>
 condK v117 (
 bK (ixS 4 v112 v114) fun v118 =>
 bK (ldO 4 true h115 v118) fun v119 =>
 mK (alM (NB.cells [(NV.int .i64 (.ofNat 0)), (NV.int .u64 (.ofNat 0)), (NV.int .u64 (.ofNat 0)), (NV.bool false)]) h115) fun v120 h121 =>
 mK (stM 4 v120 v119 h121) fun v122 h123 =>
 bK (fAddr 0 v120) fun v124 =>
 bK (ldO 1 false h123 (chkV h123 v124)) fun v125 =>
 bK (ixS 1 v110 v114) fun v126 =>
 bK (ldO 1 false h123 (chkV h123 v126)) fun v127 =>
 bK (neI v125 v127) fun v128 =>
 condK v128 (
 bK (bldO [] [(NV.int .i64 (.ofNat 0)), (NV.int .u64 (.ofNat 0)), (NV.int .u64 (.ofNat 0)), (NV.bool false)] []) fun v129 =>
 mK (stM 4 v109 v129 h123) fun v130 h131 =>
 bK (ldB 4 true h131 v109) fun v132 =>
 retC (NV.tuple [v132, (NV.int .i64 (.ofNat 1))]) h131) (
 bK (addI v114 (NV.int .i64 (.ofNat 1))) fun v133 =>
 L116 v107 v108 v109 v110 v111 v112 v113 v133 h123)) (
 J63 v107 v108 v109 v110 v111 h115)) v0 v4 v6 v20 v21 v4 v56 (NV.int .i64 (.ofNat 0)) h49)) fun J50 => gK v35 false (
 bK (neI v39 v45) fun v134 =>
 J50 v134 h46) (J50 (NV.tuple []) h46)) fun J47 => gK v35 false (
 bK (lenSl v42) fun v135 =>
 J47 v135 h43) (J47 (NV.tuple []) h43)) fun J44 => gK v35 false (
 J44 v20 h40) (J44 (NV.tuple []) h40)) fun J41 => gK v35 false (
 bK (lenSl v36) fun v136 =>
 J41 v136 h37) (J41 (NV.tuple []) h37)) fun J38 => gK v35 false (
 J38 v4 h33) (J38 (NV.tuple []) h33)) fun J34 => gK v25 false (
 bK (gtI v29 (NV.int .i64 (.ofNat 0))) fun v137 =>
 J34 v137 h30) (J34 (NV.tuple []) h30)) fun J31 => gK v25 false (
 bK (lenSl v26) fun v138 =>
 J31 v138 h27) (J31 (NV.tuple []) h27)) fun J28 => gK v25 false (
 J28 v2 h24) (J28 (NV.tuple []) h24)))
theorem e47 : ikB Tryz.prog 9 Tryz.f47 = S47 := by kernel_rfl
theorem k47 [Sig] (w0 : World) : SOK cW w0 47 S47 := okW Tryz.func47 (by kernel_rfl) e47
noncomputable def S69 (call : CallF) (N : Nat) (l : List NV) (h : H) : R :=
 uc l fun v0 l1 => un l1 (
 mK (boxM false v0 h) fun v2 h3 =>
 bK (fAddr 0 v2) fun v4 =>
 bK (ldO 1 false h3 v4) fun v5 =>
 mK (calM call 70 [v5, (NV.func (.func 71) [] [])] h3) fun v6 h7 =>
 jK (fun v8 h9 =>
 jK (fun v11 h12 =>
 jK (fun v14 h15 =>
 bK (pickO v6 v14 (NV.bool false)) fun v17 =>
 retC v17 h15) fun J16 => gK v6 true (
 mK (calM call 70 [v11, (NV.func (.func 71) [] [])] h12) fun v18 h19 =>
 J16 v18 h19) (J16 (NV.tuple []) h12)) fun J13 => gK v6 true (
 bK (ldO 1 false h9 v8) fun v20 =>
 J13 v20 h9) (J13 (NV.tuple []) h9)) fun J10 => gK v6 true (
 bK (fAddr 1 v2) fun v21 =>
 J10 v21 h7) (J10 (NV.tuple []) h7))
theorem e69 : ikB Tryz.prog 9 Tryz.f69 = S69 := by kernel_rfl
theorem k69 [Sig] (w0 : World) : SOK cW w0 69 S69 := okW Tryz.func69 (by kernel_rfl) e69
noncomputable def S72 (call : CallF) (N : Nat) (l : List NV) (h : H) : R :=
 uc l fun v0 l1 => un l1 (
 mK (boxM false v0 h) fun v2 h3 =>
 bK (fAddr 0 v2) fun v4 =>
 bK (ldO 1 false h3 v4) fun v5 =>
 mK (calM call 73 [v5] h3) fun v6 h7 =>
 jK (fun v8 h9 =>
 jK (fun v11 h12 =>
 jK (fun v14 h15 =>
 jK (fun v17 h18 =>
 bK (pickO v6 v17 (NV.bool false)) fun v20 =>
 jK (fun v21 h22 =>
 jK (fun v24 h25 =>
 jK (fun v27 h28 =>
 bK (pickO v20 v27 (NV.bool false)) fun v30 =>
 jK (fun v31 h32 =>
 jK (fun v34 h35 =>
 jK (fun v37 h38 =>
 bK (pickO v30 v37 (NV.bool false)) fun v40 =>
 retC v40 h38) fun J39 => gK v30 true (
 mK (calM call 74 [v34] h35) fun v41 h42 =>
 J39 v41 h42) (J39 (NV.tuple []) h35)) fun J36 => gK v30 true (
 bK (ldO 1 false h32 v31) fun v43 =>
 J36 v43 h32) (J36 (NV.tuple []) h32)) fun J33 => gK v30 true (
 bK (fAddr 2 v2) fun v44 =>
 J33 v44 h28) (J33 (NV.tuple []) h28)) fun J29 => gK v20 true (
 mK (calM call 70 [v24, (NV.func (.func 71) [] [])] h25) fun v45 h46 =>
 J29 v45 h46) (J29 (NV.tuple []) h25)) fun J26 => gK v20 true (
 bK (ldO 1 false h22 v21) fun v47 =>
 J26 v47 h22) (J26 (NV.tuple []) h22)) fun J23 => gK v20 true (
 bK (fAddr 1 v2) fun v48 =>
 J23 v48 h18) (J23 (NV.tuple []) h18)) fun J19 => gK v6 true (
 bK (leI v14 (NV.int .i64 (.ofNat 50000))) fun v49 =>
 J19 v49 h15) (J19 (NV.tuple []) h15)) fun J16 => gK v6 true (
 bK (lenSl v11) fun v50 =>
 J16 v50 h12) (J16 (NV.tuple []) h12)) fun J13 => gK v6 true (
 bK (ldO 1 false h9 v8) fun v51 =>
 J13 v51 h9) (J13 (NV.tuple []) h9)) fun J10 => gK v6 true (
 bK (fAddr 1 v2) fun v52 =>
 J10 v52 h7) (J10 (NV.tuple []) h7))
theorem e72 : ikB Tryz.prog 9 Tryz.f72 = S72 := by kernel_rfl
theorem k72 [Sig] (w0 : World) : SOK cW w0 72 S72 := okW Tryz.func72 (by kernel_rfl) e72
noncomputable def S75 (call : CallF) (N : Nat) (l : List NV) (h : H) : R :=
 uc l fun v0 l1 => un l1 (
 mK (boxM false v0 h) fun v2 h3 =>
 bK (fAddr 0 v2) fun v4 =>
 bK (fAddr 0 v4) fun v5 =>
 bK (ldO 1 false h3 v5) fun v6 =>
 mK (calM call 71 [v6] h3) fun v7 h8 =>
 jK (fun v9 h10 =>
 jK (fun v12 h13 =>
 jK (fun v15 h16 =>
 bK (pickO v7 v15 (NV.bool false)) fun v18 =>
 retC v18 h16) fun J17 => gK v7 true (
 mK (calM call 74 [v12] h13) fun v19 h20 =>
 J17 v19 h20) (J17 (NV.tuple []) h13)) fun J14 => gK v7 true (
 bK (ldO 1 false h10 v9) fun v21 =>
 J14 v21 h10) (J14 (NV.tuple []) h10)) fun J11 => gK v7 true (
 bK (fAddr 2 v2) fun v22 =>
 J11 v22 h8) (J11 (NV.tuple []) h8))
theorem e75 : ikB Tryz.prog 9 Tryz.f75 = S75 := by kernel_rfl
theorem k75 [Sig] (w0 : World) : SOK cW w0 75 S75 := okW Tryz.func75 (by kernel_rfl) e75
noncomputable def S78 (call : CallF) (N : Nat) (l : List NV) (h : H) : R :=
 uc l fun v0 l1 => uc l1 fun v2 l3 => uc l3 fun v4 l5 => un l5 (
 bK (eqI v0 (NV.int .i64 (.ofNat 0))) fun v6 =>
 jK (fun v7 h8 =>
 jK (fun v10 h11 =>
 bK (pickO v6 v10 (NV.bool false)) fun v13 =>
 jK (fun v14 h15 =>
 jK (fun v17 h18 =>
 bK (pickO v13 v17 (NV.bool false)) fun v20 =>
 jK (fun v21 h22 =>
 jK (fun v24 h25 =>
 jK (fun v27 h28 =>
 jK (fun v30 h31 =>
 jK (fun v33 h34 =>
 jK (fun v36 h37 =>
 jK (fun v39 h40 =>
 jK (fun v42 h43 =>
 jK (fun v45 h46 =>
 jK (fun v48 h49 =>
 jK (fun v51 h52 =>
 bK (pickO v20 (NV.bool true) v51) fun v54 =>
 retC v54 h52) fun J53 => gK v20 false (
 bK (pickO v39 v48 (NV.bool false)) fun v55 =>
 J53 v55 h49) (J53 (NV.tuple []) h49)) fun J50 => gK v39 true (
 bK (eqI v45 (NV.int .i64 (.ofNat 0))) fun v56 =>
 J50 v56 h46) (J50 (NV.tuple []) h46)) fun J47 => gK v39 true (
 bK (lenSl v42) fun v57 =>
 J47 v57 h43) (J47 (NV.tuple []) h43)) fun J44 => gK v39 true (
 J44 v4 h40) (J44 (NV.tuple []) h40)) fun J41 => gK v20 false (
 J41 v36 h37) (J41 (NV.tuple []) h37)) fun J38 => gK v20 false (
 bK (pickO v27 v33 (NV.bool false)) fun v58 =>
 J38 v58 h34) (J38 (NV.tuple []) h34)) fun J35 => gK v27 true (
 bK (eqI v30 (NV.int .i64 (.ofNat 0))) fun v59 =>
 J35 v59 h31) (J35 (NV.tuple []) h31)) fun J32 => gK v27 true (
 J32 v2 h28) (J32 (NV.tuple []) h28)) fun J29 => gK v20 false (
 J29 v24 h25) (J29 (NV.tuple []) h25)) fun J26 => gK v20 false (
 bK (neI v21 (NV.int .i64 (.ofNat 0))) fun v60 =>
 J26 v60 h22) (J26 (NV.tuple []) h22)) fun J23 => gK v20 false (
 J23 v0 h18) (J23 (NV.tuple []) h18)) fun J19 => gK v13 true (
 mK (calM call 74 [v14] h15) fun v61 h62 =>
 J19 v61 h62) (J19 (NV.tuple []) h15)) fun J16 => gK v13 true (
 J16 v4 h11) (J16 (NV.tuple []) h11)) fun J12 => gK v6 true (
 mK (calM call 73 [v7] h8) fun v63 h64 =>
 J12 v63 h64) (J12 (NV.tuple []) h8)) fun J9 => gK v6 true (
 J9 v2 h) (J9 (NV.tuple []) h))
theorem e78 : ikB Tryz.prog 9 Tryz.f78 = S78 := by kernel_rfl
theorem k78 [Sig] (w0 : World) : SOK cW w0 78 S78 := okW Tryz.func78 (by kernel_rfl) e78
noncomputable def S79 (call : CallF) (N : Nat) (l : List NV) (h : H) : R :=
 uc l fun v0 l1 => uc l1 fun v2 l3 => un l3 (
 mK (boxM false v0 h) fun v4 h5 =>
 bK (fAddr 0 v4) fun v6 =>
 bK (ldO 1 false h5 v6) fun v7 =>
 mK (calM call 80 [v7] h5) fun v8 h9 =>
 jK (fun v10 h11 =>
 jK (fun v13 h14 =>
 jK (fun v16 h17 =>
 bK (pickO v8 v16 (NV.bool false)) fun v19 =>
 jK (fun v20 h21 =>
 jK (fun v23 h24 =>
 jK (fun v26 h27 =>
 bK (pickO v19 v26 (NV.bool false)) fun v29 =>
 jK (fun v30 h31 =>
 jK (fun v33 h34 =>
 jK (fun v36 h37 =>
 jK (fun v39 h40 =>
 jK (fun v42 h43 =>
 jK (fun v45 h46 =>
 jK (fun v48 h49 =>
 jK (fun v51 h52 =>
 bK (pickO v29 v51 (NV.bool false)) fun v54 =>
 jK (fun v55 h56 =>
 jK (fun v58 h59 =>
 jK (fun v61 h62 =>
 bK (pickO v54 v61 (NV.bool false)) fun v64 =>
 retC v64 h62) fun J63 => gK v54 true (
 mK (calM call 81 [v58, (NV.func (.func 74) [] [])] h59) fun v65 h66 =>
 J63 v65 h66) (J63 (NV.tuple []) h59)) fun J60 => gK v54 true (
 bK (ldO 1 false h56 v55) fun v67 =>
 J60 v67 h56) (J60 (NV.tuple []) h56)) fun J57 => gK v54 true (
 bK (fAddr 4 v4) fun v68 =>
 J57 v68 h52) (J57 (NV.tuple []) h52)) fun J53 => gK v29 true (
 mK (calV call v30 [v36, v42, v48] h49) fun v69 h70 =>
 J53 v69 h70) (J53 (NV.tuple []) h49)) fun J50 => gK v29 true (
 bK (ldO 1 false h46 v45) fun v71 =>
 J50 v71 h46) (J50 (NV.tuple []) h46)) fun J47 => gK v29 true (
 bK (fAddr 3 v4) fun v72 =>
 J47 v72 h43) (J47 (NV.tuple []) h43)) fun J44 => gK v29 true (
 bK (ldO 1 false h40 v39) fun v73 =>
 J44 v73 h40) (J44 (NV.tuple []) h40)) fun J41 => gK v29 true (
 bK (fAddr 2 v4) fun v74 =>
 J41 v74 h37) (J41 (NV.tuple []) h37)) fun J38 => gK v29 true (
 bK (ldO 1 false h34 v33) fun v75 =>
 J38 v75 h34) (J38 (NV.tuple []) h34)) fun J35 => gK v29 true (
 bK (fAddr 1 v4) fun v76 =>
 J35 v76 h31) (J35 (NV.tuple []) h31)) fun J32 => gK v29 true (
 bK (ldO 1 false h27 v2) fun v77 =>
 J32 v77 h27) (J32 (NV.tuple []) h27)) fun J28 => gK v19 true (
 bK (leI v23 (NV.int .i64 (.ofNat 2))) fun v78 =>
 J28 v78 h24) (J28 (NV.tuple []) h24)) fun J25 => gK v19 true (
 bK (ldO 1 false h21 v20) fun v79 =>
 J25 v79 h21) (J25 (NV.tuple []) h21)) fun J22 => gK v19 true (
 bK (fAddr 1 v4) fun v80 =>
 J22 v80 h17) (J22 (NV.tuple []) h17)) fun J18 => gK v8 true (
 bK (geI v13 (NV.int .i64 (.ofNat 0))) fun v81 =>
 J18 v81 h14) (J18 (NV.tuple []) h14)) fun J15 => gK v8 true (
 bK (ldO 1 false h11 v10) fun v82 =>
 J15 v82 h11) (J15 (NV.tuple []) h11)) fun J12 => gK v8 true (
 bK (fAddr 1 v4) fun v83 =>
 J12 v83 h9) (J12 (NV.tuple []) h9))
theorem e79 : ikB Tryz.prog 9 Tryz.f79 = S79 := by kernel_rfl
theorem k79 [Sig] (w0 : World) : SOK cW w0 79 S79 := okW Tryz.func79 (by kernel_rfl) e79
noncomputable def S82 (call : CallF) (N : Nat) (l : List NV) (h : H) : R :=
 uc l fun v0 l1 => uc l1 fun v2 l3 => un l3 (
 mK (boxM false v0 h) fun v4 h5 =>
 bK (fAddr 0 v4) fun v6 =>
 bK (ldO 1 false h5 v6) fun v7 =>
 bK (eqI v7 (NV.int .i64 (.ofNat 0))) fun v8 =>
 jK (fun v9 h10 =>
 jK (fun v12 h13 =>
 jK (fun v15 h16 =>
 bK (pickO v8 (NV.bool true) v15) fun v18 =>
 jK (fun v19 h20 =>
 jK (fun v22 h23 =>
 jK (fun v25 h26 =>
 jK (fun v28 h29 =>
 jK (fun v31 h32 =>
 jK (fun v34 h35 =>
 jK (fun v37 h38 =>
 jK (fun v40 h41 =>
 bK (pickO v18 v40 (NV.bool false)) fun v43 =>
 retC v43 h41) fun J42 => gK v18 true (
 mK (calV call v19 [v25, v31, v37] h38) fun v44 h45 =>
 J42 v44 h45) (J42 (NV.tuple []) h38)) fun J39 => gK v18 true (
 bK (ldO 1 false h35 v34) fun v46 =>
 J39 v46 h35) (J39 (NV.tuple []) h35)) fun J36 => gK v18 true (
 bK (fAddr 2 v4) fun v47 =>
 J36 v47 h32) (J36 (NV.tuple []) h32)) fun J33 => gK v18 true (
 bK (ldO 1 false h29 v28) fun v48 =>
 J33 v48 h29) (J33 (NV.tuple []) h29)) fun J30 => gK v18 true (
 bK (fAddr 1 v4) fun v49 =>
 J30 v49 h26) (J30 (NV.tuple []) h26)) fun J27 => gK v18 true (
 bK (ldO 1 false h23 v22) fun v50 =>
 J27 v50 h23) (J27 (NV.tuple []) h23)) fun J24 => gK v18 true (
 bK (fAddr 0 v4) fun v51 =>
 J24 v51 h20) (J24 (NV.tuple []) h20)) fun J21 => gK v18 true (
 bK (ldO 1 false h16 v2) fun v52 =>
 J21 v52 h16) (J21 (NV.tuple []) h16)) fun J17 => gK v8 false (
 bK (eqI v12 (NV.int .i64 (.ofNat 1))) fun v53 =>
 J17 v53 h13) (J17 (NV.tuple []) h13)) fun J14 => gK v8 false (
 bK (ldO 1 false h10 v9) fun v54 =>
 J14 v54 h10) (J14 (NV.tuple []) h10)) fun J11 => gK v8 false (
 bK (fAddr 0 v4) fun v55 =>
 J11 v55 h5) (J11 (NV.tuple []) h5))
theorem e82 : ikB Tryz.prog 9 Tryz.f82 = S82 := by kernel_rfl
theorem k82 [Sig] (w0 : World) : SOK cW w0 82 S82 := okW Tryz.func82 (by kernel_rfl) e82
noncomputable def S83 (call : CallF) (N : Nat) (l : List NV) (h : H) : R :=
 uc l fun v0 l1 => uc l1 fun v2 l3 => un l3 (
 mK (boxM false v2 h) fun v4 h5 =>
 mK (calM call 132 [v0, (NV.func (.func 133) [] [v4])] h5) fun v6 h7 =>
 bK (notO v6) fun v8 =>
 retC v8 h7)
theorem e83 : ikB Tryz.prog 9 Tryz.f83 = S83 := by kernel_rfl
theorem k83 [Sig] (w0 : World) : SOK cW w0 83 S83 := okW Tryz.func83 (by kernel_rfl) e83
noncomputable def S84 (call : CallF) (N : Nat) (l : List NV) (h : H) : R :=
 uc l fun v0 l1 => uc l1 fun v2 l3 => un l3 (
 mK (boxM false v2 h) fun v4 h5 =>
 mK (calM call 134 [v0, (NV.func (.func 135) [] [v4])] h5) fun v6 h7 =>
 bK (notO v6) fun v8 =>
 retC v8 h7)
theorem e84 : ikB Tryz.prog 9 Tryz.f84 = S84 := by kernel_rfl
theorem k84 [Sig] (w0 : World) : SOK cW w0 84 S84 := okW Tryz.func84 (by kernel_rfl) e84
noncomputable def S85 (call : CallF) (N : Nat) (l : List NV) (h : H) : R :=
 uc l fun v0 l1 => un l1 (
 mK (boxM false v0 h) fun v2 h3 =>
 bK (fAddr 0 v2) fun v4 =>
 bK (ldO 1 false h3 v4) fun v5 =>
 bK (fAddr 1 v2) fun v6 =>
 bK (ldO 1 false h3 v6) fun v7 =>
 bK (fAddr 2 v2) fun v8 =>
 bK (ldO 1 false h3 v8) fun v9 =>
 bK (bldO [(0, 1), (1, 1), (2, 1)] [(NV.str 0 0), (NV.str 0 0), (NV.int .i64 (.ofNat 0)), (NV.int .i64 (.ofNat 0)), (NV.int .i64 (.ofNat 0)), (NV.int .i64 (.ofNat 0)), (NV.int .i64 (.ofNat 0)), (NV.bool false), (NV.int .i64 (.ofNat 0)), (NV.int .i64 (.ofNat 0)), (NV.bool false), (NV.int .i64 (.ofNat 0)), (NV.bool false)] [v5, v7, v9]) fun v10 =>
 mK (alM (NB.cells [(NV.str 0 0), (NV.str 0 0), (NV.int .i64 (.ofNat 0)), (NV.int .i64 (.ofNat 0)), (NV.int .i64 (.ofNat 0)), (NV.int .i64 (.ofNat 0)), (NV.int .i64 (.ofNat 0)), (NV.bool false), (NV.int .i64 (.ofNat 0)), (NV.int .i64 (.ofNat 0)), (NV.bool false), (NV.int .i64 (.ofNat 0)), (NV.bool false)]) h3) fun v11 h12 =>
 mK (stM 13 v11 v10 h12) fun v13 h14 =>
 bK (fAddr 2 v2) fun v15 =>
 bK (ldO 1 false h14 v15) fun v16 =>
 bK (eqI v16 (NV.int .i64 (.ofNat 0))) fun v17 =>
 joinC 3 (fun v18 v19 v20 h21 =>
 jK (fun v23 h24 =>
 jK (fun v26 h27 =>
 jK (fun v29 h30 =>
 bK (pickO v20 v29 (NV.bool false)) fun v32 =>
 jK (fun v33 h34 =>
 jK (fun v36 h37 =>
 jK (fun v39 h40 =>
 bK (pickO v32 v39 (NV.bool false)) fun v42 =>
 jK (fun v43 h44 =>
 jK (fun v46 h47 =>
 jK (fun v49 h50 =>
 bK (pickO v42 v49 (NV.bool false)) fun v52 =>
 retC v52 h50) fun J51 => gK v42 true (
 mK (calM call 77 [v46] h47) fun v53 h54 =>
 J51 v53 h54) (J51 (NV.tuple []) h47)) fun J48 => gK v42 true (
 bK (ldO 1 false h44 v43) fun v55 =>
 J48 v55 h44) (J48 (NV.tuple []) h44)) fun J45 => gK v42 true (
 bK (fAddr 1 v18) fun v56 =>
 J45 v56 h40) (J45 (NV.tuple []) h40)) fun J41 => gK v32 true (
 mK (calM call 77 [v36] h37) fun v57 h58 =>
 J41 v57 h58) (J41 (NV.tuple []) h37)) fun J38 => gK v32 true (
 bK (ldO 1 false h34 v33) fun v59 =>
 J38 v59 h34) (J38 (NV.tuple []) h34)) fun J35 => gK v32 true (
 bK (fAddr 0 v18) fun v60 =>
 J35 v60 h30) (J35 (NV.tuple []) h30)) fun J31 => gK v20 true (
 bK (eqD Tryz.prog .eql 66 h27 v23 v26) fun v61 =>
 J31 v61 h27) (J31 (NV.tuple []) h27)) fun J28 => gK v20 true (
 bK (ldO 13 true h24 v18) fun v62 =>
 J28 v62 h24) (J28 (NV.tuple []) h24)) fun J25 => gK v20 true (
 bK (ldO 13 true h21 v19) fun v63 =>
 J25 v63 h21) (J25 (NV.tuple []) h21)) fun J22 =>
 condK v17 (
 bK (fAddr 3 v2) fun v64 =>
 bK (ldO 1 false h14 (chkV h14 v64)) fun v65 =>
 bK (fAddr 3 v2) fun v66 =>
 bK (ldO 1 false h14 (chkV h14 v66)) fun v67 =>
 bK (fAddr 3 v11) fun v68 =>
 mK (calM call 73 [(chkV h14 v67)] h14) fun v69 h70 =>
 nextK h14 h70 (
 bK (ldO 1 false h70 (chkV h70 v64)) fun v71 =>
 sameK v71 v65 (
 mK (stM 1 (chkV h70 v68) (chkV h70 v65) h70) fun v72 h73 =>
 nextK h70 h73 (
 J22 v2 v11 v69 h73)))) (
 bK (eqI v16 (NV.int .i64 (.ofNat 1))) fun v74 =>
 condK v74 (
 bK (fAddr 4 v2) fun v75 =>
 bK (ldO 4 true h14 (chkV h14 v75)) fun v76 =>
 bK (fAddr 4 v2) fun v77 =>
 bK (ldO 4 true h14 (chkV h14 v77)) fun v78 =>
 bK (fAddr 4 v11) fun v79 =>
 mK (calM call 88 [(chkV h14 v78)] h14) fun v80 h81 =>
 nextK h14 h81 (
 bK (ldO 4 true h81 (chkV h81 v75)) fun v82 =>
 sameK v82 v76 (
 mK (stM 4 (chkV h81 v79) (chkV h81 v76) h81) fun v83 h84 =>
 nextK h81 h84 (
 J22 v2 v11 v80 h84)))) (
 bK (eqI v16 (NV.int .i64 (.ofNat 2))) fun v85 =>
 condK v85 (
 bK (fAddr 8 v2) fun v86 =>
 bK (ldO 3 true h14 (chkV h14 v86)) fun v87 =>
 bK (fAddr 8 v2) fun v88 =>
 bK (ldO 3 true h14 (chkV h14 v88)) fun v89 =>
 bK (fAddr 8 v11) fun v90 =>
 mK (calM call 90 [(chkV h14 v89)] h14) fun v91 h92 =>
 nextK h14 h92 (
 bK (ldO 3 true h92 (chkV h92 v86)) fun v93 =>
 sameK v93 v87 (
 mK (stM 3 (chkV h92 v90) (chkV h92 v87) h92) fun v94 h95 =>
 nextK h92 h95 (
 J22 v2 v11 v91 h95)))) (
 bK (eqI v16 (NV.int .i64 (.ofNat 3))) fun v96 =>
 condK v96 (
 bK (fAddr 11 v2) fun v97 =>
 bK (ldO 2 true h14 (chkV h14 v97)) fun v98 =>
 bK (fAddr 11 v2) fun v99 =>
 bK (fAddr 0 v99) fun v100 =>
 bK (ldO 1 false h14 (chkV h14 v100)) fun v101 =>
 bK (fAddr 11 v11) fun v102 =>
 mK (calM call 71 [(chkV h14 v101)] h14) fun v103 h104 =>
 nextK h14 h104 (
 bK (ldO 2 true h104 (chkV h104 v97)) fun v105 =>
 sameK v105 v98 (
 mK (stM 2 (chkV h104 v102) (chkV h104 v98) h104) fun v106 h107 =>
 nextK h104 h107 (
 J22 v2 v11 v103 h107)))) (
 J22 v2 v11 (NV.bool false) h14)))))
theorem e85 : ikB Tryz.prog 9 Tryz.f85 = S85 := by kernel_rfl
theorem k85 [Sig] (w0 : World) : SOK cW w0 85 S85 := okW Tryz.func85 (by kernel_rfl) e85
noncomputable def S86 (call : CallF) (N : Nat) (l : List NV) (h : H) : R :=
 uc l fun v0 l1 => uc l1 fun v2 l3 => un l3 (
 mK (boxM false v2 h) fun v4 h5 =>
 mK (calM call 136 [v0, (NV.func (.func 137) [] [v4])] h5) fun v6 h7 =>
 bK (notO v6) fun v8 =>
 retC v8 h7)
theorem e86 : ikB Tryz.prog 9 Tryz.f86 = S86 := by kernel_rfl
theorem k86 [Sig] (w0 : World) : SOK cW w0 86 S86 := okW Tryz.func86 (by kernel_rfl) e86
noncomputable def S87 (call : CallF) (N : Nat) (l : List NV) (h : H) : R :=
 uc l fun v0 l1 => uc l1 fun v2 l3 => un l3 (
 mK (boxM false v2 h) fun v4 h5 =>
 mK (calM call 101 [v0, (NV.func (.func 138) [] [v4])] h5) fun v6 h7 =>
 bK (notO v6) fun v8 =>
 retC v8 h7)
theorem e87 : ikB Tryz.prog 9 Tryz.f87 = S87 := by kernel_rfl
theorem k87 [Sig] (w0 : World) : SOK cW w0 87 S87 := okW Tryz.func87 (by kernel_rfl) e87
noncomputable def S88 (call : CallF) (N : Nat) (l : List NV) (h : H) : R :=
 uc l fun v0 l1 => un l1 (
 mK (boxM false v0 h) fun v2 h3 =>
 bK (fAddr 0 v2) fun v4 =>
 bK (ldO 1 false h3 v4) fun v5 =>
 mK (calM call 80 [v5] h3) fun v6 h7 =>
 jK (fun v8 h9 =>
 jK (fun v11 h12 =>
 jK (fun v14 h15 =>
 bK (pickO v6 v14 (NV.bool false)) fun v17 =>
 retC v17 h15) fun J16 => gK v6 true (
 mK (calM call 90 [v11] h12) fun v18 h19 =>
 J16 v18 h19) (J16 (NV.tuple []) h12)) fun J13 => gK v6 true (
 bK (ldO 3 true h9 v8) fun v20 =>
 J13 v20 h9) (J13 (NV.tuple []) h9)) fun J10 => gK v6 true (
 bK (fAddr 1 v2) fun v21 =>
 J10 v21 h7) (J10 (NV.tuple []) h7))
theorem e88 : ikB Tryz.prog 9 Tryz.f88 = S88 := by kernel_rfl
theorem k88 [Sig] (w0 : World) : SOK cW w0 88 S88 := okW Tryz.func88 (by kernel_rfl) e88
noncomputable def S89 (call : CallF) (N : Nat) (l : List NV) (h : H) : R :=
 uc l fun v0 l1 => uc l1 fun v2 l3 => un l3 (
 mK (boxM false v2 h) fun v4 h5 =>
 mK (calM call 102 [v0, (NV.func (.func 139) [] [v4])] h5) fun v6 h7 =>
 bK (notO v6) fun v8 =>
 retC v8 h7)
theorem e89 : ikB Tryz.prog 9 Tryz.f89 = S89 := by kernel_rfl
theorem k89 [Sig] (w0 : World) : SOK cW w0 89 S89 := okW Tryz.func89 (by kernel_rfl) e89
noncomputable def S90 (call : CallF) (N : Nat) (l : List NV) (h : H) : R :=
 uc l fun v0 l1 => un l1 (
 mK (boxM false v0 h) fun v2 h3 =>
 bK (fAddr 0 v2) fun v4 =>
 bK (ldO 1 false h3 v4) fun v5 =>
 mK (calM call 73 [v5] h3) fun v6 h7 =>
 jK (fun v8 h9 =>
 jK (fun v11 h12 =>
 jK (fun v14 h15 =>
 bK (pickO v6 v14 (NV.bool false)) fun v17 =>
 jK (fun v18 h19 =>
 jK (fun v21 h22 =>
 jK (fun v24 h25 =>
 jK (fun v27 h28 =>
 jK (fun v30 h31 =>
 jK (fun v33 h34 =>
 jK (fun v36 h37 =>
 bK (pickO v17 v36 (NV.bool false)) fun v39 =>
 retC v39 h37) fun J38 => gK v17 true (
 bK (pickO v24 (NV.bool true) v33) fun v40 =>
 J38 v40 h34) (J38 (NV.tuple []) h34)) fun J35 => gK v24 false (
 bK (eqI v30 (NV.int .i64 (.ofNat 0))) fun v41 =>
 J35 v41 h31) (J35 (NV.tuple []) h31)) fun J32 => gK v24 false (
 bK (ldO 1 false h28 v27) fun v42 =>
 J32 v42 h28) (J32 (NV.tuple []) h28)) fun J29 => gK v24 false (
 bK (fAddr 1 v2) fun v43 =>
 J29 v43 h25) (J29 (NV.tuple []) h25)) fun J26 => gK v17 true (
 J26 v21 h22) (J26 (NV.tuple []) h22)) fun J23 => gK v17 true (
 bK (ldO 1 false h19 v18) fun v44 =>
 J23 v44 h19) (J23 (NV.tuple []) h19)) fun J20 => gK v17 true (
 bK (fAddr 2 v2) fun v45 =>
 J20 v45 h15) (J20 (NV.tuple []) h15)) fun J16 => gK v6 true (
 mK (calM call 73 [v11] h12) fun v46 h47 =>
 J16 v46 h47) (J16 (NV.tuple []) h12)) fun J13 => gK v6 true (
 bK (ldO 1 false h9 v8) fun v48 =>
 J13 v48 h9) (J13 (NV.tuple []) h9)) fun J10 => gK v6 true (
 bK (fAddr 1 v2) fun v49 =>
 J10 v49 h7) (J10 (NV.tuple []) h7))
theorem e90 : ikB Tryz.prog 9 Tryz.f90 = S90 := by kernel_rfl
theorem k90 [Sig] (w0 : World) : SOK cW w0 90 S90 := okW Tryz.func90 (by kernel_rfl) e90
noncomputable def S91 (call : CallF) (N : Nat) (l : List NV) (h : H) : R :=
 uc l fun v0 l1 => uc l1 fun v2 l3 => un l3 (
 mK (boxM false v2 h) fun v4 h5 =>
 mK (calM call 140 [v0, (NV.func (.func 141) [] [v4])] h5) fun v6 h7 =>
 bK (notO v6) fun v8 =>
 retC v8 h7)
theorem e91 : ikB Tryz.prog 9 Tryz.f91 = S91 := by kernel_rfl
theorem k91 [Sig] (w0 : World) : SOK cW w0 91 S91 := okW Tryz.func91 (by kernel_rfl) e91
noncomputable def S92 (call : CallF) (N : Nat) (l : List NV) (h : H) : R :=
 uc l fun v0 l1 => uc l1 fun v2 l3 => un l3 (
 mK (boxM false v2 h) fun v4 h5 =>
 mK (calM call 142 [v0, (NV.func (.func 143) [] [v4])] h5) fun v6 h7 =>
 bK (notO v6) fun v8 =>
 retC v8 h7)
theorem e92 : ikB Tryz.prog 9 Tryz.f92 = S92 := by kernel_rfl
theorem k92 [Sig] (w0 : World) : SOK cW w0 92 S92 := okW Tryz.func92 (by kernel_rfl) e92
noncomputable def S93 (call : CallF) (N : Nat) (l : List NV) (h : H) : R :=
 uc l fun v0 l1 => uc l1 fun v2 l3 => un l3 (
 mK (boxM false v2 h) fun v4 h5 =>
 mK (calM call 144 [v0, (NV.func (.func 145) [] [v4])] h5) fun v6 h7 =>
 bK (notO v6) fun v8 =>
 retC v8 h7)
theorem e93 : ikB Tryz.prog 9 Tryz.f93 = S93 := by kernel_rfl
theorem k93 [Sig] (w0 : World) : SOK cW w0 93 S93 := okW Tryz.func93 (by kernel_rfl) e93
noncomputable def S94 (call : CallF) (N : Nat) (l : List NV) (h : H) : R :=
 uc l fun v0 l1 => uc l1 fun v2 l3 => un l3 (
 mK (boxM false v2 h) fun v4 h5 =>
 mK (calM call 146 [v0, (NV.func (.func 147) [] [v4])] h5) fun v6 h7 =>
 bK (notO v6) fun v8 =>
 retC v8 h7)
theorem e94 : ikB Tryz.prog 9 Tryz.f94 = S94 := by kernel_rfl
theorem k94 [Sig] (w0 : World) : SOK cW w0 94 S94 := okW Tryz.func94 (by kernel_rfl) e94
noncomputable def S96 (call : CallF) (N : Nat) (l : List NV) (h : H) : R :=
 uc l fun v0 l1 => uc l1 fun v2 l3 => un l3 (
 bK (lenSl v2) fun v4 =>
 loopC N 4 (fun L10 v5 v6 v7 v8 h9 =>
 bK (ltI v8 v7) fun v11 =>
 condK v11 (
 bK (ixS 9 v6 v8) fun v12 =>
 bK (ldO 9 true h9 v12) fun v13 =>
 mK (alM (NB.cells [(NV.int .i64 (.ofNat 0)), (NV.int .i64 (.ofNat 0)), (NV.int .i64 (.ofNat 0)), (NV.int .u64 (.ofNat 0)), (NV.int .u64 (.ofNat 0)), NV.nslice, NV.nslice, NV.nslice, (NV.bool false)]) h9) fun v14 h15 =>
 mK (stM 9 v14 v13 h15) fun v16 h17 =>
 bK (fAddr 0 v14) fun v18 =>
 bK (ldO 1 false h17 v18) fun v19 =>
 bK (eqI v19 (NV.int .i64 (.ofNat 210))) fun v20 =>
 joinC 5 (fun v21 v22 v23 v24 v25 h26 =>
 bK (fAddr 6 v22) fun v28 =>
 bK (ldO 1 false h26 v28) fun v29 =>
 mK (calM call 96 [v21, v29] h26) fun v30 h31 =>
 bK (fAddr 7 v22) fun v32 =>
 bK (ldO 1 false h31 v32) fun v33 =>
 mK (calM call 96 [v21, v33] h31) fun v34 h35 =>
 bK (addI v25 (NV.int .i64 (.ofNat 1))) fun v36 =>
 L10 v21 v23 v24 v36 h35) fun J27 =>
 condK v20 (
 bK (nilO v5) fun v37 =>
 bK (fAddr 16 v37) fun v38 =>
 bK (ldO 1 false h17 (chkV h17 v38)) fun v39 =>
 bK (fAddr 1 v14) fun v40 =>
 bK (ldO 1 false h17 (chkV h17 v40)) fun v41 =>
 mK (updM Tryz.prog 229 (chkV h17 v39) (chkV h17 v41) (NV.bool true) h17) fun v42 h43 =>
 nextK h17 h43 (
 J27 v5 v14 v6 v7 v8 h43)) (
 J27 v5 v14 v6 v7 v8 h17)) (
 retC (NV.tuple []) h9)) v0 v2 v4 (NV.int .i64 (.ofNat 0)) h)
theorem e96 : ikB Tryz.prog 9 Tryz.f96 = S96 := by kernel_rfl
theorem k96 [Sig] (w0 : World) : SOK cW w0 96 S96 := okW Tryz.func96 (by kernel_rfl) e96
noncomputable def S97 (call : CallF) (N : Nat) (l : List NV) (h : H) : R :=
 uc l fun v0 l1 => uc l1 fun v2 l3 => un l3 (
 mK (alM (NB.cells [NV.nslice, NV.nslice]) h) fun v4 h5 =>
 bK (ltI v2 (NV.int .i64 (.ofNat 0))) fun v6 =>
 jK (fun v7 h8 =>
 jK (fun v10 h11 =>
 jK (fun v13 h14 =>
 jK (fun v16 h17 =>
 jK (fun v19 h20 =>
 jK (fun v22 h23 =>
 jK (fun v25 h26 =>
 bK (pickO v6 (NV.bool true) v25) fun v28 =>
 jK (fun v29 h30 =>
 jK (fun v32 h33 =>
 jK (fun v35 h36 =>
 jK (fun v38 h39 =>
 jK (fun v41 h42 =>
 jK (fun v44 h45 =>
 jK (fun v47 h48 =>
 jK (fun v50 h51 =>
 jK (fun v53 h54 =>
 jK (fun v56 h57 =>
 jK (fun v59 h60 =>
 jK (fun v62 h63 =>
 jK (fun v65 h66 =>
 jK (fun v68 h69 =>
 bK (pickO v28 (NV.bool true) v68) fun v71 =>
 condK v71 (
 bK (bldO [] [NV.nslice, NV.nslice] []) fun v72 =>
 mK (stM 2 v4 v72 h5) fun v73 h74 =>
 bK (ldB 2 true h74 v4) fun v75 =>
 retC (NV.tuple [v75, (NV.bool false)]) h74) (
 bK (nilO v0) fun v76 =>
 bK (fAddr 0 v76) fun v77 =>
 bK (fAddr 0 v77) fun v78 =>
 bK (ldO 1 false h5 (chkV h5 v78)) fun v79 =>
 bK (nilO v0) fun v80 =>
 bK (fAddr 11 v80) fun v81 =>
 bK (ldO 1 false h5 (chkV h5 v81)) fun v82 =>
 bK (ixS 1 v82 v2) fun v83 =>
 bK (ldO 1 false h5 (chkV h5 v83)) fun v84 =>
 bK (ixS 2 v79 v84) fun v85 =>
 bK (ldO 2 true h5 (chkV h5 v85)) fun v86 =>
 mK (stM 2 (chkV h5 v4) (chkV h5 v86) h5) fun v87 h88 =>
 nextK h5 h88 (
 bK (ldB 2 true h88 v4) fun v89 =>
 retC (NV.tuple [v89, (NV.bool true)]) h88))) fun J70 => gK v28 false (
 bK (geI v47 v65) fun v90 =>
 J70 v90 h5) (J70 (NV.tuple []) h5)) fun J67 => gK v28 false (
 bK (lenSl v62) fun v91 =>
 J67 v91 h5) (J67 (NV.tuple []) h5)) fun J64 => gK v28 false (
 bK (ldO 1 false h5 (chkV h5 v59)) fun v92 =>
 J64 v92 h5) (J64 (NV.tuple []) h5)) fun J61 => gK v28 false (
 bK (fAddr 0 v56) fun v93 =>
 J61 v93 h5) (J61 (NV.tuple []) h5)) fun J58 => gK v28 false (
 bK (fAddr 0 v53) fun v94 =>
 J58 v94 h5) (J58 (NV.tuple []) h5)) fun J55 => gK v28 false (
 bK (nilO v50) fun v95 =>
 J55 v95 h5) (J55 (NV.tuple []) h5)) fun J52 => gK v28 false (
 J52 v0 h5) (J52 (NV.tuple []) h5)) fun J49 => gK v28 false (
 bK (ldO 1 false h5 (chkV h5 v44)) fun v96 =>
 J49 v96 h5) (J49 (NV.tuple []) h5)) fun J46 => gK v28 false (
 bK (ixS 1 v38 v41) fun v97 =>
 J46 v97 h5) (J46 (NV.tuple []) h5)) fun J43 => gK v28 false (
 J43 v2 h5) (J43 (NV.tuple []) h5)) fun J40 => gK v28 false (
 bK (ldO 1 false h5 (chkV h5 v35)) fun v98 =>
 J40 v98 h5) (J40 (NV.tuple []) h5)) fun J37 => gK v28 false (
 bK (fAddr 11 v32) fun v99 =>
 J37 v99 h5) (J37 (NV.tuple []) h5)) fun J34 => gK v28 false (
 bK (nilO v29) fun v100 =>
 J34 v100 h5) (J34 (NV.tuple []) h5)) fun J31 => gK v28 false (
 J31 v0 h5) (J31 (NV.tuple []) h5)) fun J27 => gK v6 false (
 bK (geI v7 v22) fun v101 =>
 J27 v101 h5) (J27 (NV.tuple []) h5)) fun J24 => gK v6 false (
 bK (lenSl v19) fun v102 =>
 J24 v102 h5) (J24 (NV.tuple []) h5)) fun J21 => gK v6 false (
 bK (ldO 1 false h5 (chkV h5 v16)) fun v103 =>
 J21 v103 h5) (J21 (NV.tuple []) h5)) fun J18 => gK v6 false (
 bK (fAddr 11 v13) fun v104 =>
 J18 v104 h5) (J18 (NV.tuple []) h5)) fun J15 => gK v6 false (
 bK (nilO v10) fun v105 =>
 J15 v105 h5) (J15 (NV.tuple []) h5)) fun J12 => gK v6 false (
 J12 v0 h5) (J12 (NV.tuple []) h5)) fun J9 => gK v6 false (
 J9 v2 h5) (J9 (NV.tuple []) h5))
theorem e97 : ikB Tryz.prog 9 Tryz.f97 = S97 := by kernel_rfl
theorem k97 [Sig] (w0 : World) : SOK cW w0 97 S97 := okW Tryz.func97 (by kernel_rfl) e97
noncomputable def S98 (call : CallF) (N : Nat) (l : List NV) (h : H) : R :=
 uc l fun v0 l1 => un l1 (
 mK (boxM false v0 h) fun v2 h3 =>
 bK (fAddr 1 v2) fun v4 =>
 bK (ldO 3 true h3 v4) fun v5 =>
 mK (calM call 99 [v5, (NV.int .i64 (.ofNat 4294967295))] h3) fun v6 h7 =>
 bK (notO v6) fun v8 =>
 retC v8 h7)
theorem e98 : ikB Tryz.prog 9 Tryz.f98 = S98 := by kernel_rfl
theorem k98 [Sig] (w0 : World) : SOK cW w0 98 S98 := okW Tryz.func98 (by kernel_rfl) e98
noncomputable def S100 (call : CallF) (N : Nat) (l : List NV) (h : H) : R :=
 uc l fun v0 l1 => un l1 (
 mK (boxM false v0 h) fun v2 h3 =>
 bK (ldO 3 true h3 v2) fun v4 =>
 mK (calM call 99 [v4, (NV.int .i64 (.ofNat 65536))] h3) fun v5 h6 =>
 bK (notO v5) fun v7 =>
 retC v7 h6)
theorem e100 : ikB Tryz.prog 9 Tryz.f100 = S100 := by kernel_rfl
theorem k100 [Sig] (w0 : World) : SOK cW w0 100 S100 := okW Tryz.func100 (by kernel_rfl) e100
noncomputable def S101 (call : CallF) (N : Nat) (l : List NV) (h : H) : R :=
 uc l fun v0 l1 => uc l1 fun v2 l3 => un l3 (
 mK (calM call 150 [v0, v2] h) fun v4 h5 =>
 bK (geI v4 (NV.int .i64 (.ofNat 0))) fun v6 =>
 retC v6 h5)
theorem e101 : ikB Tryz.prog 9 Tryz.f101 = S101 := by kernel_rfl
theorem k101 [Sig] (w0 : World) : SOK cW w0 101 S101 := okW Tryz.func101 (by kernel_rfl) e101
noncomputable def S102 (call : CallF) (N : Nat) (l : List NV) (h : H) : R :=
 uc l fun v0 l1 => uc l1 fun v2 l3 => un l3 (
 mK (calM call 151 [v0, v2] h) fun v4 h5 =>
 bK (geI v4 (NV.int .i64 (.ofNat 0))) fun v6 =>
 retC v6 h5)
theorem e102 : ikB Tryz.prog 9 Tryz.f102 = S102 := by kernel_rfl
theorem k102 [Sig] (w0 : World) : SOK cW w0 102 S102 := okW Tryz.func102 (by kernel_rfl) e102
noncomputable def S103 (call : CallF) (N : Nat) (l : List NV) (h : H) : R :=
 uc l fun v0 l1 => uc l1 fun v2 l3 => uc l3 fun v4 l5 => un l5 (
 bK (lenSl v2) fun v6 =>
 bK (neI v6 (NV.int .i64 (.ofNat 1))) fun v7 =>
 condK v7 (
 retC (NV.bool false) h) (
 bK (ixS 9 v2 (NV.int .i64 (.ofNat 0))) fun v8 =>
 bK (ldO 9 true h v8) fun v9 =>
 mK (alM (NB.cells [(NV.int .i64 (.ofNat 0)), (NV.int .i64 (.ofNat 0)), (NV.int .i64 (.ofNat 0)), (NV.int .u64 (.ofNat 0)), (NV.int .u64 (.ofNat 0)), NV.nslice, NV.nslice, NV.nslice, (NV.bool false)]) h) fun v10 h11 =>
 mK (stM 9 v10 v9 h11) fun v12 h13 =>
 bK (fAddr 0 v10) fun v14 =>
 bK (ldO 1 false h13 v14) fun v15 =>
 bK (geI v15 (NV.int .i64 (.ofNat 65))) fun v16 =>
 jK (fun v17 h18 =>
 jK (fun v20 h21 =>
 jK (fun v23 h24 =>
 bK (pickO v16 v23 (NV.bool false)) fun v26 =>
 jK (fun v27 h28 =>
 jK (fun v30 h31 =>
 jK (fun v33 h34 =>
 bK (pickO v26 (NV.bool true) v33) fun v36 =>
 condK v36 (
 bK (fAddr 0 v10) fun v37 =>
 bK (ldO 1 false h34 v37) fun v38 =>
 mK (calM call 28 [v38] h34) fun v39 h40 =>
 bK (extO 0 v39) fun v41 =>
 bK (extO 1 v39) fun v42 =>
 bK (extO 2 v39) fun v43 =>
 bK (ixS 1 v42 (NV.int .i64 (.ofNat 0))) fun v44 =>
 bK (ldO 1 false h40 v44) fun v45 =>
 bK (eqI v45 v4) fun v46 =>
 retC v46 h40) (
 bK (fAddr 0 v10) fun v47 =>
 bK (ldO 1 false h34 v47) fun v48 =>
 bK (eqI v48 (NV.int .i64 (.ofNat 208))) fun v49 =>
 condK v49 (
 bK (fAddr 1 v10) fun v50 =>
 bK (ldO 1 false h34 v50) fun v51 =>
 bK (eqI v51 v4) fun v52 =>
 retC v52 h34) (
 bK (fAddr 0 v10) fun v53 =>
 bK (ldO 1 false h34 v53) fun v54 =>
 bK (eqI v54 (NV.int .i64 (.ofNat 210))) fun v55 =>
 condK v55 (
 bK (fAddr 1 v10) fun v56 =>
 bK (ldO 1 false h34 (chkV h34 v56)) fun v57 =>
 bK (nilO v0) fun v58 =>
 bK (fAddr 11 v58) fun v59 =>
 bK (ldO 1 false h34 (chkV h34 v59)) fun v60 =>
 bK (lenSl v60) fun v61 =>
 bK (ltI v57 v61) fun v62 =>
 jK (fun v63 h64 =>
 jK (fun v66 h67 =>
 bK (pickO v62 v66 (NV.bool false)) fun v69 =>
 retC v69 h34) fun J68 => gK v62 true (
 bK (eqI v63 (NV.int .i64 (.ofNat 112))) fun v70 =>
 J68 v70 h34) (J68 (NV.tuple []) h34)) fun J65 => gK v62 true (
 J65 v4 h34) (J65 (NV.tuple []) h34)) (
 bK (fAddr 0 v10) fun v71 =>
 bK (ldO 1 false h34 v71) fun v72 =>
 bK (eqI v72 (NV.int .i64 (.ofNat 35))) fun v73 =>
 condK v73 (
 bK (fAddr 1 v10) fun v74 =>
 bK (ldO 1 false h34 (chkV h34 v74)) fun v75 =>
 bK (nilO v0) fun v76 =>
 bK (fAddr 15 v76) fun v77 =>
 bK (ldO 1 false h34 (chkV h34 v77)) fun v78 =>
 bK (ltI v75 v78) fun v79 =>
 jK (fun v80 h81 =>
 jK (fun v83 h84 =>
 jK (fun v86 h87 =>
 jK (fun v89 h90 =>
 jK (fun v92 h93 =>
 jK (fun v95 h96 =>
 jK (fun v98 h99 =>
 jK (fun v101 h102 =>
 jK (fun v104 h105 =>
 jK (fun v107 h108 =>
 bK (pickO v79 v107 (NV.bool false)) fun v110 =>
 jK (fun v111 h112 =>
 jK (fun v114 h115 =>
 jK (fun v117 h118 =>
 jK (fun v120 h121 =>
 jK (fun v123 h124 =>
 jK (fun v126 h127 =>
 jK (fun v129 h130 =>
 jK (fun v132 h133 =>
 jK (fun v135 h136 =>
 jK (fun v138 h139 =>
 jK (fun v141 h142 =>
 bK (pickO v110 v141 (NV.bool false)) fun v144 =>
 retC v144 h34) fun J143 => gK v110 true (
 bK (eqI v135 v138) fun v145 =>
 J143 v145 h34) (J143 (NV.tuple []) h34)) fun J140 => gK v110 true (
 J140 v4 h34) (J140 (NV.tuple []) h34)) fun J137 => gK v110 true (
 bK (ldO 1 false h34 (chkV h34 v132)) fun v146 =>
 J137 v146 h34) (J137 (NV.tuple []) h34)) fun J134 => gK v110 true (
 bK (fAddr 0 v129) fun v147 =>
 J134 v147 h34) (J134 (NV.tuple []) h34)) fun J131 => gK v110 true (
 bK (ixS 2 v120 v126) fun v148 =>
 J131 v148 h34) (J131 (NV.tuple []) h34)) fun J128 => gK v110 true (
 bK (ldO 1 false h34 (chkV h34 v123)) fun v149 =>
 J128 v149 h34) (J128 (NV.tuple []) h34)) fun J125 => gK v110 true (
 bK (fAddr 1 v10) fun v150 =>
 J125 v150 h34) (J125 (NV.tuple []) h34)) fun J122 => gK v110 true (
 bK (ldO 1 false h34 (chkV h34 v117)) fun v151 =>
 J122 v151 h34) (J122 (NV.tuple []) h34)) fun J119 => gK v110 true (
 bK (fAddr 14 v114) fun v152 =>
 J119 v152 h34) (J119 (NV.tuple []) h34)) fun J116 => gK v110 true (
 bK (nilO v111) fun v153 =>
 J116 v153 h34) (J116 (NV.tuple []) h34)) fun J113 => gK v110 true (
 J113 v0 h34) (J113 (NV.tuple []) h34)) fun J109 => gK v79 true (
 bK (notO v104) fun v154 =>
 J109 v154 h34) (J109 (NV.tuple []) h34)) fun J106 => gK v79 true (
 bK (ldO 1 false h34 (chkV h34 v101)) fun v155 =>
 J106 v155 h34) (J106 (NV.tuple []) h34)) fun J103 => gK v79 true (
 bK (fAddr 1 v98) fun v156 =>
 J103 v156 h34) (J103 (NV.tuple []) h34)) fun J100 => gK v79 true (
 bK (ixS 2 v89 v95) fun v157 =>
 J100 v157 h34) (J100 (NV.tuple []) h34)) fun J97 => gK v79 true (
 bK (ldO 1 false h34 (chkV h34 v92)) fun v158 =>
 J97 v158 h34) (J97 (NV.tuple []) h34)) fun J94 => gK v79 true (
 bK (fAddr 1 v10) fun v159 =>
 J94 v159 h34) (J94 (NV.tuple []) h34)) fun J91 => gK v79 true (
 bK (ldO 1 false h34 (chkV h34 v86)) fun v160 =>
 J91 v160 h34) (J91 (NV.tuple []) h34)) fun J88 => gK v79 true (
 bK (fAddr 14 v83) fun v161 =>
 J88 v161 h34) (J88 (NV.tuple []) h34)) fun J85 => gK v79 true (
 bK (nilO v80) fun v162 =>
 J85 v162 h34) (J85 (NV.tuple []) h34)) fun J82 => gK v79 true (
 J82 v0 h34) (J82 (NV.tuple []) h34)) (
 retC (NV.bool false) h34))))) fun J35 => gK v26 false (
 bK (eqI v30 (NV.int .i64 (.ofNat 64780))) fun v163 =>
 J35 v163 h31) (J35 (NV.tuple []) h31)) fun J32 => gK v26 false (
 bK (ldO 1 false h28 v27) fun v164 =>
 J32 v164 h28) (J32 (NV.tuple []) h28)) fun J29 => gK v26 false (
 bK (fAddr 0 v10) fun v165 =>
 J29 v165 h24) (J29 (NV.tuple []) h24)) fun J25 => gK v16 true (
 bK (leI v20 (NV.int .i64 (.ofNat 68))) fun v166 =>
 J25 v166 h21) (J25 (NV.tuple []) h21)) fun J22 => gK v16 true (
 bK (ldO 1 false h18 v17) fun v167 =>
 J22 v167 h18) (J22 (NV.tuple []) h18)) fun J19 => gK v16 true (
 bK (fAddr 0 v10) fun v168 =>
 J19 v168 h13) (J19 (NV.tuple []) h13)))
theorem e103 : ikB Tryz.prog 9 Tryz.f103 = S103 := by kernel_rfl
theorem k103 [Sig] (w0 : World) : SOK cW w0 103 S103 := okW Tryz.func103 (by kernel_rfl) e103
noncomputable def S104 (call : CallF) (N : Nat) (l : List NV) (h : H) : R :=
 uc l fun v0 l1 => un l1 (
 mK (mapM none h) fun v2 h3 =>
 bK (nilO v0) fun v4 =>
 bK (fAddr 0 v4) fun v5 =>
 bK (fAddr 6 v5) fun v6 =>
 bK (ldO 1 false h3 v6) fun v7 =>
 bK (lenSl v7) fun v8 =>
 joinC 0 (fun h9 =>
 retC (NV.bool true) h9) fun J10 =>
 loopC N 5 (fun L17 v11 v12 v13 v14 v15 h16 =>
 bK (ltI v15 v14) fun v18 =>
 condK v18 (
 bK (ixS 3 v13 v15) fun v19 =>
 bK (ldO 3 true h16 v19) fun v20 =>
 mK (alM (NB.cells [(NV.str 0 0), (NV.int .i64 (.ofNat 0)), (NV.int .i64 (.ofNat 0))]) h16) fun v21 h22 =>
 mK (stM 3 v21 v20 h22) fun v23 h24 =>
 bK (nilO v11) fun v25 =>
 bK (fAddr 11 v25) fun v26 =>
 bK (ldO 1 false h24 (chkV h24 v26)) fun v27 =>
 bK (lenSl v27) fun v28 =>
 bK (nilO v11) fun v29 =>
 bK (fAddr 12 v29) fun v30 =>
 bK (ldO 1 false h24 (chkV h24 v30)) fun v31 =>
 bK (lenSl v31) fun v32 =>
 bK (nilO v11) fun v33 =>
 bK (fAddr 13 v33) fun v34 =>
 bK (ldO 1 false h24 (chkV h24 v34)) fun v35 =>
 bK (lenSl v35) fun v36 =>
 bK (nilO v11) fun v37 =>
 bK (fAddr 14 v37) fun v38 =>
 bK (ldO 1 false h24 (chkV h24 v38)) fun v39 =>
 bK (lenSl v39) fun v40 =>
 bK (bldO [(0, 1), (1, 1), (2, 1), (3, 1)] [(NV.int .i64 (.ofNat 0)), (NV.int .i64 (.ofNat 0)), (NV.int .i64 (.ofNat 0)), (NV.int .i64 (.ofNat 0))] [v28, v32, v36, v40]) fun v41 =>
 bK (fAddr 1 v21) fun v42 =>
 bK (ldO 1 false h24 (chkV h24 v42)) fun v43 =>
 bK (ixArr 4 false 1 v41 v43) fun v44 =>
 bK (fAddr 0 v21) fun v45 =>
 bK (ldO 1 false h24 v45) fun v46 =>
 bK (lookO Tryz.prog 9 (NV.bool false) false h24 v12 v46) fun v47 =>
 jK (fun v48 h49 =>
 jK (fun v51 h52 =>
 jK (fun v54 h55 =>
 jK (fun v57 h58 =>
 bK (pickO v47 (NV.bool true) v57) fun v60 =>
 condK v60 (
 retC (NV.bool false) h58) (
 bK (fAddr 0 v21) fun v61 =>
 bK (ldO 1 false h58 v61) fun v62 =>
 mK (updM Tryz.prog 257 v12 v62 (NV.bool true) h58) fun v63 h64 =>
 bK (addI v15 (NV.int .i64 (.ofNat 1))) fun v65 =>
 L17 v11 v12 v13 v14 v65 h64)) fun J59 => gK v47 false (
 bK (geI v51 v54) fun v66 =>
 J59 v66 h55) (J59 (NV.tuple []) h55)) fun J56 => gK v47 false (
 J56 v44 h52) (J56 (NV.tuple []) h52)) fun J53 => gK v47 false (
 bK (ldO 1 false h49 v48) fun v67 =>
 J53 v67 h49) (J53 (NV.tuple []) h49)) fun J50 => gK v47 false (
 bK (fAddr 2 v21) fun v68 =>
 J50 v68 h24) (J50 (NV.tuple []) h24)) (
 J10 h16)) v0 v2 v7 v8 (NV.int .i64 (.ofNat 0)) h3)
theorem e104 : ikB Tryz.prog 9 Tryz.f104 = S104 := by kernel_rfl
theorem k104 [Sig] (w0 : World) : SOK cW w0 104 S104 := okW Tryz.func104 (by kernel_rfl) e104
noncomputable def S105 (call : CallF) (N : Nat) (l : List NV) (h : H) : R :=
 uc l fun v0 l1 => un l1 (
 bK (nilO v0) fun v2 =>
 bK (fAddr 0 v2) fun v3 =>
 bK (fAddr 8 v3) fun v4 =>
 bK (ldO 1 false h v4) fun v5 =>
 bK (lenSl v5) fun v6 =>
 joinC 1 (fun v7 h8 =>
 bK (nilO v7) fun v10 =>
 bK (fAddr 0 v10) fun v11 =>
 bK (fAddr 9 v11) fun v12 =>
 bK (ldO 1 false h8 v12) fun v13 =>
 bK (lenSl v13) fun v14 =>
 joinC 0 (fun h15 =>
 retC (NV.bool true) h15) fun J16 =>
 loopC N 4 (fun L22 v17 v18 v19 v20 h21 =>
 bK (ltI v20 v19) fun v23 =>
 condK v23 (
 bK (ixS 4 v18 v20) fun v24 =>
 bK (ldO 4 true h21 v24) fun v25 =>
 mK (alM (NB.cells [(NV.int .i64 (.ofNat 0)), (NV.int .i64 (.ofNat 0)), NV.nslice, NV.nslice]) h21) fun v26 h27 =>
 mK (stM 4 v26 v25 h27) fun v28 h29 =>
 bK (fAddr 0 v26) fun v30 =>
 bK (ldO 1 false h29 (chkV h29 v30)) fun v31 =>
 bK (eqI v31 (NV.int .i64 (.ofNat 0))) fun v32 =>
 jK (fun v33 h34 =>
 jK (fun v36 h37 =>
 jK (fun v39 h40 =>
 jK (fun v42 h43 =>
 jK (fun v45 h46 =>
 jK (fun v48 h49 =>
 jK (fun v51 h52 =>
 jK (fun v54 h55 =>
 jK (fun v57 h58 =>
 jK (fun v60 h61 =>
 jK (fun v63 h64 =>
 jK (fun v66 h67 =>
 jK (fun v69 h70 =>
 nextK h29 h70 (
 jK (fun v72 h73 =>
 jK (fun v75 h76 =>
 bK (pickO v32 v75 (NV.bool false)) fun v78 =>
 condK v78 (
 retC (NV.bool false) h70) (
 bK (addI v20 (NV.int .i64 (.ofNat 1))) fun v79 =>
 L22 v17 v18 v19 v79 h70)) fun J77 => gK v32 true (
 bK (pickO v57 (NV.bool true) v72) fun v80 =>
 J77 v80 h70) (J77 (NV.tuple []) h70)) fun J74 => gK v57 false (
 bK (notO v69) fun v81 =>
 J74 v81 h70) (J74 (NV.tuple []) h70))) fun J71 => gK v57 false (
 mK (calM call 103 [(chkV h29 v60), (chkV h29 v66), (NV.int .i64 (.ofNat 127))] h29) fun v82 h83 =>
 J71 v82 h83) (J71 (NV.tuple []) h29)) fun J68 => gK v57 false (
 bK (ldO 1 false h29 (chkV h29 v63)) fun v84 =>
 J68 v84 h29) (J68 (NV.tuple []) h29)) fun J65 => gK v57 false (
 bK (fAddr 2 v26) fun v85 =>
 J65 v85 h29) (J65 (NV.tuple []) h29)) fun J62 => gK v57 false (
 J62 v17 h29) (J62 (NV.tuple []) h29)) fun J59 => gK v32 true (
 J59 v54 h29) (J59 (NV.tuple []) h29)) fun J56 => gK v32 true (
 bK (geI v36 v51) fun v86 =>
 J56 v86 h29) (J56 (NV.tuple []) h29)) fun J53 => gK v32 true (
 bK (lenSl v48) fun v87 =>
 J53 v87 h29) (J53 (NV.tuple []) h29)) fun J50 => gK v32 true (
 bK (ldO 1 false h29 (chkV h29 v45)) fun v88 =>
 J50 v88 h29) (J50 (NV.tuple []) h29)) fun J47 => gK v32 true (
 bK (fAddr 13 v42) fun v89 =>
 J47 v89 h29) (J47 (NV.tuple []) h29)) fun J44 => gK v32 true (
 bK (nilO v39) fun v90 =>
 J44 v90 h29) (J44 (NV.tuple []) h29)) fun J41 => gK v32 true (
 J41 v17 h29) (J41 (NV.tuple []) h29)) fun J38 => gK v32 true (
 bK (ldO 1 false h29 (chkV h29 v33)) fun v91 =>
 J38 v91 h29) (J38 (NV.tuple []) h29)) fun J35 => gK v32 true (
 bK (fAddr 1 v26) fun v92 =>
 J35 v92 h29) (J35 (NV.tuple []) h29)) (
 J16 h21)) v7 v13 v14 (NV.int .i64 (.ofNat 0)) h8) fun J9 =>
 loopC N 4 (fun L98 v93 v94 v95 v96 h97 =>
 bK (ltI v96 v95) fun v99 =>
 condK v99 (
 joinC 4 (fun v100 v101 v102 v103 h104 =>
 bK (addI v103 (NV.int .i64 (.ofNat 1))) fun v106 =>
 L98 v100 v101 v102 v106 h104) fun J105 =>
 bK (ixS 5 v94 v96) fun v107 =>
 bK (ldO 5 true h97 v107) fun v108 =>
 mK (alM (NB.cells [(NV.int .i64 (.ofNat 0)), (NV.int .i64 (.ofNat 0)), (NV.int .i64 (.ofNat 0)), NV.nslice, NV.nslice]) h97) fun v109 h110 =>
 mK (stM 5 v109 v108 h110) fun v111 h112 =>
 bK (fAddr 1 v109) fun v113 =>
 bK (ldO 1 false h112 (chkV h112 v113)) fun v114 =>
 bK (eqI v114 (NV.int .i64 (.ofNat 0))) fun v115 =>
 jK (fun v116 h117 =>
 jK (fun v119 h120 =>
 jK (fun v122 h123 =>
 jK (fun v125 h126 =>
 jK (fun v128 h129 =>
 jK (fun v131 h132 =>
 jK (fun v134 h135 =>
 jK (fun v137 h138 =>
 jK (fun v140 h141 =>
 jK (fun v143 h144 =>
 jK (fun v146 h147 =>
 jK (fun v149 h150 =>
 jK (fun v152 h153 =>
 jK (fun v155 h156 =>
 jK (fun v158 h159 =>
 jK (fun v161 h162 =>
 jK (fun v164 h165 =>
 jK (fun v167 h168 =>
 jK (fun v170 h171 =>
 jK (fun v173 h174 =>
 jK (fun v176 h177 =>
 jK (fun v179 h180 =>
 jK (fun v182 h183 =>
 jK (fun v185 h186 =>
 jK (fun v188 h189 =>
 jK (fun v191 h192 =>
 jK (fun v194 h195 =>
 nextK h112 h195 (
 jK (fun v197 h198 =>
 jK (fun v200 h201 =>
 bK (pickO v115 v200 (NV.bool false)) fun v203 =>
 condK v203 (
 retC (NV.bool false) h195) (
 bK (fAddr 4 v109) fun v204 =>
 bK (ldO 1 false h195 v204) fun v205 =>
 bK (lenSl v205) fun v206 =>
 loopC N 8 (fun L216 v207 v208 v209 v210 v211 v212 v213 v214 h215 =>
 bK (ltI v214 v213) fun v217 =>
 condK v217 (
 bK (ixS 1 v212 v214) fun v218 =>
 bK (ldO 1 false h215 v218) fun v219 =>
 bK (fAddr 0 v208) fun v220 =>
 bK (ldO 1 false h215 v220) fun v221 =>
 mK (calM call 103 [v207, v219, v221] h215) fun v222 h223 =>
 bK (notO v222) fun v224 =>
 condK v224 (
 retC (NV.bool false) h223) (
 bK (addI v214 (NV.int .i64 (.ofNat 1))) fun v225 =>
 L216 v207 v208 v209 v210 v211 v212 v213 v225 h223)) (
 J105 v207 v209 v210 v211 h215)) v93 v109 v94 v95 v96 v205 v206 (NV.int .i64 (.ofNat 0)) h195)) fun J202 => gK v115 true (
 bK (pickO v182 (NV.bool true) v197) fun v226 =>
 J202 v226 h195) (J202 (NV.tuple []) h195)) fun J199 => gK v182 false (
 bK (notO v194) fun v227 =>
 J199 v227 h195) (J199 (NV.tuple []) h195))) fun J196 => gK v182 false (
 mK (calM call 103 [(chkV h112 v185), (chkV h112 v191), (NV.int .i64 (.ofNat 127))] h112) fun v228 h229 =>
 J196 v228 h229) (J196 (NV.tuple []) h112)) fun J193 => gK v182 false (
 bK (ldO 1 false h112 (chkV h112 v188)) fun v230 =>
 J193 v230 h112) (J193 (NV.tuple []) h112)) fun J190 => gK v182 false (
 bK (fAddr 3 v109) fun v231 =>
 J190 v231 h112) (J190 (NV.tuple []) h112)) fun J187 => gK v182 false (
 J187 v93 h112) (J187 (NV.tuple []) h112)) fun J184 => gK v115 true (
 J184 v179 h112) (J184 (NV.tuple []) h112)) fun J181 => gK v115 true (
 bK (pickO v140 (NV.bool true) v176) fun v232 =>
 J181 v232 h112) (J181 (NV.tuple []) h112)) fun J178 => gK v140 false (
 bK (neI v167 v173) fun v233 =>
 J178 v233 h112) (J178 (NV.tuple []) h112)) fun J175 => gK v140 false (
 bK (ldO 1 false h112 (chkV h112 v170)) fun v234 =>
 J175 v234 h112) (J175 (NV.tuple []) h112)) fun J172 => gK v140 false (
 bK (fAddr 0 v109) fun v235 =>
 J172 v235 h112) (J172 (NV.tuple []) h112)) fun J169 => gK v140 false (
 bK (ldO 1 false h112 (chkV h112 v164)) fun v236 =>
 J169 v236 h112) (J169 (NV.tuple []) h112)) fun J166 => gK v140 false (
 bK (fAddr 0 v161) fun v237 =>
 J166 v237 h112) (J166 (NV.tuple []) h112)) fun J163 => gK v140 false (
 bK (ixS 4 v152 v158) fun v238 =>
 J163 v238 h112) (J163 (NV.tuple []) h112)) fun J160 => gK v140 false (
 bK (ldO 1 false h112 (chkV h112 v155)) fun v239 =>
 J160 v239 h112) (J160 (NV.tuple []) h112)) fun J157 => gK v140 false (
 bK (fAddr 2 v109) fun v240 =>
 J157 v240 h112) (J157 (NV.tuple []) h112)) fun J154 => gK v140 false (
 bK (ldO 1 false h112 (chkV h112 v149)) fun v241 =>
 J154 v241 h112) (J154 (NV.tuple []) h112)) fun J151 => gK v140 false (
 bK (fAddr 12 v146) fun v242 =>
 J151 v242 h112) (J151 (NV.tuple []) h112)) fun J148 => gK v140 false (
 bK (nilO v143) fun v243 =>
 J148 v243 h112) (J148 (NV.tuple []) h112)) fun J145 => gK v140 false (
 J145 v93 h112) (J145 (NV.tuple []) h112)) fun J142 => gK v115 true (
 J142 v137 h112) (J142 (NV.tuple []) h112)) fun J139 => gK v115 true (
 bK (geI v119 v134) fun v244 =>
 J139 v244 h112) (J139 (NV.tuple []) h112)) fun J136 => gK v115 true (
 bK (lenSl v131) fun v245 =>
 J136 v245 h112) (J136 (NV.tuple []) h112)) fun J133 => gK v115 true (
 bK (ldO 1 false h112 (chkV h112 v128)) fun v246 =>
 J133 v246 h112) (J133 (NV.tuple []) h112)) fun J130 => gK v115 true (
 bK (fAddr 12 v125) fun v247 =>
 J130 v247 h112) (J130 (NV.tuple []) h112)) fun J127 => gK v115 true (
 bK (nilO v122) fun v248 =>
 J127 v248 h112) (J127 (NV.tuple []) h112)) fun J124 => gK v115 true (
 J124 v93 h112) (J124 (NV.tuple []) h112)) fun J121 => gK v115 true (
 bK (ldO 1 false h112 (chkV h112 v116)) fun v249 =>
 J121 v249 h112) (J121 (NV.tuple []) h112)) fun J118 => gK v115 true (
 bK (fAddr 2 v109) fun v250 =>
 J118 v250 h112) (J118 (NV.tuple []) h112)) (
 J9 v93 h97)) v0 v5 v6 (NV.int .i64 (.ofNat 0)) h)
theorem e105 : ikB Tryz.prog 9 Tryz.f105 = S105 := by kernel_rfl
theorem k105 [Sig] (w0 : World) : SOK cW w0 105 S105 := okW Tryz.func105 (by kernel_rfl) e105
end Go.Proofs.YtcindejphmbjpaaGreatDoor

