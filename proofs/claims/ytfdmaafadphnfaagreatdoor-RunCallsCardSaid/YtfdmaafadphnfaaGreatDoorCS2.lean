/- Seat Ytfdmaafadphnfaa.ZD: the shallow functions of this program, part 2: printed by a program, each held against the staged interpreter by the kernel. -/
import Derived.Test.YtfdmaafadphnfaaGreatDoorCA
set_option maxRecDepth 100000
set_option linter.unusedVariables false
namespace Go.Proofs.YtfdmaafadphnfaaGreatDoor
open Go Go.Ne
noncomputable def S163 (call : CallF) (N : Nat) (l : List NV) (h : H) : R :=
 uc l fun v0 l1 => un l1 (
 mK (mapM none h) fun v2 h3 =>
 bK (nilO v0) fun v4 =>
 bK (fAddr 0 v4) fun v5 =>
 bK (fAddr 6 v5) fun v6 =>
 bK (ldO 1 false h3 v6) fun v7 =>
 bK (lenSl v7) fun v8 =>
 joinC 0 (fun h9 =>
 retC (NV.bool true) h9) fun J10 =>
 loopC N 5 (fun L17 v11 v12 v13 v14 v15 h16 =>
 bK (ltI v15 v14) fun v18 =>
 condK v18 (
 bK (ixS 3 v13 v15) fun v19 =>
 bK (ldO 3 true h16 v19) fun v20 =>
 mK (alM (NB.cells [(NV.str 0 0), (NV.int .i64 (.ofNat 0)), (NV.int .i64 (.ofNat 0))]) h16) fun v21 h22 =>
 mK (stM 3 v21 v20 h22) fun v23 h24 =>
 bK (nilO v11) fun v25 =>
 bK (fAddr 11 v25) fun v26 =>
 bK (ldO 1 false h24 (chkV h24 v26)) fun v27 =>
 bK (lenSl v27) fun v28 =>
 bK (nilO v11) fun v29 =>
 bK (fAddr 12 v29) fun v30 =>
 bK (ldO 1 false h24 (chkV h24 v30)) fun v31 =>
 bK (lenSl v31) fun v32 =>
 bK (nilO v11) fun v33 =>
 bK (fAddr 13 v33) fun v34 =>
 bK (ldO 1 false h24 (chkV h24 v34)) fun v35 =>
 bK (lenSl v35) fun v36 =>
 bK (nilO v11) fun v37 =>
 bK (fAddr 14 v37) fun v38 =>
 bK (ldO 1 false h24 (chkV h24 v38)) fun v39 =>
 bK (lenSl v39) fun v40 =>
 bK (bldO [(0, 1), (1, 1), (2, 1), (3, 1)] [(NV.int .i64 (.ofNat 0)), (NV.int .i64 (.ofNat 0)), (NV.int .i64 (.ofNat 0)), (NV.int .i64 (.ofNat 0))] [v28, v32, v36, v40]) fun v41 =>
 bK (fAddr 1 v21) fun v42 =>
 bK (ldO 1 false h24 (chkV h24 v42)) fun v43 =>
 bK (ixArr 4 false 1 v41 v43) fun v44 =>
 bK (fAddr 0 v21) fun v45 =>
 bK (ldO 1 false h24 v45) fun v46 =>
 bK (lookO Tryz.prog 9 (NV.bool false) false h24 v12 v46) fun v47 =>
 jK (fun v48 h49 =>
 jK (fun v51 h52 =>
 jK (fun v54 h55 =>
 jK (fun v57 h58 =>
 bK (pickO v47 (NV.bool true) v57) fun v60 =>
 condK v60 (
 retC (NV.bool false) h58) (
 bK (fAddr 0 v21) fun v61 =>
 bK (ldO 1 false h58 v61) fun v62 =>
 mK (updM Tryz.prog 306 v12 v62 (NV.bool true) h58) fun v63 h64 =>
 bK (addI v15 (NV.int .i64 (.ofNat 1))) fun v65 =>
 L17 v11 v12 v13 v14 v65 h64)) fun J59 => gK v47 false (
 bK (geI v51 v54) fun v66 =>
 J59 v66 h55) (J59 (NV.tuple []) h55)) fun J56 => gK v47 false (
 J56 v44 h52) (J56 (NV.tuple []) h52)) fun J53 => gK v47 false (
 bK (ldO 1 false h49 v48) fun v67 =>
 J53 v67 h49) (J53 (NV.tuple []) h49)) fun J50 => gK v47 false (
 bK (fAddr 2 v21) fun v68 =>
 J50 v68 h24) (J50 (NV.tuple []) h24)) (
 J10 h16)) v0 v2 v7 v8 (NV.int .i64 (.ofNat 0)) h3)
theorem e163 : ikB Tryz.prog 10 Tryz.f163 = S163 := by kernel_rfl
theorem k163 [Sig] (w0 : World) : SOK cW w0 163 S163 := okW Tryz.func163 (by kernel_rfl) e163
noncomputable def S164 (call : CallF) (N : Nat) (l : List NV) (h : H) : R :=
 uc l fun v0 l1 => un l1 (
 bK (nilO v0) fun v2 =>
 bK (fAddr 0 v2) fun v3 =>
 bK (fAddr 8 v3) fun v4 =>
 bK (ldO 1 false h v4) fun v5 =>
 bK (lenSl v5) fun v6 =>
 joinC 1 (fun v7 h8 =>
 bK (nilO v7) fun v10 =>
 bK (fAddr 0 v10) fun v11 =>
 bK (fAddr 9 v11) fun v12 =>
 bK (ldO 1 false h8 v12) fun v13 =>
 bK (lenSl v13) fun v14 =>
 joinC 0 (fun h15 =>
 retC (NV.bool true) h15) fun J16 =>
 loopC N 4 (fun L22 v17 v18 v19 v20 h21 =>
 bK (ltI v20 v19) fun v23 =>
 condK v23 (
 bK (ixS 4 v18 v20) fun v24 =>
 bK (ldO 4 true h21 v24) fun v25 =>
 mK (alM (NB.cells [(NV.int .i64 (.ofNat 0)), (NV.int .i64 (.ofNat 0)), NV.nslice, NV.nslice]) h21) fun v26 h27 =>
 mK (stM 4 v26 v25 h27) fun v28 h29 =>
 bK (fAddr 0 v26) fun v30 =>
 bK (ldO 1 false h29 (chkV h29 v30)) fun v31 =>
 bK (eqI v31 (NV.int .i64 (.ofNat 0))) fun v32 =>
 jK (fun v33 h34 =>
 jK (fun v36 h37 =>
 jK (fun v39 h40 =>
 jK (fun v42 h43 =>
 jK (fun v45 h46 =>
 jK (fun v48 h49 =>
 jK (fun v51 h52 =>
 jK (fun v54 h55 =>
 jK (fun v57 h58 =>
 jK (fun v60 h61 =>
 jK (fun v63 h64 =>
 jK (fun v66 h67 =>
 jK (fun v69 h70 =>
 nextK h29 h70 (
 jK (fun v72 h73 =>
 jK (fun v75 h76 =>
 bK (pickO v32 v75 (NV.bool false)) fun v78 =>
 condK v78 (
 retC (NV.bool false) h70) (
 bK (addI v20 (NV.int .i64 (.ofNat 1))) fun v79 =>
 L22 v17 v18 v19 v79 h70)) fun J77 => gK v32 true (
 bK (pickO v57 (NV.bool true) v72) fun v80 =>
 J77 v80 h70) (J77 (NV.tuple []) h70)) fun J74 => gK v57 false (
 bK (notO v69) fun v81 =>
 J74 v81 h70) (J74 (NV.tuple []) h70))) fun J71 => gK v57 false (
 mK (calM call 162 [(chkV h29 v60), (chkV h29 v66), (NV.int .i64 (.ofNat 127))] h29) fun v82 h83 =>
 J71 v82 h83) (J71 (NV.tuple []) h29)) fun J68 => gK v57 false (
 bK (ldO 1 false h29 (chkV h29 v63)) fun v84 =>
 J68 v84 h29) (J68 (NV.tuple []) h29)) fun J65 => gK v57 false (
 bK (fAddr 2 v26) fun v85 =>
 J65 v85 h29) (J65 (NV.tuple []) h29)) fun J62 => gK v57 false (
 J62 v17 h29) (J62 (NV.tuple []) h29)) fun J59 => gK v32 true (
 J59 v54 h29) (J59 (NV.tuple []) h29)) fun J56 => gK v32 true (
 bK (geI v36 v51) fun v86 =>
 J56 v86 h29) (J56 (NV.tuple []) h29)) fun J53 => gK v32 true (
 bK (lenSl v48) fun v87 =>
 J53 v87 h29) (J53 (NV.tuple []) h29)) fun J50 => gK v32 true (
 bK (ldO 1 false h29 (chkV h29 v45)) fun v88 =>
 J50 v88 h29) (J50 (NV.tuple []) h29)) fun J47 => gK v32 true (
 bK (fAddr 13 v42) fun v89 =>
 J47 v89 h29) (J47 (NV.tuple []) h29)) fun J44 => gK v32 true (
 bK (nilO v39) fun v90 =>
 J44 v90 h29) (J44 (NV.tuple []) h29)) fun J41 => gK v32 true (
 J41 v17 h29) (J41 (NV.tuple []) h29)) fun J38 => gK v32 true (
 bK (ldO 1 false h29 (chkV h29 v33)) fun v91 =>
 J38 v91 h29) (J38 (NV.tuple []) h29)) fun J35 => gK v32 true (
 bK (fAddr 1 v26) fun v92 =>
 J35 v92 h29) (J35 (NV.tuple []) h29)) (
 J16 h21)) v7 v13 v14 (NV.int .i64 (.ofNat 0)) h8) fun J9 =>
 loopC N 4 (fun L98 v93 v94 v95 v96 h97 =>
 bK (ltI v96 v95) fun v99 =>
 condK v99 (
 joinC 4 (fun v100 v101 v102 v103 h104 =>
 bK (addI v103 (NV.int .i64 (.ofNat 1))) fun v106 =>
 L98 v100 v101 v102 v106 h104) fun J105 =>
 bK (ixS 5 v94 v96) fun v107 =>
 bK (ldO 5 true h97 v107) fun v108 =>
 mK (alM (NB.cells [(NV.int .i64 (.ofNat 0)), (NV.int .i64 (.ofNat 0)), (NV.int .i64 (.ofNat 0)), NV.nslice, NV.nslice]) h97) fun v109 h110 =>
 mK (stM 5 v109 v108 h110) fun v111 h112 =>
 bK (fAddr 1 v109) fun v113 =>
 bK (ldO 1 false h112 (chkV h112 v113)) fun v114 =>
 bK (eqI v114 (NV.int .i64 (.ofNat 0))) fun v115 =>
 jK (fun v116 h117 =>
 jK (fun v119 h120 =>
 jK (fun v122 h123 =>
 jK (fun v125 h126 =>
 jK (fun v128 h129 =>
 jK (fun v131 h132 =>
 jK (fun v134 h135 =>
 jK (fun v137 h138 =>
 jK (fun v140 h141 =>
 jK (fun v143 h144 =>
 jK (fun v146 h147 =>
 jK (fun v149 h150 =>
 jK (fun v152 h153 =>
 jK (fun v155 h156 =>
 jK (fun v158 h159 =>
 jK (fun v161 h162 =>
 jK (fun v164 h165 =>
 jK (fun v167 h168 =>
 jK (fun v170 h171 =>
 jK (fun v173 h174 =>
 jK (fun v176 h177 =>
 jK (fun v179 h180 =>
 jK (fun v182 h183 =>
 jK (fun v185 h186 =>
 jK (fun v188 h189 =>
 jK (fun v191 h192 =>
 jK (fun v194 h195 =>
 nextK h112 h195 (
 jK (fun v197 h198 =>
 jK (fun v200 h201 =>
 bK (pickO v115 v200 (NV.bool false)) fun v203 =>
 condK v203 (
 retC (NV.bool false) h195) (
 bK (fAddr 4 v109) fun v204 =>
 bK (ldO 1 false h195 v204) fun v205 =>
 bK (lenSl v205) fun v206 =>
 loopC N 8 (fun L216 v207 v208 v209 v210 v211 v212 v213 v214 h215 =>
 bK (ltI v214 v213) fun v217 =>
 condK v217 (
 bK (ixS 1 v212 v214) fun v218 =>
 bK (ldO 1 false h215 v218) fun v219 =>
 bK (fAddr 0 v208) fun v220 =>
 bK (ldO 1 false h215 v220) fun v221 =>
 mK (calM call 162 [v207, v219, v221] h215) fun v222 h223 =>
 bK (notO v222) fun v224 =>
 condK v224 (
 retC (NV.bool false) h223) (
 bK (addI v214 (NV.int .i64 (.ofNat 1))) fun v225 =>
 L216 v207 v208 v209 v210 v211 v212 v213 v225 h223)) (
 J105 v207 v209 v210 v211 h215)) v93 v109 v94 v95 v96 v205 v206 (NV.int .i64 (.ofNat 0)) h195)) fun J202 => gK v115 true (
 bK (pickO v182 (NV.bool true) v197) fun v226 =>
 J202 v226 h195) (J202 (NV.tuple []) h195)) fun J199 => gK v182 false (
 bK (notO v194) fun v227 =>
 J199 v227 h195) (J199 (NV.tuple []) h195))) fun J196 => gK v182 false (
 mK (calM call 162 [(chkV h112 v185), (chkV h112 v191), (NV.int .i64 (.ofNat 127))] h112) fun v228 h229 =>
 J196 v228 h229) (J196 (NV.tuple []) h112)) fun J193 => gK v182 false (
 bK (ldO 1 false h112 (chkV h112 v188)) fun v230 =>
 J193 v230 h112) (J193 (NV.tuple []) h112)) fun J190 => gK v182 false (
 bK (fAddr 3 v109) fun v231 =>
 J190 v231 h112) (J190 (NV.tuple []) h112)) fun J187 => gK v182 false (
 J187 v93 h112) (J187 (NV.tuple []) h112)) fun J184 => gK v115 true (
 J184 v179 h112) (J184 (NV.tuple []) h112)) fun J181 => gK v115 true (
 bK (pickO v140 (NV.bool true) v176) fun v232 =>
 J181 v232 h112) (J181 (NV.tuple []) h112)) fun J178 => gK v140 false (
 bK (neI v167 v173) fun v233 =>
 J178 v233 h112) (J178 (NV.tuple []) h112)) fun J175 => gK v140 false (
 bK (ldO 1 false h112 (chkV h112 v170)) fun v234 =>
 J175 v234 h112) (J175 (NV.tuple []) h112)) fun J172 => gK v140 false (
 bK (fAddr 0 v109) fun v235 =>
 J172 v235 h112) (J172 (NV.tuple []) h112)) fun J169 => gK v140 false (
 bK (ldO 1 false h112 (chkV h112 v164)) fun v236 =>
 J169 v236 h112) (J169 (NV.tuple []) h112)) fun J166 => gK v140 false (
 bK (fAddr 0 v161) fun v237 =>
 J166 v237 h112) (J166 (NV.tuple []) h112)) fun J163 => gK v140 false (
 bK (ixS 4 v152 v158) fun v238 =>
 J163 v238 h112) (J163 (NV.tuple []) h112)) fun J160 => gK v140 false (
 bK (ldO 1 false h112 (chkV h112 v155)) fun v239 =>
 J160 v239 h112) (J160 (NV.tuple []) h112)) fun J157 => gK v140 false (
 bK (fAddr 2 v109) fun v240 =>
 J157 v240 h112) (J157 (NV.tuple []) h112)) fun J154 => gK v140 false (
 bK (ldO 1 false h112 (chkV h112 v149)) fun v241 =>
 J154 v241 h112) (J154 (NV.tuple []) h112)) fun J151 => gK v140 false (
 bK (fAddr 12 v146) fun v242 =>
 J151 v242 h112) (J151 (NV.tuple []) h112)) fun J148 => gK v140 false (
 bK (nilO v143) fun v243 =>
 J148 v243 h112) (J148 (NV.tuple []) h112)) fun J145 => gK v140 false (
 J145 v93 h112) (J145 (NV.tuple []) h112)) fun J142 => gK v115 true (
 J142 v137 h112) (J142 (NV.tuple []) h112)) fun J139 => gK v115 true (
 bK (geI v119 v134) fun v244 =>
 J139 v244 h112) (J139 (NV.tuple []) h112)) fun J136 => gK v115 true (
 bK (lenSl v131) fun v245 =>
 J136 v245 h112) (J136 (NV.tuple []) h112)) fun J133 => gK v115 true (
 bK (ldO 1 false h112 (chkV h112 v128)) fun v246 =>
 J133 v246 h112) (J133 (NV.tuple []) h112)) fun J130 => gK v115 true (
 bK (fAddr 12 v125) fun v247 =>
 J130 v247 h112) (J130 (NV.tuple []) h112)) fun J127 => gK v115 true (
 bK (nilO v122) fun v248 =>
 J127 v248 h112) (J127 (NV.tuple []) h112)) fun J124 => gK v115 true (
 J124 v93 h112) (J124 (NV.tuple []) h112)) fun J121 => gK v115 true (
 bK (ldO 1 false h112 (chkV h112 v116)) fun v249 =>
 J121 v249 h112) (J121 (NV.tuple []) h112)) fun J118 => gK v115 true (
 bK (fAddr 2 v109) fun v250 =>
 J118 v250 h112) (J118 (NV.tuple []) h112)) (
 J9 v93 h97)) v0 v5 v6 (NV.int .i64 (.ofNat 0)) h)
theorem e164 : ikB Tryz.prog 10 Tryz.f164 = S164 := by kernel_rfl
theorem k164 [Sig] (w0 : World) : SOK cW w0 164 S164 := okW Tryz.func164 (by kernel_rfl) e164
noncomputable def S165 (call : CallF) (N : Nat) (l : List NV) (h : H) : R :=
 uc l fun v0 l1 => un l1 (
 bK (nilO v0) fun v2 =>
 bK (fAddr 0 v2) fun v3 =>
 bK (fAddr 2 v3) fun v4 =>
 bK (ldO 1 false h v4) fun v5 =>
 bK (lenSl v5) fun v6 =>
 joinC 0 (fun h7 =>
 retC (NV.bool true) h7) fun J8 =>
 loopC N 4 (fun L14 v9 v10 v11 v12 h13 =>
 bK (ltI v12 v11) fun v15 =>
 condK v15 (
 bK (ixS 3 v10 v12) fun v16 =>
 bK (ldO 3 true h13 v16) fun v17 =>
 mK (alM (NB.cells [(NV.int .i64 (.ofNat 0)), NV.nslice, NV.nslice]) h13) fun v18 h19 =>
 mK (stM 3 v18 v17 h19) fun v20 h21 =>
 bK (nilO v9) fun v22 =>
 bK (fAddr 11 v22) fun v23 =>
 bK (ldO 1 false h21 (chkV h21 v23)) fun v24 =>
 bK (lenSl v24) fun v25 =>
 bK (nilO v9) fun v26 =>
 bK (fAddr 0 v26) fun v27 =>
 bK (fAddr 2 v27) fun v28 =>
 bK (ldO 1 false h21 (chkV h21 v28)) fun v29 =>
 bK (lenSl v29) fun v30 =>
 bK (subI v25 v30) fun v31 =>
 bK (addI v31 v12) fun v32 =>
 mK (calM call 156 [(chkV h21 v9), (chkV h21 v32)] h21) fun v33 h34 =>
 nextK h21 h34 (
 bK (extO 0 v33) fun v35 =>
 bK (extO 1 v33) fun v36 =>
 mK (alM (NB.cells [NV.nslice, NV.nslice]) h34) fun v37 h38 =>
 mK (stM 2 (chkV h38 v37) (chkV h38 v35) h38) fun v39 h40 =>
 nextK h38 h40 (
 bK (fAddr 0 v37) fun v41 =>
 bK (ldO 1 false h40 (chkV h40 v41)) fun v42 =>
 bK (fAddr 1 v18) fun v43 =>
 bK (ldO 1 false h40 (chkV h40 v43)) fun v44 =>
 bK (fAddr 1 v37) fun v45 =>
 bK (ldO 1 false h40 (chkV h40 v45)) fun v46 =>
 mK (bslM 2 false [(0, 1), (1, 1)] [NV.nslice, NV.nslice] [(chkV h40 v42), (chkV h40 v44)] h40) fun v47 h48 =>
 mK (calM call 225 [(chkV h48 v47)] h48) fun v49 h50 =>
 nextK h48 h50 (
 bK (bldO [(0, 1), (1, 1), (2, 1), (6, 1)] [NV.nilptr, NV.nslice, NV.nslice, NV.nslice, NV.nslice, (NV.bool false), (NV.bool false)] [v9, v49, v46, (NV.bool true)]) fun v51 =>
 bK (ldO 1 false h50 (chkV h50 v45)) fun v52 =>
 sameK v52 v46 (
 mK (boxM false (chkV h50 v51) h50) fun v53 h54 =>
 bK (fAddr 1 v37) fun v55 =>
 bK (ldO 1 false h54 v55) fun v56 =>
 bK (fAddr 1 v37) fun v57 =>
 bK (ldO 1 false h54 v57) fun v58 =>
 bK (fAddr 2 v18) fun v59 =>
 bK (ldO 1 false h54 v59) fun v60 =>
 mK (calM call 226 [v53, NV.nslice, v56, v58, v60] h54) fun v61 h62 =>
 bK (nilO v53) fun v63 =>
 bK (fAddr 6 v63) fun v64 =>
 bK (ldO 1 false h62 v64) fun v65 =>
 bK (notO v65) fun v66 =>
 condK v66 (
 retC (NV.bool false) h62) (
 bK (addI v12 (NV.int .i64 (.ofNat 1))) fun v67 =>
 L14 v9 v10 v11 v67 h62)))))) (
 J8 h13)) v0 v5 v6 (NV.int .i64 (.ofNat 0)) h)
theorem e165 : ikB Tryz.prog 10 Tryz.f165 = S165 := by kernel_rfl
theorem k165 [Sig] (w0 : World) : SOK cW w0 165 S165 := okW Tryz.func165 (by kernel_rfl) e165
noncomputable def S166 (call : CallF) (N : Nat) (l : List NV) (h : H) : R :=
 uc l fun v0 l1 => uc l1 fun v2 l3 => un l3 (
 mK (boxM false v0 h) fun v4 h5 =>
 mK (boxM false v2 h5) fun v6 h7 =>
 bK (ldO 1 false h7 v4) fun v8 =>
 bK (nilO v8) fun v9 =>
 bK (fAddr 12 v9) fun v10 =>
 bK (ldO 1 false h7 v10) fun v11 =>
 bK (lenSl v11) fun v12 =>
 mK (alM (NB.cells [(NV.int .i64 (.ofNat 0))]) h7) fun v13 h14 =>
 mK (stM 1 v13 v12 h14) fun v15 h16 =>
 bK (fAddr 0 v6) fun v17 =>
 bK (ldO 1 false h16 v17) fun v18 =>
 bK (eqI v18 (NV.int .i64 (.ofNat 2))) fun v19 =>
 joinC 6 (fun v20 v21 v22 v23 v24 v25 h26 =>
 condK v25 (
 bK (ldO 1 false h26 v20) fun v28 =>
 bK (ldO 9 true h26 v21) fun v29 =>
 mK (calM call 228 [v28, v29] h26) fun v30 h31 =>
 retC (NV.tuple []) h31) (
 bK (eqI v24 (NV.int .i64 (.ofNat 12))) fun v32 =>
 condK v32 (
 bK (ldO 1 false h26 (chkV h26 v20)) fun v33 =>
 bK (ldO 1 false h26 (chkV h26 v20)) fun v34 =>
 bK (fAddr 1 v21) fun v35 =>
 bK (ldO 1 false h26 (chkV h26 v35)) fun v36 =>
 mK (calM call 230 [(chkV h26 v34), (chkV h26 v36), (chkV h26 v23)] h26) fun v37 h38 =>
 nextK h26 h38 (
 bK (bldO [(0, 1), (6, 3)] [(NV.int .i64 (.ofNat 0)), (NV.int .i64 (.ofNat 0)), (NV.int .i64 (.ofNat 0)), (NV.int .u64 (.ofNat 0)), (NV.int .u64 (.ofNat 0)), NV.nslice, (NV.int .i64 (.ofNat 0)), (NV.int .i64 (.ofNat 0)), (NV.int .i64 (.ofNat 0)), NV.nslice, (NV.bool false)] [(NV.int .i64 (.ofNat 65536)), v37]) fun v39 =>
 bK (ldO 1 false h38 (chkV h38 v20)) fun v40 =>
 sameK v40 v33 (
 mK (calM call 229 [(chkV h38 v33), (chkV h38 v39)] h38) fun v41 h42 =>
 nextK h38 h42 (
 bK (ldO 1 false h42 v20) fun v43 =>
 bK (nilO v43) fun v44 =>
 bK (fAddr 16 v44) fun v45 =>
 mK (stM 1 v45 (NV.bool true) h42) fun v46 h47 =>
 retC (NV.tuple []) h47)))) (
 bK (eqI v24 (NV.int .i64 (.ofNat 13))) fun v48 =>
 condK v48 (
 bK (ldO 1 false h26 v20) fun v49 =>
 bK (nilO v49) fun v50 =>
 bK (fAddr 14 v50) fun v51 =>
 bK (ldO 1 false h26 v51) fun v52 =>
 bK (subI v52 (NV.int .i64 (.ofNat 1))) fun v53 =>
 bK (nilO v49) fun v54 =>
 bK (fAddr 14 v54) fun v55 =>
 mK (stM 1 v55 v53 h26) fun v56 h57 =>
 bK (ldO 1 false h57 (chkV h57 v20)) fun v58 =>
 bK (ldO 1 false h57 (chkV h57 v20)) fun v59 =>
 bK (fAddr 1 v21) fun v60 =>
 bK (ldO 1 false h57 (chkV h57 v60)) fun v61 =>
 mK (calM call 230 [(chkV h57 v59), (chkV h57 v61), (chkV h57 v23)] h57) fun v62 h63 =>
 nextK h57 h63 (
 bK (bldO [(0, 1), (6, 3)] [(NV.int .i64 (.ofNat 0)), (NV.int .i64 (.ofNat 0)), (NV.int .i64 (.ofNat 0)), (NV.int .u64 (.ofNat 0)), (NV.int .u64 (.ofNat 0)), NV.nslice, (NV.int .i64 (.ofNat 0)), (NV.int .i64 (.ofNat 0)), (NV.int .i64 (.ofNat 0)), NV.nslice, (NV.bool false)] [(NV.int .i64 (.ofNat 65537)), v62]) fun v64 =>
 bK (ldO 1 false h63 (chkV h63 v20)) fun v65 =>
 sameK v65 v58 (
 mK (calM call 229 [(chkV h63 v58), (chkV h63 v64)] h63) fun v66 h67 =>
 nextK h63 h67 (
 retC (NV.tuple []) h67)))) (
 bK (eqI v24 (NV.int .i64 (.ofNat 14))) fun v68 =>
 condK v68 (
 bK (ldO 1 false h26 v20) fun v69 =>
 bK (nilO v69) fun v70 =>
 bK (fAddr 14 v70) fun v71 =>
 bK (ldO 1 false h26 v71) fun v72 =>
 bK (subI v72 (NV.int .i64 (.ofNat 1))) fun v73 =>
 bK (nilO v69) fun v74 =>
 bK (fAddr 14 v74) fun v75 =>
 mK (stM 1 v75 v73 h26) fun v76 h77 =>
 bK (ldO 1 false h77 v20) fun v78 =>
 bK (bldO [(0, 1)] [(NV.int .i64 (.ofNat 0)), (NV.int .i64 (.ofNat 0)), (NV.int .i64 (.ofNat 0)), (NV.int .u64 (.ofNat 0)), (NV.int .u64 (.ofNat 0)), NV.nslice, (NV.int .i64 (.ofNat 0)), (NV.int .i64 (.ofNat 0)), (NV.int .i64 (.ofNat 0)), NV.nslice, (NV.bool false)] [(NV.int .i64 (.ofNat 65539))]) fun v79 =>
 mK (calM call 229 [v78, v79] h77) fun v80 h81 =>
 bK (fAddr 5 v21) fun v82 =>
 bK (ldO 1 false h81 (chkV h81 v82)) fun v83 =>
 bK (fAddr 5 v21) fun v84 =>
 bK (ldO 1 false h81 (chkV h81 v84)) fun v85 =>
 bK (lenSl v85) fun v86 =>
 bK (fAddr 5 v21) fun v87 =>
 bK (ldO 1 false h81 (chkV h81 v87)) fun v88 =>
 bK (lenSl v88) fun v89 =>
 bK (slcO Tryz.prog 25 h81 (chkV h81 v83) none (some (chkV h81 v86)) (some (chkV h81 v89))) fun v90 =>
 bK (fAddr 1 v21) fun v91 =>
 bK (ldO 1 false h81 (chkV h81 v91)) fun v92 =>
 mK (bslM 1 false [(0, 1)] [(NV.int .i64 (.ofNat 0))] [(chkV h81 v92)] h81) fun v93 h94 =>
 mK (appM Tryz.prog 3 (chkV h94 v90) (chkV h94 v93) h94) fun v95 h96 =>
 nextK h94 h96 (
 bK (lenSl v95) fun v97 =>
 joinC 1 (fun v98 h99 =>
 bK (ldO 1 false h99 v98) fun v101 =>
 bK (nilO v101) fun v102 =>
 bK (fAddr 16 v102) fun v103 =>
 mK (stM 1 v103 (NV.bool true) h99) fun v104 h105 =>
 retC (NV.tuple []) h105) fun J100 =>
 loopC N 5 (fun L112 v106 v107 v108 v109 v110 h111 =>
 bK (ltI v110 v109) fun v113 =>
 condK v113 (
 bK (ixS 1 v108 v110) fun v114 =>
 bK (ldO 1 false h111 v114) fun v115 =>
 mK (alM (NB.cells [(NV.int .i64 (.ofNat 0))]) h111) fun v116 h117 =>
 mK (stM 1 v116 v110 h117) fun v118 h119 =>
 bK (ldO 1 false h119 v106) fun v120 =>
 mK (calM call 230 [v120, v115, (NV.func (.func 231) [] [v106, v107, v116])] h119) fun v121 h122 =>
 mK (alM (NB.cells [(NV.int .i64 (.ofNat 0)), (NV.int .i64 (.ofNat 0)), (NV.int .i64 (.ofNat 0))]) h122) fun v123 h124 =>
 mK (stM 3 v123 v121 h124) fun v125 h126 =>
 bK (ldO 1 false h126 (chkV h126 v106)) fun v127 =>
 bK (nilO v127) fun v128 =>
 bK (fAddr 12 v128) fun v129 =>
 bK (ldO 1 false h126 (chkV h126 v129)) fun v130 =>
 bK (ldO 1 false h126 (chkV h126 v107)) fun v131 =>
 bK (ldO 1 false h126 (chkV h126 v106)) fun v132 =>
 bK (nilO v132) fun v133 =>
 bK (fAddr 12 v133) fun v134 =>
 bK (ldO 1 false h126 (chkV h126 v134)) fun v135 =>
 bK (ldO 1 false h126 (chkV h126 v107)) fun v136 =>
 bK (ixS 11 v135 v136) fun v137 =>
 bK (fAddr 9 v137) fun v138 =>
 bK (ldO 1 false h126 (chkV h126 v138)) fun v139 =>
 bK (ldO 3 true h126 (chkV h126 v123)) fun v140 =>
 mK (bslM 1 false [(0, 3)] [(NV.int .i64 (.ofNat 0)), (NV.int .i64 (.ofNat 0)), (NV.int .i64 (.ofNat 0))] [(chkV h126 v140)] h126) fun v141 h142 =>
 mK (appM Tryz.prog 162 (chkV h142 v139) (chkV h142 v141) h142) fun v143 h144 =>
 nextK h142 h144 (
 bK (ixS 11 v130 v131) fun v145 =>
 bK (fAddr 9 v145) fun v146 =>
 bK (ldO 1 false h144 (chkV h144 v106)) fun v147 =>
 sameK v147 v127 (
 bK (ldO 1 false h144 (chkV h144 v129)) fun v148 =>
 sameK v148 v130 (
 bK (ldO 1 false h144 (chkV h144 v107)) fun v149 =>
 sameK v149 v131 (
 mK (stM 1 (chkV h144 v146) (chkV h144 v143) h144) fun v150 h151 =>
 nextK h144 h151 (
 bK (addI v110 (NV.int .i64 (.ofNat 1))) fun v152 =>
 L112 v106 v107 v108 v109 v152 h151)))))) (
 J100 v106 h111)) v20 v22 v95 v97 (NV.int .i64 (.ofNat 0)) h96)) (
 bK (eqI v24 (NV.int .i64 (.ofNat 15))) fun v153 =>
 condK v153 (
 bK (ldO 1 false h26 (chkV h26 v20)) fun v154 =>
 bK (ldO 1 false h26 (chkV h26 v20)) fun v155 =>
 bK (nilO v155) fun v156 =>
 bK (fAddr 15 v156) fun v157 =>
 bK (ldO 1 false h26 (chkV h26 v157)) fun v158 =>
 bK (bldO [(1, 1)] [(NV.int .i64 (.ofNat 0)), (NV.int .i64 (.ofNat 0)), (NV.int .i64 (.ofNat 0))] [v158]) fun v159 =>
 bK (bldO [(0, 1), (6, 3)] [(NV.int .i64 (.ofNat 0)), (NV.int .i64 (.ofNat 0)), (NV.int .i64 (.ofNat 0)), (NV.int .u64 (.ofNat 0)), (NV.int .u64 (.ofNat 0)), NV.nslice, (NV.int .i64 (.ofNat 0)), (NV.int .i64 (.ofNat 0)), (NV.int .i64 (.ofNat 0)), NV.nslice, (NV.bool false)] [(NV.int .i64 (.ofNat 65540)), v159]) fun v160 =>
 mK (calM call 229 [(chkV h26 v154), (chkV h26 v160)] h26) fun v161 h162 =>
 nextK h26 h162 (
 bK (ldO 1 false h162 v20) fun v163 =>
 bK (nilO v163) fun v164 =>
 bK (fAddr 16 v164) fun v165 =>
 mK (stM 1 v165 (NV.bool true) h162) fun v166 h167 =>
 retC (NV.tuple []) h167)) (
 bK (ldO 1 false h26 (chkV h26 v20)) fun v168 =>
 bK (fAddr 0 v21) fun v169 =>
 bK (ldO 1 false h26 (chkV h26 v169)) fun v170 =>
 bK (fAddr 1 v21) fun v171 =>
 bK (ldO 1 false h26 (chkV h26 v171)) fun v172 =>
 bK (fAddr 2 v21) fun v173 =>
 bK (ldO 1 false h26 (chkV h26 v173)) fun v174 =>
 bK (fAddr 3 v21) fun v175 =>
 bK (ldO 1 false h26 (chkV h26 v175)) fun v176 =>
 bK (fAddr 4 v21) fun v177 =>
 bK (ldO 1 false h26 (chkV h26 v177)) fun v178 =>
 bK (fAddr 5 v21) fun v179 =>
 bK (ldO 1 false h26 (chkV h26 v179)) fun v180 =>
 mK (calM call 89 [(chkV h26 v180)] h26) fun v181 h182 =>
 nextK h26 h182 (
 bK (bldO [(0, 1), (1, 1), (2, 1), (3, 1), (4, 1), (5, 1)] [(NV.int .i64 (.ofNat 0)), (NV.int .i64 (.ofNat 0)), (NV.int .i64 (.ofNat 0)), (NV.int .u64 (.ofNat 0)), (NV.int .u64 (.ofNat 0)), NV.nslice, (NV.int .i64 (.ofNat 0)), (NV.int .i64 (.ofNat 0)), (NV.int .i64 (.ofNat 0)), NV.nslice, (NV.bool false)] [v170, v172, v174, v176, v178, v181]) fun v183 =>
 bK (ldO 1 false h182 (chkV h182 v20)) fun v184 =>
 sameK v184 v168 (
 bK (ldO 1 false h182 (chkV h182 v169)) fun v185 =>
 sameK v185 v170 (
 bK (ldO 1 false h182 (chkV h182 v171)) fun v186 =>
 sameK v186 v172 (
 bK (ldO 1 false h182 (chkV h182 v173)) fun v187 =>
 sameK v187 v174 (
 bK (ldO 1 false h182 (chkV h182 v175)) fun v188 =>
 sameK v188 v176 (
 bK (ldO 1 false h182 (chkV h182 v177)) fun v189 =>
 sameK v189 v178 (
 mK (calM call 229 [(chkV h182 v168), (chkV h182 v183)] h182) fun v190 h191 =>
 nextK h182 h191 (
 bK (ldO 1 false h191 (chkV h191 v20)) fun v192 =>
 bK (nilO v192) fun v193 =>
 bK (fAddr 14 v193) fun v194 =>
 bK (ldO 1 false h191 (chkV h191 v194)) fun v195 =>
 bK (ldO 1 false h191 (chkV h191 v20)) fun v196 =>
 bK (ldO 9 true h191 (chkV h191 v21)) fun v197 =>
 mK (calM call 232 [(chkV h191 v196), (chkV h191 v197)] h191) fun v198 h199 =>
 nextK h191 h199 (
 bK (addI v195 v198) fun v200 =>
 bK (nilO v192) fun v201 =>
 bK (fAddr 14 v201) fun v202 =>
 bK (ldO 1 false h199 (chkV h199 v20)) fun v203 =>
 sameK v203 v192 (
 bK (ldO 1 false h199 (chkV h199 v194)) fun v204 =>
 sameK v204 v195 (
 mK (stM 1 (chkV h199 v202) (chkV h199 v200) h199) fun v205 h206 =>
 nextK h199 h206 (
 bK (ldO 1 false h206 v20) fun v207 =>
 bK (fAddr 0 v21) fun v208 =>
 bK (ldO 1 false h206 v208) fun v209 =>
 bK (eqI v209 (NV.int .i64 (.ofNat 0))) fun v210 =>
 bK (nilO v207) fun v211 =>
 bK (fAddr 16 v211) fun v212 =>
 mK (stM 1 v212 v210 h206) fun v213 h214 =>
 retC (NV.tuple []) h214)))))))))))))))))) fun J27 =>
 condK v19 (
 J27 v4 v6 v13 (NV.func (.func 227) [] [v4, v13]) v18 v19 h16) (
 bK (eqI v18 (NV.int .i64 (.ofNat 3))) fun v215 =>
 condK v215 (
 J27 v4 v6 v13 (NV.func (.func 227) [] [v4, v13]) v18 v215 h16) (
 bK (eqI v18 (NV.int .i64 (.ofNat 4))) fun v216 =>
 J27 v4 v6 v13 (NV.func (.func 227) [] [v4, v13]) v18 v216 h16)))
theorem e166 : ikB Tryz.prog 10 Tryz.f166 = S166 := by kernel_rfl
theorem k166 [Sig] (w0 : World) : SOK cW w0 166 S166 := okW Tryz.func166 (by kernel_rfl) e166
noncomputable def S169 (call : CallF) (N : Nat) (l : List NV) (h : H) : R :=
 uc l fun v0 l1 => un l1 (
 bK (geI v0 (NV.int .i64 (.ofNat 0))) fun v2 =>
 jK (fun v3 h4 =>
 jK (fun v6 h7 =>
 bK (pickO v2 v6 (NV.bool false)) fun v9 =>
 condK v9 (
 mK (calM call 236 [] h7) fun v10 h11 =>
 bK (ixArr 211 false 1 v10 v0) fun v12 =>
 retC v12 h11) (
 bK (geI v0 (NV.int .i64 (.ofNat 64512))) fun v13 =>
 jK (fun v14 h15 =>
 jK (fun v17 h18 =>
 bK (pickO v13 v17 (NV.bool false)) fun v20 =>
 condK v20 (
 bK (subI v0 (NV.int .i64 (.ofNat 64512))) fun v21 =>
 bK (ixA 18 1 (NV.ptr (.o .h) 0) v21) fun v22 =>
 bK (ldO 1 false h18 v22) fun v23 =>
 retC v23 h18) (
 bK (geI v0 (NV.int .i64 (.ofNat 64768))) fun v24 =>
 jK (fun v25 h26 =>
 jK (fun v28 h29 =>
 bK (pickO v24 v28 (NV.bool false)) fun v31 =>
 condK v31 (
 mK (calM call 237 [] h29) fun v32 h33 =>
 bK (subI v0 (NV.int .i64 (.ofNat 64768))) fun v34 =>
 bK (ixArr 256 false 1 v32 v34) fun v35 =>
 retC v35 h33) (
 retC (NV.str 0 0) h29)) fun J30 => gK v24 true (
 bK (ltI v25 (NV.int .i64 (.ofNat 65024))) fun v36 =>
 J30 v36 h26) (J30 (NV.tuple []) h26)) fun J27 => gK v24 true (
 J27 v0 h18) (J27 (NV.tuple []) h18))) fun J19 => gK v13 true (
 bK (ltI v14 (NV.int .i64 (.ofNat 64530))) fun v37 =>
 J19 v37 h15) (J19 (NV.tuple []) h15)) fun J16 => gK v13 true (
 J16 v0 h7) (J16 (NV.tuple []) h7))) fun J8 => gK v2 true (
 bK (ltI v3 (NV.int .i64 (.ofNat 211))) fun v38 =>
 J8 v38 h4) (J8 (NV.tuple []) h4)) fun J5 => gK v2 true (
 J5 v0 h) (J5 (NV.tuple []) h))
theorem e169 : ikB Tryz.prog 10 Tryz.f169 = S169 := by kernel_rfl
theorem k169 [Sig] (w0 : World) : SOK cW w0 169 S169 := okW Tryz.func169 (by kernel_rfl) e169
noncomputable def S168 (call : CallF) (N : Nat) (l : List NV) (h : H) : R :=
 uc l fun v0 l1 => un l1 (
 joinC 3 (fun v2 v3 v4 h5 =>
 bK (geI v4 (NV.int .u8 (.ofNat 128))) fun v7 =>
 condK v7 (
 mK (calM call 234 [v2, (NV.func (.func 235) [] [])] h5) fun v8 h9 =>
 retC v8 h9) (
 mK (mslM 16 false (NV.str 0 0) v3 v3 h5) fun v10 h11 =>
 joinC 4 (fun v12 v13 v14 v15 h16 =>
 joinC 4 (fun v18 v19 v20 v21 h22 =>
 bK (lenStr v18) fun v24 =>
 bK (ltI v21 v24) fun v25 =>
 joinC 1 (fun v26 h27 =>
 retC v26 h27) fun J28 =>
 condK v25 (
 bK (slStr v18 (some v21) none) fun v29 =>
 bK (ixS 1 v19 v20) fun v30 =>
 mK (stM 1 v30 v29 h22) fun v31 h32 =>
 J28 v19 h32) (
 J28 v19 h22)) fun J23 =>
 loopC N 5 (fun L39 v33 v34 v35 v36 v37 h38 =>
 bK (lenStr v33) fun v40 =>
 bK (ltI v37 v40) fun v41 =>
 condK v41 (
 bK (ixStr v33 v37) fun v42 =>
 bK (ixA 256 1 (NV.ptr .h 0) v42) fun v43 =>
 bK (ldO 1 false h38 v43) fun v44 =>
 bK (eqI v44 (NV.int .u8 (.ofNat 0))) fun v45 =>
 condK v45 (
 bK (addI v37 (NV.int .i64 (.ofNat 1))) fun v46 =>
 L39 v33 v34 v35 v36 v46 h38) (
 bK (slStr v33 (some v36) (some v37)) fun v47 =>
 bK (ixS 1 v34 v35) fun v48 =>
 mK (stM 1 v48 v47 h38) fun v49 h50 =>
 bK (addI v35 (NV.int .i64 (.ofNat 1))) fun v51 =>
 bK (addI v37 (NV.int .i64 (.ofNat 1))) fun v52 =>
 joinC 4 (fun v53 v54 v55 v56 h57 =>
 L39 v53 v54 v55 v56 v56 h57) fun J58 =>
 loopC N 4 (fun L64 v59 v60 v61 v62 h63 =>
 bK (lenStr v59) fun v65 =>
 bK (ltI v62 v65) fun v66 =>
 jK (fun v67 h68 =>
 jK (fun v70 h71 =>
 jK (fun v73 h74 =>
 jK (fun v76 h77 =>
 jK (fun v79 h80 =>
 jK (fun v82 h83 =>
 bK (pickO v66 v82 (NV.bool false)) fun v85 =>
 condK v85 (
 bK (addI v62 (NV.int .i64 (.ofNat 1))) fun v86 =>
 L64 v59 v60 v61 v86 h83) (
 J58 v59 v60 v61 v62 h83)) fun J84 => gK v66 true (
 bK (neI v79 (NV.int .u8 (.ofNat 0))) fun v87 =>
 J84 v87 h80) (J84 (NV.tuple []) h80)) fun J81 => gK v66 true (
 bK (ldO 1 false h77 v76) fun v88 =>
 J81 v88 h77) (J81 (NV.tuple []) h77)) fun J78 => gK v66 true (
 bK (ixA 256 1 (NV.ptr .h 0) v73) fun v89 =>
 J78 v89 h74) (J78 (NV.tuple []) h74)) fun J75 => gK v66 true (
 bK (ixStr v67 v70) fun v90 =>
 J75 v90 h71) (J75 (NV.tuple []) h71)) fun J72 => gK v66 true (
 J72 v62 h68) (J72 (NV.tuple []) h68)) fun J69 => gK v66 true (
 J69 v59 h63) (J69 (NV.tuple []) h63)) v33 v34 v51 v52 h50)) (
 J23 v33 v34 v35 v36 h38)) v12 v13 v14 v15 v15 h16) fun J17 =>
 loopC N 4 (fun L96 v91 v92 v93 v94 h95 =>
 bK (lenStr v91) fun v97 =>
 bK (ltI v94 v97) fun v98 =>
 jK (fun v99 h100 =>
 jK (fun v102 h103 =>
 jK (fun v105 h106 =>
 jK (fun v108 h109 =>
 jK (fun v111 h112 =>
 jK (fun v114 h115 =>
 bK (pickO v98 v114 (NV.bool false)) fun v117 =>
 condK v117 (
 bK (addI v94 (NV.int .i64 (.ofNat 1))) fun v118 =>
 L96 v91 v92 v93 v118 h115) (
 J17 v91 v92 v93 v94 h115)) fun J116 => gK v98 true (
 bK (neI v111 (NV.int .u8 (.ofNat 0))) fun v119 =>
 J116 v119 h112) (J116 (NV.tuple []) h112)) fun J113 => gK v98 true (
 bK (ldO 1 false h109 v108) fun v120 =>
 J113 v120 h109) (J113 (NV.tuple []) h109)) fun J110 => gK v98 true (
 bK (ixA 256 1 (NV.ptr .h 0) v105) fun v121 =>
 J110 v121 h106) (J110 (NV.tuple []) h106)) fun J107 => gK v98 true (
 bK (ixStr v99 v102) fun v122 =>
 J107 v122 h103) (J107 (NV.tuple []) h103)) fun J104 => gK v98 true (
 J104 v94 h100) (J104 (NV.tuple []) h100)) fun J101 => gK v98 true (
 J101 v91 h95) (J101 (NV.tuple []) h95)) v2 v10 (NV.int .i64 (.ofNat 0)) (NV.int .i64 (.ofNat 0)) h11)) fun J6 =>
 loopC N 5 (fun L129 v123 v124 v125 v126 v127 h128 =>
 bK (lenStr v123) fun v130 =>
 bK (ltI v127 v130) fun v131 =>
 condK v131 (
 bK (ixStr v123 v127) fun v132 =>
 bK (binO .or v126 v132) fun v133 =>
 bK (ixA 256 1 (NV.ptr .h 0) v132) fun v134 =>
 bK (ldO 1 false h128 v134) fun v135 =>
 bK (cvI .i64 v135) fun v136 =>
 bK (unO .xor v136) fun v137 =>
 bK (binO .and v125 v137) fun v138 =>
 bK (addI v124 v138) fun v139 =>
 bK (addI v127 (NV.int .i64 (.ofNat 1))) fun v140 =>
 L129 v123 v139 v136 v133 v140 h128) (
 J6 v123 v124 v126 h128)) v0 (NV.int .i64 (.ofNat 0)) (NV.int .i64 (.ofNat 1)) (NV.int .u8 (.ofNat 0)) (NV.int .i64 (.ofNat 0)) h)
theorem e168 : ikB Tryz.prog 10 Tryz.f168 = S168 := by kernel_rfl
theorem k168 [Sig] (w0 : World) : SOK cW w0 168 S168 := okW Tryz.func168 (by kernel_rfl) e168
noncomputable def S167 (call : CallF) (N : Nat) (l : List NV) (h : H) : R :=
 uc l fun v0 l1 => uc l1 fun v2 l3 => un l3 (
 mK (calM call 233 [v0, v2] h) fun v4 h5 =>
 bK (geI v4 (NV.int .i64 (.ofNat 0))) fun v6 =>
 condK v6 (
 bK (slStr v0 none (some v4)) fun v7 =>
 bK (lenStr v2) fun v8 =>
 bK (addI v4 v8) fun v9 =>
 bK (slStr v0 (some v9) none) fun v10 =>
 retC (NV.tuple [v7, v10, (NV.bool true)]) h5) (
 retC (NV.tuple [v0, (NV.str 0 0), (NV.bool false)]) h5))
theorem e167 : ikB Tryz.prog 10 Tryz.f167 = S167 := by kernel_rfl
theorem k167 [Sig] (w0 : World) : SOK cW w0 167 S167 := okW Tryz.func167 (by kernel_rfl) e167
noncomputable def S171 (call : CallF) (N : Nat) (l : List NV) (h : H) : R :=
 uc l fun v0 l1 => un l1 (
 bK (lenSl v0) fun v2 =>
 joinC 1 (fun v3 h4 =>
 retC v3 h4) fun J5 =>
 loopC N 4 (fun L11 v6 v7 v8 v9 h10 =>
 bK (ltI v9 v8) fun v12 =>
 condK v12 (
 bK (ixS 4 v7 v9) fun v13 =>
 bK (ldO 4 true h10 v13) fun v14 =>
 mK (alM (NB.cells [(NV.int .i64 (.ofNat 0)), (NV.int .u64 (.ofNat 0)), (NV.int .u64 (.ofNat 0)), (NV.bool false)]) h10) fun v15 h16 =>
 mK (stM 4 v15 v14 h16) fun v17 h18 =>
 bK (fAddr 0 v15) fun v19 =>
 bK (ldO 1 false h18 v19) fun v20 =>
 bK (fAddr 1 v15) fun v21 =>
 bK (ldO 1 false h18 v21) fun v22 =>
 bK (bldO [(0, 1), (1, 1)] [(NV.int .i64 (.ofNat 0)), (NV.int .u64 (.ofNat 0)), (NV.int .u64 (.ofNat 0)), (NV.bool false)] [v20, v22]) fun v23 =>
 mK (alM (NB.cells [(NV.int .i64 (.ofNat 0)), (NV.int .u64 (.ofNat 0)), (NV.int .u64 (.ofNat 0)), (NV.bool false)]) h18) fun v24 h25 =>
 mK (stM 4 v24 v23 h25) fun v26 h27 =>
 bK (fAddr 0 v15) fun v28 =>
 bK (ldO 1 false h27 v28) fun v29 =>
 bK (eqI v29 (NV.int .i64 (.ofNat 127))) fun v30 =>
 joinC 8 (fun v31 v32 v33 v34 v35 v36 v37 v38 h39 =>
 joinC 5 (fun v41 v42 v43 v44 v45 h46 =>
 bK (ldO 4 true h46 v42) fun v48 =>
 mK (bslM 1 false [(0, 4)] [(NV.int .i64 (.ofNat 0)), (NV.int .u64 (.ofNat 0)), (NV.int .u64 (.ofNat 0)), (NV.bool false)] [v48] h46) fun v49 h50 =>
 mK (appM Tryz.prog 59 v41 v49 h50) fun v51 h52 =>
 bK (addI v45 (NV.int .i64 (.ofNat 1))) fun v53 =>
 L11 v51 v43 v44 v53 h52) fun J47 =>
 condK v38 (
 bK (fAddr 1 v33) fun v54 =>
 bK (ldO 1 false h39 v54) fun v55 =>
 bK (binO .and v55 (NV.int .u64 (.ofNat 4294967295))) fun v56 =>
 bK (fAddr 1 v33) fun v57 =>
 mK (stM 1 v57 v56 h39) fun v58 h59 =>
 J47 v31 v33 v34 v35 v36 h59) (
 bK (eqI v37 (NV.int .i64 (.ofNat 123))) fun v60 =>
 condK v60 (
 bK (fAddr 2 v32) fun v61 =>
 bK (ldO 1 false h39 v61) fun v62 =>
 bK (fAddr 2 v33) fun v63 =>
 mK (stM 1 v63 v62 h39) fun v64 h65 =>
 J47 v31 v33 v34 v35 v36 h65) (
 J47 v31 v33 v34 v35 v36 h39))) fun J40 =>
 condK v30 (
 J40 v6 v15 v24 v7 v8 v9 v29 v30 h27) (
 bK (eqI v29 (NV.int .i64 (.ofNat 125))) fun v66 =>
 J40 v6 v15 v24 v7 v8 v9 v29 v66 h27)) (
 J5 v6 h10)) NV.nslice v0 v2 (NV.int .i64 (.ofNat 0)) h)
theorem e171 : ikB Tryz.prog 10 Tryz.f171 = S171 := by kernel_rfl
theorem k171 [Sig] (w0 : World) : SOK cW w0 171 S171 := okW Tryz.func171 (by kernel_rfl) e171
noncomputable def S173 (call : CallF) (N : Nat) (l : List NV) (h : H) : R :=
 uc l fun v0 l1 => un l1 (
 bK (eqI v0 (NV.int .i64 (.ofNat 127))) fun v2 =>
 jK (fun v3 h4 =>
 jK (fun v6 h7 =>
 bK (pickO v2 (NV.bool true) v6) fun v9 =>
 condK v9 (
 retC (NV.int .i64 (.ofNat 32)) h7) (
 retC (NV.int .i64 (.ofNat 64)) h7)) fun J8 => gK v2 false (
 bK (eqI v3 (NV.int .i64 (.ofNat 125))) fun v10 =>
 J8 v10 h4) (J8 (NV.tuple []) h4)) fun J5 => gK v2 false (
 J5 v0 h) (J5 (NV.tuple []) h))
theorem e173 : ikB Tryz.prog 10 Tryz.f173 = S173 := by kernel_rfl
theorem k173 [Sig] (w0 : World) : SOK cW w0 173 S173 := okW Tryz.func173 (by kernel_rfl) e173
noncomputable def S172 (call : CallF) (N : Nat) (l : List NV) (h : H) : R :=
 uc l fun v0 l1 => uc l1 fun v2 l3 => uc l3 fun v4 l5 => uc l5 fun v6 l7 => un l7 (
 bK (eqI v0 (NV.int .i64 (.ofNat 69))) fun v8 =>
 jK (fun v9 h10 =>
 jK (fun v12 h13 =>
 bK (pickO v8 (NV.bool true) v12) fun v15 =>
 condK v15 (
 bK (eqI v4 (NV.int .u64 (.ofNat 0))) fun v16 =>
 mK (calM call 241 [v16, (NV.int .i64 (.ofNat 0))] h13) fun v17 h18 =>
 bK (extO 0 v17) fun v19 =>
 bK (extO 1 v17) fun v20 =>
 retC (NV.tuple [v19, v20]) h18) (
 bK (leI v0 (NV.int .i64 (.ofNat 79))) fun v21 =>
 condK v21 (
 bK (addI (NV.int .i64 (.ofNat 1)) v0) fun v22 =>
 bK (subI v22 (NV.int .i64 (.ofNat 70))) fun v23 =>
 mK (calM call 242 [v2, v23, v4, v6] h13) fun v24 h25 =>
 bK (extO 0 v24) fun v26 =>
 bK (extO 1 v24) fun v27 =>
 mK (calM call 241 [v26, v27] h25) fun v28 h29 =>
 bK (extO 0 v28) fun v30 =>
 bK (extO 1 v28) fun v31 =>
 retC (NV.tuple [v30, v31]) h29) (
 bK (leI v0 (NV.int .i64 (.ofNat 90))) fun v32 =>
 condK v32 (
 bK (addI (NV.int .i64 (.ofNat 1)) v0) fun v33 =>
 bK (subI v33 (NV.int .i64 (.ofNat 81))) fun v34 =>
 mK (calM call 242 [v2, v34, v4, v6] h13) fun v35 h36 =>
 bK (extO 0 v35) fun v37 =>
 bK (extO 1 v35) fun v38 =>
 mK (calM call 241 [v37, v38] h36) fun v39 h40 =>
 bK (extO 0 v39) fun v41 =>
 bK (extO 1 v39) fun v42 =>
 retC (NV.tuple [v41, v42]) h40) (
 bK (leI v0 (NV.int .i64 (.ofNat 96))) fun v43 =>
 condK v43 (
 bK (addI (NV.int .i64 (.ofNat 1)) v0) fun v44 =>
 bK (subI v44 (NV.int .i64 (.ofNat 91))) fun v45 =>
 mK (calM call 243 [v2, v45, v4, v6] h13) fun v46 h47 =>
 bK (extO 0 v46) fun v48 =>
 bK (extO 1 v46) fun v49 =>
 mK (calM call 241 [v48, v49] h47) fun v50 h51 =>
 bK (extO 0 v50) fun v52 =>
 bK (extO 1 v50) fun v53 =>
 retC (NV.tuple [v52, v53]) h51) (
 bK (leI v0 (NV.int .i64 (.ofNat 102))) fun v54 =>
 condK v54 (
 bK (addI (NV.int .i64 (.ofNat 1)) v0) fun v55 =>
 bK (subI v55 (NV.int .i64 (.ofNat 97))) fun v56 =>
 mK (calM call 243 [v2, v56, v4, v6] h13) fun v57 h58 =>
 bK (extO 0 v57) fun v59 =>
 bK (extO 1 v57) fun v60 =>
 mK (calM call 241 [v59, v60] h58) fun v61 h62 =>
 bK (extO 0 v61) fun v63 =>
 bK (extO 1 v61) fun v64 =>
 retC (NV.tuple [v63, v64]) h62) (
 bK (leI v0 (NV.int .i64 (.ofNat 105))) fun v65 =>
 condK v65 (
 bK (addI (NV.int .i64 (.ofNat 1)) v0) fun v66 =>
 bK (subI v66 (NV.int .i64 (.ofNat 103))) fun v67 =>
 mK (calM call 244 [v2, v67, v4] h13) fun v68 h69 =>
 bK (extO 0 v68) fun v70 =>
 bK (extO 1 v68) fun v71 =>
 retC (NV.tuple [v70, v71]) h69) (
 bK (leI v0 (NV.int .i64 (.ofNat 120))) fun v72 =>
 condK v72 (
 bK (addI (NV.int .i64 (.ofNat 1)) v0) fun v73 =>
 bK (subI v73 (NV.int .i64 (.ofNat 106))) fun v74 =>
 mK (calM call 245 [v2, v74, v4, v6] h13) fun v75 h76 =>
 bK (extO 0 v75) fun v77 =>
 bK (extO 1 v75) fun v78 =>
 retC (NV.tuple [v77, v78]) h76) (
 bK (leI v0 (NV.int .i64 (.ofNat 123))) fun v79 =>
 condK v79 (
 bK (addI (NV.int .i64 (.ofNat 1)) v0) fun v80 =>
 bK (subI v80 (NV.int .i64 (.ofNat 121))) fun v81 =>
 mK (calM call 244 [v2, v81, v4] h13) fun v82 h83 =>
 bK (extO 0 v82) fun v84 =>
 bK (extO 1 v82) fun v85 =>
 retC (NV.tuple [v84, v85]) h83) (
 bK (leI v0 (NV.int .i64 (.ofNat 138))) fun v86 =>
 condK v86 (
 bK (addI (NV.int .i64 (.ofNat 1)) v0) fun v87 =>
 bK (subI v87 (NV.int .i64 (.ofNat 124))) fun v88 =>
 mK (calM call 245 [v2, v88, v4, v6] h13) fun v89 h90 =>
 bK (extO 0 v89) fun v91 =>
 bK (extO 1 v89) fun v92 =>
 retC (NV.tuple [v91, v92]) h90) (
 bK (leI v0 (NV.int .i64 (.ofNat 145))) fun v93 =>
 condK v93 (
 bK (subI v0 (NV.int .i64 (.ofNat 139))) fun v94 =>
 mK (calM call 246 [v2, v94, v4] h13) fun v95 h96 =>
 bK (extO 0 v95) fun v97 =>
 bK (extO 1 v95) fun v98 =>
 retC (NV.tuple [v97, v98]) h96) (
 bK (leI v0 (NV.int .i64 (.ofNat 152))) fun v99 =>
 condK v99 (
 bK (addI (NV.int .i64 (.ofNat 1)) v0) fun v100 =>
 bK (subI v100 (NV.int .i64 (.ofNat 146))) fun v101 =>
 mK (calM call 247 [v2, v101, v4, v6] h13) fun v102 h103 =>
 bK (extO 0 v102) fun v104 =>
 bK (extO 1 v102) fun v105 =>
 retC (NV.tuple [v104, v105]) h103) (
 bK (leI v0 (NV.int .i64 (.ofNat 159))) fun v106 =>
 condK v106 (
 bK (subI v0 (NV.int .i64 (.ofNat 153))) fun v107 =>
 mK (calM call 246 [v2, v107, v4] h13) fun v108 h109 =>
 bK (extO 0 v108) fun v110 =>
 bK (extO 1 v108) fun v111 =>
 retC (NV.tuple [v110, v111]) h109) (
 bK (leI v0 (NV.int .i64 (.ofNat 166))) fun v112 =>
 condK v112 (
 bK (addI (NV.int .i64 (.ofNat 1)) v0) fun v113 =>
 bK (subI v113 (NV.int .i64 (.ofNat 160))) fun v114 =>
 mK (calM call 247 [v2, v114, v4, v6] h13) fun v115 h116 =>
 bK (extO 0 v115) fun v117 =>
 bK (extO 1 v115) fun v118 =>
 retC (NV.tuple [v117, v118]) h116) (
 bK (geI v0 (NV.int .i64 (.ofNat 64512))) fun v119 =>
 condK v119 (
 bK (subI v0 (NV.int .i64 (.ofNat 64512))) fun v120 =>
 bK (binO .quo v120 (NV.int .i64 (.ofNat 2))) fun v121 =>
 bK (binO .rem v121 (NV.int .i64 (.ofNat 2))) fun v122 =>
 bK (binO .mul v122 (NV.int .i64 (.ofNat 32))) fun v123 =>
 bK (addI (NV.int .i64 (.ofNat 32)) v123) fun v124 =>
 bK (binO .quo v120 (NV.int .i64 (.ofNat 4))) fun v125 =>
 bK (binO .mul v125 (NV.int .i64 (.ofNat 32))) fun v126 =>
 bK (addI (NV.int .i64 (.ofNat 32)) v126) fun v127 =>
 bK (binO .rem v120 (NV.int .i64 (.ofNat 2))) fun v128 =>
 bK (eqI v128 (NV.int .i64 (.ofNat 0))) fun v129 =>
 mK (calM call 248 [v124, v127, v129, (NV.bool true), v4] h13) fun v130 h131 =>
 bK (extO 0 v130) fun v132 =>
 bK (extO 1 v130) fun v133 =>
 retC (NV.tuple [v132, v133]) h131) (
 mK (calM call 249 [v0, v4] h13) fun v134 h135 =>
 bK (extO 0 v134) fun v136 =>
 bK (extO 1 v134) fun v137 =>
 retC (NV.tuple [v136, v137]) h135))))))))))))))) fun J14 => gK v8 false (
 bK (eqI v9 (NV.int .i64 (.ofNat 80))) fun v138 =>
 J14 v138 h10) (J14 (NV.tuple []) h10)) fun J11 => gK v8 false (
 J11 v0 h) (J11 (NV.tuple []) h))
theorem e172 : ikB Tryz.prog 10 Tryz.f172 = S172 := by kernel_rfl
theorem k172 [Sig] (w0 : World) : SOK cW w0 172 S172 := okW Tryz.func172 (by kernel_rfl) e172
noncomputable def S185 (call : CallF) (N : Nat) (l : List NV) (h : H) : R :=
 uc l fun v0 l1 => un l1 (
 mK (calM call 47 [v0] h) fun v2 h3 =>
 mK (alM (NB.cells [(NV.int .i64 (.ofNat 0)), (NV.str 0 0), (NV.int .i64 (.ofNat 0)), (NV.str 0 0), (NV.str 0 0), (NV.bool false)]) h3) fun v4 h5 =>
 mK (stM 6 v4 v2 h5) fun v6 h7 =>
 bK (fAddr 0 v4) fun v8 =>
 bK (ldO 1 false h7 v8) fun v9 =>
 bK (ltI v9 (NV.int .i64 (.ofNat 0))) fun v10 =>
 condK v10 (
 retC (NV.bool false) h7) (
 bK (geI v0 (NV.int .i64 (.ofNat 69))) fun v11 =>
 jK (fun v12 h13 =>
 jK (fun v15 h16 =>
 bK (pickO v11 v15 (NV.bool false)) fun v18 =>
 jK (fun v19 h20 =>
 jK (fun v22 h23 =>
 jK (fun v25 h26 =>
 jK (fun v28 h29 =>
 jK (fun v31 h32 =>
 jK (fun v34 h35 =>
 bK (pickO v18 (NV.bool true) v34) fun v37 =>
 jK (fun v38 h39 =>
 jK (fun v41 h42 =>
 jK (fun v44 h45 =>
 jK (fun v47 h48 =>
 jK (fun v50 h51 =>
 jK (fun v53 h54 =>
 jK (fun v56 h57 =>
 jK (fun v59 h60 =>
 jK (fun v62 h63 =>
 jK (fun v65 h66 =>
 jK (fun v68 h69 =>
 jK (fun v71 h72 =>
 jK (fun v74 h75 =>
 jK (fun v77 h78 =>
 jK (fun v80 h81 =>
 jK (fun v83 h84 =>
 jK (fun v86 h87 =>
 bK (pickO v37 (NV.bool true) v86) fun v89 =>
 retC v89 h87) fun J88 => gK v37 false (
 bK (pickO v44 v83 (NV.bool false)) fun v90 =>
 J88 v90 h84) (J88 (NV.tuple []) h84)) fun J85 => gK v44 true (
 bK (pickO v71 (NV.bool true) v80) fun v91 =>
 J85 v91 h81) (J85 (NV.tuple []) h81)) fun J82 => gK v71 false (
 bK (eqI v77 (NV.int .i64 (.ofNat 25))) fun v92 =>
 J82 v92 h78) (J82 (NV.tuple []) h78)) fun J79 => gK v71 false (
 bK (ldO 1 false h75 v74) fun v93 =>
 J79 v93 h75) (J79 (NV.tuple []) h75)) fun J76 => gK v71 false (
 bK (fAddr 2 v4) fun v94 =>
 J76 v94 h72) (J76 (NV.tuple []) h72)) fun J73 => gK v44 true (
 J73 v68 h69) (J73 (NV.tuple []) h69)) fun J70 => gK v44 true (
 bK (pickO v56 (NV.bool true) v65) fun v95 =>
 J70 v95 h66) (J70 (NV.tuple []) h66)) fun J67 => gK v56 false (
 bK (eqI v62 (NV.int .i64 (.ofNat 24))) fun v96 =>
 J67 v96 h63) (J67 (NV.tuple []) h63)) fun J64 => gK v56 false (
 bK (ldO 1 false h60 v59) fun v97 =>
 J64 v97 h60) (J64 (NV.tuple []) h60)) fun J61 => gK v56 false (
 bK (fAddr 2 v4) fun v98 =>
 J61 v98 h57) (J61 (NV.tuple []) h57)) fun J58 => gK v44 true (
 J58 v53 h54) (J58 (NV.tuple []) h54)) fun J55 => gK v44 true (
 bK (eqI v50 (NV.int .i64 (.ofNat 0))) fun v99 =>
 J55 v99 h51) (J55 (NV.tuple []) h51)) fun J52 => gK v44 true (
 bK (ldO 1 false h48 v47) fun v100 =>
 J52 v100 h48) (J52 (NV.tuple []) h48)) fun J49 => gK v44 true (
 bK (fAddr 2 v4) fun v101 =>
 J49 v101 h45) (J49 (NV.tuple []) h45)) fun J46 => gK v37 false (
 J46 v41 h42) (J46 (NV.tuple []) h42)) fun J43 => gK v37 false (
 bK (geI v38 (NV.int .i64 (.ofNat 64768))) fun v102 =>
 J43 v102 h39) (J43 (NV.tuple []) h39)) fun J40 => gK v37 false (
 J40 v0 h35) (J40 (NV.tuple []) h35)) fun J36 => gK v18 false (
 bK (pickO v25 v31 (NV.bool false)) fun v103 =>
 J36 v103 h32) (J36 (NV.tuple []) h32)) fun J33 => gK v25 true (
 bK (leI v28 (NV.int .i64 (.ofNat 64519))) fun v104 =>
 J33 v104 h29) (J33 (NV.tuple []) h29)) fun J30 => gK v25 true (
 J30 v0 h26) (J30 (NV.tuple []) h26)) fun J27 => gK v18 false (
 J27 v22 h23) (J27 (NV.tuple []) h23)) fun J24 => gK v18 false (
 bK (geI v19 (NV.int .i64 (.ofNat 64512))) fun v105 =>
 J24 v105 h20) (J24 (NV.tuple []) h20)) fun J21 => gK v18 false (
 J21 v0 h16) (J21 (NV.tuple []) h16)) fun J17 => gK v11 true (
 bK (leI v12 (NV.int .i64 (.ofNat 196))) fun v106 =>
 J17 v106 h13) (J17 (NV.tuple []) h13)) fun J14 => gK v11 true (
 J14 v0 h7) (J14 (NV.tuple []) h7)))
theorem e185 : ikB Tryz.prog 10 Tryz.f185 = S185 := by kernel_rfl
theorem k185 [Sig] (w0 : World) : SOK cW w0 185 S185 := okW Tryz.func185 (by kernel_rfl) e185
noncomputable def S188 (call : CallF) (N : Nat) (l : List NV) (h : H) : R :=
 uc l fun v0 l1 => uc l1 fun v2 l3 => un l3 (
 mK (boxM false v2 h) fun v4 h5 =>
 bK (nilO v0) fun v6 =>
 bK (fAddr 19 v6) fun v7 =>
 bK (ldO 1 false h5 (chkV h5 v7)) fun v8 =>
 bK (ldO 4 true h5 (chkV h5 v4)) fun v9 =>
 mK (bslM 1 false [(0, 4)] [(NV.int .i64 (.ofNat 0)), (NV.int .u64 (.ofNat 0)), (NV.int .u64 (.ofNat 0)), (NV.bool false)] [(chkV h5 v9)] h5) fun v10 h11 =>
 mK (appM Tryz.prog 59 (chkV h11 v8) (chkV h11 v10) h11) fun v12 h13 =>
 nextK h11 h13 (
 bK (nilO v0) fun v14 =>
 bK (fAddr 19 v14) fun v15 =>
 mK (stM 1 (chkV h13 v15) (chkV h13 v12) h13) fun v16 h17 =>
 nextK h13 h17 (
 retC (NV.tuple []) h17)))
theorem e188 : ikB Tryz.prog 10 Tryz.f188 = S188 := by kernel_rfl
theorem k188 [Sig] (w0 : World) : SOK cW w0 188 S188 := okW Tryz.func188 (by kernel_rfl) e188
noncomputable def S129 (call : CallF) (N : Nat) (l : List NV) (h : H) : R :=
 uc l fun v0 l1 => uc l1 fun v2 l3 => un l3 (
 mK (boxM false v2 h) fun v4 h5 =>
 mK (calM call 198 [v0, (NV.func (.func 199) [] [v4])] h5) fun v6 h7 =>
 bK (notO v6) fun v8 =>
 retC v8 h7)
theorem e129 : ikB Tryz.prog 10 Tryz.f129 = S129 := by kernel_rfl
theorem k129 [Sig] (w0 : World) : SOK cW w0 129 S129 := okW Tryz.func129 (by kernel_rfl) e129
noncomputable def S130 (call : CallF) (N : Nat) (l : List NV) (h : H) : R :=
 uc l fun v0 l1 => un l1 (
 bK (geI v0 (NV.int .i64 (.ofNat 123))) fun v2 =>
 jK (fun v3 h4 =>
 jK (fun v6 h7 =>
 bK (pickO v2 v6 (NV.bool false)) fun v9 =>
 jK (fun v10 h11 =>
 jK (fun v13 h14 =>
 bK (pickO v9 (NV.bool true) v13) fun v16 =>
 retC v16 h14) fun J15 => gK v9 false (
 mK (calM call 139 [v10] h11) fun v17 h18 =>
 J15 v17 h18) (J15 (NV.tuple []) h11)) fun J12 => gK v9 false (
 J12 v0 h7) (J12 (NV.tuple []) h7)) fun J8 => gK v2 true (
 bK (leI v3 (NV.int .i64 (.ofNat 127))) fun v19 =>
 J8 v19 h4) (J8 (NV.tuple []) h4)) fun J5 => gK v2 true (
 J5 v0 h) (J5 (NV.tuple []) h))
theorem e130 : ikB Tryz.prog 10 Tryz.f130 = S130 := by kernel_rfl
theorem k130 [Sig] (w0 : World) : SOK cW w0 130 S130 := okW Tryz.func130 (by kernel_rfl) e130
noncomputable def S132 (call : CallF) (N : Nat) (l : List NV) (h : H) : R :=
 uc l fun v0 l1 => un l1 (
 bK (geI v0 (NV.int .i64 (.ofNat 0))) fun v2 =>
 jK (fun v3 h4 =>
 jK (fun v6 h7 =>
 bK (pickO v2 v6 (NV.bool false)) fun v9 =>
 retC v9 h7) fun J8 => gK v2 true (
 bK (ltI v3 (NV.int .i64 (.ofNat 4294967296))) fun v10 =>
 J8 v10 h4) (J8 (NV.tuple []) h4)) fun J5 => gK v2 true (
 J5 v0 h) (J5 (NV.tuple []) h))
theorem e132 : ikB Tryz.prog 10 Tryz.f132 = S132 := by kernel_rfl
theorem k132 [Sig] (w0 : World) : SOK cW w0 132 S132 := okW Tryz.func132 (by kernel_rfl) e132
noncomputable def S133 (call : CallF) (N : Nat) (l : List NV) (h : H) : R :=
 uc l fun v0 l1 => un l1 (
 mK (calM call 200 [v0] h) fun v2 h3 =>
 bK (leI v2 (NV.int .i64 (.ofNat 500))) fun v4 =>
 jK (fun v5 h6 =>
 jK (fun v8 h9 =>
 bK (pickO v4 v8 (NV.bool false)) fun v11 =>
 retC v11 h9) fun J10 => gK v4 true (
 mK (calM call 201 [v5, (NV.func (.func 202) [] [])] h6) fun v12 h13 =>
 J10 v12 h13) (J10 (NV.tuple []) h6)) fun J7 => gK v4 true (
 J7 v0 h3) (J7 (NV.tuple []) h3))
theorem e133 : ikB Tryz.prog 10 Tryz.f133 = S133 := by kernel_rfl
theorem k133 [Sig] (w0 : World) : SOK cW w0 133 S133 := okW Tryz.func133 (by kernel_rfl) e133
noncomputable def S136 (call : CallF) (N : Nat) (l : List NV) (h : H) : R :=
 uc l fun v0 l1 => un l1 (
 mK (rngM v0 h) fun v2 h3 =>
 joinC 0 (fun h4 =>
 retC (NV.bool true) h4) fun J5 =>
 loopC N 2 (fun L9 v6 v7 h8 =>
 mK (nxtM v7 h8) fun v10 h11 =>
 bK (extO 0 v10) fun v12 =>
 condK v12 (
 bK (extO 1 v10) fun v13 =>
 bK (extO 2 v10) fun v14 =>
 bK (eqI v14 (NV.int .i32 (.ofNat 65533))) fun v15 =>
 jK (fun v16 h17 =>
 jK (fun v19 h20 =>
 jK (fun v22 h23 =>
 jK (fun v25 h26 =>
 jK (fun v28 h29 =>
 jK (fun v31 h32 =>
 jK (fun v34 h35 =>
 jK (fun v37 h38 =>
 jK (fun v40 h41 =>
 jK (fun v43 h44 =>
 jK (fun v46 h47 =>
 jK (fun v49 h50 =>
 jK (fun v52 h53 =>
 bK (pickO v15 v52 (NV.bool false)) fun v55 =>
 condK v55 (
 retC (NV.bool false) h53) (
 L9 v6 v7 h53)) fun J54 => gK v15 true (
 bK (pickO v31 (NV.bool true) v49) fun v56 =>
 J54 v56 h50) (J54 (NV.tuple []) h50)) fun J51 => gK v31 false (
 bK (binO .neq v46 (NV.str 3 12435439)) fun v57 =>
 J51 v57 h47) (J51 (NV.tuple []) h47)) fun J48 => gK v31 false (
 bK (slStr v34 (some v37) (some v43)) fun v58 =>
 J48 v58 h44) (J48 (NV.tuple []) h44)) fun J45 => gK v31 false (
 bK (addI v40 (NV.int .i64 (.ofNat 3))) fun v59 =>
 J45 v59 h41) (J45 (NV.tuple []) h41)) fun J42 => gK v31 false (
 J42 v13 h38) (J42 (NV.tuple []) h38)) fun J39 => gK v31 false (
 J39 v13 h35) (J39 (NV.tuple []) h35)) fun J36 => gK v31 false (
 J36 v6 h32) (J36 (NV.tuple []) h32)) fun J33 => gK v15 true (
 J33 v28 h29) (J33 (NV.tuple []) h29)) fun J30 => gK v15 true (
 bK (ltI v25 (NV.int .i64 (.ofNat 3))) fun v60 =>
 J30 v60 h26) (J30 (NV.tuple []) h26)) fun J27 => gK v15 true (
 bK (subI v19 v22) fun v61 =>
 J27 v61 h23) (J27 (NV.tuple []) h23)) fun J24 => gK v15 true (
 J24 v13 h20) (J24 (NV.tuple []) h20)) fun J21 => gK v15 true (
 bK (lenStr v16) fun v62 =>
 J21 v62 h17) (J21 (NV.tuple []) h17)) fun J18 => gK v15 true (
 J18 v6 h11) (J18 (NV.tuple []) h11)) (
 J5 h11)) v0 v2 h3)
theorem e136 : ikB Tryz.prog 10 Tryz.f136 = S136 := by kernel_rfl
theorem k136 [Sig] (w0 : World) : SOK cW w0 136 S136 := okW Tryz.func136 (by kernel_rfl) e136
noncomputable def S139 (call : CallF) (N : Nat) (l : List NV) (h : H) : R :=
 uc l fun v0 l1 => un l1 (
 bK (eqI v0 (NV.int .i64 (.ofNat 112))) fun v2 =>
 jK (fun v3 h4 =>
 jK (fun v6 h7 =>
 bK (pickO v2 (NV.bool true) v6) fun v9 =>
 retC v9 h7) fun J8 => gK v2 false (
 bK (eqI v3 (NV.int .i64 (.ofNat 111))) fun v10 =>
 J8 v10 h4) (J8 (NV.tuple []) h4)) fun J5 => gK v2 false (
 J5 v0 h) (J5 (NV.tuple []) h))
theorem e139 : ikB Tryz.prog 10 Tryz.f139 = S139 := by kernel_rfl
theorem k139 [Sig] (w0 : World) : SOK cW w0 139 S139 := okW Tryz.func139 (by kernel_rfl) e139
noncomputable def S140 (call : CallF) (N : Nat) (l : List NV) (h : H) : R :=
 uc l fun v0 l1 => uc l1 fun v2 l3 => un l3 (
 mK (boxM false v2 h) fun v4 h5 =>
 mK (calM call 203 [v0, (NV.func (.func 204) [] [v4])] h5) fun v6 h7 =>
 bK (notO v6) fun v8 =>
 retC v8 h7)
theorem e140 : ikB Tryz.prog 10 Tryz.f140 = S140 := by kernel_rfl
theorem k140 [Sig] (w0 : World) : SOK cW w0 140 S140 := okW Tryz.func140 (by kernel_rfl) e140
noncomputable def S206 (call : CallF) (N : Nat) (l : List NV) (h : H) : R :=
 uc l fun v0 l1 => uc l1 fun v2 l3 => un l3 (
 mK (boxM false v0 h) fun v4 h5 =>
 bK (ldO 1 false h5 v2) fun v6 =>
 bK (ldO 2 true h5 v4) fun v7 =>
 mK (calV call v6 [v7] h5) fun v8 h9 =>
 bK (notO v8) fun v10 =>
 retC v10 h9)
theorem e206 : ikB Tryz.prog 10 Tryz.f206 = S206 := by kernel_rfl
theorem k206 [Sig] (w0 : World) : SOK cW w0 206 S206 := okW Tryz.func206 (by kernel_rfl) e206
noncomputable def S205 (call : CallF) (N : Nat) (l : List NV) (h : H) : R :=
 uc l fun v0 l1 => uc l1 fun v2 l3 => un l3 (
 mK (calM call 279 [v0, v2] h) fun v4 h5 =>
 bK (geI v4 (NV.int .i64 (.ofNat 0))) fun v6 =>
 retC v6 h5)
theorem e205 : ikB Tryz.prog 10 Tryz.f205 = S205 := by kernel_rfl
theorem k205 [Sig] (w0 : World) : SOK cW w0 205 S205 := okW Tryz.func205 (by kernel_rfl) e205
noncomputable def S208 (call : CallF) (N : Nat) (l : List NV) (h : H) : R :=
 uc l fun v0 l1 => uc l1 fun v2 l3 => un l3 (
 mK (boxM false v0 h) fun v4 h5 =>
 bK (ldO 1 false h5 v2) fun v6 =>
 bK (ldO 13 true h5 v4) fun v7 =>
 mK (calV call v6 [v7] h5) fun v8 h9 =>
 bK (notO v8) fun v10 =>
 retC v10 h9)
theorem e208 : ikB Tryz.prog 10 Tryz.f208 = S208 := by kernel_rfl
theorem k208 [Sig] (w0 : World) : SOK cW w0 208 S208 := okW Tryz.func208 (by kernel_rfl) e208
noncomputable def S207 (call : CallF) (N : Nat) (l : List NV) (h : H) : R :=
 uc l fun v0 l1 => uc l1 fun v2 l3 => un l3 (
 mK (calM call 280 [v0, v2] h) fun v4 h5 =>
 bK (geI v4 (NV.int .i64 (.ofNat 0))) fun v6 =>
 retC v6 h5)
theorem e207 : ikB Tryz.prog 10 Tryz.f207 = S207 := by kernel_rfl
theorem k207 [Sig] (w0 : World) : SOK cW w0 207 S207 := okW Tryz.func207 (by kernel_rfl) e207
noncomputable def S210 (call : CallF) (N : Nat) (l : List NV) (h : H) : R :=
 uc l fun v0 l1 => uc l1 fun v2 l3 => un l3 (
 mK (boxM false v0 h) fun v4 h5 =>
 bK (ldO 1 false h5 v2) fun v6 =>
 bK (ldO 3 true h5 v4) fun v7 =>
 mK (calV call v6 [v7] h5) fun v8 h9 =>
 bK (notO v8) fun v10 =>
 retC v10 h9)
theorem e210 : ikB Tryz.prog 10 Tryz.f210 = S210 := by kernel_rfl
theorem k210 [Sig] (w0 : World) : SOK cW w0 210 S210 := okW Tryz.func210 (by kernel_rfl) e210
noncomputable def S209 (call : CallF) (N : Nat) (l : List NV) (h : H) : R :=
 uc l fun v0 l1 => uc l1 fun v2 l3 => un l3 (
 mK (calM call 281 [v0, v2] h) fun v4 h5 =>
 bK (geI v4 (NV.int .i64 (.ofNat 0))) fun v6 =>
 retC v6 h5)
theorem e209 : ikB Tryz.prog 10 Tryz.f209 = S209 := by kernel_rfl
theorem k209 [Sig] (w0 : World) : SOK cW w0 209 S209 := okW Tryz.func209 (by kernel_rfl) e209
noncomputable def S211 (call : CallF) (N : Nat) (l : List NV) (h : H) : R :=
 uc l fun v0 l1 => uc l1 fun v2 l3 => un l3 (
 mK (boxM false v0 h) fun v4 h5 =>
 bK (ldO 1 false h5 v2) fun v6 =>
 bK (ldO 4 true h5 v4) fun v7 =>
 mK (calV call v6 [v7] h5) fun v8 h9 =>
 bK (notO v8) fun v10 =>
 retC v10 h9)
theorem e211 : ikB Tryz.prog 10 Tryz.f211 = S211 := by kernel_rfl
theorem k211 [Sig] (w0 : World) : SOK cW w0 211 S211 := okW Tryz.func211 (by kernel_rfl) e211
noncomputable def S212 (call : CallF) (N : Nat) (l : List NV) (h : H) : R :=
 uc l fun v0 l1 => uc l1 fun v2 l3 => un l3 (
 mK (boxM false v0 h) fun v4 h5 =>
 bK (ldO 1 false h5 v2) fun v6 =>
 bK (ldO 3 true h5 v4) fun v7 =>
 mK (calV call v6 [v7] h5) fun v8 h9 =>
 bK (notO v8) fun v10 =>
 retC v10 h9)
theorem e212 : ikB Tryz.prog 10 Tryz.f212 = S212 := by kernel_rfl
theorem k212 [Sig] (w0 : World) : SOK cW w0 212 S212 := okW Tryz.func212 (by kernel_rfl) e212
noncomputable def S214 (call : CallF) (N : Nat) (l : List NV) (h : H) : R :=
 uc l fun v0 l1 => uc l1 fun v2 l3 => un l3 (
 mK (boxM false v0 h) fun v4 h5 =>
 bK (ldO 1 false h5 v2) fun v6 =>
 bK (ldO 3 true h5 v4) fun v7 =>
 mK (calV call v6 [v7] h5) fun v8 h9 =>
 bK (notO v8) fun v10 =>
 retC v10 h9)
theorem e214 : ikB Tryz.prog 10 Tryz.f214 = S214 := by kernel_rfl
theorem k214 [Sig] (w0 : World) : SOK cW w0 214 S214 := okW Tryz.func214 (by kernel_rfl) e214
noncomputable def S213 (call : CallF) (N : Nat) (l : List NV) (h : H) : R :=
 uc l fun v0 l1 => uc l1 fun v2 l3 => un l3 (
 mK (calM call 282 [v0, v2] h) fun v4 h5 =>
 bK (geI v4 (NV.int .i64 (.ofNat 0))) fun v6 =>
 retC v6 h5)
theorem e213 : ikB Tryz.prog 10 Tryz.f213 = S213 := by kernel_rfl
theorem k213 [Sig] (w0 : World) : SOK cW w0 213 S213 := okW Tryz.func213 (by kernel_rfl) e213
noncomputable def S215 (call : CallF) (N : Nat) (l : List NV) (h : H) : R :=
 uc l fun v0 l1 => uc l1 fun v2 l3 => un l3 (
 mK (calM call 283 [v0, v2] h) fun v4 h5 =>
 bK (geI v4 (NV.int .i64 (.ofNat 0))) fun v6 =>
 retC v6 h5)
theorem e215 : ikB Tryz.prog 10 Tryz.f215 = S215 := by kernel_rfl
theorem k215 [Sig] (w0 : World) : SOK cW w0 215 S215 := okW Tryz.func215 (by kernel_rfl) e215
noncomputable def S218 (call : CallF) (N : Nat) (l : List NV) (h : H) : R :=
 uc l fun v0 l1 => uc l1 fun v2 l3 => un l3 (
 mK (boxM false v0 h) fun v4 h5 =>
 bK (ldO 1 false h5 v2) fun v6 =>
 bK (ldO 5 true h5 v4) fun v7 =>
 mK (calV call v6 [v7] h5) fun v8 h9 =>
 bK (notO v8) fun v10 =>
 retC v10 h9)
theorem e218 : ikB Tryz.prog 10 Tryz.f218 = S218 := by kernel_rfl
theorem k218 [Sig] (w0 : World) : SOK cW w0 218 S218 := okW Tryz.func218 (by kernel_rfl) e218
noncomputable def S217 (call : CallF) (N : Nat) (l : List NV) (h : H) : R :=
 uc l fun v0 l1 => uc l1 fun v2 l3 => un l3 (
 mK (calM call 284 [v0, v2] h) fun v4 h5 =>
 bK (geI v4 (NV.int .i64 (.ofNat 0))) fun v6 =>
 retC v6 h5)
theorem e217 : ikB Tryz.prog 10 Tryz.f217 = S217 := by kernel_rfl
theorem k217 [Sig] (w0 : World) : SOK cW w0 217 S217 := okW Tryz.func217 (by kernel_rfl) e217
noncomputable def S220 (call : CallF) (N : Nat) (l : List NV) (h : H) : R :=
 uc l fun v0 l1 => uc l1 fun v2 l3 => un l3 (
 mK (boxM false v0 h) fun v4 h5 =>
 bK (ldO 1 false h5 v2) fun v6 =>
 bK (ldO 4 true h5 v4) fun v7 =>
 mK (calV call v6 [v7] h5) fun v8 h9 =>
 bK (notO v8) fun v10 =>
 retC v10 h9)
theorem e220 : ikB Tryz.prog 10 Tryz.f220 = S220 := by kernel_rfl
theorem k220 [Sig] (w0 : World) : SOK cW w0 220 S220 := okW Tryz.func220 (by kernel_rfl) e220
noncomputable def S219 (call : CallF) (N : Nat) (l : List NV) (h : H) : R :=
 uc l fun v0 l1 => uc l1 fun v2 l3 => un l3 (
 mK (calM call 285 [v0, v2] h) fun v4 h5 =>
 bK (geI v4 (NV.int .i64 (.ofNat 0))) fun v6 =>
 retC v6 h5)
theorem e219 : ikB Tryz.prog 10 Tryz.f219 = S219 := by kernel_rfl
theorem k219 [Sig] (w0 : World) : SOK cW w0 219 S219 := okW Tryz.func219 (by kernel_rfl) e219
noncomputable def S158 (call : CallF) (N : Nat) (l : List NV) (h : H) : R :=
 uc l fun v0 l1 => uc l1 fun v2 l3 => un l3 (
 mK (boxM false v0 h) fun v4 h5 =>
 bK (fAddr 0 v4) fun v6 =>
 bK (ldO 1 false h5 v6) fun v7 =>
 bK (leI v7 v2) fun v8 =>
 jK (fun v9 h10 =>
 jK (fun v12 h13 =>
 jK (fun v15 h16 =>
 jK (fun v18 h19 =>
 jK (fun v21 h22 =>
 jK (fun v24 h25 =>
 jK (fun v27 h28 =>
 jK (fun v30 h31 =>
 jK (fun v33 h34 =>
 jK (fun v36 h37 =>
 jK (fun v39 h40 =>
 jK (fun v42 h43 =>
 jK (fun v45 h46 =>
 jK (fun v48 h49 =>
 jK (fun v51 h52 =>
 jK (fun v54 h55 =>
 bK (pickO v8 v54 (NV.bool false)) fun v57 =>
 retC v57 h55) fun J56 => gK v8 true (
 bK (pickO v18 (NV.bool true) v51) fun v58 =>
 J56 v58 h52) (J56 (NV.tuple []) h52)) fun J53 => gK v18 false (
 bK (pickO v33 v48 (NV.bool false)) fun v59 =>
 J53 v59 h49) (J53 (NV.tuple []) h49)) fun J50 => gK v33 true (
 bK (leI v39 v45) fun v60 =>
 J50 v60 h46) (J50 (NV.tuple []) h46)) fun J47 => gK v33 true (
 bK (ldO 1 false h43 v42) fun v61 =>
 J47 v61 h43) (J47 (NV.tuple []) h43)) fun J44 => gK v33 true (
 bK (fAddr 1 v4) fun v62 =>
 J44 v62 h40) (J44 (NV.tuple []) h40)) fun J41 => gK v33 true (
 bK (ldO 1 false h37 v36) fun v63 =>
 J41 v63 h37) (J41 (NV.tuple []) h37)) fun J38 => gK v33 true (
 bK (fAddr 0 v4) fun v64 =>
 J38 v64 h34) (J38 (NV.tuple []) h34)) fun J35 => gK v18 false (
 J35 v30 h31) (J35 (NV.tuple []) h31)) fun J32 => gK v18 false (
 bK (leI v24 v27) fun v65 =>
 J32 v65 h28) (J32 (NV.tuple []) h28)) fun J29 => gK v18 false (
 J29 v2 h25) (J29 (NV.tuple []) h25)) fun J26 => gK v18 false (
 bK (ldO 1 false h22 v21) fun v66 =>
 J26 v66 h22) (J26 (NV.tuple []) h22)) fun J23 => gK v18 false (
 bK (fAddr 1 v4) fun v67 =>
 J23 v67 h19) (J23 (NV.tuple []) h19)) fun J20 => gK v8 true (
 J20 v15 h16) (J20 (NV.tuple []) h16)) fun J17 => gK v8 true (
 bK (notO v12) fun v68 =>
 J17 v68 h13) (J17 (NV.tuple []) h13)) fun J14 => gK v8 true (
 bK (ldO 1 false h10 v9) fun v69 =>
 J14 v69 h10) (J14 (NV.tuple []) h10)) fun J11 => gK v8 true (
 bK (fAddr 2 v4) fun v70 =>
 J11 v70 h5) (J11 (NV.tuple []) h5))
theorem e158 : ikB Tryz.prog 10 Tryz.f158 = S158 := by kernel_rfl
theorem k158 [Sig] (w0 : World) : SOK cW w0 158 S158 := okW Tryz.func158 (by kernel_rfl) e158
noncomputable def S223 (call : CallF) (N : Nat) (l : List NV) (h : H) : R :=
 uc l fun v0 l1 => uc l1 fun v2 l3 => un l3 (
 bK (lenSl v0) fun v4 =>
 joinC 0 (fun h5 =>
 retC (NV.int .i64 (.negSucc 0)) h5) fun J6 =>
 loopC N 4 (fun L12 v7 v8 v9 v10 h11 =>
 bK (ltI v10 v9) fun v13 =>
 condK v13 (
 bK (ixS 4 v7 v10) fun v14 =>
 bK (ldO 4 true h11 v14) fun v15 =>
 mK (calV call v8 [v15] h11) fun v16 h17 =>
 condK v16 (
 retC v10 h17) (
 bK (addI v10 (NV.int .i64 (.ofNat 1))) fun v18 =>
 L12 v7 v8 v9 v18 h17)) (
 J6 h11)) v0 v2 v4 (NV.int .i64 (.ofNat 0)) h)
theorem e223 : ikB Tryz.prog 10 Tryz.f223 = S223 := by kernel_rfl
theorem k223 [Sig] (w0 : World) : SOK cW w0 223 S223 := okW Tryz.func223 (by kernel_rfl) e223
noncomputable def S224 (call : CallF) (N : Nat) (l : List NV) (h : H) : R :=
 uc l fun v0 l1 => uc l1 fun v2 l3 => un l3 (
 bK (lenSl v0) fun v4 =>
 joinC 0 (fun h5 =>
 retC (NV.int .i64 (.negSucc 0)) h5) fun J6 =>
 loopC N 4 (fun L12 v7 v8 v9 v10 h11 =>
 bK (ltI v10 v9) fun v13 =>
 condK v13 (
 bK (ixS 3 v7 v10) fun v14 =>
 bK (ldO 3 true h11 v14) fun v15 =>
 mK (calV call v8 [v15] h11) fun v16 h17 =>
 condK v16 (
 retC v10 h17) (
 bK (addI v10 (NV.int .i64 (.ofNat 1))) fun v18 =>
 L12 v7 v8 v9 v18 h17)) (
 J6 h11)) v0 v2 v4 (NV.int .i64 (.ofNat 0)) h)
theorem e224 : ikB Tryz.prog 10 Tryz.f224 = S224 := by kernel_rfl
theorem k224 [Sig] (w0 : World) : SOK cW w0 224 S224 := okW Tryz.func224 (by kernel_rfl) e224
noncomputable def S225 (call : CallF) (N : Nat) (l : List NV) (h : H) : R :=
 uc l fun v0 l1 => un l1 (
 bK (lenSl v0) fun v2 =>
 joinC 2 (fun v3 v4 h5 =>
 mK (calM call 286 [NV.nslice, v4] h5) fun v7 h8 =>
 bK (lenSl v3) fun v9 =>
 joinC 1 (fun v10 h11 =>
 retC v10 h11) fun J12 =>
 loopC N 4 (fun L18 v13 v14 v15 v16 h17 =>
 bK (ltI v16 v15) fun v19 =>
 condK v19 (
 bK (ixS 1 v14 v16) fun v20 =>
 bK (ldO 1 false h17 v20) fun v21 =>
 mK (appM Tryz.prog 3 v13 v21 h17) fun v22 h23 =>
 bK (addI v16 (NV.int .i64 (.ofNat 1))) fun v24 =>
 L18 v22 v14 v15 v24 h23) (
 J12 v13 h17)) v7 v3 v9 (NV.int .i64 (.ofNat 0)) h8) fun J6 =>
 loopC N 5 (fun L31 v25 v26 v27 v28 v29 h30 =>
 bK (ltI v29 v28) fun v32 =>
 condK v32 (
 bK (ixS 1 v27 v29) fun v33 =>
 bK (ldO 1 false h30 v33) fun v34 =>
 bK (lenSl v34) fun v35 =>
 bK (addI v26 v35) fun v36 =>
 bK (ltI v36 (NV.int .i64 (.ofNat 0))) fun v37 =>
 joinC 5 (fun v38 v39 v40 v41 v42 h43 =>
 bK (addI v42 (NV.int .i64 (.ofNat 1))) fun v45 =>
 L31 v38 v39 v40 v41 v45 h43) fun J44 =>
 condK v37 (
 none /- panic -/) (
 J44 v25 v36 v27 v28 v29 h30)) (
 J6 v25 v26 h30)) v0 (NV.int .i64 (.ofNat 0)) v0 v2 (NV.int .i64 (.ofNat 0)) h)
theorem e225 : ikB Tryz.prog 10 Tryz.f225 = S225 := by kernel_rfl
theorem k225 [Sig] (w0 : World) : SOK cW w0 225 S225 := okW Tryz.func225 (by kernel_rfl) e225
noncomputable def S226 (call : CallF) (N : Nat) (l : List NV) (h : H) : R :=
 uc l fun v0 l1 => uc l1 fun v2 l3 => uc l3 fun v4 l5 => uc l5 fun v6 l7 => uc l7 fun v8 l9 => un l9 (
 bK (nilO v0) fun v10 =>
 bK (fAddr 4 v10) fun v11 =>
 bK (ldO 1 false h (chkV h v11)) fun v12 =>
 bK (nilO v0) fun v13 =>
 bK (fAddr 5 v13) fun v14 =>
 bK (ldO 1 false h (chkV h v14)) fun v15 =>
 mK (calM call 89 [v2] h) fun v16 h17 =>
 bK (nilO v0) fun v18 =>
 bK (fAddr 4 v18) fun v19 =>
 mK (stM 1 v19 v16 h17) fun v20 h21 =>
 bK (nilO v0) fun v22 =>
 bK (fAddr 5 v22) fun v23 =>
 mK (stM 1 v23 (NV.bool false) h21) fun v24 h25 =>
 bK (nilO v0) fun v26 =>
 bK (fAddr 3 v26) fun v27 =>
 bK (ldO 1 false h25 v27) fun v28 =>
 mK (bslM 1 false [(0, 1)] [NV.nslice] [v6] h25) fun v29 h30 =>
 mK (appM Tryz.prog 25 v28 v29 h30) fun v31 h32 =>
 bK (nilO v0) fun v33 =>
 bK (fAddr 3 v33) fun v34 =>
 mK (stM 1 v34 v31 h32) fun v35 h36 =>
 bK (lenSl v8) fun v37 =>
 joinC 4 (fun v38 v39 v40 v41 h42 =>
 mK (calM call 288 [v38, v39] h42) fun v44 h45 =>
 bK (nilO v38) fun v46 =>
 bK (fAddr 4 v46) fun v47 =>
 bK (ldO 1 false h45 v47) fun v48 =>
 bK (lenSl v48) fun v49 =>
 bK (eqI v49 (NV.int .i64 (.ofNat 0))) fun v50 =>
 mK (calM call 289 [v38, v50] h45) fun v51 h52 =>
 bK (nilO v38) fun v53 =>
 bK (fAddr 3 v53) fun v54 =>
 bK (ldO 1 false h52 (chkV h52 v54)) fun v55 =>
 bK (nilO v38) fun v56 =>
 bK (fAddr 3 v56) fun v57 =>
 bK (ldO 1 false h52 (chkV h52 v57)) fun v58 =>
 bK (lenSl v58) fun v59 =>
 bK (subI v59 (NV.int .i64 (.ofNat 1))) fun v60 =>
 bK (slcO Tryz.prog 143 h52 (chkV h52 v55) none (some (chkV h52 v60)) none) fun v61 =>
 bK (nilO v38) fun v62 =>
 bK (fAddr 3 v62) fun v63 =>
 mK (stM 1 (chkV h52 v63) (chkV h52 v61) h52) fun v64 h65 =>
 nextK h52 h65 (
 bK (nilO v38) fun v66 =>
 bK (fAddr 4 v66) fun v67 =>
 mK (stM 1 v67 v40 h65) fun v68 h69 =>
 bK (nilO v38) fun v70 =>
 bK (fAddr 5 v70) fun v71 =>
 mK (stM 1 v71 v41 h69) fun v72 h73 =>
 retC (NV.tuple []) h73)) fun J43 =>
 loopC N 7 (fun L82 v74 v75 v76 v77 v78 v79 v80 h81 =>
 bK (ltI v80 v79) fun v83 =>
 condK v83 (
 bK (ixS 9 v78 v80) fun v84 =>
 bK (ldO 9 true h81 v84) fun v85 =>
 mK (alM (NB.cells [(NV.int .i64 (.ofNat 0)), (NV.int .i64 (.ofNat 0)), (NV.int .i64 (.ofNat 0)), (NV.int .u64 (.ofNat 0)), (NV.int .u64 (.ofNat 0)), NV.nslice, NV.nslice, NV.nslice, (NV.bool false)]) h81) fun v86 h87 =>
 mK (stM 9 v86 v85 h87) fun v88 h89 =>
 bK (nilO v74) fun v90 =>
 bK (fAddr 6 v90) fun v91 =>
 bK (ldO 1 false h89 v91) fun v92 =>
 joinC 7 (fun v93 v94 v95 v96 v97 v98 v99 h100 =>
 bK (addI v99 (NV.int .i64 (.ofNat 1))) fun v102 =>
 L82 v93 v94 v95 v96 v97 v98 v102 h100) fun J101 =>
 condK v92 (
 bK (ldO 9 true h89 v86) fun v103 =>
 mK (calM call 287 [v74, v103] h89) fun v104 h105 =>
 J101 v74 v75 v76 v77 v78 v79 v80 h105) (
 J101 v74 v75 v76 v77 v78 v79 v80 h89)) (
 J43 v74 v75 v76 v77 h81)) v0 v4 v12 v15 v8 v37 (NV.int .i64 (.ofNat 0)) h36)
theorem e226 : ikB Tryz.prog 10 Tryz.f226 = S226 := by kernel_rfl
theorem k226 [Sig] (w0 : World) : SOK cW w0 226 S226 := okW Tryz.func226 (by kernel_rfl) e226
noncomputable def S228 (call : CallF) (N : Nat) (l : List NV) (h : H) : R :=
 uc l fun v0 l1 => uc l1 fun v2 l3 => un l3 (
 mK (boxM false v0 h) fun v4 h5 =>
 mK (boxM false v2 h5) fun v6 h7 =>
 bK (fAddr 1 v6) fun v8 =>
 bK (ldO 1 false h7 (chkV h7 v8)) fun v9 =>
 bK (foldMM false v9 [(NV.int .i64 (.ofNat 1))]) fun v10 =>
 bK (fAddr 1 v6) fun v11 =>
 bK (ldO 1 false h7 v11) fun v12 =>
 bK (eqI v12 (NV.int .i64 (.ofNat 2))) fun v13 =>
 joinC 4 (fun v14 v15 v16 v17 h18 =>
 bK (fAddr 0 v15) fun v20 =>
 bK (ldO 1 false h18 v20) fun v21 =>
 bK (eqI v21 (NV.int .i64 (.ofNat 4))) fun v22 =>
 joinC 5 (fun v23 v24 v25 v26 v27 h28 =>
 bK (ldO 1 false h28 v23) fun v30 =>
 bK (nilO v30) fun v31 =>
 bK (fAddr 14 v31) fun v32 =>
 bK (ldO 1 false h28 v32) fun v33 =>
 bK (subI v33 v25) fun v34 =>
 bK (bldO [(0, 1), (1, 1), (2, 1)] [(NV.int .i64 (.ofNat 0)), (NV.int .i64 (.ofNat 0)), (NV.int .i64 (.ofNat 0)), NV.nslice] [v26, v34, (NV.int .i64 (.negSucc 0))]) fun v35 =>
 mK (boxM false v35 h28) fun v36 h37 =>
 bK (fAddr 0 v24) fun v38 =>
 bK (ldO 1 false h37 v38) fun v39 =>
 bK (eqI v39 (NV.int .i64 (.ofNat 3))) fun v40 =>
 joinC 7 (fun v41 v42 v43 v44 v45 v46 v47 h48 =>
 bK (ldO 1 false h48 (chkV h48 v41)) fun v50 =>
 bK (ldO 1 false h48 (chkV h48 v41)) fun v51 =>
 bK (nilO v51) fun v52 =>
 bK (fAddr 13 v52) fun v53 =>
 bK (ldO 1 false h48 (chkV h48 v53)) fun v54 =>
 mK (bslM 1 false [(0, 1)] [NV.nilptr] [(chkV h48 v47)] h48) fun v55 h56 =>
 mK (appM Tryz.prog 221 (chkV h56 v54) (chkV h56 v55) h56) fun v57 h58 =>
 nextK h56 h58 (
 bK (nilO v50) fun v59 =>
 bK (fAddr 13 v59) fun v60 =>
 bK (ldO 1 false h58 (chkV h58 v41)) fun v61 =>
 sameK v61 v50 (
 mK (stM 1 (chkV h58 v60) (chkV h58 v57) h58) fun v62 h63 =>
 nextK h58 h63 (
 bK (ldO 1 false h63 v41) fun v64 =>
 bK (fAddr 6 v42) fun v65 =>
 bK (ldO 1 false h63 v65) fun v66 =>
 mK (calM call 87 [v64, v66] h63) fun v67 h68 =>
 bK (fAddr 8 v42) fun v69 =>
 bK (ldO 1 false h68 v69) fun v70 =>
 joinC 4 (fun v71 v72 v73 v74 h75 =>
 bK (ldO 1 false h75 (chkV h75 v71)) fun v77 =>
 bK (ldO 1 false h75 (chkV h75 v71)) fun v78 =>
 bK (nilO v78) fun v79 =>
 bK (fAddr 13 v79) fun v80 =>
 bK (ldO 1 false h75 (chkV h75 v80)) fun v81 =>
 bK (ldO 1 false h75 (chkV h75 v71)) fun v82 =>
 bK (nilO v82) fun v83 =>
 bK (fAddr 13 v83) fun v84 =>
 bK (ldO 1 false h75 (chkV h75 v84)) fun v85 =>
 bK (lenSl v85) fun v86 =>
 bK (subI v86 (NV.int .i64 (.ofNat 1))) fun v87 =>
 bK (slcO Tryz.prog 218 h75 (chkV h75 v81) none (some (chkV h75 v87)) none) fun v88 =>
 bK (nilO v77) fun v89 =>
 bK (fAddr 13 v89) fun v90 =>
 mK (stM 1 (chkV h75 v90) (chkV h75 v88) h75) fun v91 h92 =>
 nextK h75 h92 (
 bK (nilO v74) fun v93 =>
 bK (fAddr 2 v93) fun v94 =>
 bK (ldO 1 false h92 v94) fun v95 =>
 bK (ltI v95 (NV.int .i64 (.ofNat 0))) fun v96 =>
 joinC 3 (fun v97 v98 v99 h100 =>
 bK (ldO 1 false h100 (chkV h100 v97)) fun v102 =>
 bK (ldO 1 false h100 (chkV h100 v97)) fun v103 =>
 bK (addI v99 v98) fun v104 =>
 bK (nilO v102) fun v105 =>
 bK (fAddr 14 v105) fun v106 =>
 mK (stM 1 (chkV h100 v106) (chkV h100 v104) h100) fun v107 h108 =>
 nextK h100 h108 (
 bK (nilO v103) fun v109 =>
 bK (fAddr 16 v109) fun v110 =>
 bK (ldO 1 false h108 (chkV h108 v97)) fun v111 =>
 sameK v111 v103 (
 mK (stM 1 (chkV h108 v110) (NV.bool false) h108) fun v112 h113 =>
 nextK h108 h113 (
 retC (NV.tuple []) h113)))) fun J101 =>
 condK v96 (
 bK (ldO 1 false h92 v71) fun v114 =>
 bK (nilO v114) fun v115 =>
 bK (fAddr 12 v115) fun v116 =>
 bK (ldO 1 false h92 v116) fun v117 =>
 bK (lenSl v117) fun v118 =>
 mK (calM call 88 [v74, v118] h92) fun v119 h120 =>
 J101 v71 v72 v73 h120) (
 J101 v71 v72 v73 h92))) fun J76 =>
 condK v70 (
 bK (ldO 1 false h68 v41) fun v121 =>
 bK (nilO v121) fun v122 =>
 bK (fAddr 16 v122) fun v123 =>
 bK (ldO 1 false h68 v123) fun v124 =>
 bK (notO v124) fun v125 =>
 joinC 7 (fun v126 v127 v128 v129 v130 v131 v132 h133 =>
 bK (ldO 1 false h133 (chkV h133 v126)) fun v135 =>
 bK (nilO v135) fun v136 =>
 bK (fAddr 12 v136) fun v137 =>
 bK (ldO 1 false h133 (chkV h133 v137)) fun v138 =>
 bK (ldO 1 false h133 (chkV h133 v126)) fun v139 =>
 bK (nilO v139) fun v140 =>
 bK (fAddr 12 v140) fun v141 =>
 bK (ldO 1 false h133 (chkV h133 v141)) fun v142 =>
 bK (lenSl v142) fun v143 =>
 bK (ixS 11 v138 v130) fun v144 =>
 bK (fAddr 6 v144) fun v145 =>
 bK (fAddr 0 v145) fun v146 =>
 mK (stM 1 (chkV h133 v146) (chkV h133 v143) h133) fun v147 h148 =>
 nextK h133 h148 (
 bK (ldO 1 false h148 v126) fun v149 =>
 bK (addI v131 v128) fun v150 =>
 bK (nilO v149) fun v151 =>
 bK (fAddr 14 v151) fun v152 =>
 mK (stM 1 v152 v150 h148) fun v153 h154 =>
 bK (ldO 1 false h154 v126) fun v155 =>
 bK (fAddr 7 v127) fun v156 =>
 bK (ldO 1 false h154 v156) fun v157 =>
 mK (calM call 87 [v155, v157] h154) fun v158 h159 =>
 J76 v126 v129 v131 v132 h159)) fun J134 =>
 condK v125 (
 bK (ldO 1 false h68 v41) fun v160 =>
 bK (bldO [(0, 1), (10, 1)] [(NV.int .i64 (.ofNat 0)), (NV.int .i64 (.ofNat 0)), (NV.int .i64 (.ofNat 0)), (NV.int .u64 (.ofNat 0)), (NV.int .u64 (.ofNat 0)), NV.nslice, (NV.int .i64 (.ofNat 0)), (NV.int .i64 (.ofNat 0)), (NV.int .i64 (.ofNat 0)), NV.nslice, (NV.bool false)] [(NV.int .i64 (.ofNat 65536)), (NV.bool true)]) fun v161 =>
 mK (calM call 229 [v160, v161] h68) fun v162 h163 =>
 mK (alM (NB.cells [(NV.int .i64 (.ofNat 0))]) h163) fun v164 h165 =>
 mK (stM 1 v164 v162 h165) fun v166 h167 =>
 bK (nilO v47) fun v168 =>
 bK (fAddr 3 v168) fun v169 =>
 bK (ldO 1 false h167 v169) fun v170 =>
 mK (bslM 1 false [(0, 1)] [NV.nilFunc] [(NV.func (.func 290) [] [v41, v164])] h167) fun v171 h172 =>
 mK (appM Tryz.prog 168 v170 v171 h172) fun v173 h174 =>
 bK (nilO v47) fun v175 =>
 bK (fAddr 3 v175) fun v176 =>
 mK (stM 1 v176 v173 h174) fun v177 h178 =>
 J134 v41 v42 v43 v44 v45 v46 v47 h178) (
 J134 v41 v42 v43 v44 v45 v46 v47 h68)) (
 bK (geI v45 (NV.int .i64 (.ofNat 0))) fun v179 =>
 condK v179 (
 bK (ldO 1 false h68 (chkV h68 v41)) fun v180 =>
 bK (nilO v180) fun v181 =>
 bK (fAddr 12 v181) fun v182 =>
 bK (ldO 1 false h68 (chkV h68 v182)) fun v183 =>
 bK (ldO 1 false h68 (chkV h68 v41)) fun v184 =>
 bK (nilO v184) fun v185 =>
 bK (fAddr 12 v185) fun v186 =>
 bK (ldO 1 false h68 (chkV h68 v186)) fun v187 =>
 bK (lenSl v187) fun v188 =>
 bK (ixS 11 v183 v45) fun v189 =>
 bK (fAddr 6 v189) fun v190 =>
 bK (fAddr 0 v190) fun v191 =>
 mK (stM 1 (chkV h68 v191) (chkV h68 v188) h68) fun v192 h193 =>
 nextK h68 h193 (
 J76 v41 v44 v46 v47 h193)) (
 J76 v41 v44 v46 v47 h68)))))) fun J49 =>
 condK v40 (
 bK (ldO 1 false h37 v23) fun v194 =>
 bK (nilO v194) fun v195 =>
 bK (fAddr 12 v195) fun v196 =>
 bK (ldO 1 false h37 v196) fun v197 =>
 bK (lenSl v197) fun v198 =>
 bK (nilO v36) fun v199 =>
 bK (fAddr 0 v199) fun v200 =>
 mK (stM 1 v200 v25 h37) fun v201 h202 =>
 bK (nilO v36) fun v203 =>
 bK (fAddr 2 v203) fun v204 =>
 mK (stM 1 v204 v198 h202) fun v205 h206 =>
 J49 v23 v24 v25 v26 v27 v34 v36 h206) (
 J49 v23 v24 v25 v26 v27 v34 v36 h37)) fun J29 =>
 condK v22 (
 bK (ldO 1 false h18 v14) fun v207 =>
 bK (nilO v207) fun v208 =>
 bK (fAddr 14 v208) fun v209 =>
 bK (ldO 1 false h18 v209) fun v210 =>
 bK (subI v210 (NV.int .i64 (.ofNat 1))) fun v211 =>
 bK (nilO v207) fun v212 =>
 bK (fAddr 14 v212) fun v213 =>
 mK (stM 1 v213 v211 h18) fun v214 h215 =>
 bK (ldO 1 false h215 v14) fun v216 =>
 bK (bldO [(0, 1)] [(NV.int .i64 (.ofNat 0)), (NV.int .i64 (.ofNat 0)), (NV.int .i64 (.ofNat 0)), (NV.int .u64 (.ofNat 0)), (NV.int .u64 (.ofNat 0)), NV.nslice, (NV.int .i64 (.ofNat 0)), (NV.int .i64 (.ofNat 0)), (NV.int .i64 (.ofNat 0)), NV.nslice, (NV.bool false)] [(NV.int .i64 (.ofNat 65538))]) fun v217 =>
 mK (calM call 229 [v216, v217] h215) fun v218 h219 =>
 J29 v14 v15 v16 v17 v218 h219) (
 J29 v14 v15 v16 v17 (NV.int .i64 (.negSucc 0)) h18)) fun J19 =>
 condK v13 (
 bK (ldO 1 false h7 (chkV h7 v4)) fun v220 =>
 bK (nilO v220) fun v221 =>
 bK (fAddr 0 v221) fun v222 =>
 bK (fAddr 0 v222) fun v223 =>
 bK (ldO 1 false h7 (chkV h7 v223)) fun v224 =>
 bK (fAddr 2 v6) fun v225 =>
 bK (ldO 1 false h7 (chkV h7 v225)) fun v226 =>
 bK (ixS 2 v224 v226) fun v227 =>
 bK (fAddr 0 v227) fun v228 =>
 bK (ldO 1 false h7 (chkV h7 v228)) fun v229 =>
 bK (lenSl v229) fun v230 =>
 bK (ldO 1 false h7 (chkV h7 v4)) fun v231 =>
 bK (nilO v231) fun v232 =>
 bK (fAddr 0 v232) fun v233 =>
 bK (fAddr 0 v233) fun v234 =>
 bK (ldO 1 false h7 (chkV h7 v234)) fun v235 =>
 bK (fAddr 2 v6) fun v236 =>
 bK (ldO 1 false h7 (chkV h7 v236)) fun v237 =>
 bK (ixS 2 v235 v237) fun v238 =>
 bK (fAddr 1 v238) fun v239 =>
 bK (ldO 1 false h7 (chkV h7 v239)) fun v240 =>
 bK (lenSl v240) fun v241 =>
 J19 v4 v6 v230 v241 h7) (
 J19 v4 v6 (NV.int .i64 (.ofNat 0)) v10 h7))
theorem e228 : ikB Tryz.prog 10 Tryz.f228 = S228 := by kernel_rfl
theorem k228 [Sig] (w0 : World) : SOK cW w0 228 S228 := okW Tryz.func228 (by kernel_rfl) e228
noncomputable def S230 (call : CallF) (N : Nat) (l : List NV) (h : H) : R :=
 uc l fun v0 l1 => uc l1 fun v2 l3 => uc l3 fun v4 l5 => un l5 (
 mK (alM (NB.cells [(NV.int .i64 (.ofNat 0)), (NV.int .i64 (.ofNat 0)), (NV.int .i64 (.ofNat 0))]) h) fun v6 h7 =>
 bK (nilO v0) fun v8 =>
 bK (fAddr 13 v8) fun v9 =>
 bK (ldO 1 false h7 (chkV h7 v9)) fun v10 =>
 bK (nilO v0) fun v11 =>
 bK (fAddr 13 v11) fun v12 =>
 bK (ldO 1 false h7 (chkV h7 v12)) fun v13 =>
 bK (lenSl v13) fun v14 =>
 bK (subI v14 (NV.int .i64 (.ofNat 1))) fun v15 =>
 bK (subI v15 v2) fun v16 =>
 bK (ixS 1 v10 v16) fun v17 =>
 bK (ldO 1 false h7 (chkV h7 v17)) fun v18 =>
 bK (nilO v18) fun v19 =>
 bK (fAddr 2 v19) fun v20 =>
 bK (ldO 1 false h7 v20) fun v21 =>
 bK (ltI v21 (NV.int .i64 (.ofNat 0))) fun v22 =>
 joinC 3 (fun v23 v24 v25 h26 =>
 bK (nilO v25) fun v28 =>
 bK (fAddr 2 v28) fun v29 =>
 bK (ldO 1 false h26 (chkV h26 v29)) fun v30 =>
 bK (foldMM true v30 [(NV.int .i64 (.ofNat 0))]) fun v31 =>
 bK (nilO v25) fun v32 =>
 bK (fAddr 0 v32) fun v33 =>
 bK (ldO 1 false h26 (chkV h26 v33)) fun v34 =>
 bK (nilO v23) fun v35 =>
 bK (fAddr 14 v35) fun v36 =>
 bK (ldO 1 false h26 (chkV h26 v36)) fun v37 =>
 bK (nilO v25) fun v38 =>
 bK (fAddr 0 v38) fun v39 =>
 bK (ldO 1 false h26 (chkV h26 v39)) fun v40 =>
 bK (subI v37 v40) fun v41 =>
 bK (nilO v25) fun v42 =>
 bK (fAddr 1 v42) fun v43 =>
 bK (ldO 1 false h26 (chkV h26 v43)) fun v44 =>
 bK (subI v41 v44) fun v45 =>
 bK (bldO [(0, 1), (1, 1), (2, 1)] [(NV.int .i64 (.ofNat 0)), (NV.int .i64 (.ofNat 0)), (NV.int .i64 (.ofNat 0))] [v31, v34, v45]) fun v46 =>
 mK (stM 3 (chkV h26 v24) (chkV h26 v46) h26) fun v47 h48 =>
 nextK h26 h48 (
 bK (ldB 3 true h48 v24) fun v49 =>
 retC v49 h48)) fun J27 =>
 condK v22 (
 bK (nilO v18) fun v50 =>
 bK (fAddr 3 v50) fun v51 =>
 bK (ldO 1 false h7 v51) fun v52 =>
 mK (bslM 1 false [(0, 1)] [NV.nilFunc] [v4] h7) fun v53 h54 =>
 mK (appM Tryz.prog 168 v52 v53 h54) fun v55 h56 =>
 bK (nilO v18) fun v57 =>
 bK (fAddr 3 v57) fun v58 =>
 mK (stM 1 v58 v55 h56) fun v59 h60 =>
 J27 v0 v6 v18 h60) (
 J27 v0 v6 v18 h7))
theorem e230 : ikB Tryz.prog 10 Tryz.f230 = S230 := by kernel_rfl
theorem k230 [Sig] (w0 : World) : SOK cW w0 230 S230 := okW Tryz.func230 (by kernel_rfl) e230
noncomputable def S229 (call : CallF) (N : Nat) (l : List NV) (h : H) : R :=
 uc l fun v0 l1 => uc l1 fun v2 l3 => un l3 (
 mK (boxM false v2 h) fun v4 h5 =>
 bK (nilO v0) fun v6 =>
 bK (fAddr 12 v6) fun v7 =>
 bK (ldO 1 false h5 (chkV h5 v7)) fun v8 =>
 bK (ldO 11 true h5 (chkV h5 v4)) fun v9 =>
 mK (bslM 1 false [(0, 11)] [(NV.int .i64 (.ofNat 0)), (NV.int .i64 (.ofNat 0)), (NV.int .i64 (.ofNat 0)), (NV.int .u64 (.ofNat 0)), (NV.int .u64 (.ofNat 0)), NV.nslice, (NV.int .i64 (.ofNat 0)), (NV.int .i64 (.ofNat 0)), (NV.int .i64 (.ofNat 0)), NV.nslice, (NV.bool false)] [(chkV h5 v9)] h5) fun v10 h11 =>
 mK (appM Tryz.prog 165 (chkV h11 v8) (chkV h11 v10) h11) fun v12 h13 =>
 nextK h11 h13 (
 bK (nilO v0) fun v14 =>
 bK (fAddr 12 v14) fun v15 =>
 mK (stM 1 (chkV h13 v15) (chkV h13 v12) h13) fun v16 h17 =>
 nextK h13 h17 (
 bK (nilO v0) fun v18 =>
 bK (fAddr 12 v18) fun v19 =>
 bK (ldO 1 false h17 v19) fun v20 =>
 bK (lenSl v20) fun v21 =>
 bK (subI v21 (NV.int .i64 (.ofNat 1))) fun v22 =>
 retC v22 h17)))
theorem e229 : ikB Tryz.prog 10 Tryz.f229 = S229 := by kernel_rfl
theorem k229 [Sig] (w0 : World) : SOK cW w0 229 S229 := okW Tryz.func229 (by kernel_rfl) e229
noncomputable def S232 (call : CallF) (N : Nat) (l : List NV) (h : H) : R :=
 uc l fun v0 l1 => uc l1 fun v2 l3 => un l3 (
 mK (boxM false v2 h) fun v4 h5 =>
 bK (fAddr 0 v4) fun v6 =>
 bK (ldO 1 false h5 v6) fun v7 =>
 mK (calM call 56 [v7] h5) fun v8 h9 =>
 bK (extO 0 v8) fun v10 =>
 bK (extO 1 v8) fun v11 =>
 bK (extO 2 v8) fun v12 =>
 condK v12 (
 bK (lenSl v11) fun v13 =>
 bK (lenSl v10) fun v14 =>
 bK (subI v13 v14) fun v15 =>
 retC v15 h9) (
 bK (fAddr 0 v4) fun v16 =>
 bK (ldO 1 false h9 v16) fun v17 =>
 bK (eqI v17 (NV.int .i64 (.ofNat 16))) fun v18 =>
 condK v18 (
 bK (nilO v0) fun v19 =>
 bK (fAddr 0 v19) fun v20 =>
 bK (fAddr 0 v20) fun v21 =>
 bK (ldO 1 false h9 (chkV h9 v21)) fun v22 =>
 bK (nilO v0) fun v23 =>
 bK (fAddr 11 v23) fun v24 =>
 bK (ldO 1 false h9 (chkV h9 v24)) fun v25 =>
 bK (fAddr 1 v4) fun v26 =>
 bK (ldO 1 false h9 (chkV h9 v26)) fun v27 =>
 bK (ixS 1 v25 v27) fun v28 =>
 bK (ldO 1 false h9 (chkV h9 v28)) fun v29 =>
 bK (ixS 2 v22 v29) fun v30 =>
 bK (ldO 2 true h9 (chkV h9 v30)) fun v31 =>
 mK (calV call (chkV h9 (NV.func (.func 291) [] [])) [(chkV h9 v31)] h9) fun v32 h33 =>
 nextK h9 h33 (
 retC v32 h33)) (
 bK (eqI v17 (NV.int .i64 (.ofNat 17))) fun v34 =>
 condK v34 (
 bK (nilO v0) fun v35 =>
 bK (fAddr 0 v35) fun v36 =>
 bK (fAddr 0 v36) fun v37 =>
 bK (ldO 1 false h9 (chkV h9 v37)) fun v38 =>
 bK (fAddr 1 v4) fun v39 =>
 bK (ldO 1 false h9 (chkV h9 v39)) fun v40 =>
 bK (ixS 2 v38 v40) fun v41 =>
 bK (ldO 2 true h9 (chkV h9 v41)) fun v42 =>
 mK (calV call (chkV h9 (NV.func (.func 291) [] [])) [(chkV h9 v42)] h9) fun v43 h44 =>
 nextK h9 h44 (
 bK (subI v43 (NV.int .i64 (.ofNat 1))) fun v45 =>
 retC v45 h44)) (
 bK (eqI v17 (NV.int .i64 (.ofNat 27))) fun v46 =>
 joinC 2 (fun v47 v48 h49 =>
 condK v48 (
 retC (NV.int .i64 (.negSucc 1)) h49) (
 bK (eqI v47 (NV.int .i64 (.ofNat 26))) fun v51 =>
 joinC 2 (fun v52 v53 h54 =>
 condK v53 (
 retC (NV.int .i64 (.negSucc 0)) h54) (
 bK (eqI v52 (NV.int .i64 (.ofNat 32))) fun v56 =>
 joinC 2 (fun v57 v58 h59 =>
 condK v58 (
 retC (NV.int .i64 (.ofNat 1)) h59) (
 bK (eqI v57 (NV.int .i64 (.ofNat 64529))) fun v61 =>
 condK v61 (
 retC (NV.int .i64 (.negSucc 2)) h59) (
 retC (NV.int .i64 (.ofNat 0)) h59))) fun J60 =>
 condK v56 (
 J60 v52 v56 h54) (
 bK (eqI v52 (NV.int .i64 (.ofNat 35))) fun v62 =>
 condK v62 (
 J60 v52 v62 h54) (
 bK (eqI v52 (NV.int .i64 (.ofNat 208))) fun v63 =>
 J60 v52 v63 h54)))) fun J55 =>
 condK v51 (
 J55 v47 v51 h49) (
 bK (eqI v47 (NV.int .i64 (.ofNat 33))) fun v64 =>
 condK v64 (
 J55 v47 v64 h49) (
 bK (eqI v47 (NV.int .i64 (.ofNat 36))) fun v65 =>
 condK v65 (
 J55 v47 v65 h49) (
 bK (eqI v47 (NV.int .i64 (.ofNat 64527))) fun v66 =>
 J55 v47 v66 h49))))) fun J50 =>
 condK v46 (
 J50 v17 v46 h9) (
 bK (eqI v17 (NV.int .i64 (.ofNat 28))) fun v67 =>
 condK v67 (
 J50 v17 v67 h9) (
 bK (eqI v17 (NV.int .i64 (.ofNat 38))) fun v68 =>
 J50 v17 v68 h9))))))
theorem e232 : ikB Tryz.prog 10 Tryz.f232 = S232 := by kernel_rfl
theorem k232 [Sig] (w0 : World) : SOK cW w0 232 S232 := okW Tryz.func232 (by kernel_rfl) e232
noncomputable def S236 (call : CallF) (N : Nat) (l : List NV) (h : H) : R :=
 un l (
 mK (alM (NB.cells [(NV.str 0 0), (NV.str 0 0), (NV.str 0 0), (NV.str 0 0), (NV.str 0 0), (NV.str 0 0), (NV.str 0 0), (NV.str 0 0), (NV.str 0 0), (NV.str 0 0), (NV.str 0 0), (NV.str 0 0), (NV.str 0 0), (NV.str 0 0), (NV.str 0 0), (NV.str 0 0), (NV.str 0 0), (NV.str 0 0), (NV.str 0 0), (NV.str 0 0), (NV.str 0 0), (NV.str 0 0), (NV.str 0 0), (NV.str 0 0), (NV.str 0 0), (NV.str 0 0), (NV.str 0 0), (NV.str 0 0), (NV.str 0 0), (NV.str 0 0), (NV.str 0 0), (NV.str 0 0), (NV.str 0 0), (NV.str 0 0), (NV.str 0 0), (NV.str 0 0), (NV.str 0 0), (NV.str 0 0), (NV.str 0 0), (NV.str 0 0), (NV.str 0 0), (NV.str 0 0), (NV.str 0 0), (NV.str 0 0), (NV.str 0 0), (NV.str 0 0), (NV.str 0 0), (NV.str 0 0), (NV.str 0 0), (NV.str 0 0), (NV.str 0 0), (NV.str 0 0), (NV.str 0 0), (NV.str 0 0), (NV.str 0 0), (NV.str 0 0), (NV.str 0 0), (NV.str 0 0), (NV.str 0 0), (NV.str 0 0), (NV.str 0 0), (NV.str 0 0), (NV.str 0 0), (NV.str 0 0), (NV.str 0 0), (NV.str 0 0), (NV.str 0 0), (NV.str 0 0), (NV.str 0 0), (NV.str 0 0), (NV.str 0 0), (NV.str 0 0), (NV.str 0 0), (NV.str 0 0), (NV.str 0 0), (NV.str 0 0), (NV.str 0 0), (NV.str 0 0), (NV.str 0 0), (NV.str 0 0), (NV.str 0 0), (NV.str 0 0), (NV.str 0 0), (NV.str 0 0), (NV.str 0 0), (NV.str 0 0), (NV.str 0 0), (NV.str 0 0), (NV.str 0 0), (NV.str 0 0), (NV.str 0 0), (NV.str 0 0), (NV.str 0 0), (NV.str 0 0), (NV.str 0 0), (NV.str 0 0), (NV.str 0 0), (NV.str 0 0), (NV.str 0 0), (NV.str 0 0), (NV.str 0 0), (NV.str 0 0), (NV.str 0 0), (NV.str 0 0), (NV.str 0 0), (NV.str 0 0), (NV.str 0 0), (NV.str 0 0), (NV.str 0 0), (NV.str 0 0), (NV.str 0 0), (NV.str 0 0), (NV.str 0 0), (NV.str 0 0), (NV.str 0 0), (NV.str 0 0), (NV.str 0 0), (NV.str 0 0), (NV.str 0 0), (NV.str 0 0), (NV.str 0 0), (NV.str 0 0), (NV.str 0 0), (NV.str 0 0), (NV.str 0 0), (NV.str 0 0), (NV.str 0 0), (NV.str 0 0), (NV.str 0 0), (NV.str 0 0), (NV.str 0 0), (NV.str 0 0), (NV.str 0 0), (NV.str 0 0), (NV.str 0 0), (NV.str 0 0), (NV.str 0 0), (NV.str 0 0), (NV.str 0 0), (NV.str 0 0), (NV.str 0 0), (NV.str 0 0), (NV.str 0 0), (NV.str 0 0), (NV.str 0 0), (NV.str 0 0), (NV.str 0 0), (NV.str 0 0), (NV.str 0 0), (NV.str 0 0), (NV.str 0 0), (NV.str 0 0), (NV.str 0 0), (NV.str 0 0), (NV.str 0 0), (NV.str 0 0), (NV.str 0 0), (NV.str 0 0), (NV.str 0 0), (NV.str 0 0), (NV.str 0 0), (NV.str 0 0), (NV.str 0 0), (NV.str 0 0), (NV.str 0 0), (NV.str 0 0), (NV.str 0 0), (NV.str 0 0), (NV.str 0 0), (NV.str 0 0), (NV.str 0 0), (NV.str 0 0), (NV.str 0 0), (NV.str 0 0), (NV.str 0 0), (NV.str 0 0), (NV.str 0 0), (NV.str 0 0), (NV.str 0 0), (NV.str 0 0), (NV.str 0 0), (NV.str 0 0), (NV.str 0 0), (NV.str 0 0), (NV.str 0 0), (NV.str 0 0), (NV.str 0 0), (NV.str 0 0), (NV.str 0 0), (NV.str 0 0), (NV.str 0 0), (NV.str 0 0), (NV.str 0 0), (NV.str 0 0), (NV.str 0 0), (NV.str 0 0), (NV.str 0 0), (NV.str 0 0), (NV.str 0 0), (NV.str 0 0), (NV.str 0 0), (NV.str 0 0), (NV.str 0 0), (NV.str 0 0), (NV.str 0 0), (NV.str 0 0), (NV.str 0 0), (NV.str 0 0), (NV.str 0 0), (NV.str 0 0), (NV.str 0 0)]) h) fun v0 h1 =>
 bK (bldO [(0, 1), (1, 1), (2, 1), (3, 1), (4, 1), (5, 1), (6, 1), (7, 1), (8, 1), (9, 1), (10, 1), (11, 1), (12, 1), (13, 1), (14, 1), (15, 1), (16, 1), (17, 1), (18, 1), (19, 1), (20, 1), (21, 1), (22, 1), (23, 1), (24, 1), (25, 1), (26, 1), (27, 1), (28, 1), (29, 1), (30, 1), (31, 1), (32, 1), (33, 1), (34, 1), (35, 1), (36, 1), (37, 1), (38, 1), (39, 1), (40, 1), (41, 1), (42, 1), (43, 1), (44, 1), (45, 1), (46, 1), (47, 1), (48, 1), (49, 1), (50, 1), (51, 1), (52, 1), (53, 1), (54, 1), (55, 1), (56, 1), (57, 1), (58, 1), (59, 1), (60, 1), (61, 1), (62, 1), (63, 1), (64, 1), (65, 1), (66, 1), (67, 1), (68, 1), (69, 1), (70, 1), (71, 1), (72, 1), (73, 1), (74, 1), (75, 1), (76, 1), (77, 1), (78, 1), (79, 1), (80, 1), (81, 1), (82, 1), (83, 1), (84, 1), (85, 1), (86, 1), (87, 1), (88, 1), (89, 1), (90, 1), (91, 1), (92, 1), (93, 1), (94, 1), (95, 1), (96, 1), (97, 1), (98, 1), (99, 1), (100, 1), (101, 1), (102, 1), (103, 1), (104, 1), (105, 1), (106, 1), (107, 1), (108, 1), (109, 1), (110, 1), (111, 1), (112, 1), (113, 1), (114, 1), (115, 1), (116, 1), (117, 1), (118, 1), (119, 1), (120, 1), (121, 1), (122, 1), (123, 1), (124, 1), (125, 1), (126, 1), (127, 1), (128, 1), (129, 1), (130, 1), (131, 1), (132, 1), (133, 1), (134, 1), (135, 1), (136, 1), (137, 1), (138, 1), (139, 1), (140, 1), (141, 1), (142, 1), (143, 1), (144, 1), (145, 1), (146, 1), (147, 1), (148, 1), (149, 1), (150, 1), (151, 1), (152, 1), (153, 1), (154, 1), (155, 1), (156, 1), (157, 1), (158, 1), (159, 1), (160, 1), (161, 1), (162, 1), (163, 1), (164, 1), (165, 1), (166, 1), (167, 1), (168, 1), (169, 1), (170, 1), (171, 1), (172, 1), (173, 1), (174, 1), (175, 1), (176, 1), (177, 1), (178, 1), (179, 1), (180, 1), (181, 1), (182, 1), (183, 1), (184, 1), (185, 1), (186, 1), (187, 1), (188, 1), (189, 1), (190, 1), (191, 1), (192, 1), (193, 1), (194, 1), (195, 1), (196, 1), (197, 1), (198, 1), (199, 1), (200, 1), (201, 1), (202, 1), (203, 1), (204, 1), (205, 1), (206, 1), (207, 1), (208, 1), (209, 1), (210, 1)] [(NV.str 0 0), (NV.str 0 0), (NV.str 0 0), (NV.str 0 0), (NV.str 0 0), (NV.str 0 0), (NV.str 0 0), (NV.str 0 0), (NV.str 0 0), (NV.str 0 0), (NV.str 0 0), (NV.str 0 0), (NV.str 0 0), (NV.str 0 0), (NV.str 0 0), (NV.str 0 0), (NV.str 0 0), (NV.str 0 0), (NV.str 0 0), (NV.str 0 0), (NV.str 0 0), (NV.str 0 0), (NV.str 0 0), (NV.str 0 0), (NV.str 0 0), (NV.str 0 0), (NV.str 0 0), (NV.str 0 0), (NV.str 0 0), (NV.str 0 0), (NV.str 0 0), (NV.str 0 0), (NV.str 0 0), (NV.str 0 0), (NV.str 0 0), (NV.str 0 0), (NV.str 0 0), (NV.str 0 0), (NV.str 0 0), (NV.str 0 0), (NV.str 0 0), (NV.str 0 0), (NV.str 0 0), (NV.str 0 0), (NV.str 0 0), (NV.str 0 0), (NV.str 0 0), (NV.str 0 0), (NV.str 0 0), (NV.str 0 0), (NV.str 0 0), (NV.str 0 0), (NV.str 0 0), (NV.str 0 0), (NV.str 0 0), (NV.str 0 0), (NV.str 0 0), (NV.str 0 0), (NV.str 0 0), (NV.str 0 0), (NV.str 0 0), (NV.str 0 0), (NV.str 0 0), (NV.str 0 0), (NV.str 0 0), (NV.str 0 0), (NV.str 0 0), (NV.str 0 0), (NV.str 0 0), (NV.str 0 0), (NV.str 0 0), (NV.str 0 0), (NV.str 0 0), (NV.str 0 0), (NV.str 0 0), (NV.str 0 0), (NV.str 0 0), (NV.str 0 0), (NV.str 0 0), (NV.str 0 0), (NV.str 0 0), (NV.str 0 0), (NV.str 0 0), (NV.str 0 0), (NV.str 0 0), (NV.str 0 0), (NV.str 0 0), (NV.str 0 0), (NV.str 0 0), (NV.str 0 0), (NV.str 0 0), (NV.str 0 0), (NV.str 0 0), (NV.str 0 0), (NV.str 0 0), (NV.str 0 0), (NV.str 0 0), (NV.str 0 0), (NV.str 0 0), (NV.str 0 0), (NV.str 0 0), (NV.str 0 0), (NV.str 0 0), (NV.str 0 0), (NV.str 0 0), (NV.str 0 0), (NV.str 0 0), (NV.str 0 0), (NV.str 0 0), (NV.str 0 0), (NV.str 0 0), (NV.str 0 0), (NV.str 0 0), (NV.str 0 0), (NV.str 0 0), (NV.str 0 0), (NV.str 0 0), (NV.str 0 0), (NV.str 0 0), (NV.str 0 0), (NV.str 0 0), (NV.str 0 0), (NV.str 0 0), (NV.str 0 0), (NV.str 0 0), (NV.str 0 0), (NV.str 0 0), (NV.str 0 0), (NV.str 0 0), (NV.str 0 0), (NV.str 0 0), (NV.str 0 0), (NV.str 0 0), (NV.str 0 0), (NV.str 0 0), (NV.str 0 0), (NV.str 0 0), (NV.str 0 0), (NV.str 0 0), (NV.str 0 0), (NV.str 0 0), (NV.str 0 0), (NV.str 0 0), (NV.str 0 0), (NV.str 0 0), (NV.str 0 0), (NV.str 0 0), (NV.str 0 0), (NV.str 0 0), (NV.str 0 0), (NV.str 0 0), (NV.str 0 0), (NV.str 0 0), (NV.str 0 0), (NV.str 0 0), (NV.str 0 0), (NV.str 0 0), (NV.str 0 0), (NV.str 0 0), (NV.str 0 0), (NV.str 0 0), (NV.str 0 0), (NV.str 0 0), (NV.str 0 0), (NV.str 0 0), (NV.str 0 0), (NV.str 0 0), (NV.str 0 0), (NV.str 0 0), (NV.str 0 0), (NV.str 0 0), (NV.str 0 0), (NV.str 0 0), (NV.str 0 0), (NV.str 0 0), (NV.str 0 0), (NV.str 0 0), (NV.str 0 0), (NV.str 0 0), (NV.str 0 0), (NV.str 0 0), (NV.str 0 0), (NV.str 0 0), (NV.str 0 0), (NV.str 0 0), (NV.str 0 0), (NV.str 0 0), (NV.str 0 0), (NV.str 0 0), (NV.str 0 0), (NV.str 0 0), (NV.str 0 0), (NV.str 0 0), (NV.str 0 0), (NV.str 0 0), (NV.str 0 0), (NV.str 0 0), (NV.str 0 0), (NV.str 0 0), (NV.str 0 0), (NV.str 0 0), (NV.str 0 0), (NV.str 0 0), (NV.str 0 0), (NV.str 0 0), (NV.str 0 0), (NV.str 0 0), (NV.str 0 0), (NV.str 0 0), (NV.str 0 0), (NV.str 0 0)] [(NV.str 15 327767552172945331183350251170983541), (NV.str 7 17486839630819182), (NV.str 9 1164464547572376104034), (NV.str 8 4548689639039266668), (NV.str 6 69407495710313), (NV.str 0 0), (NV.str 0 0), (NV.str 0 0), (NV.str 0 0), (NV.str 0 0), (NV.str 0 0), (NV.str 0 0), (NV.str 6 69407512490594), (NV.str 9 1164464829025977594466), (NV.str 12 19536482683267168639882588770), (NV.str 10 298102852124297305286002), (NV.str 8 4548692937506840931), (NV.str 17 21480600261876078678271969189338205151587), (NV.str 0 0), (NV.str 0 0), (NV.str 0 0), (NV.str 0 0), (NV.str 0 0), (NV.str 0 0), (NV.str 0 0), (NV.str 0 0), (NV.str 8 4548688539527639652), (NV.str 10 298102852130829681583475), (NV.str 10 298103284476393909151091), (NV.str 0 0), (NV.str 0 0), (NV.str 0 0), (NV.str 13 5001344402895871739539482701676), (NV.str 13 5001344402895875117239203229548), (NV.str 13 5001344402619174237608536665964), (NV.str 14 1280344476626352986667176279632999), (NV.str 14 1280344476626353851358304734768231), (NV.str 13 5001346820747510968767951823220), (NV.str 13 5001346820747514346467672351092), (NV.str 0 0), (NV.str 15 546457008460428049428634524118561641), (NV.str 15 562033899036032532314226013106353769), (NV.str 15 530880117884823566543043035130901350), (NV.str 15 520495524167753911285982042472592998), (NV.str 18 9168027265654428855846305424485748109882217), (NV.str 18 9168027265654428858264157063715006459294569), (NV.str 19 2347014980007533787096643803363673714847789929), (NV.str 19 2347014980007533787715613823006363852297352041), (NV.str 18 9429364123449709595786177122993346096412265), (NV.str 18 9429364123449709598204028762222604445824617), (NV.str 19 2413917215603125656521250958181618799365863017), (NV.str 19 2413917215603125657140220977824308936815425129), (NV.str 19 2413917215603125656521232105609175468204111465), (NV.str 19 2413917215603125657140202125251865605653673577), (NV.str 16 82959459112035195726565278189186331497), (NV.str 16 82975036002610800209450869678174123625), (NV.str 16 82943882221459591243679686700198671206), (NV.str 16 82933497627742521588422625707540362854), (NV.str 17 21237621532681009893254626581142469489513), (NV.str 18 5436831112366338530009530115527837092033385), (NV.str 17 21241609216668364640873338002323310655081), (NV.str 18 5437851959467101345399920239350132396799593), (NV.str 18 5437851959467101340573661693857354988402281), (NV.str 17 35812227813666953304285268971732295574893), (NV.str 18 9168027265674711270362288350078981819426157), (NV.str 15 546451230376424881116632515876107113), (NV.str 15 562028121261514373823569073588680297), (NV.str 15 530874340419790417873731164338008934), (NV.str 15 520489747012205772438015240404481638), (NV.str 13 8338272223821249852648853746537), (NV.str 13 8338272568259982785710304408425), (NV.str 13 8338272568259982772554819580777), (NV.str 15 546457031033486231986814062760702825), (NV.str 15 546457031033486232130929250836558697), (NV.str 15 546457031033486231986814041285866345), (NV.str 15 546457031033486232130929229361722217), (NV.str 15 546457031033486231986797570086286185), (NV.str 15 546457031033486232130912758162142057), (NV.str 15 546457031033486231986797548611449705), (NV.str 15 546457031033486232130912736687305577), (NV.str 13 8338275850598708696536377996905), (NV.str 13 8338276209204541078206764299881), (NV.str 13 8338276209204541065051279472233), (NV.str 15 546457269646428804243862049567028841), (NV.str 15 546457269646428804387977237642884713), (NV.str 15 546457269646428804243862028092192361), (NV.str 15 546457269646428804387977216168048233), (NV.str 15 546457269646428804243845556892612201), (NV.str 15 546457269646428804387960744968468073), (NV.str 15 546457269646428804243845535417775721), (NV.str 15 546457269646428804387960723493631593), (NV.str 13 8338268927315424493213844648806), (NV.str 13 8338268927315424480058359821158), (NV.str 13 8338268927315424496542444303206), (NV.str 13 8338268927315424496520969466726), (NV.str 13 8338268927315424480049769886566), (NV.str 13 8338268927315424480028295050086), (NV.str 13 8338266500019052298216204940902), (NV.str 13 8338266500019052285060720113254), (NV.str 13 8338266500019052301544804595302), (NV.str 13 8338266500019052301523329758822), (NV.str 13 8338266500019052285052130178662), (NV.str 13 8338266500019052285030655342182), (NV.str 13 8338272223821249847142705673065), (NV.str 13 8338272223821249855938798695273), (NV.str 16 139892994165849425778193391510663345001), (NV.str 14 2134597777474555589481782695834473), (NV.str 14 2134597777474555588937601749496681), (NV.str 14 2134597777474555591752325746799465), (NV.str 16 139892999944572475388624959950019507049), (NV.str 16 139892999944572475425518448097438610281), (NV.str 16 139892999944572475388622422337312142185), (NV.str 16 139892999944572475425515910484731245417), (NV.str 14 2134597777474555589492777812112233), (NV.str 13 8338272568259982786852765709161), (NV.str 14 2134597777474555593434625781937001), (NV.str 14 2134597777474555591738057865442153), (NV.str 16 139892999944572475388623833015025546089), (NV.str 16 139892999944572475425517321162444649321), (NV.str 15 546457031033486231488316407217795945), (NV.str 15 546457031033486231920661971445363561), (NV.str 13 8575960338141501703810861774441), (NV.str 13 8575960338141501712606954796649), (NV.str 16 143880739000432984351916084533258368617), (NV.str 14 2195445938367317523632718148286057), (NV.str 14 2195445938367317523088537201948265), (NV.str 14 2195445938367317525903261199251049), (NV.str 16 143880745016840521505140665753246381673), (NV.str 16 143880745016840521542034153900665484905), (NV.str 16 143880745016840521505138128140539016809), (NV.str 16 143880745016840521542031616287958120041), (NV.str 14 2195445938367317523643713264563817), (NV.str 13 8575960696747334092129857451625), (NV.str 14 2195445938367317527585561234388585), (NV.str 14 2195445938367317525888993317893737), (NV.str 16 143880745016840521505139538818252420713), (NV.str 16 143880745016840521542033026965671523945), (NV.str 15 562034160222033286630955883011782249), (NV.str 15 562034160222033287063301447239349865), (NV.str 13 8100584109500996009146006516582), (NV.str 13 8100584109500992634800655446886), (NV.str 14 2073749532032254475913169852314470), (NV.str 15 530879880200257256949406374500119398), (NV.str 15 530879880200256980177883181878489958), (NV.str 17 34791743828804062027993364878159753917286), (NV.str 14 2073749532032255054920459805143910), (NV.str 14 2073749616581793655330847243514726), (NV.str 14 2073749616581793654786666297176934), (NV.str 14 2073749616581793657601390294479718), (NV.str 14 2073749616581793660402907267347302), (NV.str 14 2073749616581793658151146108367718), (NV.str 14 2073749616581793660957099782452070), (NV.str 19 2280111816527703826117084885104847133433017190), (NV.str 13 7942125366620828104700569335398), (NV.str 13 7942125366620824730355218265702), (NV.str 14 2033184093854931492375137900312166), (NV.str 15 520495128026862573163670194753910374), (NV.str 15 520495128026862296392147002132280934), (NV.str 17 34111168710368468031411358602303559186022), (NV.str 14 2033184093854932071382427853141606), (NV.str 14 2033184175986619032563556942100070), (NV.str 14 2033184175986619032019375995762278), (NV.str 14 2033184175986619034834099993065062), (NV.str 14 2033184175986619037635616965932646), (NV.str 14 2033184175986619035383855806953062), (NV.str 14 2033184175986619038189809481037414), (NV.str 19 2235509642907452746387254776002721426324076134), (NV.str 18 9168031253337075447834847025118878901613417), (NV.str 21 153813906827515972354792814719229369436366500410217), (NV.str 21 153813906827515982739386531788884626497359158850409), (NV.str 21 153813862226025575293705916427850816850036750693225), (NV.str 21 153813862226025585678299633497506073911029409133417), (NV.str 22 40498810532286534835525964147540208006911372259767913), (NV.str 22 40498810532286537493981955717371953814525492820457065), (NV.str 21 158198411739508681109403869217378218495334298170985), (NV.str 21 158198411739508691493997586287033475556326956611177), (NV.str 21 158198367138018284048316970925999665909004548453993), (NV.str 21 158198367138018294432910687995654922969997206894185), (NV.str 23 9793009668440644596010266686608289008633361334015243110), (NV.str 23 9793009668440645276575000528485215935382576197551666022), (NV.str 23 9793014052945556588729466738608667767750753136225170278), (NV.str 23 9793014052945557269294200580485594694499967999761593190), (NV.str 20 583708427007939603893703423388374749582376186726), (NV.str 23 9601447725832408488715473308214500360681018943742424678), (NV.str 23 9601447725832409169280207150091427287430233807278847590), (NV.str 23 9601452110337320481434673360214879119798410745952351846), (NV.str 23 9601452110337321161999407202091806046547625609488774758), (NV.str 21 146506398640861119376186043912817649648091369059942), (NV.str 25 660625699494170760817850004513665363006326852999658830181225), (NV.str 25 679456813138388239736077332846436991477294210794981659260521), (NV.str 25 641794681630924630881524425534872769831381839002147440702310), (NV.str 25 629240765503065226570841043735052050693457300431125779592806), (NV.str 19 2347014980007195555834240459701630947512431465), (NV.str 20 600835834881842062292884885388448385621157884777), (NV.str 19 2413918236449888188074238004643398327335138921), (NV.str 20 617963068531171376146324256893540834855737374313), (NV.str 20 617963068531171376145088734705894683839187662441), (NV.str 0 0), (NV.str 0 0), (NV.str 0 0), (NV.str 0 0), (NV.str 0 0), (NV.str 0 0), (NV.str 0 0), (NV.str 0 0), (NV.str 0 0), (NV.str 0 0), (NV.str 0 0), (NV.str 13 5001343272701261720108883404146), (NV.str 15 327767552181408163343023129200321906), (NV.str 13 8734324878964745910403536938354)]) fun v2 =>
 mK (stM 211 v0 v2 h1) fun v3 h4 =>
 bK (ldB 211 true h4 v0) fun v5 =>
 retC v5 h4)
theorem e236 : ikB Tryz.prog 10 Tryz.f236 = S236 := by kernel_rfl
theorem k236 [Sig] (w0 : World) : SOK cW w0 236 S236 := okW Tryz.func236 (by kernel_rfl) e236
noncomputable def S233 (call : CallF) (N : Nat) (l : List NV) (h : H) : R :=
 uc l fun v0 l1 => uc l1 fun v2 l3 => un l3 (
 bK (lenStr v2) fun v4 =>
 bK (eqI v4 (NV.int .i64 (.ofNat 0))) fun v5 =>
 jK (fun v6 h7 =>
 jK (fun v9 h10 =>
 jK (fun v12 h13 =>
 bK (pickO v5 (NV.bool true) v12) fun v15 =>
 condK v15 (
 retC (NV.int .i64 (.ofNat 0)) h13) (
 bK (eqI v4 (NV.int .i64 (.ofNat 1))) fun v16 =>
 condK v16 (
 bK (ixStr v2 (NV.int .i64 (.ofNat 0))) fun v17 =>
 mK (calM call 292 [v0, v17] h13) fun v18 h19 =>
 retC v18 h19) (
 bK (lenStr v0) fun v20 =>
 bK (geI v4 v20) fun v21 =>
 condK v21 (
 retC (NV.int .i64 (.negSucc 0)) h13) (
 bK (ldO 1 false h13 (NV.ptr (.i .h) 0)) fun v22 =>
 bK (leI v4 v22) fun v23 =>
 jK (fun v24 h25 =>
 jK (fun v27 h28 =>
 jK (fun v30 h31 =>
 bK (pickO v23 v30 (NV.bool false)) fun v33 =>
 condK v33 (
 mK (calM call 293 [v0, v2] h31) fun v34 h35 =>
 retC v34 h35) (
 bK (ixStr v2 (NV.int .i64 (.ofNat 0))) fun v36 =>
 bK (ixStr v2 (NV.int .i64 (.ofNat 1))) fun v37 =>
 bK (lenStr v0) fun v38 =>
 bK (subI v38 v4) fun v39 =>
 bK (addI v39 (NV.int .i64 (.ofNat 1))) fun v40 =>
 joinC 0 (fun h41 =>
 retC (NV.int .i64 (.negSucc 0)) h41) fun J42 =>
 loopC N 8 (fun L52 v43 v44 v45 v46 v47 v48 v49 v50 h51 =>
 bK (ltI v48 v49) fun v53 =>
 condK v53 (
 bK (ixStr v43 v48) fun v54 =>
 bK (neI v54 v46) fun v55 =>
 joinC 8 (fun v56 v57 v58 v59 v60 v61 v62 v63 h64 =>
 bK (addI v61 (NV.int .i64 (.ofNat 1))) fun v66 =>
 bK (ixStr v56 v66) fun v67 =>
 bK (eqI v67 v60) fun v68 =>
 jK (fun v69 h70 =>
 jK (fun v72 h73 =>
 jK (fun v75 h76 =>
 jK (fun v78 h79 =>
 jK (fun v81 h82 =>
 jK (fun v84 h85 =>
 jK (fun v87 h88 =>
 jK (fun v90 h91 =>
 bK (pickO v68 v90 (NV.bool false)) fun v93 =>
 condK v93 (
 retC v61 h91) (
 bK (addI v61 (NV.int .i64 (.ofNat 1))) fun v94 =>
 bK (addI v63 (NV.int .i64 (.ofNat 1))) fun v95 =>
 bK (ldO 1 false h91 (NV.ptr (.i .h) 0)) fun v96 =>
 bK (leI v58 v96) fun v97 =>
 jK (fun v98 h99 =>
 jK (fun v101 h102 =>
 jK (fun v104 h105 =>
 jK (fun v107 h108 =>
 bK (pickO v97 v107 (NV.bool false)) fun v110 =>
 condK v110 (
 bK (slStr v56 (some v94) none) fun v111 =>
 mK (calM call 293 [v111, v57] h108) fun v112 h113 =>
 bK (geI v112 (NV.int .i64 (.ofNat 0))) fun v114 =>
 condK v114 (
 bK (addI v112 v94) fun v115 =>
 retC v115 h113) (
 retC (NV.int .i64 (.negSucc 0)) h113)) (
 bK (ldO 1 false h108 (NV.ptr (.i .h) 0)) fun v116 =>
 bK (gtI v58 v116) fun v117 =>
 jK (fun v118 h119 =>
 jK (fun v121 h122 =>
 jK (fun v124 h125 =>
 jK (fun v127 h128 =>
 jK (fun v130 h131 =>
 bK (pickO v117 v130 (NV.bool false)) fun v133 =>
 jK (fun v134 h135 =>
 jK (fun v137 h138 =>
 jK (fun v140 h141 =>
 bK (pickO v133 v140 (NV.bool false)) fun v143 =>
 condK v143 (
 bK (slStr v56 (some v94) none) fun v144 =>
 mK (calM call 295 [v144, v57] h141) fun v145 h146 =>
 bK (ltI v145 (NV.int .i64 (.ofNat 0))) fun v147 =>
 condK v147 (
 retC (NV.int .i64 (.negSucc 0)) h146) (
 bK (addI v94 v145) fun v148 =>
 retC v148 h146)) (
 L52 v56 v57 v58 v59 v60 v94 v62 v95 h141)) fun J142 => gK v133 true (
 bK (ltI v134 v137) fun v149 =>
 J142 v149 h138) (J142 (NV.tuple []) h138)) fun J139 => gK v133 true (
 J139 v62 h135) (J139 (NV.tuple []) h135)) fun J136 => gK v133 true (
 J136 v94 h131) (J136 (NV.tuple []) h131)) fun J132 => gK v117 true (
 bK (geI v118 v127) fun v150 =>
 J132 v150 h128) (J132 (NV.tuple []) h128)) fun J129 => gK v117 true (
 bK (addI (NV.int .i64 (.ofNat 4)) v124) fun v151 =>
 J129 v151 h125) (J129 (NV.tuple []) h125)) fun J126 => gK v117 true (
 bK (binO .shr v121 (NV.int .u64 (.ofNat 4))) fun v152 =>
 J126 v152 h122) (J126 (NV.tuple []) h122)) fun J123 => gK v117 true (
 J123 v94 h119) (J123 (NV.tuple []) h119)) fun J120 => gK v117 true (
 J120 v95 h108) (J120 (NV.tuple []) h108))) fun J109 => gK v97 true (
 bK (gtI v98 v104) fun v153 =>
 J109 v153 h105) (J109 (NV.tuple []) h105)) fun J106 => gK v97 true (
 mK (calM call 294 [v101] h102) fun v154 h155 =>
 J106 v154 h155) (J106 (NV.tuple []) h102)) fun J103 => gK v97 true (
 J103 v94 h99) (J103 (NV.tuple []) h99)) fun J100 => gK v97 true (
 J100 v95 h91) (J100 (NV.tuple []) h91))) fun J92 => gK v68 true (
 bK (binO .eql v84 v87) fun v156 =>
 J92 v156 h88) (J92 (NV.tuple []) h88)) fun J89 => gK v68 true (
 J89 v57 h85) (J89 (NV.tuple []) h85)) fun J86 => gK v68 true (
 bK (slStr v69 (some v72) (some v81)) fun v157 =>
 J86 v157 h82) (J86 (NV.tuple []) h82)) fun J83 => gK v68 true (
 bK (addI v75 v78) fun v158 =>
 J83 v158 h79) (J83 (NV.tuple []) h79)) fun J80 => gK v68 true (
 J80 v58 h76) (J80 (NV.tuple []) h76)) fun J77 => gK v68 true (
 J77 v61 h73) (J77 (NV.tuple []) h73)) fun J74 => gK v68 true (
 J74 v61 h70) (J74 (NV.tuple []) h70)) fun J71 => gK v68 true (
 J71 v56 h64) (J71 (NV.tuple []) h64)) fun J65 =>
 condK v55 (
 bK (addI v48 (NV.int .i64 (.ofNat 1))) fun v159 =>
 bK (slStr v43 (some v159) (some v49)) fun v160 =>
 mK (calM call 292 [v160, v46] h51) fun v161 h162 =>
 bK (ltI v161 (NV.int .i64 (.ofNat 0))) fun v163 =>
 condK v163 (
 retC (NV.int .i64 (.negSucc 0)) h162) (
 bK (addI v161 (NV.int .i64 (.ofNat 1))) fun v164 =>
 bK (addI v48 v164) fun v165 =>
 J65 v43 v44 v45 v46 v47 v165 v49 v50 h162)) (
 J65 v43 v44 v45 v46 v47 v48 v49 v50 h51)) (
 J42 h51)) v0 v2 v4 v36 v37 (NV.int .i64 (.ofNat 0)) v40 (NV.int .i64 (.ofNat 0)) h31)) fun J32 => gK v23 true (
 bK (leI v27 (NV.int .i64 (.ofNat 64))) fun v166 =>
 J32 v166 h28) (J32 (NV.tuple []) h28)) fun J29 => gK v23 true (
 bK (lenStr v24) fun v167 =>
 J29 v167 h25) (J29 (NV.tuple []) h25)) fun J26 => gK v23 true (
 J26 v0 h13) (J26 (NV.tuple []) h13))))) fun J14 => gK v5 false (
 bK (binO .eql v6 v9) fun v168 =>
 J14 v168 h10) (J14 (NV.tuple []) h10)) fun J11 => gK v5 false (
 J11 v0 h7) (J11 (NV.tuple []) h7)) fun J8 => gK v5 false (
 J8 v2 h) (J8 (NV.tuple []) h))
theorem e233 : ikB Tryz.prog 10 Tryz.f233 = S233 := by kernel_rfl
theorem k233 [Sig] (w0 : World) : SOK cW w0 233 S233 := okW Tryz.func233 (by kernel_rfl) e233
noncomputable def S245 (call : CallF) (N : Nat) (l : List NV) (h : H) : R :=
 uc l fun v0 l1 => uc l1 fun v2 l3 => uc l3 fun v4 l5 => uc l5 fun v6 l7 => un l7 (
 mK (calM call 307 [v0] h) fun v8 h9 =>
 bK (notO v8) fun v10 =>
 jK (fun v11 h12 =>
 jK (fun v14 h15 =>
 bK (pickO v10 (NV.bool true) v14) fun v17 =>
 jK (fun v18 h19 =>
 jK (fun v21 h22 =>
 bK (pickO v17 (NV.bool true) v21) fun v24 =>
 jK (fun v25 h26 =>
 jK (fun v28 h29 =>
 jK (fun v31 h32 =>
 jK (fun v34 h35 =>
 jK (fun v37 h38 =>
 jK (fun v40 h41 =>
 bK (pickO v24 (NV.bool true) v40) fun v43 =>
 condK v43 (
 retC (NV.tuple [(NV.int .u64 (.ofNat 0)), (NV.int .i64 (.ofNat 1))]) h41) (
 mK (calM call 308 [v0] h41) fun v44 h45 =>
 bK (binO .and v4 v44) fun v46 =>
 bK (binO .and v6 v44) fun v47 =>
 bK (geI v2 (NV.int .i64 (.ofNat 4))) fun v48 =>
 jK (fun v49 h50 =>
 jK (fun v52 h53 =>
 bK (pickO v48 v52 (NV.bool false)) fun v55 =>
 joinC 3 (fun v56 v57 v58 h59 =>
 bK (binO .and v57 v56) fun v61 =>
 retC (NV.tuple [v61, v58]) h59) fun J60 =>
 condK v55 (
 mK (calM call 317 [v0, v2, v46, v47] h53) fun v62 h63 =>
 bK (extO 0 v62) fun v64 =>
 bK (extO 1 v62) fun v65 =>
 J60 v44 v64 v65 h63) (
 bK (geI v2 (NV.int .i64 (.ofNat 11))) fun v66 =>
 jK (fun v67 h68 =>
 jK (fun v70 h71 =>
 bK (pickO v66 v70 (NV.bool false)) fun v73 =>
 condK v73 (
 bK (cvI .u64 v0) fun v74 =>
 bK (binO .rem v47 v74) fun v75 =>
 mK (calM call 318 [v0, v2, v46, v75] h71) fun v76 h77 =>
 J60 v44 v76 (NV.int .i64 (.ofNat 0)) h77) (
 bK (geI v2 (NV.int .i64 (.ofNat 16))) fun v78 =>
 condK v78 (
 mK (calM call 319 [v0, v2, v46, v47] h71) fun v79 h80 =>
 J60 v44 v79 (NV.int .i64 (.ofNat 0)) h80) (
 mK (calM call 320 [v2, v46, v47] h71) fun v81 h82 =>
 J60 v44 v81 (NV.int .i64 (.ofNat 0)) h82))) fun J72 => gK v66 true (
 bK (leI v67 (NV.int .i64 (.ofNat 15))) fun v83 =>
 J72 v83 h68) (J72 (NV.tuple []) h68)) fun J69 => gK v66 true (
 J69 v2 h53) (J69 (NV.tuple []) h53))) fun J54 => gK v48 true (
 bK (leI v49 (NV.int .i64 (.ofNat 7))) fun v84 =>
 J54 v84 h50) (J54 (NV.tuple []) h50)) fun J51 => gK v48 true (
 J51 v2 h45) (J51 (NV.tuple []) h45))) fun J42 => gK v24 false (
 bK (pickO v31 v37 (NV.bool false)) fun v85 =>
 J42 v85 h38) (J42 (NV.tuple []) h38)) fun J39 => gK v31 true (
 bK (neI v34 (NV.int .i64 (.ofNat 16))) fun v86 =>
 J39 v86 h35) (J39 (NV.tuple []) h35)) fun J36 => gK v31 true (
 J36 v0 h32) (J36 (NV.tuple []) h32)) fun J33 => gK v24 false (
 J33 v28 h29) (J33 (NV.tuple []) h29)) fun J30 => gK v24 false (
 bK (eqI v25 (NV.int .i64 (.ofNat 25))) fun v87 =>
 J30 v87 h26) (J30 (NV.tuple []) h26)) fun J27 => gK v24 false (
 J27 v2 h22) (J27 (NV.tuple []) h22)) fun J23 => gK v17 false (
 bK (gtI v18 (NV.int .i64 (.ofNat 25))) fun v88 =>
 J23 v88 h19) (J23 (NV.tuple []) h19)) fun J20 => gK v17 false (
 J20 v2 h15) (J20 (NV.tuple []) h15)) fun J16 => gK v10 false (
 bK (ltI v11 (NV.int .i64 (.ofNat 1))) fun v89 =>
 J16 v89 h12) (J16 (NV.tuple []) h12)) fun J13 => gK v10 false (
 J13 v2 h9) (J13 (NV.tuple []) h9))
theorem e245 : ikB Tryz.prog 10 Tryz.f245 = S245 := by kernel_rfl
theorem k245 [Sig] (w0 : World) : SOK cW w0 245 S245 := okW Tryz.func245 (by kernel_rfl) e245
noncomputable def S199 (call : CallF) (N : Nat) (l : List NV) (h : H) : R :=
 uc l fun v0 l1 => uc l1 fun v2 l3 => un l3 (
 bK (ldO 1 false h v2) fun v4 =>
 mK (calV call v4 [v0] h) fun v5 h6 =>
 bK (notO v5) fun v7 =>
 retC v7 h6)
theorem e199 : ikB Tryz.prog 10 Tryz.f199 = S199 := by kernel_rfl
theorem k199 [Sig] (w0 : World) : SOK cW w0 199 S199 := okW Tryz.func199 (by kernel_rfl) e199
noncomputable def S198 (call : CallF) (N : Nat) (l : List NV) (h : H) : R :=
 uc l fun v0 l1 => uc l1 fun v2 l3 => un l3 (
 mK (calM call 273 [v0, v2] h) fun v4 h5 =>
 bK (geI v4 (NV.int .i64 (.ofNat 0))) fun v6 =>
 retC v6 h5)
theorem e198 : ikB Tryz.prog 10 Tryz.f198 = S198 := by kernel_rfl
theorem k198 [Sig] (w0 : World) : SOK cW w0 198 S198 := okW Tryz.func198 (by kernel_rfl) e198
noncomputable def S200 (call : CallF) (N : Nat) (l : List NV) (h : H) : R :=
 uc l fun v0 l1 => un l1 (
 bK (lenSl v0) fun v2 =>
 joinC 1 (fun v3 h4 =>
 retC v3 h4) fun J5 =>
 loopC N 4 (fun L11 v6 v7 v8 v9 h10 =>
 bK (ltI v9 v8) fun v12 =>
 condK v12 (
 bK (ixS 9 v7 v9) fun v13 =>
 bK (ldO 9 true h10 v13) fun v14 =>
 mK (alM (NB.cells [(NV.int .i64 (.ofNat 0)), (NV.int .i64 (.ofNat 0)), (NV.int .i64 (.ofNat 0)), (NV.int .u64 (.ofNat 0)), (NV.int .u64 (.ofNat 0)), NV.nslice, NV.nslice, NV.nslice, (NV.bool false)]) h10) fun v15 h16 =>
 mK (stM 9 v15 v14 h16) fun v17 h18 =>
 bK (fAddr 6 v15) fun v19 =>
 bK (ldO 1 false h18 (chkV h18 v19)) fun v20 =>
 bK (fAddr 7 v15) fun v21 =>
 bK (ldO 1 false h18 (chkV h18 v21)) fun v22 =>
 mK (calM call 200 [(chkV h18 v20)] h18) fun v23 h24 =>
 nextK h18 h24 (
 bK (ldO 1 false h24 (chkV h24 v21)) fun v25 =>
 sameK v25 v22 (
 mK (calM call 200 [(chkV h24 v22)] h24) fun v26 h27 =>
 nextK h24 h27 (
 bK (foldMM true v23 [v26]) fun v28 =>
 bK (addI (NV.int .i64 (.ofNat 1)) v28) fun v29 =>
 bK (foldMM true v6 [v29]) fun v30 =>
 bK (addI v9 (NV.int .i64 (.ofNat 1))) fun v31 =>
 L11 v30 v7 v8 v31 h27)))) (
 J5 v6 h10)) (NV.int .i64 (.ofNat 0)) v0 v2 (NV.int .i64 (.ofNat 0)) h)
theorem e200 : ikB Tryz.prog 10 Tryz.f200 = S200 := by kernel_rfl
theorem k200 [Sig] (w0 : World) : SOK cW w0 200 S200 := okW Tryz.func200 (by kernel_rfl) e200
noncomputable def S201 (call : CallF) (N : Nat) (l : List NV) (h : H) : R :=
 uc l fun v0 l1 => uc l1 fun v2 l3 => un l3 (
 mK (boxM false v2 h) fun v4 h5 =>
 mK (calM call 274 [v0, (NV.func (.func 275) [] [v4])] h5) fun v6 h7 =>
 retC v6 h7)
theorem e201 : ikB Tryz.prog 10 Tryz.f201 = S201 := by kernel_rfl
theorem k201 [Sig] (w0 : World) : SOK cW w0 201 S201 := okW Tryz.func201 (by kernel_rfl) e201
noncomputable def S202 (call : CallF) (N : Nat) (l : List NV) (h : H) : R :=
 uc l fun v0 l1 => un l1 (
 mK (boxM false v0 h) fun v2 h3 =>
 bK (fAddr 0 v2) fun v4 =>
 bK (ldO 1 false h3 v4) fun v5 =>
 mK (calM call 94 [v5] h3) fun v6 h7 =>
 bK (notO v6) fun v8 =>
 condK v8 (
 retC (NV.bool false) h7) (
 bK (fAddr 0 v2) fun v9 =>
 bK (ldO 1 false h7 v9) fun v10 =>
 mK (calM call 93 [v10] h7) fun v11 h12 =>
 bK (eqI v11 (NV.int .i64 (.ofNat 1))) fun v13 =>
 condK v13 (
 bK (fAddr 1 v2) fun v14 =>
 bK (ldO 1 false h12 v14) fun v15 =>
 bK (eqI v15 (NV.int .i64 (.ofNat 0))) fun v16 =>
 jK (fun v17 h18 =>
 jK (fun v20 h21 =>
 jK (fun v23 h24 =>
 bK (pickO v16 v23 (NV.bool false)) fun v26 =>
 jK (fun v27 h28 =>
 jK (fun v30 h31 =>
 jK (fun v33 h34 =>
 jK (fun v36 h37 =>
 jK (fun v39 h40 =>
 jK (fun v42 h43 =>
 jK (fun v45 h46 =>
 jK (fun v48 h49 =>
 bK (pickO v26 (NV.bool true) v48) fun v51 =>
 jK (fun v52 h53 =>
 jK (fun v55 h56 =>
 jK (fun v58 h59 =>
 jK (fun v61 h62 =>
 jK (fun v64 h65 =>
 jK (fun v67 h68 =>
 jK (fun v70 h71 =>
 jK (fun v73 h74 =>
 bK (pickO v51 (NV.bool true) v73) fun v76 =>
 jK (fun v77 h78 =>
 jK (fun v80 h81 =>
 jK (fun v83 h84 =>
 bK (pickO v76 v83 (NV.bool false)) fun v86 =>
 jK (fun v87 h88 =>
 jK (fun v90 h91 =>
 jK (fun v93 h94 =>
 jK (fun v96 h97 =>
 jK (fun v99 h100 =>
 jK (fun v102 h103 =>
 jK (fun v105 h106 =>
 jK (fun v108 h109 =>
 bK (pickO v86 v108 (NV.bool false)) fun v111 =>
 jK (fun v112 h113 =>
 jK (fun v115 h116 =>
 jK (fun v118 h119 =>
 jK (fun v121 h122 =>
 jK (fun v124 h125 =>
 jK (fun v127 h128 =>
 jK (fun v130 h131 =>
 jK (fun v133 h134 =>
 bK (pickO v111 v133 (NV.bool false)) fun v136 =>
 retC v136 h134) fun J135 => gK v111 true (
 bK (pickO v118 (NV.bool true) v130) fun v137 =>
 J135 v137 h131) (J135 (NV.tuple []) h131)) fun J132 => gK v118 false (
 bK (eqI v127 (NV.int .i64 (.ofNat 0))) fun v138 =>
 J132 v138 h128) (J132 (NV.tuple []) h128)) fun J129 => gK v118 false (
 bK (lenSl v124) fun v139 =>
 J129 v139 h125) (J129 (NV.tuple []) h125)) fun J126 => gK v118 false (
 bK (ldO 1 false h122 v121) fun v140 =>
 J126 v140 h122) (J126 (NV.tuple []) h122)) fun J123 => gK v118 false (
 bK (fAddr 7 v2) fun v141 =>
 J123 v141 h119) (J123 (NV.tuple []) h119)) fun J120 => gK v111 true (
 J120 v115 h116) (J120 (NV.tuple []) h116)) fun J117 => gK v111 true (
 bK (ldO 1 false h113 v112) fun v142 =>
 J117 v142 h113) (J117 (NV.tuple []) h113)) fun J114 => gK v111 true (
 bK (fAddr 8 v2) fun v143 =>
 J114 v143 h109) (J114 (NV.tuple []) h109)) fun J110 => gK v86 true (
 bK (pickO v96 (NV.bool true) v105) fun v144 =>
 J110 v144 h106) (J110 (NV.tuple []) h106)) fun J107 => gK v96 false (
 bK (notO v102) fun v145 =>
 J107 v145 h103) (J107 (NV.tuple []) h103)) fun J104 => gK v96 false (
 bK (ldO 1 false h100 v99) fun v146 =>
 J104 v146 h100) (J104 (NV.tuple []) h100)) fun J101 => gK v96 false (
 bK (fAddr 8 v2) fun v147 =>
 J101 v147 h97) (J101 (NV.tuple []) h97)) fun J98 => gK v86 true (
 J98 v93 h94) (J98 (NV.tuple []) h94)) fun J95 => gK v86 true (
 bK (eqI v90 (NV.int .i64 (.ofNat 4))) fun v148 =>
 J95 v148 h91) (J95 (NV.tuple []) h91)) fun J92 => gK v86 true (
 bK (ldO 1 false h88 v87) fun v149 =>
 J92 v149 h88) (J92 (NV.tuple []) h88)) fun J89 => gK v86 true (
 bK (fAddr 0 v2) fun v150 =>
 J89 v150 h84) (J89 (NV.tuple []) h84)) fun J85 => gK v76 true (
 mK (calM call 276 [v77, v80] h81) fun v151 h152 =>
 J85 v151 h152) (J85 (NV.tuple []) h81)) fun J82 => gK v76 true (
 bK (bldO [(0, 1), (1, 1)] [(NV.bool false), (NV.bool false), (NV.bool false), (NV.bool false), (NV.bool false)] [(NV.bool true), (NV.bool true)]) fun v153 =>
 J82 v153 h78) (J82 (NV.tuple []) h78)) fun J79 => gK v76 true (
 bK (ldO 9 true h74 v2) fun v154 =>
 J79 v154 h74) (J79 (NV.tuple []) h74)) fun J75 => gK v51 false (
 bK (pickO v61 v70 (NV.bool false)) fun v155 =>
 J75 v155 h71) (J75 (NV.tuple []) h71)) fun J72 => gK v61 true (
 mK (calM call 132 [v67] h68) fun v156 h157 =>
 J72 v156 h157) (J72 (NV.tuple []) h68)) fun J69 => gK v61 true (
 bK (ldO 1 false h65 v64) fun v158 =>
 J69 v158 h65) (J69 (NV.tuple []) h65)) fun J66 => gK v61 true (
 bK (fAddr 2 v2) fun v159 =>
 J66 v159 h62) (J66 (NV.tuple []) h62)) fun J63 => gK v51 false (
 J63 v58 h59) (J63 (NV.tuple []) h59)) fun J60 => gK v51 false (
 bK (eqI v55 (NV.int .i64 (.ofNat 2))) fun v160 =>
 J60 v160 h56) (J60 (NV.tuple []) h56)) fun J57 => gK v51 false (
 bK (ldO 1 false h53 v52) fun v161 =>
 J57 v161 h53) (J57 (NV.tuple []) h53)) fun J54 => gK v51 false (
 bK (fAddr 1 v2) fun v162 =>
 J54 v162 h49) (J54 (NV.tuple []) h49)) fun J50 => gK v26 false (
 bK (pickO v36 v45 (NV.bool false)) fun v163 =>
 J50 v163 h46) (J50 (NV.tuple []) h46)) fun J47 => gK v36 true (
 mK (calM call 130 [v42] h43) fun v164 h165 =>
 J47 v164 h165) (J47 (NV.tuple []) h43)) fun J44 => gK v36 true (
 bK (ldO 1 false h40 v39) fun v166 =>
 J44 v166 h40) (J44 (NV.tuple []) h40)) fun J41 => gK v36 true (
 bK (fAddr 2 v2) fun v167 =>
 J41 v167 h37) (J41 (NV.tuple []) h37)) fun J38 => gK v26 false (
 J38 v33 h34) (J38 (NV.tuple []) h34)) fun J35 => gK v26 false (
 bK (eqI v30 (NV.int .i64 (.ofNat 1))) fun v168 =>
 J35 v168 h31) (J35 (NV.tuple []) h31)) fun J32 => gK v26 false (
 bK (ldO 1 false h28 v27) fun v169 =>
 J32 v169 h28) (J32 (NV.tuple []) h28)) fun J29 => gK v26 false (
 bK (fAddr 1 v2) fun v170 =>
 J29 v170 h24) (J29 (NV.tuple []) h24)) fun J25 => gK v16 true (
 bK (eqI v20 (NV.int .i64 (.ofNat 0))) fun v171 =>
 J25 v171 h21) (J25 (NV.tuple []) h21)) fun J22 => gK v16 true (
 bK (ldO 1 false h18 v17) fun v172 =>
 J22 v172 h18) (J22 (NV.tuple []) h18)) fun J19 => gK v16 true (
 bK (fAddr 2 v2) fun v173 =>
 J19 v173 h12) (J19 (NV.tuple []) h12)) (
 bK (fAddr 6 v2) fun v174 =>
 bK (ldO 1 false h12 v174) fun v175 =>
 bK (lenSl v175) fun v176 =>
 bK (fAddr 7 v2) fun v177 =>
 bK (ldO 1 false h12 v177) fun v178 =>
 bK (lenSl v178) fun v179 =>
 bK (addI v176 v179) fun v180 =>
 bK (gtI v180 (NV.int .i64 (.ofNat 0))) fun v181 =>
 jK (fun v182 h183 =>
 jK (fun v185 h186 =>
 bK (pickO v181 (NV.bool true) v185) fun v188 =>
 condK v188 (
 retC (NV.bool false) h186) (
 bK (eqI v11 (NV.int .i64 (.ofNat 2))) fun v189 =>
 joinC 3 (fun v190 v191 v192 h193 =>
 condK v192 (
 bK (ldO 9 true h193 v190) fun v195 =>
 bK (bldO [(0, 1)] [(NV.bool false), (NV.bool false), (NV.bool false), (NV.bool false), (NV.bool false)] [(NV.bool true)]) fun v196 =>
 mK (calM call 276 [v195, v196] h193) fun v197 h198 =>
 jK (fun v199 h200 =>
 jK (fun v202 h203 =>
 jK (fun v205 h206 =>
 bK (pickO v197 v205 (NV.bool false)) fun v208 =>
 retC v208 h206) fun J207 => gK v197 true (
 mK (calM call 132 [v202] h203) fun v209 h210 =>
 J207 v209 h210) (J207 (NV.tuple []) h203)) fun J204 => gK v197 true (
 bK (ldO 1 false h200 v199) fun v211 =>
 J204 v211 h200) (J204 (NV.tuple []) h200)) fun J201 => gK v197 true (
 bK (fAddr 1 v190) fun v212 =>
 J201 v212 h198) (J201 (NV.tuple []) h198)) (
 bK (eqI v191 (NV.int .i64 (.ofNat 3))) fun v213 =>
 condK v213 (
 bK (ldO 9 true h193 v190) fun v214 =>
 bK (bldO [(0, 1), (4, 1)] [(NV.bool false), (NV.bool false), (NV.bool false), (NV.bool false), (NV.bool false)] [(NV.bool true), (NV.bool true)]) fun v215 =>
 mK (calM call 276 [v214, v215] h193) fun v216 h217 =>
 jK (fun v218 h219 =>
 jK (fun v221 h222 =>
 jK (fun v224 h225 =>
 bK (pickO v216 v224 (NV.bool false)) fun v227 =>
 jK (fun v228 h229 =>
 jK (fun v231 h232 =>
 jK (fun v234 h235 =>
 bK (pickO v227 v234 (NV.bool false)) fun v237 =>
 retC v237 h235) fun J236 => gK v227 true (
 mK (calM call 129 [v231, (NV.func (.func 132) [] [])] h232) fun v238 h239 =>
 J236 v238 h239) (J236 (NV.tuple []) h232)) fun J233 => gK v227 true (
 bK (ldO 1 false h229 v228) fun v240 =>
 J233 v240 h229) (J233 (NV.tuple []) h229)) fun J230 => gK v227 true (
 bK (fAddr 5 v190) fun v241 =>
 J230 v241 h225) (J230 (NV.tuple []) h225)) fun J226 => gK v216 true (
 mK (calM call 132 [v221] h222) fun v242 h243 =>
 J226 v242 h243) (J226 (NV.tuple []) h222)) fun J223 => gK v216 true (
 bK (ldO 1 false h219 v218) fun v244 =>
 J223 v244 h219) (J223 (NV.tuple []) h219)) fun J220 => gK v216 true (
 bK (fAddr 1 v190) fun v245 =>
 J220 v245 h217) (J220 (NV.tuple []) h217)) (
 bK (eqI v191 (NV.int .i64 (.ofNat 5))) fun v246 =>
 joinC 3 (fun v247 v248 v249 h250 =>
 condK v249 (
 bK (ldO 9 true h250 v247) fun v252 =>
 bK (bldO [(0, 1), (1, 1)] [(NV.bool false), (NV.bool false), (NV.bool false), (NV.bool false), (NV.bool false)] [(NV.bool true), (NV.bool true)]) fun v253 =>
 mK (calM call 276 [v252, v253] h250) fun v254 h255 =>
 jK (fun v256 h257 =>
 jK (fun v259 h260 =>
 jK (fun v262 h263 =>
 bK (pickO v254 v262 (NV.bool false)) fun v265 =>
 jK (fun v266 h267 =>
 jK (fun v269 h270 =>
 jK (fun v272 h273 =>
 bK (pickO v265 v272 (NV.bool false)) fun v275 =>
 retC v275 h273) fun J274 => gK v265 true (
 mK (calM call 132 [v269] h270) fun v276 h277 =>
 J274 v276 h277) (J274 (NV.tuple []) h270)) fun J271 => gK v265 true (
 bK (ldO 1 false h267 v266) fun v278 =>
 J271 v278 h267) (J271 (NV.tuple []) h267)) fun J268 => gK v265 true (
 bK (fAddr 2 v247) fun v279 =>
 J268 v279 h263) (J268 (NV.tuple []) h263)) fun J264 => gK v254 true (
 mK (calM call 132 [v259] h260) fun v280 h281 =>
 J264 v280 h281) (J264 (NV.tuple []) h260)) fun J261 => gK v254 true (
 bK (ldO 1 false h257 v256) fun v282 =>
 J261 v282 h257) (J261 (NV.tuple []) h257)) fun J258 => gK v254 true (
 bK (fAddr 1 v247) fun v283 =>
 J258 v283 h255) (J258 (NV.tuple []) h255)) (
 bK (eqI v248 (NV.int .i64 (.ofNat 26))) fun v284 =>
 condK v284 (
 bK (ldO 9 true h250 v247) fun v285 =>
 bK (bldO [(0, 1), (1, 1), (4, 1)] [(NV.bool false), (NV.bool false), (NV.bool false), (NV.bool false), (NV.bool false)] [(NV.bool true), (NV.bool true), (NV.bool true)]) fun v286 =>
 mK (calM call 276 [v285, v286] h250) fun v287 h288 =>
 jK (fun v289 h290 =>
 jK (fun v292 h293 =>
 jK (fun v295 h296 =>
 bK (pickO v287 v295 (NV.bool false)) fun v298 =>
 jK (fun v299 h300 =>
 jK (fun v302 h303 =>
 jK (fun v305 h306 =>
 bK (pickO v298 v305 (NV.bool false)) fun v308 =>
 jK (fun v309 h310 =>
 jK (fun v312 h313 =>
 jK (fun v315 h316 =>
 jK (fun v318 h319 =>
 bK (pickO v308 v318 (NV.bool false)) fun v321 =>
 jK (fun v322 h323 =>
 jK (fun v325 h326 =>
 jK (fun v328 h329 =>
 jK (fun v331 h332 =>
 jK (fun v334 h335 =>
 bK (pickO v321 v334 (NV.bool false)) fun v337 =>
 retC v337 h335) fun J336 => gK v321 true (
 mK (calM call 277 [v331] h332) fun v338 h339 =>
 J336 v338 h339) (J336 (NV.tuple []) h332)) fun J333 => gK v321 true (
 bK (ldO 1 false h329 v328) fun v340 =>
 J333 v340 h329) (J333 (NV.tuple []) h329)) fun J330 => gK v321 true (
 bK (ixS 1 v325 (NV.int .i64 (.ofNat 0))) fun v341 =>
 J330 v341 h326) (J330 (NV.tuple []) h326)) fun J327 => gK v321 true (
 bK (ldO 1 false h323 v322) fun v342 =>
 J327 v342 h323) (J327 (NV.tuple []) h323)) fun J324 => gK v321 true (
 bK (fAddr 5 v247) fun v343 =>
 J324 v343 h319) (J324 (NV.tuple []) h319)) fun J320 => gK v308 true (
 bK (eqI v315 (NV.int .i64 (.ofNat 1))) fun v344 =>
 J320 v344 h316) (J320 (NV.tuple []) h316)) fun J317 => gK v308 true (
 bK (lenSl v312) fun v345 =>
 J317 v345 h313) (J317 (NV.tuple []) h313)) fun J314 => gK v308 true (
 bK (ldO 1 false h310 v309) fun v346 =>
 J314 v346 h310) (J314 (NV.tuple []) h310)) fun J311 => gK v308 true (
 bK (fAddr 5 v247) fun v347 =>
 J311 v347 h306) (J311 (NV.tuple []) h306)) fun J307 => gK v298 true (
 mK (calM call 132 [v302] h303) fun v348 h349 =>
 J307 v348 h349) (J307 (NV.tuple []) h303)) fun J304 => gK v298 true (
 bK (ldO 1 false h300 v299) fun v350 =>
 J304 v350 h300) (J304 (NV.tuple []) h300)) fun J301 => gK v298 true (
 bK (fAddr 2 v247) fun v351 =>
 J301 v351 h296) (J301 (NV.tuple []) h296)) fun J297 => gK v287 true (
 mK (calM call 132 [v292] h293) fun v352 h353 =>
 J297 v352 h353) (J297 (NV.tuple []) h293)) fun J294 => gK v287 true (
 bK (ldO 1 false h290 v289) fun v354 =>
 J294 v354 h290) (J294 (NV.tuple []) h290)) fun J291 => gK v287 true (
 bK (fAddr 1 v247) fun v355 =>
 J291 v355 h288) (J291 (NV.tuple []) h288)) (
 bK (eqI v248 (NV.int .i64 (.ofNat 6))) fun v356 =>
 condK v356 (
 bK (ldO 9 true h250 v247) fun v357 =>
 bK (bldO [(4, 1)] [(NV.bool false), (NV.bool false), (NV.bool false), (NV.bool false), (NV.bool false)] [(NV.bool true)]) fun v358 =>
 mK (calM call 276 [v357, v358] h250) fun v359 h360 =>
 jK (fun v361 h362 =>
 jK (fun v364 h365 =>
 jK (fun v367 h368 =>
 bK (pickO v359 v367 (NV.bool false)) fun v370 =>
 retC v370 h368) fun J369 => gK v359 true (
 mK (calM call 129 [v364, (NV.func (.func 130) [] [])] h365) fun v371 h372 =>
 J369 v371 h372) (J369 (NV.tuple []) h365)) fun J366 => gK v359 true (
 bK (ldO 1 false h362 v361) fun v373 =>
 J366 v373 h362) (J366 (NV.tuple []) h362)) fun J363 => gK v359 true (
 bK (fAddr 5 v247) fun v374 =>
 J363 v374 h360) (J363 (NV.tuple []) h360)) (
 bK (eqI v248 (NV.int .i64 (.ofNat 12))) fun v375 =>
 joinC 3 (fun v376 v377 v378 h379 =>
 condK v378 (
 bK (ldO 9 true h379 v376) fun v381 =>
 bK (bldO [(2, 1)] [(NV.bool false), (NV.bool false), (NV.bool false), (NV.bool false), (NV.bool false)] [(NV.bool true)]) fun v382 =>
 mK (calM call 276 [v381, v382] h379) fun v383 h384 =>
 jK (fun v385 h386 =>
 jK (fun v388 h389 =>
 jK (fun v391 h392 =>
 bK (pickO v383 v391 (NV.bool false)) fun v394 =>
 retC v394 h392) fun J393 => gK v383 true (
 bK (ltI v388 (NV.int .u64 (.ofNat 4294967296))) fun v395 =>
 J393 v395 h389) (J393 (NV.tuple []) h389)) fun J390 => gK v383 true (
 bK (ldO 1 false h386 v385) fun v396 =>
 J390 v396 h386) (J390 (NV.tuple []) h386)) fun J387 => gK v383 true (
 bK (fAddr 3 v376) fun v397 =>
 J387 v397 h384) (J387 (NV.tuple []) h384)) (
 bK (eqI v377 (NV.int .i64 (.ofNat 13))) fun v398 =>
 joinC 3 (fun v399 v400 v401 h402 =>
 condK v401 (
 bK (ldO 9 true h402 v399) fun v404 =>
 bK (bldO [(2, 1)] [(NV.bool false), (NV.bool false), (NV.bool false), (NV.bool false), (NV.bool false)] [(NV.bool true)]) fun v405 =>
 mK (calM call 276 [v404, v405] h402) fun v406 h407 =>
 retC v406 h407) (
 bK (eqI v400 (NV.int .i64 (.ofNat 23))) fun v408 =>
 condK v408 (
 bK (ldO 9 true h402 v399) fun v409 =>
 bK (bldO [(2, 1), (3, 1)] [(NV.bool false), (NV.bool false), (NV.bool false), (NV.bool false), (NV.bool false)] [(NV.bool true), (NV.bool true)]) fun v410 =>
 mK (calM call 276 [v409, v410] h402) fun v411 h412 =>
 retC v411 h412) (
 bK (eqI v400 (NV.int .i64 (.ofNat 16))) fun v413 =>
 condK v413 (
 bK (ldO 9 true h402 v399) fun v414 =>
 bK (bldO [(0, 1)] [(NV.bool false), (NV.bool false), (NV.bool false), (NV.bool false), (NV.bool false)] [(NV.bool true)]) fun v415 =>
 mK (calM call 276 [v414, v415] h402) fun v416 h417 =>
 jK (fun v418 h419 =>
 jK (fun v421 h422 =>
 jK (fun v424 h425 =>
 bK (pickO v416 v424 (NV.bool false)) fun v427 =>
 retC v427 h425) fun J426 => gK v416 true (
 mK (calM call 139 [v421] h422) fun v428 h429 =>
 J426 v428 h429) (J426 (NV.tuple []) h422)) fun J423 => gK v416 true (
 bK (ldO 1 false h419 v418) fun v430 =>
 J423 v430 h419) (J423 (NV.tuple []) h419)) fun J420 => gK v416 true (
 bK (fAddr 1 v399) fun v431 =>
 J420 v431 h417) (J420 (NV.tuple []) h417)) (
 bK (eqI v400 (NV.int .i64 (.ofNat 24))) fun v432 =>
 condK v432 (
 bK (ldO 9 true h402 v399) fun v433 =>
 bK (bldO [(4, 1)] [(NV.bool false), (NV.bool false), (NV.bool false), (NV.bool false), (NV.bool false)] [(NV.bool true)]) fun v434 =>
 mK (calM call 276 [v433, v434] h402) fun v435 h436 =>
 jK (fun v437 h438 =>
 jK (fun v440 h441 =>
 jK (fun v443 h444 =>
 jK (fun v446 h447 =>
 bK (pickO v435 v446 (NV.bool false)) fun v449 =>
 jK (fun v450 h451 =>
 jK (fun v453 h454 =>
 jK (fun v456 h457 =>
 bK (pickO v449 v456 (NV.bool false)) fun v459 =>
 retC v459 h457) fun J458 => gK v449 true (
 mK (calM call 129 [v453, (NV.func (.func 277) [] [])] h454) fun v460 h461 =>
 J458 v460 h461) (J458 (NV.tuple []) h454)) fun J455 => gK v449 true (
 bK (ldO 1 false h451 v450) fun v462 =>
 J455 v462 h451) (J455 (NV.tuple []) h451)) fun J452 => gK v449 true (
 bK (fAddr 5 v399) fun v463 =>
 J452 v463 h447) (J452 (NV.tuple []) h447)) fun J448 => gK v435 true (
 bK (eqI v443 (NV.int .i64 (.ofNat 16))) fun v464 =>
 J448 v464 h444) (J448 (NV.tuple []) h444)) fun J445 => gK v435 true (
 bK (lenSl v440) fun v465 =>
 J445 v465 h441) (J445 (NV.tuple []) h441)) fun J442 => gK v435 true (
 bK (ldO 1 false h438 v437) fun v466 =>
 J442 v466 h438) (J442 (NV.tuple []) h438)) fun J439 => gK v435 true (
 bK (fAddr 5 v399) fun v467 =>
 J439 v467 h436) (J439 (NV.tuple []) h436)) (
 bK (eqI v400 (NV.int .i64 (.ofNat 25))) fun v468 =>
 condK v468 (
 bK (ldO 9 true h402 v399) fun v469 =>
 bK (bldO [(0, 1)] [(NV.bool false), (NV.bool false), (NV.bool false), (NV.bool false), (NV.bool false)] [(NV.bool true)]) fun v470 =>
 mK (calM call 276 [v469, v470] h402) fun v471 h472 =>
 jK (fun v473 h474 =>
 jK (fun v476 h477 =>
 jK (fun v479 h480 =>
 bK (pickO v471 v479 (NV.bool false)) fun v482 =>
 retC v482 h480) fun J481 => gK v471 true (
 mK (calM call 277 [v476] h477) fun v483 h484 =>
 J481 v483 h484) (J481 (NV.tuple []) h477)) fun J478 => gK v471 true (
 bK (ldO 1 false h474 v473) fun v485 =>
 J478 v485 h474) (J478 (NV.tuple []) h474)) fun J475 => gK v471 true (
 bK (fAddr 1 v399) fun v486 =>
 J475 v486 h472) (J475 (NV.tuple []) h472)) (
 bK (ldO 9 true h402 v399) fun v487 =>
 bK (bldO [] [(NV.bool false), (NV.bool false), (NV.bool false), (NV.bool false), (NV.bool false)] []) fun v488 =>
 mK (calM call 276 [v487, v488] h402) fun v489 h490 =>
 retC v489 h490)))))) fun J403 =>
 condK v398 (
 J403 v376 v377 v398 h379) (
 bK (eqI v377 (NV.int .i64 (.ofNat 15))) fun v491 =>
 J403 v376 v377 v491 h379))) fun J380 =>
 condK v375 (
 J380 v247 v248 v375 h250) (
 bK (eqI v248 (NV.int .i64 (.ofNat 14))) fun v492 =>
 J380 v247 v248 v492 h250))))) fun J251 =>
 condK v246 (
 J251 v190 v191 v246 h193) (
 bK (eqI v191 (NV.int .i64 (.ofNat 20))) fun v493 =>
 condK v493 (
 J251 v190 v191 v493 h193) (
 bK (eqI v191 (NV.int .i64 (.ofNat 22))) fun v494 =>
 condK v494 (
 J251 v190 v191 v494 h193) (
 bK (eqI v191 (NV.int .i64 (.ofNat 10))) fun v495 =>
 J251 v190 v191 v495 h193)))))) fun J194 =>
 condK v189 (
 J194 v2 v11 v189 h186) (
 bK (eqI v11 (NV.int .i64 (.ofNat 4))) fun v496 =>
 condK v496 (
 J194 v2 v11 v496 h186) (
 bK (eqI v11 (NV.int .i64 (.ofNat 7))) fun v497 =>
 condK v497 (
 J194 v2 v11 v497 h186) (
 bK (eqI v11 (NV.int .i64 (.ofNat 8))) fun v498 =>
 condK v498 (
 J194 v2 v11 v498 h186) (
 bK (eqI v11 (NV.int .i64 (.ofNat 9))) fun v499 =>
 condK v499 (
 J194 v2 v11 v499 h186) (
 bK (eqI v11 (NV.int .i64 (.ofNat 17))) fun v500 =>
 condK v500 (
 J194 v2 v11 v500 h186) (
 bK (eqI v11 (NV.int .i64 (.ofNat 18))) fun v501 =>
 condK v501 (
 J194 v2 v11 v501 h186) (
 bK (eqI v11 (NV.int .i64 (.ofNat 21))) fun v502 =>
 J194 v2 v11 v502 h186))))))))) fun J187 => gK v181 false (
 bK (ldO 1 false h183 v182) fun v503 =>
 J187 v503 h183) (J187 (NV.tuple []) h183)) fun J184 => gK v181 false (
 bK (fAddr 8 v2) fun v504 =>
 J184 v504 h12) (J184 (NV.tuple []) h12))))
theorem e202 : ikB Tryz.prog 10 Tryz.f202 = S202 := by kernel_rfl
theorem k202 [Sig] (w0 : World) : SOK cW w0 202 S202 := okW Tryz.func202 (by kernel_rfl) e202
noncomputable def S204 (call : CallF) (N : Nat) (l : List NV) (h : H) : R :=
 uc l fun v0 l1 => uc l1 fun v2 l3 => un l3 (
 bK (ldO 1 false h v2) fun v4 =>
 mK (calV call v4 [v0] h) fun v5 h6 =>
 bK (notO v5) fun v7 =>
 retC v7 h6)
theorem e204 : ikB Tryz.prog 10 Tryz.f204 = S204 := by kernel_rfl
theorem k204 [Sig] (w0 : World) : SOK cW w0 204 S204 := okW Tryz.func204 (by kernel_rfl) e204
noncomputable def S203 (call : CallF) (N : Nat) (l : List NV) (h : H) : R :=
 uc l fun v0 l1 => uc l1 fun v2 l3 => un l3 (
 mK (calM call 278 [v0, v2] h) fun v4 h5 =>
 bK (geI v4 (NV.int .i64 (.ofNat 0))) fun v6 =>
 retC v6 h5)
theorem e203 : ikB Tryz.prog 10 Tryz.f203 = S203 := by kernel_rfl
theorem k203 [Sig] (w0 : World) : SOK cW w0 203 S203 := okW Tryz.func203 (by kernel_rfl) e203
noncomputable def S279 (call : CallF) (N : Nat) (l : List NV) (h : H) : R :=
 uc l fun v0 l1 => uc l1 fun v2 l3 => un l3 (
 bK (lenSl v0) fun v4 =>
 joinC 0 (fun h5 =>
 retC (NV.int .i64 (.negSucc 0)) h5) fun J6 =>
 loopC N 4 (fun L12 v7 v8 v9 v10 h11 =>
 bK (ltI v10 v9) fun v13 =>
 condK v13 (
 bK (ixS 2 v7 v10) fun v14 =>
 bK (ldO 2 true h11 v14) fun v15 =>
 mK (calV call v8 [v15] h11) fun v16 h17 =>
 condK v16 (
 retC v10 h17) (
 bK (addI v10 (NV.int .i64 (.ofNat 1))) fun v18 =>
 L12 v7 v8 v9 v18 h17)) (
 J6 h11)) v0 v2 v4 (NV.int .i64 (.ofNat 0)) h)
theorem e279 : ikB Tryz.prog 10 Tryz.f279 = S279 := by kernel_rfl
theorem k279 [Sig] (w0 : World) : SOK cW w0 279 S279 := okW Tryz.func279 (by kernel_rfl) e279
noncomputable def S280 (call : CallF) (N : Nat) (l : List NV) (h : H) : R :=
 uc l fun v0 l1 => uc l1 fun v2 l3 => un l3 (
 bK (lenSl v0) fun v4 =>
 joinC 0 (fun h5 =>
 retC (NV.int .i64 (.negSucc 0)) h5) fun J6 =>
 loopC N 4 (fun L12 v7 v8 v9 v10 h11 =>
 bK (ltI v10 v9) fun v13 =>
 condK v13 (
 bK (ixS 13 v7 v10) fun v14 =>
 bK (ldO 13 true h11 v14) fun v15 =>
 mK (calV call v8 [v15] h11) fun v16 h17 =>
 condK v16 (
 retC v10 h17) (
 bK (addI v10 (NV.int .i64 (.ofNat 1))) fun v18 =>
 L12 v7 v8 v9 v18 h17)) (
 J6 h11)) v0 v2 v4 (NV.int .i64 (.ofNat 0)) h)
theorem e280 : ikB Tryz.prog 10 Tryz.f280 = S280 := by kernel_rfl
theorem k280 [Sig] (w0 : World) : SOK cW w0 280 S280 := okW Tryz.func280 (by kernel_rfl) e280
noncomputable def S281 (call : CallF) (N : Nat) (l : List NV) (h : H) : R :=
 uc l fun v0 l1 => uc l1 fun v2 l3 => un l3 (
 bK (lenSl v0) fun v4 =>
 joinC 0 (fun h5 =>
 retC (NV.int .i64 (.negSucc 0)) h5) fun J6 =>
 loopC N 4 (fun L12 v7 v8 v9 v10 h11 =>
 bK (ltI v10 v9) fun v13 =>
 condK v13 (
 bK (ixS 3 v7 v10) fun v14 =>
 bK (ldO 3 true h11 v14) fun v15 =>
 mK (calV call v8 [v15] h11) fun v16 h17 =>
 condK v16 (
 retC v10 h17) (
 bK (addI v10 (NV.int .i64 (.ofNat 1))) fun v18 =>
 L12 v7 v8 v9 v18 h17)) (
 J6 h11)) v0 v2 v4 (NV.int .i64 (.ofNat 0)) h)
theorem e281 : ikB Tryz.prog 10 Tryz.f281 = S281 := by kernel_rfl
theorem k281 [Sig] (w0 : World) : SOK cW w0 281 S281 := okW Tryz.func281 (by kernel_rfl) e281
noncomputable def S282 (call : CallF) (N : Nat) (l : List NV) (h : H) : R :=
 uc l fun v0 l1 => uc l1 fun v2 l3 => un l3 (
 bK (lenSl v0) fun v4 =>
 joinC 0 (fun h5 =>
 retC (NV.int .i64 (.negSucc 0)) h5) fun J6 =>
 loopC N 4 (fun L12 v7 v8 v9 v10 h11 =>
 bK (ltI v10 v9) fun v13 =>
 condK v13 (
 bK (ixS 3 v7 v10) fun v14 =>
 bK (ldO 3 true h11 v14) fun v15 =>
 mK (calV call v8 [v15] h11) fun v16 h17 =>
 condK v16 (
 retC v10 h17) (
 bK (addI v10 (NV.int .i64 (.ofNat 1))) fun v18 =>
 L12 v7 v8 v9 v18 h17)) (
 J6 h11)) v0 v2 v4 (NV.int .i64 (.ofNat 0)) h)
theorem e282 : ikB Tryz.prog 10 Tryz.f282 = S282 := by kernel_rfl
theorem k282 [Sig] (w0 : World) : SOK cW w0 282 S282 := okW Tryz.func282 (by kernel_rfl) e282
noncomputable def S283 (call : CallF) (N : Nat) (l : List NV) (h : H) : R :=
 uc l fun v0 l1 => uc l1 fun v2 l3 => un l3 (
 bK (lenSl v0) fun v4 =>
 joinC 0 (fun h5 =>
 retC (NV.int .i64 (.negSucc 0)) h5) fun J6 =>
 loopC N 4 (fun L12 v7 v8 v9 v10 h11 =>
 bK (ltI v10 v9) fun v13 =>
 condK v13 (
 bK (ixS 3 v7 v10) fun v14 =>
 bK (ldO 3 true h11 v14) fun v15 =>
 mK (calV call v8 [v15] h11) fun v16 h17 =>
 condK v16 (
 retC v10 h17) (
 bK (addI v10 (NV.int .i64 (.ofNat 1))) fun v18 =>
 L12 v7 v8 v9 v18 h17)) (
 J6 h11)) v0 v2 v4 (NV.int .i64 (.ofNat 0)) h)
theorem e283 : ikB Tryz.prog 10 Tryz.f283 = S283 := by kernel_rfl
theorem k283 [Sig] (w0 : World) : SOK cW w0 283 S283 := okW Tryz.func283 (by kernel_rfl) e283
noncomputable def S284 (call : CallF) (N : Nat) (l : List NV) (h : H) : R :=
 uc l fun v0 l1 => uc l1 fun v2 l3 => un l3 (
 bK (lenSl v0) fun v4 =>
 joinC 0 (fun h5 =>
 retC (NV.int .i64 (.negSucc 0)) h5) fun J6 =>
 loopC N 4 (fun L12 v7 v8 v9 v10 h11 =>
 bK (ltI v10 v9) fun v13 =>
 condK v13 (
 bK (ixS 5 v7 v10) fun v14 =>
 bK (ldO 5 true h11 v14) fun v15 =>
 mK (calV call v8 [v15] h11) fun v16 h17 =>
 condK v16 (
 retC v10 h17) (
 bK (addI v10 (NV.int .i64 (.ofNat 1))) fun v18 =>
 L12 v7 v8 v9 v18 h17)) (
 J6 h11)) v0 v2 v4 (NV.int .i64 (.ofNat 0)) h)
theorem e284 : ikB Tryz.prog 10 Tryz.f284 = S284 := by kernel_rfl
theorem k284 [Sig] (w0 : World) : SOK cW w0 284 S284 := okW Tryz.func284 (by kernel_rfl) e284
noncomputable def S285 (call : CallF) (N : Nat) (l : List NV) (h : H) : R :=
 uc l fun v0 l1 => uc l1 fun v2 l3 => un l3 (
 bK (lenSl v0) fun v4 =>
 joinC 0 (fun h5 =>
 retC (NV.int .i64 (.negSucc 0)) h5) fun J6 =>
 loopC N 4 (fun L12 v7 v8 v9 v10 h11 =>
 bK (ltI v10 v9) fun v13 =>
 condK v13 (
 bK (ixS 4 v7 v10) fun v14 =>
 bK (ldO 4 true h11 v14) fun v15 =>
 mK (calV call v8 [v15] h11) fun v16 h17 =>
 condK v16 (
 retC v10 h17) (
 bK (addI v10 (NV.int .i64 (.ofNat 1))) fun v18 =>
 L12 v7 v8 v9 v18 h17)) (
 J6 h11)) v0 v2 v4 (NV.int .i64 (.ofNat 0)) h)
theorem e285 : ikB Tryz.prog 10 Tryz.f285 = S285 := by kernel_rfl
theorem k285 [Sig] (w0 : World) : SOK cW w0 285 S285 := okW Tryz.func285 (by kernel_rfl) e285
noncomputable def S286 (call : CallF) (N : Nat) (l : List NV) (h : H) : R :=
 uc l fun v0 l1 => uc l1 fun v2 l3 => un l3 (
 bK (ltI v2 (NV.int .i64 (.ofNat 0))) fun v4 =>
 joinC 2 (fun v5 v6 h7 =>
 bK (capO v5) fun v9 =>
 bK (lenSl v5) fun v10 =>
 bK (subI v9 v10) fun v11 =>
 bK (subI v6 v11) fun v12 =>
 bK (gtI v12 (NV.int .i64 (.ofNat 0))) fun v13 =>
 joinC 1 (fun v14 h15 =>
 retC v14 h15) fun J16 =>
 condK v13 (
 bK (capO v5) fun v17 =>
 bK (slcO Tryz.prog 25 h7 v5 none (some v17) none) fun v18 =>
 mK (zapM Tryz.prog 3 v18 v12 h7) fun v19 h20 =>
 bK (lenSl v5) fun v21 =>
 bK (slcO Tryz.prog 25 h20 v19 none (some v21) none) fun v22 =>
 J16 v22 h20) (
 J16 v5 h7)) fun J8 =>
 condK v4 (
 none /- panic -/) (
 J8 v0 v2 h))
theorem e286 : ikB Tryz.prog 10 Tryz.f286 = S286 := by kernel_rfl
theorem k286 [Sig] (w0 : World) : SOK cW w0 286 S286 := okW Tryz.func286 (by kernel_rfl) e286
noncomputable def S287 (call : CallF) (N : Nat) (l : List NV) (h : H) : R :=
 uc l fun v0 l1 => uc l1 fun v2 l3 => un l3 (
 mK (boxM false v2 h) fun v4 h5 =>
 bK (fAddr 0 v4) fun v6 =>
 bK (ldO 1 false h5 v6) fun v7 =>
 mK (calM call 56 [v7] h5) fun v8 h9 =>
 bK (extO 0 v8) fun v10 =>
 bK (extO 1 v8) fun v11 =>
 bK (extO 2 v8) fun v12 =>
 condK v12 (
 bK (ldO 9 true h9 v4) fun v13 =>
 mK (calM call 360 [v0, v13] h9) fun v14 h15 =>
 mK (calM call 289 [v0, v14] h15) fun v16 h17 =>
 mK (calM call 288 [v0, v10] h17) fun v18 h19 =>
 mK (calM call 361 [v0, v11] h19) fun v20 h21 =>
 retC (NV.tuple []) h21) (
 bK (fAddr 0 v4) fun v22 =>
 bK (ldO 1 false h9 v22) fun v23 =>
 bK (eqI v23 (NV.int .i64 (.ofNat 2))) fun v24 =>
 joinC 4 (fun v25 v26 v27 v28 h29 =>
 condK v28 (
 bK (ldO 9 true h29 v26) fun v31 =>
 mK (calM call 362 [v25, v31] h29) fun v32 h33 =>
 retC (NV.tuple []) h33) (
 bK (eqI v27 (NV.int .i64 (.ofNat 0))) fun v34 =>
 joinC 4 (fun v35 v36 v37 v38 h39 =>
 condK v38 (
 bK (ldO 9 true h39 v36) fun v41 =>
 mK (calM call 363 [v35, v41] h39) fun v42 h43 =>
 retC (NV.tuple []) h43) (
 bK (eqI v37 (NV.int .i64 (.ofNat 26))) fun v44 =>
 joinC 4 (fun v45 v46 v47 v48 h49 =>
 condK v48 (
 bK (ldO 9 true h49 v46) fun v51 =>
 mK (calM call 364 [v45, v51] h49) fun v52 h53 =>
 retC (NV.tuple []) h53) (
 bK (eqI v47 (NV.int .i64 (.ofNat 32))) fun v54 =>
 joinC 4 (fun v55 v56 v57 v58 h59 =>
 condK v58 (
 bK (fAddr 1 v56) fun v61 =>
 bK (ldO 1 false h59 (chkV h59 v61)) fun v62 =>
 bK (nilO v55) fun v63 =>
 bK (fAddr 1 v63) fun v64 =>
 bK (ldO 1 false h59 (chkV h59 v64)) fun v65 =>
 bK (lenSl v65) fun v66 =>
 bK (ltI v62 v66) fun v67 =>
 mK (calM call 289 [(chkV h59 v55), (chkV h59 v67)] h59) fun v68 h69 =>
 nextK h59 h69 (
 bK (nilO v55) fun v70 =>
 bK (fAddr 6 v70) fun v71 =>
 bK (ldO 1 false h69 v71) fun v72 =>
 condK v72 (
 bK (fAddr 0 v56) fun v73 =>
 bK (ldO 1 false h69 (chkV h69 v73)) fun v74 =>
 bK (subI v74 (NV.int .i64 (.ofNat 32))) fun v75 =>
 bK (nilO v55) fun v76 =>
 bK (fAddr 1 v76) fun v77 =>
 bK (ldO 1 false h69 (chkV h69 v77)) fun v78 =>
 bK (fAddr 1 v56) fun v79 =>
 bK (ldO 1 false h69 (chkV h69 v79)) fun v80 =>
 bK (ixS 1 v78 v80) fun v81 =>
 bK (ldO 1 false h69 (chkV h69 v81)) fun v82 =>
 mK (calM call 365 [(chkV h69 v55), (chkV h69 v75), (chkV h69 v82)] h69) fun v83 h84 =>
 nextK h69 h84 (
 retC (NV.tuple []) h84)) (
 retC (NV.tuple []) h69))) (
 bK (eqI v57 (NV.int .i64 (.ofNat 35))) fun v85 =>
 joinC 4 (fun v86 v87 v88 v89 h90 =>
 condK v89 (
 bK (fAddr 1 v87) fun v92 =>
 bK (ldO 1 false h90 (chkV h90 v92)) fun v93 =>
 bK (nilO v86) fun v94 =>
 bK (fAddr 0 v94) fun v95 =>
 bK (ldO 1 false h90 (chkV h90 v95)) fun v96 =>
 bK (nilO v96) fun v97 =>
 bK (fAddr 14 v97) fun v98 =>
 bK (ldO 1 false h90 (chkV h90 v98)) fun v99 =>
 bK (lenSl v99) fun v100 =>
 bK (ltI v93 v100) fun v101 =>
 jK (fun v102 h103 =>
 jK (fun v105 h106 =>
 jK (fun v108 h109 =>
 jK (fun v111 h112 =>
 jK (fun v114 h115 =>
 jK (fun v117 h118 =>
 jK (fun v120 h121 =>
 jK (fun v123 h124 =>
 jK (fun v126 h127 =>
 jK (fun v129 h130 =>
 jK (fun v132 h133 =>
 jK (fun v135 h136 =>
 jK (fun v138 h139 =>
 jK (fun v141 h142 =>
 jK (fun v144 h145 =>
 jK (fun v147 h148 =>
 jK (fun v150 h151 =>
 bK (pickO v101 v150 (NV.bool false)) fun v153 =>
 mK (calM call 289 [(chkV h90 v86), (chkV h90 v153)] h90) fun v154 h155 =>
 nextK h90 h155 (
 bK (nilO v86) fun v156 =>
 bK (fAddr 6 v156) fun v157 =>
 bK (ldO 1 false h155 v157) fun v158 =>
 condK v158 (
 bK (fAddr 0 v87) fun v159 =>
 bK (ldO 1 false h155 (chkV h155 v159)) fun v160 =>
 bK (subI v160 (NV.int .i64 (.ofNat 35))) fun v161 =>
 bK (nilO v86) fun v162 =>
 bK (fAddr 0 v162) fun v163 =>
 bK (ldO 1 false h155 (chkV h155 v163)) fun v164 =>
 bK (nilO v164) fun v165 =>
 bK (fAddr 14 v165) fun v166 =>
 bK (ldO 1 false h155 (chkV h155 v166)) fun v167 =>
 bK (fAddr 1 v87) fun v168 =>
 bK (ldO 1 false h155 (chkV h155 v168)) fun v169 =>
 bK (ixS 2 v167 v169) fun v170 =>
 bK (fAddr 0 v170) fun v171 =>
 bK (ldO 1 false h155 (chkV h155 v171)) fun v172 =>
 mK (calM call 365 [(chkV h155 v86), (chkV h155 v161), (chkV h155 v172)] h155) fun v173 h174 =>
 nextK h155 h174 (
 retC (NV.tuple []) h174)) (
 retC (NV.tuple []) h155))) fun J152 => gK v101 true (
 bK (pickO v111 (NV.bool true) v147) fun v175 =>
 J152 v175 h90) (J152 (NV.tuple []) h90)) fun J149 => gK v111 false (
 bK (ldO 1 false h90 (chkV h90 v144)) fun v176 =>
 J149 v176 h90) (J149 (NV.tuple []) h90)) fun J146 => gK v111 false (
 bK (fAddr 1 v141) fun v177 =>
 J146 v177 h90) (J146 (NV.tuple []) h90)) fun J143 => gK v111 false (
 bK (ixS 2 v132 v138) fun v178 =>
 J143 v178 h90) (J143 (NV.tuple []) h90)) fun J140 => gK v111 false (
 bK (ldO 1 false h90 (chkV h90 v135)) fun v179 =>
 J140 v179 h90) (J140 (NV.tuple []) h90)) fun J137 => gK v111 false (
 bK (fAddr 1 v87) fun v180 =>
 J137 v180 h90) (J137 (NV.tuple []) h90)) fun J134 => gK v111 false (
 bK (ldO 1 false h90 (chkV h90 v129)) fun v181 =>
 J134 v181 h90) (J134 (NV.tuple []) h90)) fun J131 => gK v111 false (
 bK (fAddr 14 v126) fun v182 =>
 J131 v182 h90) (J131 (NV.tuple []) h90)) fun J128 => gK v111 false (
 bK (nilO v123) fun v183 =>
 J128 v183 h90) (J128 (NV.tuple []) h90)) fun J125 => gK v111 false (
 bK (ldO 1 false h90 (chkV h90 v120)) fun v184 =>
 J125 v184 h90) (J125 (NV.tuple []) h90)) fun J122 => gK v111 false (
 bK (fAddr 0 v117) fun v185 =>
 J122 v185 h90) (J122 (NV.tuple []) h90)) fun J119 => gK v111 false (
 bK (nilO v114) fun v186 =>
 J119 v186 h90) (J119 (NV.tuple []) h90)) fun J116 => gK v111 false (
 J116 v86 h90) (J116 (NV.tuple []) h90)) fun J113 => gK v101 true (
 J113 v108 h90) (J113 (NV.tuple []) h90)) fun J110 => gK v101 true (
 bK (eqI v105 (NV.int .i64 (.ofNat 35))) fun v187 =>
 J110 v187 h90) (J110 (NV.tuple []) h90)) fun J107 => gK v101 true (
 bK (ldO 1 false h90 (chkV h90 v102)) fun v188 =>
 J107 v188 h90) (J107 (NV.tuple []) h90)) fun J104 => gK v101 true (
 bK (fAddr 0 v87) fun v189 =>
 J104 v189 h90) (J104 (NV.tuple []) h90)) (
 bK (eqI v88 (NV.int .i64 (.ofNat 208))) fun v190 =>
 condK v190 (
 bK (fAddr 1 v87) fun v191 =>
 bK (ldO 1 false h90 v191) fun v192 =>
 mK (bslM 1 false [(0, 1)] [(NV.int .i64 (.ofNat 0))] [v192] h90) fun v193 h194 =>
 mK (calM call 361 [v86, v193] h194) fun v195 h196 =>
 retC (NV.tuple []) h196) (
 bK (eqI v88 (NV.int .i64 (.ofNat 209))) fun v197 =>
 condK v197 (
 mK (calM call 366 [v86] h90) fun v198 h199 =>
 bK (eqI v198 (NV.int .i64 (.ofNat 0))) fun v200 =>
 jK (fun v201 h202 =>
 jK (fun v204 h205 =>
 bK (pickO v200 (NV.bool true) v204) fun v207 =>
 jK (fun v208 h209 =>
 jK (fun v211 h212 =>
 bK (pickO v207 (NV.bool true) v211) fun v214 =>
 mK (calM call 289 [v86, v214] h212) fun v215 h216 =>
 mK (bslM 1 false [(0, 1)] [(NV.int .i64 (.ofNat 0))] [(NV.int .i64 (.ofNat 127))] h216) fun v217 h218 =>
 mK (calM call 361 [v86, v217] h218) fun v219 h220 =>
 retC (NV.tuple []) h220) fun J213 => gK v207 false (
 bK (eqI v208 (NV.int .i64 (.ofNat 111))) fun v221 =>
 J213 v221 h209) (J213 (NV.tuple []) h209)) fun J210 => gK v207 false (
 J210 v198 h205) (J210 (NV.tuple []) h205)) fun J206 => gK v200 false (
 bK (eqI v201 (NV.int .i64 (.ofNat 112))) fun v222 =>
 J206 v222 h202) (J206 (NV.tuple []) h202)) fun J203 => gK v200 false (
 J203 v198 h199) (J203 (NV.tuple []) h199)) (
 bK (ldO 9 true h90 v87) fun v223 =>
 mK (calM call 367 [v86, v223] h90) fun v224 h225 =>
 retC (NV.tuple []) h225)))) fun J91 =>
 condK v85 (
 J91 v55 v56 v57 v85 h59) (
 bK (eqI v57 (NV.int .i64 (.ofNat 36))) fun v226 =>
 J91 v55 v56 v57 v226 h59))) fun J60 =>
 condK v54 (
 J60 v45 v46 v47 v54 h49) (
 bK (eqI v47 (NV.int .i64 (.ofNat 33))) fun v227 =>
 condK v227 (
 J60 v45 v46 v47 v227 h49) (
 bK (eqI v47 (NV.int .i64 (.ofNat 34))) fun v228 =>
 J60 v45 v46 v47 v228 h49)))) fun J50 =>
 condK v44 (
 J50 v35 v36 v37 v44 h39) (
 bK (eqI v37 (NV.int .i64 (.ofNat 27))) fun v229 =>
 condK v229 (
 J50 v35 v36 v37 v229 h39) (
 bK (eqI v37 (NV.int .i64 (.ofNat 28))) fun v230 =>
 J50 v35 v36 v37 v230 h39)))) fun J40 =>
 condK v34 (
 J40 v25 v26 v27 v34 h29) (
 bK (eqI v27 (NV.int .i64 (.ofNat 12))) fun v231 =>
 condK v231 (
 J40 v25 v26 v27 v231 h29) (
 bK (eqI v27 (NV.int .i64 (.ofNat 13))) fun v232 =>
 condK v232 (
 J40 v25 v26 v27 v232 h29) (
 bK (eqI v27 (NV.int .i64 (.ofNat 14))) fun v233 =>
 condK v233 (
 J40 v25 v26 v27 v233 h29) (
 bK (eqI v27 (NV.int .i64 (.ofNat 15))) fun v234 =>
 condK v234 (
 J40 v25 v26 v27 v234 h29) (
 bK (eqI v27 (NV.int .i64 (.ofNat 16))) fun v235 =>
 condK v235 (
 J40 v25 v26 v27 v235 h29) (
 bK (eqI v27 (NV.int .i64 (.ofNat 17))) fun v236 =>
 J40 v25 v26 v27 v236 h29)))))))) fun J30 =>
 condK v24 (
 J30 v0 v4 v23 v24 h9) (
 bK (eqI v23 (NV.int .i64 (.ofNat 3))) fun v237 =>
 condK v237 (
 J30 v0 v4 v23 v237 h9) (
 bK (eqI v23 (NV.int .i64 (.ofNat 4))) fun v238 =>
 J30 v0 v4 v23 v238 h9))))
theorem e287 : ikB Tryz.prog 10 Tryz.f287 = S287 := by kernel_rfl
theorem k287 [Sig] (w0 : World) : SOK cW w0 287 S287 := okW Tryz.func287 (by kernel_rfl) e287
noncomputable def S288 (call : CallF) (N : Nat) (l : List NV) (h : H) : R :=
 uc l fun v0 l1 => uc l1 fun v2 l3 => un l3 (
 bK (lenSl v2) fun v4 =>
 bK (subI v4 (NV.int .i64 (.ofNat 1))) fun v5 =>
 loopC N 3 (fun L10 v6 v7 v8 h9 =>
 bK (geI v8 (NV.int .i64 (.ofNat 0))) fun v11 =>
 condK v11 (
 mK (calM call 366 [v6] h9) fun v12 h13 =>
 bK (eqI v12 (NV.int .i64 (.ofNat 0))) fun v14 =>
 jK (fun v15 h16 =>
 jK (fun v18 h19 =>
 jK (fun v21 h22 =>
 jK (fun v24 h25 =>
 jK (fun v27 h28 =>
 jK (fun v30 h31 =>
 bK (pickO v14 (NV.bool true) v30) fun v33 =>
 mK (calM call 289 [v6, v33] h31) fun v34 h35 =>
 bK (subI v8 (NV.int .i64 (.ofNat 1))) fun v36 =>
 L10 v6 v7 v36 h35) fun J32 => gK v14 false (
 bK (eqI v15 v27) fun v37 =>
 J32 v37 h28) (J32 (NV.tuple []) h28)) fun J29 => gK v14 false (
 bK (ldO 1 false h25 v24) fun v38 =>
 J29 v38 h25) (J29 (NV.tuple []) h25)) fun J26 => gK v14 false (
 bK (ixS 1 v18 v21) fun v39 =>
 J26 v39 h22) (J26 (NV.tuple []) h22)) fun J23 => gK v14 false (
 J23 v8 h19) (J23 (NV.tuple []) h19)) fun J20 => gK v14 false (
 J20 v7 h16) (J20 (NV.tuple []) h16)) fun J17 => gK v14 false (
 J17 v12 h13) (J17 (NV.tuple []) h13)) (
 retC (NV.tuple []) h9)) v0 v2 v5 h)
theorem e288 : ikB Tryz.prog 10 Tryz.f288 = S288 := by kernel_rfl
theorem k288 [Sig] (w0 : World) : SOK cW w0 288 S288 := okW Tryz.func288 (by kernel_rfl) e288
noncomputable def S289 (call : CallF) (N : Nat) (l : List NV) (h : H) : R :=
 uc l fun v0 l1 => uc l1 fun v2 l3 => un l3 (
 bK (nilO v0) fun v4 =>
 bK (fAddr 6 v4) fun v5 =>
 bK (ldO 1 false h v5) fun v6 =>
 jK (fun v7 h8 =>
 bK (pickO v6 v7 (NV.bool false)) fun v10 =>
 bK (nilO v0) fun v11 =>
 bK (fAddr 6 v11) fun v12 =>
 mK (stM 1 v12 v10 h8) fun v13 h14 =>
 retC (NV.tuple []) h14) fun J9 => gK v6 true (
 J9 v2 h) (J9 (NV.tuple []) h))
theorem e289 : ikB Tryz.prog 10 Tryz.f289 = S289 := by kernel_rfl
theorem k289 [Sig] (w0 : World) : SOK cW w0 289 S289 := okW Tryz.func289 (by kernel_rfl) e289
noncomputable def S291 (call : CallF) (N : Nat) (l : List NV) (h : H) : R :=
 uc l fun v0 l1 => un l1 (
 mK (boxM false v0 h) fun v2 h3 =>
 bK (fAddr 1 v2) fun v4 =>
 bK (ldO 1 false h3 v4) fun v5 =>
 bK (lenSl v5) fun v6 =>
 bK (fAddr 0 v2) fun v7 =>
 bK (ldO 1 false h3 v7) fun v8 =>
 bK (lenSl v8) fun v9 =>
 bK (subI v6 v9) fun v10 =>
 retC v10 h3)
theorem e291 : ikB Tryz.prog 10 Tryz.f291 = S291 := by kernel_rfl
theorem k291 [Sig] (w0 : World) : SOK cW w0 291 S291 := okW Tryz.func291 (by kernel_rfl) e291
noncomputable def S292 (call : CallF) (N : Nat) (l : List NV) (h : H) : R :=
 uc l fun v0 l1 => uc l1 fun v2 l3 => un l3 (
 mK (calM call 368 [v0, v2] h) fun v4 h5 =>
 retC v4 h5)
theorem e292 : ikB Tryz.prog 10 Tryz.f292 = S292 := by kernel_rfl
theorem k292 [Sig] (w0 : World) : SOK cW w0 292 S292 := okW Tryz.func292 (by kernel_rfl) e292
noncomputable def S307 (call : CallF) (N : Nat) (l : List NV) (h : H) : R :=
 uc l fun v0 l1 => un l1 (
 bK (eqI v0 (NV.int .i64 (.ofNat 8))) fun v2 =>
 jK (fun v3 h4 =>
 jK (fun v6 h7 =>
 bK (pickO v2 (NV.bool true) v6) fun v9 =>
 jK (fun v10 h11 =>
 jK (fun v13 h14 =>
 bK (pickO v9 (NV.bool true) v13) fun v16 =>
 jK (fun v17 h18 =>
 jK (fun v20 h21 =>
 bK (pickO v16 (NV.bool true) v20) fun v23 =>
 retC v23 h21) fun J22 => gK v16 false (
 bK (eqI v17 (NV.int .i64 (.ofNat 64))) fun v24 =>
 J22 v24 h18) (J22 (NV.tuple []) h18)) fun J19 => gK v16 false (
 J19 v0 h14) (J19 (NV.tuple []) h14)) fun J15 => gK v9 false (
 bK (eqI v10 (NV.int .i64 (.ofNat 32))) fun v25 =>
 J15 v25 h11) (J15 (NV.tuple []) h11)) fun J12 => gK v9 false (
 J12 v0 h7) (J12 (NV.tuple []) h7)) fun J8 => gK v2 false (
 bK (eqI v3 (NV.int .i64 (.ofNat 16))) fun v26 =>
 J8 v26 h4) (J8 (NV.tuple []) h4)) fun J5 => gK v2 false (
 J5 v0 h) (J5 (NV.tuple []) h))
theorem e307 : ikB Tryz.prog 10 Tryz.f307 = S307 := by kernel_rfl
theorem k307 [Sig] (w0 : World) : SOK cW w0 307 S307 := okW Tryz.func307 (by kernel_rfl) e307
noncomputable def S308 (call : CallF) (N : Nat) (l : List NV) (h : H) : R :=
 uc l fun v0 l1 => un l1 (
 bK (cvI .u64 v0) fun v2 =>
 bK (subI (NV.int .u64 (.ofNat 64)) v2) fun v3 =>
 bK (binO .shr (NV.int .u64 (.ofNat 18446744073709551615)) v3) fun v4 =>
 retC v4 h)
theorem e308 : ikB Tryz.prog 10 Tryz.f308 = S308 := by kernel_rfl
theorem k308 [Sig] (w0 : World) : SOK cW w0 308 S308 := okW Tryz.func308 (by kernel_rfl) e308
noncomputable def S320 (call : CallF) (N : Nat) (l : List NV) (h : H) : R :=
 uc l fun v0 l1 => uc l1 fun v2 l3 => uc l3 fun v4 l5 => un l5 (
 joinC 2 (fun v6 v7 h8 =>
 bK (binO .xor v6 v7) fun v10 =>
 retC v10 h8) fun J9 =>
 joinC 2 (fun v11 v12 h13 =>
 bK (addI v11 v12) fun v15 =>
 retC v15 h13) fun J14 =>
 bK (eqI v0 (NV.int .i64 (.ofNat 2))) fun v16 =>
 condK v16 (
 bK (unO .neg v4) fun v17 =>
 J14 v2 v17 h) (
 bK (eqI v0 (NV.int .i64 (.ofNat 1))) fun v18 =>
 condK v18 (
 J14 v2 v4 h) (
 bK (eqI v0 (NV.int .i64 (.ofNat 3))) fun v19 =>
 condK v19 (
 bK (binO .mul v2 v4) fun v20 =>
 retC v20 h) (
 bK (eqI v0 (NV.int .i64 (.ofNat 8))) fun v21 =>
 condK v21 (
 bK (binO .and v2 v4) fun v22 =>
 retC v22 h) (
 bK (eqI v0 (NV.int .i64 (.ofNat 9))) fun v23 =>
 condK v23 (
 bK (binO .or v2 v4) fun v24 =>
 retC v24 h) (
 J9 v2 v4 h))))))
theorem e320 : ikB Tryz.prog 10 Tryz.f320 = S320 := by kernel_rfl
theorem k320 [Sig] (w0 : World) : SOK cW w0 320 S320 := okW Tryz.func320 (by kernel_rfl) e320
noncomputable def S273 (call : CallF) (N : Nat) (l : List NV) (h : H) : R :=
 uc l fun v0 l1 => uc l1 fun v2 l3 => un l3 (
 bK (lenSl v0) fun v4 =>
 joinC 0 (fun h5 =>
 retC (NV.int .i64 (.negSucc 0)) h5) fun J6 =>
 loopC N 4 (fun L12 v7 v8 v9 v10 h11 =>
 bK (ltI v10 v9) fun v13 =>
 condK v13 (
 bK (ixS 1 v7 v10) fun v14 =>
 bK (ldO 1 false h11 v14) fun v15 =>
 mK (calV call v8 [v15] h11) fun v16 h17 =>
 condK v16 (
 retC v10 h17) (
 bK (addI v10 (NV.int .i64 (.ofNat 1))) fun v18 =>
 L12 v7 v8 v9 v18 h17)) (
 J6 h11)) v0 v2 v4 (NV.int .i64 (.ofNat 0)) h)
theorem e273 : ikB Tryz.prog 10 Tryz.f273 = S273 := by kernel_rfl
theorem k273 [Sig] (w0 : World) : SOK cW w0 273 S273 := okW Tryz.func273 (by kernel_rfl) e273
noncomputable def S275 (call : CallF) (N : Nat) (l : List NV) (h : H) : R :=
 uc l fun v0 l1 => uc l1 fun v2 l3 => un l3 (
 mK (boxM false v0 h) fun v4 h5 =>
 bK (ldO 1 false h5 v2) fun v6 =>
 bK (ldO 9 true h5 v4) fun v7 =>
 mK (calV call v6 [v7] h5) fun v8 h9 =>
 jK (fun v10 h11 =>
 jK (fun v13 h14 =>
 jK (fun v16 h17 =>
 jK (fun v19 h20 =>
 bK (pickO v8 v19 (NV.bool false)) fun v22 =>
 jK (fun v23 h24 =>
 jK (fun v26 h27 =>
 jK (fun v29 h30 =>
 jK (fun v32 h33 =>
 bK (pickO v22 v32 (NV.bool false)) fun v35 =>
 retC v35 h33) fun J34 => gK v22 true (
 mK (calM call 201 [v26, v29] h30) fun v36 h37 =>
 J34 v36 h37) (J34 (NV.tuple []) h30)) fun J31 => gK v22 true (
 bK (ldO 1 false h27 v2) fun v38 =>
 J31 v38 h27) (J31 (NV.tuple []) h27)) fun J28 => gK v22 true (
 bK (ldO 1 false h24 v23) fun v39 =>
 J28 v39 h24) (J28 (NV.tuple []) h24)) fun J25 => gK v22 true (
 bK (fAddr 7 v4) fun v40 =>
 J25 v40 h20) (J25 (NV.tuple []) h20)) fun J21 => gK v8 true (
 mK (calM call 201 [v13, v16] h17) fun v41 h42 =>
 J21 v41 h42) (J21 (NV.tuple []) h17)) fun J18 => gK v8 true (
 bK (ldO 1 false h14 v2) fun v43 =>
 J18 v43 h14) (J18 (NV.tuple []) h14)) fun J15 => gK v8 true (
 bK (ldO 1 false h11 v10) fun v44 =>
 J15 v44 h11) (J15 (NV.tuple []) h11)) fun J12 => gK v8 true (
 bK (fAddr 6 v4) fun v45 =>
 J12 v45 h9) (J12 (NV.tuple []) h9))
theorem e275 : ikB Tryz.prog 10 Tryz.f275 = S275 := by kernel_rfl
theorem k275 [Sig] (w0 : World) : SOK cW w0 275 S275 := okW Tryz.func275 (by kernel_rfl) e275
noncomputable def S274 (call : CallF) (N : Nat) (l : List NV) (h : H) : R :=
 uc l fun v0 l1 => uc l1 fun v2 l3 => un l3 (
 mK (boxM false v2 h) fun v4 h5 =>
 mK (calM call 357 [v0, (NV.func (.func 358) [] [v4])] h5) fun v6 h7 =>
 bK (notO v6) fun v8 =>
 retC v8 h7)
theorem e274 : ikB Tryz.prog 10 Tryz.f274 = S274 := by kernel_rfl
theorem k274 [Sig] (w0 : World) : SOK cW w0 274 S274 := okW Tryz.func274 (by kernel_rfl) e274
noncomputable def S276 (call : CallF) (N : Nat) (l : List NV) (h : H) : R :=
 uc l fun v0 l1 => uc l1 fun v2 l3 => un l3 (
 mK (boxM false v0 h) fun v4 h5 =>
 mK (boxM false v2 h5) fun v6 h7 =>
 bK (ldO 9 true h7 v4) fun v8 =>
 mK (calM call 359 [v8] h7) fun v9 h10 =>
 mK (alM (NB.cells [(NV.bool false), (NV.bool false), (NV.bool false), (NV.bool false), (NV.bool false)]) h10) fun v11 h12 =>
 mK (stM 5 v11 v9 h12) fun v13 h14 =>
 bK (fAddr 0 v11) fun v15 =>
 bK (ldO 1 false h14 v15) fun v16 =>
 jK (fun v17 h18 =>
 jK (fun v20 h21 =>
 jK (fun v23 h24 =>
 bK (pickO v16 v23 (NV.bool false)) fun v26 =>
 jK (fun v27 h28 =>
 jK (fun v30 h31 =>
 jK (fun v33 h34 =>
 jK (fun v36 h37 =>
 jK (fun v39 h40 =>
 jK (fun v42 h43 =>
 jK (fun v45 h46 =>
 bK (pickO v26 (NV.bool true) v45) fun v48 =>
 jK (fun v49 h50 =>
 jK (fun v52 h53 =>
 jK (fun v55 h56 =>
 jK (fun v58 h59 =>
 jK (fun v61 h62 =>
 jK (fun v64 h65 =>
 jK (fun v67 h68 =>
 bK (pickO v48 (NV.bool true) v67) fun v70 =>
 jK (fun v71 h72 =>
 jK (fun v74 h75 =>
 jK (fun v77 h78 =>
 jK (fun v80 h81 =>
 jK (fun v83 h84 =>
 jK (fun v86 h87 =>
 jK (fun v89 h90 =>
 bK (pickO v70 (NV.bool true) v89) fun v92 =>
 jK (fun v93 h94 =>
 jK (fun v96 h97 =>
 jK (fun v99 h100 =>
 jK (fun v102 h103 =>
 jK (fun v105 h106 =>
 jK (fun v108 h109 =>
 jK (fun v111 h112 =>
 bK (pickO v92 (NV.bool true) v111) fun v114 =>
 bK (notO v114) fun v115 =>
 retC v115 h112) fun J113 => gK v92 false (
 bK (pickO v99 v108 (NV.bool false)) fun v116 =>
 J113 v116 h109) (J113 (NV.tuple []) h109)) fun J110 => gK v99 true (
 bK (notO v105) fun v117 =>
 J110 v117 h106) (J110 (NV.tuple []) h106)) fun J107 => gK v99 true (
 bK (ldO 1 false h103 v102) fun v118 =>
 J107 v118 h103) (J107 (NV.tuple []) h103)) fun J104 => gK v99 true (
 bK (fAddr 4 v6) fun v119 =>
 J104 v119 h100) (J104 (NV.tuple []) h100)) fun J101 => gK v92 false (
 J101 v96 h97) (J101 (NV.tuple []) h97)) fun J98 => gK v92 false (
 bK (ldO 1 false h94 v93) fun v120 =>
 J98 v120 h94) (J98 (NV.tuple []) h94)) fun J95 => gK v92 false (
 bK (fAddr 4 v11) fun v121 =>
 J95 v121 h90) (J95 (NV.tuple []) h90)) fun J91 => gK v70 false (
 bK (pickO v77 v86 (NV.bool false)) fun v122 =>
 J91 v122 h87) (J91 (NV.tuple []) h87)) fun J88 => gK v77 true (
 bK (notO v83) fun v123 =>
 J88 v123 h84) (J88 (NV.tuple []) h84)) fun J85 => gK v77 true (
 bK (ldO 1 false h81 v80) fun v124 =>
 J85 v124 h81) (J85 (NV.tuple []) h81)) fun J82 => gK v77 true (
 bK (fAddr 3 v6) fun v125 =>
 J82 v125 h78) (J82 (NV.tuple []) h78)) fun J79 => gK v70 false (
 J79 v74 h75) (J79 (NV.tuple []) h75)) fun J76 => gK v70 false (
 bK (ldO 1 false h72 v71) fun v126 =>
 J76 v126 h72) (J76 (NV.tuple []) h72)) fun J73 => gK v70 false (
 bK (fAddr 3 v11) fun v127 =>
 J73 v127 h68) (J73 (NV.tuple []) h68)) fun J69 => gK v48 false (
 bK (pickO v55 v64 (NV.bool false)) fun v128 =>
 J69 v128 h65) (J69 (NV.tuple []) h65)) fun J66 => gK v55 true (
 bK (notO v61) fun v129 =>
 J66 v129 h62) (J66 (NV.tuple []) h62)) fun J63 => gK v55 true (
 bK (ldO 1 false h59 v58) fun v130 =>
 J63 v130 h59) (J63 (NV.tuple []) h59)) fun J60 => gK v55 true (
 bK (fAddr 2 v6) fun v131 =>
 J60 v131 h56) (J60 (NV.tuple []) h56)) fun J57 => gK v48 false (
 J57 v52 h53) (J57 (NV.tuple []) h53)) fun J54 => gK v48 false (
 bK (ldO 1 false h50 v49) fun v132 =>
 J54 v132 h50) (J54 (NV.tuple []) h50)) fun J51 => gK v48 false (
 bK (fAddr 2 v11) fun v133 =>
 J51 v133 h46) (J51 (NV.tuple []) h46)) fun J47 => gK v26 false (
 bK (pickO v33 v42 (NV.bool false)) fun v134 =>
 J47 v134 h43) (J47 (NV.tuple []) h43)) fun J44 => gK v33 true (
 bK (notO v39) fun v135 =>
 J44 v135 h40) (J44 (NV.tuple []) h40)) fun J41 => gK v33 true (
 bK (ldO 1 false h37 v36) fun v136 =>
 J41 v136 h37) (J41 (NV.tuple []) h37)) fun J38 => gK v33 true (
 bK (fAddr 1 v6) fun v137 =>
 J38 v137 h34) (J38 (NV.tuple []) h34)) fun J35 => gK v26 false (
 J35 v30 h31) (J35 (NV.tuple []) h31)) fun J32 => gK v26 false (
 bK (ldO 1 false h28 v27) fun v138 =>
 J32 v138 h28) (J32 (NV.tuple []) h28)) fun J29 => gK v26 false (
 bK (fAddr 1 v11) fun v139 =>
 J29 v139 h24) (J29 (NV.tuple []) h24)) fun J25 => gK v16 true (
 bK (notO v20) fun v140 =>
 J25 v140 h21) (J25 (NV.tuple []) h21)) fun J22 => gK v16 true (
 bK (ldO 1 false h18 v17) fun v141 =>
 J22 v141 h18) (J22 (NV.tuple []) h18)) fun J19 => gK v16 true (
 bK (fAddr 0 v6) fun v142 =>
 J19 v142 h14) (J19 (NV.tuple []) h14))
theorem e276 : ikB Tryz.prog 10 Tryz.f276 = S276 := by kernel_rfl
theorem k276 [Sig] (w0 : World) : SOK cW w0 276 S276 := okW Tryz.func276 (by kernel_rfl) e276
noncomputable def S278 (call : CallF) (N : Nat) (l : List NV) (h : H) : R :=
 uc l fun v0 l1 => uc l1 fun v2 l3 => un l3 (
 bK (lenSl v0) fun v4 =>
 joinC 0 (fun h5 =>
 retC (NV.int .i64 (.negSucc 0)) h5) fun J6 =>
 loopC N 4 (fun L12 v7 v8 v9 v10 h11 =>
 bK (ltI v10 v9) fun v13 =>
 condK v13 (
 bK (ixS 1 v7 v10) fun v14 =>
 bK (ldO 1 false h11 v14) fun v15 =>
 mK (calV call v8 [v15] h11) fun v16 h17 =>
 condK v16 (
 retC v10 h17) (
 bK (addI v10 (NV.int .i64 (.ofNat 1))) fun v18 =>
 L12 v7 v8 v9 v18 h17)) (
 J6 h11)) v0 v2 v4 (NV.int .i64 (.ofNat 0)) h)
theorem e278 : ikB Tryz.prog 10 Tryz.f278 = S278 := by kernel_rfl
theorem k278 [Sig] (w0 : World) : SOK cW w0 278 S278 := okW Tryz.func278 (by kernel_rfl) e278
noncomputable def S360 (call : CallF) (N : Nat) (l : List NV) (h : H) : R :=
 uc l fun v0 l1 => uc l1 fun v2 l3 => un l3 (
 mK (boxM false v2 h) fun v4 h5 =>
 bK (nilO v0) fun v6 =>
 bK (fAddr 0 v6) fun v7 =>
 bK (ldO 1 false h5 v7) fun v8 =>
 bK (nilO v8) fun v9 =>
 bK (fAddr 13 v9) fun v10 =>
 bK (ldO 1 false h5 v10) fun v11 =>
 bK (lenSl v11) fun v12 =>
 bK (gtI v12 (NV.int .i64 (.ofNat 0))) fun v13 =>
 bK (fAddr 0 v4) fun v14 =>
 bK (ldO 1 false h5 v14) fun v15 =>
 mK (calM call 93 [v15] h5) fun v16 h17 =>
 bK (eqI v16 (NV.int .i64 (.ofNat 4))) fun v18 =>
 condK v18 (
 bK (nilO v0) fun v19 =>
 bK (fAddr 0 v19) fun v20 =>
 bK (ldO 1 false h17 (chkV h17 v20)) fun v21 =>
 bK (nilO v21) fun v22 =>
 bK (fAddr 16 v22) fun v23 =>
 bK (ldO 1 false h17 (chkV h17 v23)) fun v24 =>
 bK (fAddr 1 v4) fun v25 =>
 bK (ldO 1 false h17 (chkV h17 v25)) fun v26 =>
 bK (lookO Tryz.prog 3 (NV.bool false) false h17 (chkV h17 v24) (chkV h17 v26)) fun v27 =>
 jK (fun v28 h29 =>
 jK (fun v31 h32 =>
 jK (fun v34 h35 =>
 jK (fun v37 h38 =>
 jK (fun v40 h41 =>
 jK (fun v43 h44 =>
 jK (fun v46 h47 =>
 jK (fun v49 h50 =>
 jK (fun v52 h53 =>
 jK (fun v55 h56 =>
 jK (fun v58 h59 =>
 bK (pickO v27 v58 (NV.bool false)) fun v61 =>
 retC v61 h17) fun J60 => gK v27 true (
 bK (ltI v31 v55) fun v62 =>
 J60 v62 h17) (J60 (NV.tuple []) h17)) fun J57 => gK v27 true (
 bK (lenSl v52) fun v63 =>
 J57 v63 h17) (J57 (NV.tuple []) h17)) fun J54 => gK v27 true (
 bK (ldO 1 false h17 (chkV h17 v49)) fun v64 =>
 J54 v64 h17) (J54 (NV.tuple []) h17)) fun J51 => gK v27 true (
 bK (fAddr 11 v46) fun v65 =>
 J51 v65 h17) (J51 (NV.tuple []) h17)) fun J48 => gK v27 true (
 bK (nilO v43) fun v66 =>
 J48 v66 h17) (J48 (NV.tuple []) h17)) fun J45 => gK v27 true (
 bK (ldO 1 false h17 (chkV h17 v40)) fun v67 =>
 J45 v67 h17) (J45 (NV.tuple []) h17)) fun J42 => gK v27 true (
 bK (fAddr 0 v37) fun v68 =>
 J42 v68 h17) (J42 (NV.tuple []) h17)) fun J39 => gK v27 true (
 bK (nilO v34) fun v69 =>
 J39 v69 h17) (J39 (NV.tuple []) h17)) fun J36 => gK v27 true (
 J36 v0 h17) (J36 (NV.tuple []) h17)) fun J33 => gK v27 true (
 bK (ldO 1 false h17 (chkV h17 v28)) fun v70 =>
 J33 v70 h17) (J33 (NV.tuple []) h17)) fun J30 => gK v27 true (
 bK (fAddr 1 v4) fun v71 =>
 J30 v71 h17) (J30 (NV.tuple []) h17)) (
 bK (eqI v16 (NV.int .i64 (.ofNat 10))) fun v72 =>
 joinC 5 (fun v73 v74 v75 v76 v77 h78 =>
 condK v77 (
 bK (fAddr 5 v74) fun v80 =>
 bK (ldO 1 false h78 (chkV h78 v80)) fun v81 =>
 bK (lenSl v81) fun v82 =>
 bK (eqI v82 (NV.int .i64 (.ofNat 0))) fun v83 =>
 jK (fun v84 h85 =>
 jK (fun v87 h88 =>
 jK (fun v90 h91 =>
 jK (fun v93 h94 =>
 jK (fun v96 h97 =>
 jK (fun v99 h100 =>
 jK (fun v102 h103 =>
 nextK h78 h103 (
 jK (fun v105 h106 =>
 bK (pickO v83 (NV.bool true) v105) fun v108 =>
 none /- guarded read checked again -/) fun J107 => gK v83 false (
 bK (ltI v93 v102) fun v109 =>
 J107 v109 h103) (J107 (NV.tuple []) h103))) fun J104 => gK v83 false (
 mK (calM call 298 [(chkV h78 v99)] h78) fun v110 h111 =>
 J104 v110 h111) (J104 (NV.tuple []) h78)) fun J101 => gK v83 false (
 bK (ldO 1 false h78 (chkV h78 v96)) fun v112 =>
 J101 v112 h78) (J101 (NV.tuple []) h78)) fun J98 => gK v83 false (
 bK (fAddr 0 v74) fun v113 =>
 J98 v113 h78) (J98 (NV.tuple []) h78)) fun J95 => gK v83 false (
 bK (ldO 1 false h78 (chkV h78 v90)) fun v114 =>
 J95 v114 h78) (J95 (NV.tuple []) h78)) fun J92 => gK v83 false (
 bK (ixS 1 v87 (NV.int .i64 (.ofNat 0))) fun v115 =>
 J92 v115 h78) (J92 (NV.tuple []) h78)) fun J89 => gK v83 false (
 bK (ldO 1 false h78 (chkV h78 v84)) fun v116 =>
 J89 v116 h78) (J89 (NV.tuple []) h78)) fun J86 => gK v83 false (
 bK (fAddr 5 v74) fun v117 =>
 J86 v117 h78) (J86 (NV.tuple []) h78)) (
 bK (eqI v76 (NV.int .i64 (.ofNat 11))) fun v118 =>
 joinC 5 (fun v119 v120 v121 v122 v123 h124 =>
 condK v123 (
 retC v121 h124) (
 bK (eqI v122 (NV.int .i64 (.ofNat 25))) fun v126 =>
 condK v126 (
 bK (fAddr 1 v120) fun v127 =>
 bK (ldO 1 false h124 (chkV h124 v127)) fun v128 =>
 bK (fAddr 0 v120) fun v129 =>
 bK (ldO 1 false h124 (chkV h124 v129)) fun v130 =>
 mK (calM call 298 [(chkV h124 v130)] h124) fun v131 h132 =>
 nextK h124 h132 (
 bK (ltI v128 v131) fun v133 =>
 bK (ldO 1 false h132 (chkV h132 v127)) fun v134 =>
 sameK v134 v128 (
 retC v133 h132))) (
 bK (eqI v122 (NV.int .i64 (.ofNat 24))) fun v135 =>
 condK v135 (
 bK (fAddr 5 v120) fun v136 =>
 bK (ldO 1 false h124 v136) fun v137 =>
 mK (calM call 198 [v137, (NV.func (.func 426) [] [])] h124) fun v138 h139 =>
 bK (notO v138) fun v140 =>
 retC v140 h139) (
 bK (eqI v122 (NV.int .i64 (.ofNat 17))) fun v141 =>
 condK v141 (
 jK (fun v142 h143 =>
 jK (fun v145 h146 =>
 jK (fun v148 h149 =>
 jK (fun v151 h152 =>
 jK (fun v154 h155 =>
 jK (fun v157 h158 =>
 jK (fun v160 h161 =>
 jK (fun v163 h164 =>
 jK (fun v166 h167 =>
 jK (fun v169 h170 =>
 jK (fun v172 h173 =>
 jK (fun v175 h176 =>
 bK (pickO v121 v175 (NV.bool false)) fun v178 =>
 retC v178 h124) fun J177 => gK v121 true (
 bK (ltI v145 v172) fun v179 =>
 J177 v179 h124) (J177 (NV.tuple []) h124)) fun J174 => gK v121 true (
 bK (lenSl v169) fun v180 =>
 J174 v180 h124) (J174 (NV.tuple []) h124)) fun J171 => gK v121 true (
 bK (ldO 1 false h124 (chkV h124 v166)) fun v181 =>
 J171 v181 h124) (J171 (NV.tuple []) h124)) fun J168 => gK v121 true (
 bK (fAddr 9 v163) fun v182 =>
 J168 v182 h124) (J168 (NV.tuple []) h124)) fun J165 => gK v121 true (
 bK (fAddr 0 v160) fun v183 =>
 J165 v183 h124) (J165 (NV.tuple []) h124)) fun J162 => gK v121 true (
 bK (nilO v157) fun v184 =>
 J162 v184 h124) (J162 (NV.tuple []) h124)) fun J159 => gK v121 true (
 bK (ldO 1 false h124 (chkV h124 v154)) fun v185 =>
 J159 v185 h124) (J159 (NV.tuple []) h124)) fun J156 => gK v121 true (
 bK (fAddr 0 v151) fun v186 =>
 J156 v186 h124) (J156 (NV.tuple []) h124)) fun J153 => gK v121 true (
 bK (nilO v148) fun v187 =>
 J153 v187 h124) (J153 (NV.tuple []) h124)) fun J150 => gK v121 true (
 J150 v119 h124) (J150 (NV.tuple []) h124)) fun J147 => gK v121 true (
 bK (ldO 1 false h124 (chkV h124 v142)) fun v188 =>
 J147 v188 h124) (J147 (NV.tuple []) h124)) fun J144 => gK v121 true (
 bK (fAddr 1 v120) fun v189 =>
 J144 v189 h124) (J144 (NV.tuple []) h124)) (
 bK (eqI v122 (NV.int .i64 (.ofNat 18))) fun v190 =>
 condK v190 (
 bK (fAddr 1 v120) fun v191 =>
 bK (ldO 1 false h124 (chkV h124 v191)) fun v192 =>
 bK (nilO v119) fun v193 =>
 bK (fAddr 0 v193) fun v194 =>
 bK (ldO 1 false h124 (chkV h124 v194)) fun v195 =>
 bK (nilO v195) fun v196 =>
 bK (fAddr 0 v196) fun v197 =>
 bK (fAddr 9 v197) fun v198 =>
 bK (ldO 1 false h124 (chkV h124 v198)) fun v199 =>
 bK (lenSl v199) fun v200 =>
 bK (ltI v192 v200) fun v201 =>
 retC v201 h124) (
 bK (eqI v122 (NV.int .i64 (.ofNat 21))) fun v202 =>
 condK v202 (
 bK (fAddr 1 v120) fun v203 =>
 bK (ldO 1 false h124 (chkV h124 v203)) fun v204 =>
 bK (nilO v119) fun v205 =>
 bK (fAddr 0 v205) fun v206 =>
 bK (ldO 1 false h124 (chkV h124 v206)) fun v207 =>
 bK (nilO v207) fun v208 =>
 bK (fAddr 0 v208) fun v209 =>
 bK (fAddr 8 v209) fun v210 =>
 bK (ldO 1 false h124 (chkV h124 v210)) fun v211 =>
 bK (lenSl v211) fun v212 =>
 bK (ltI v204 v212) fun v213 =>
 retC v213 h124) (
 bK (eqI v122 (NV.int .i64 (.ofNat 20))) fun v214 =>
 condK v214 (
 bK (fAddr 1 v120) fun v215 =>
 bK (ldO 1 false h124 (chkV h124 v215)) fun v216 =>
 bK (nilO v119) fun v217 =>
 bK (fAddr 0 v217) fun v218 =>
 bK (ldO 1 false h124 (chkV h124 v218)) fun v219 =>
 bK (nilO v219) fun v220 =>
 bK (fAddr 0 v220) fun v221 =>
 bK (fAddr 8 v221) fun v222 =>
 bK (ldO 1 false h124 (chkV h124 v222)) fun v223 =>
 bK (lenSl v223) fun v224 =>
 bK (ltI v216 v224) fun v225 =>
 jK (fun v226 h227 =>
 jK (fun v229 h230 =>
 jK (fun v232 h233 =>
 jK (fun v235 h236 =>
 jK (fun v238 h239 =>
 jK (fun v241 h242 =>
 jK (fun v244 h245 =>
 jK (fun v247 h248 =>
 jK (fun v250 h251 =>
 jK (fun v253 h254 =>
 jK (fun v256 h257 =>
 bK (pickO v225 v256 (NV.bool false)) fun v259 =>
 jK (fun v260 h261 =>
 jK (fun v263 h264 =>
 jK (fun v266 h267 =>
 jK (fun v269 h270 =>
 jK (fun v272 h273 =>
 jK (fun v275 h276 =>
 jK (fun v278 h279 =>
 jK (fun v281 h282 =>
 jK (fun v284 h285 =>
 jK (fun v287 h288 =>
 jK (fun v290 h291 =>
 jK (fun v293 h294 =>
 jK (fun v296 h297 =>
 jK (fun v299 h300 =>
 jK (fun v302 h303 =>
 jK (fun v305 h306 =>
 jK (fun v308 h309 =>
 jK (fun v311 h312 =>
 jK (fun v314 h315 =>
 jK (fun v317 h318 =>
 jK (fun v320 h321 =>
 jK (fun v323 h324 =>
 jK (fun v326 h327 =>
 jK (fun v329 h330 =>
 jK (fun v332 h333 =>
 jK (fun v335 h336 =>
 bK (pickO v259 v335 (NV.bool false)) fun v338 =>
 retC v338 h124) fun J337 => gK v259 true (
 bK (eqI v296 v332) fun v339 =>
 J337 v339 h124) (J337 (NV.tuple []) h124)) fun J334 => gK v259 true (
 bK (ldO 1 false h124 (chkV h124 v329)) fun v340 =>
 J334 v340 h124) (J334 (NV.tuple []) h124)) fun J331 => gK v259 true (
 bK (fAddr 0 v326) fun v341 =>
 J331 v341 h124) (J331 (NV.tuple []) h124)) fun J328 => gK v259 true (
 bK (ixS 4 v317 v323) fun v342 =>
 J328 v342 h124) (J328 (NV.tuple []) h124)) fun J325 => gK v259 true (
 bK (ldO 1 false h124 (chkV h124 v320)) fun v343 =>
 J325 v343 h124) (J325 (NV.tuple []) h124)) fun J322 => gK v259 true (
 bK (fAddr 2 v120) fun v344 =>
 J322 v344 h124) (J322 (NV.tuple []) h124)) fun J319 => gK v259 true (
 bK (ldO 1 false h124 (chkV h124 v314)) fun v345 =>
 J319 v345 h124) (J319 (NV.tuple []) h124)) fun J316 => gK v259 true (
 bK (fAddr 12 v311) fun v346 =>
 J316 v346 h124) (J316 (NV.tuple []) h124)) fun J313 => gK v259 true (
 bK (nilO v308) fun v347 =>
 J313 v347 h124) (J313 (NV.tuple []) h124)) fun J310 => gK v259 true (
 bK (ldO 1 false h124 (chkV h124 v305)) fun v348 =>
 J310 v348 h124) (J310 (NV.tuple []) h124)) fun J307 => gK v259 true (
 bK (fAddr 0 v302) fun v349 =>
 J307 v349 h124) (J307 (NV.tuple []) h124)) fun J304 => gK v259 true (
 bK (nilO v299) fun v350 =>
 J304 v350 h124) (J304 (NV.tuple []) h124)) fun J301 => gK v259 true (
 J301 v119 h124) (J301 (NV.tuple []) h124)) fun J298 => gK v259 true (
 bK (ldO 1 false h124 (chkV h124 v293)) fun v351 =>
 J298 v351 h124) (J298 (NV.tuple []) h124)) fun J295 => gK v259 true (
 bK (fAddr 0 v290) fun v352 =>
 J295 v352 h124) (J295 (NV.tuple []) h124)) fun J292 => gK v259 true (
 bK (ixS 5 v281 v287) fun v353 =>
 J292 v353 h124) (J292 (NV.tuple []) h124)) fun J289 => gK v259 true (
 bK (ldO 1 false h124 (chkV h124 v284)) fun v354 =>
 J289 v354 h124) (J289 (NV.tuple []) h124)) fun J286 => gK v259 true (
 bK (fAddr 1 v120) fun v355 =>
 J286 v355 h124) (J286 (NV.tuple []) h124)) fun J283 => gK v259 true (
 bK (ldO 1 false h124 (chkV h124 v278)) fun v356 =>
 J283 v356 h124) (J283 (NV.tuple []) h124)) fun J280 => gK v259 true (
 bK (fAddr 8 v275) fun v357 =>
 J280 v357 h124) (J280 (NV.tuple []) h124)) fun J277 => gK v259 true (
 bK (fAddr 0 v272) fun v358 =>
 J277 v358 h124) (J277 (NV.tuple []) h124)) fun J274 => gK v259 true (
 bK (nilO v269) fun v359 =>
 J274 v359 h124) (J274 (NV.tuple []) h124)) fun J271 => gK v259 true (
 bK (ldO 1 false h124 (chkV h124 v266)) fun v360 =>
 J271 v360 h124) (J271 (NV.tuple []) h124)) fun J268 => gK v259 true (
 bK (fAddr 0 v263) fun v361 =>
 J268 v361 h124) (J268 (NV.tuple []) h124)) fun J265 => gK v259 true (
 bK (nilO v260) fun v362 =>
 J265 v362 h124) (J265 (NV.tuple []) h124)) fun J262 => gK v259 true (
 J262 v119 h124) (J262 (NV.tuple []) h124)) fun J258 => gK v225 true (
 bK (ltI v229 v253) fun v363 =>
 J258 v363 h124) (J258 (NV.tuple []) h124)) fun J255 => gK v225 true (
 bK (lenSl v250) fun v364 =>
 J255 v364 h124) (J255 (NV.tuple []) h124)) fun J252 => gK v225 true (
 bK (ldO 1 false h124 (chkV h124 v247)) fun v365 =>
 J252 v365 h124) (J252 (NV.tuple []) h124)) fun J249 => gK v225 true (
 bK (fAddr 12 v244) fun v366 =>
 J249 v366 h124) (J249 (NV.tuple []) h124)) fun J246 => gK v225 true (
 bK (nilO v241) fun v367 =>
 J246 v367 h124) (J246 (NV.tuple []) h124)) fun J243 => gK v225 true (
 bK (ldO 1 false h124 (chkV h124 v238)) fun v368 =>
 J243 v368 h124) (J243 (NV.tuple []) h124)) fun J240 => gK v225 true (
 bK (fAddr 0 v235) fun v369 =>
 J240 v369 h124) (J240 (NV.tuple []) h124)) fun J237 => gK v225 true (
 bK (nilO v232) fun v370 =>
 J237 v370 h124) (J237 (NV.tuple []) h124)) fun J234 => gK v225 true (
 J234 v119 h124) (J234 (NV.tuple []) h124)) fun J231 => gK v225 true (
 bK (ldO 1 false h124 (chkV h124 v226)) fun v371 =>
 J231 v371 h124) (J231 (NV.tuple []) h124)) fun J228 => gK v225 true (
 bK (fAddr 2 v120) fun v372 =>
 J228 v372 h124) (J228 (NV.tuple []) h124)) (
 bK (eqI v122 (NV.int .i64 (.ofNat 22))) fun v373 =>
 condK v373 (
 bK (fAddr 1 v120) fun v374 =>
 bK (ldO 1 false h124 (chkV h124 v374)) fun v375 =>
 bK (nilO v119) fun v376 =>
 bK (fAddr 0 v376) fun v377 =>
 bK (ldO 1 false h124 (chkV h124 v377)) fun v378 =>
 bK (nilO v378) fun v379 =>
 bK (fAddr 12 v379) fun v380 =>
 bK (ldO 1 false h124 (chkV h124 v380)) fun v381 =>
 bK (lenSl v381) fun v382 =>
 bK (ltI v375 v382) fun v383 =>
 jK (fun v384 h385 =>
 jK (fun v387 h388 =>
 jK (fun v390 h391 =>
 jK (fun v393 h394 =>
 jK (fun v396 h397 =>
 jK (fun v399 h400 =>
 jK (fun v402 h403 =>
 jK (fun v405 h406 =>
 jK (fun v408 h409 =>
 jK (fun v411 h412 =>
 jK (fun v414 h415 =>
 bK (pickO v383 v414 (NV.bool false)) fun v417 =>
 jK (fun v418 h419 =>
 jK (fun v421 h422 =>
 jK (fun v424 h425 =>
 jK (fun v427 h428 =>
 jK (fun v430 h431 =>
 jK (fun v433 h434 =>
 jK (fun v436 h437 =>
 jK (fun v439 h440 =>
 jK (fun v442 h443 =>
 jK (fun v445 h446 =>
 jK (fun v448 h449 =>
 jK (fun v451 h452 =>
 jK (fun v454 h455 =>
 jK (fun v457 h458 =>
 jK (fun v460 h461 =>
 jK (fun v463 h464 =>
 jK (fun v466 h467 =>
 jK (fun v469 h470 =>
 jK (fun v472 h473 =>
 jK (fun v475 h476 =>
 jK (fun v478 h479 =>
 jK (fun v481 h482 =>
 jK (fun v484 h485 =>
 jK (fun v487 h488 =>
 jK (fun v490 h491 =>
 bK (pickO v417 v490 (NV.bool false)) fun v493 =>
 retC v493 h124) fun J492 => gK v417 true (
 bK (eqI v451 v487) fun v494 =>
 J492 v494 h124) (J492 (NV.tuple []) h124)) fun J489 => gK v417 true (
 bK (ldO 1 false h124 (chkV h124 v484)) fun v495 =>
 J489 v495 h124) (J489 (NV.tuple []) h124)) fun J486 => gK v417 true (
 bK (fAddr 0 v481) fun v496 =>
 J486 v496 h124) (J486 (NV.tuple []) h124)) fun J483 => gK v417 true (
 bK (ixS 4 v472 v478) fun v497 =>
 J483 v497 h124) (J483 (NV.tuple []) h124)) fun J480 => gK v417 true (
 bK (ldO 1 false h124 (chkV h124 v475)) fun v498 =>
 J480 v498 h124) (J480 (NV.tuple []) h124)) fun J477 => gK v417 true (
 bK (fAddr 2 v120) fun v499 =>
 J477 v499 h124) (J477 (NV.tuple []) h124)) fun J474 => gK v417 true (
 bK (ldO 1 false h124 (chkV h124 v469)) fun v500 =>
 J474 v500 h124) (J474 (NV.tuple []) h124)) fun J471 => gK v417 true (
 bK (fAddr 12 v466) fun v501 =>
 J471 v501 h124) (J471 (NV.tuple []) h124)) fun J468 => gK v417 true (
 bK (nilO v463) fun v502 =>
 J468 v502 h124) (J468 (NV.tuple []) h124)) fun J465 => gK v417 true (
 bK (ldO 1 false h124 (chkV h124 v460)) fun v503 =>
 J465 v503 h124) (J465 (NV.tuple []) h124)) fun J462 => gK v417 true (
 bK (fAddr 0 v457) fun v504 =>
 J462 v504 h124) (J462 (NV.tuple []) h124)) fun J459 => gK v417 true (
 bK (nilO v454) fun v505 =>
 J459 v505 h124) (J459 (NV.tuple []) h124)) fun J456 => gK v417 true (
 J456 v119 h124) (J456 (NV.tuple []) h124)) fun J453 => gK v417 true (
 bK (ldO 1 false h124 (chkV h124 v448)) fun v506 =>
 J453 v506 h124) (J453 (NV.tuple []) h124)) fun J450 => gK v417 true (
 bK (fAddr 0 v445) fun v507 =>
 J450 v507 h124) (J450 (NV.tuple []) h124)) fun J447 => gK v417 true (
 bK (ixS 4 v436 v442) fun v508 =>
 J447 v508 h124) (J447 (NV.tuple []) h124)) fun J444 => gK v417 true (
 bK (ldO 1 false h124 (chkV h124 v439)) fun v509 =>
 J444 v509 h124) (J444 (NV.tuple []) h124)) fun J441 => gK v417 true (
 bK (fAddr 1 v120) fun v510 =>
 J441 v510 h124) (J441 (NV.tuple []) h124)) fun J438 => gK v417 true (
 bK (ldO 1 false h124 (chkV h124 v433)) fun v511 =>
 J438 v511 h124) (J438 (NV.tuple []) h124)) fun J435 => gK v417 true (
 bK (fAddr 12 v430) fun v512 =>
 J435 v512 h124) (J435 (NV.tuple []) h124)) fun J432 => gK v417 true (
 bK (nilO v427) fun v513 =>
 J432 v513 h124) (J432 (NV.tuple []) h124)) fun J429 => gK v417 true (
 bK (ldO 1 false h124 (chkV h124 v424)) fun v514 =>
 J429 v514 h124) (J429 (NV.tuple []) h124)) fun J426 => gK v417 true (
 bK (fAddr 0 v421) fun v515 =>
 J426 v515 h124) (J426 (NV.tuple []) h124)) fun J423 => gK v417 true (
 bK (nilO v418) fun v516 =>
 J423 v516 h124) (J423 (NV.tuple []) h124)) fun J420 => gK v417 true (
 J420 v119 h124) (J420 (NV.tuple []) h124)) fun J416 => gK v383 true (
 bK (ltI v387 v411) fun v517 =>
 J416 v517 h124) (J416 (NV.tuple []) h124)) fun J413 => gK v383 true (
 bK (lenSl v408) fun v518 =>
 J413 v518 h124) (J413 (NV.tuple []) h124)) fun J410 => gK v383 true (
 bK (ldO 1 false h124 (chkV h124 v405)) fun v519 =>
 J410 v519 h124) (J410 (NV.tuple []) h124)) fun J407 => gK v383 true (
 bK (fAddr 12 v402) fun v520 =>
 J407 v520 h124) (J407 (NV.tuple []) h124)) fun J404 => gK v383 true (
 bK (nilO v399) fun v521 =>
 J404 v521 h124) (J404 (NV.tuple []) h124)) fun J401 => gK v383 true (
 bK (ldO 1 false h124 (chkV h124 v396)) fun v522 =>
 J401 v522 h124) (J401 (NV.tuple []) h124)) fun J398 => gK v383 true (
 bK (fAddr 0 v393) fun v523 =>
 J398 v523 h124) (J398 (NV.tuple []) h124)) fun J395 => gK v383 true (
 bK (nilO v390) fun v524 =>
 J395 v524 h124) (J395 (NV.tuple []) h124)) fun J392 => gK v383 true (
 J392 v119 h124) (J392 (NV.tuple []) h124)) fun J389 => gK v383 true (
 bK (ldO 1 false h124 (chkV h124 v384)) fun v525 =>
 J389 v525 h124) (J389 (NV.tuple []) h124)) fun J386 => gK v383 true (
 bK (fAddr 2 v120) fun v526 =>
 J386 v526 h124) (J386 (NV.tuple []) h124)) (
 bK (eqI v122 (NV.int .i64 (.ofNat 9))) fun v527 =>
 condK v527 (
 bK (fAddr 1 v120) fun v528 =>
 bK (ldO 1 false h124 (chkV h124 v528)) fun v529 =>
 bK (nilO v119) fun v530 =>
 bK (fAddr 0 v530) fun v531 =>
 bK (ldO 1 false h124 (chkV h124 v531)) fun v532 =>
 bK (nilO v532) fun v533 =>
 bK (fAddr 12 v533) fun v534 =>
 bK (ldO 1 false h124 (chkV h124 v534)) fun v535 =>
 bK (lenSl v535) fun v536 =>
 bK (ltI v529 v536) fun v537 =>
 retC v537 h124) (
 retC (NV.bool true) h124)))))))))) fun J125 =>
 condK v118 (
 J125 v73 v74 v75 v76 v118 h78) (
 bK (eqI v76 (NV.int .i64 (.ofNat 19))) fun v538 =>
 J125 v73 v74 v75 v76 v538 h78))) fun J79 =>
 condK v72 (
 J79 v0 v4 v13 v16 v72 h17) (
 bK (eqI v16 (NV.int .i64 (.ofNat 26))) fun v539 =>
 J79 v0 v4 v13 v16 v539 h17)))
theorem e360 : ikB Tryz.prog 10 Tryz.f360 = S360 := by kernel_rfl
theorem k360 [Sig] (w0 : World) : SOK cW w0 360 S360 := okW Tryz.func360 (by kernel_rfl) e360
noncomputable def S361 (call : CallF) (N : Nat) (l : List NV) (h : H) : R :=
 uc l fun v0 l1 => uc l1 fun v2 l3 => un l3 (
 bK (nilO v0) fun v4 =>
 bK (fAddr 4 v4) fun v5 =>
 bK (ldO 1 false h v5) fun v6 =>
 mK (appM Tryz.prog 3 v6 v2 h) fun v7 h8 =>
 bK (nilO v0) fun v9 =>
 bK (fAddr 4 v9) fun v10 =>
 mK (stM 1 v10 v7 h8) fun v11 h12 =>
 retC (NV.tuple []) h12)
theorem e361 : ikB Tryz.prog 10 Tryz.f361 = S361 := by kernel_rfl
theorem k361 [Sig] (w0 : World) : SOK cW w0 361 S361 := okW Tryz.func361 (by kernel_rfl) e361
noncomputable def S362 (call : CallF) (N : Nat) (l : List NV) (h : H) : R :=
 uc l fun v0 l1 => uc l1 fun v2 l3 => un l3 (
 mK (boxM false v2 h) fun v4 h5 =>
 mK (alM (NB.cells [NV.nslice, NV.nslice]) h5) fun v6 h7 =>
 bK (fAddr 1 v4) fun v8 =>
 bK (ldO 1 false h7 v8) fun v9 =>
 bK (eqI v9 (NV.int .i64 (.ofNat 1))) fun v10 =>
 joinC 3 (fun v11 v12 v13 h14 =>
 bK (fAddr 0 v12) fun v16 =>
 bK (ldO 1 false h14 v16) fun v17 =>
 bK (eqI v17 (NV.int .i64 (.ofNat 4))) fun v18 =>
 joinC 3 (fun v19 v20 v21 h22 =>
 bK (fAddr 0 v21) fun v24 =>
 bK (ldO 1 false h22 v24) fun v25 =>
 mK (calM call 288 [v19, v25] h22) fun v26 h27 =>
 bK (fAddr 1 v21) fun v28 =>
 bK (ldO 1 false h27 v28) fun v29 =>
 bK (fAddr 0 v20) fun v30 =>
 bK (ldO 1 false h27 v30) fun v31 =>
 bK (eqI v31 (NV.int .i64 (.ofNat 3))) fun v32 =>
 joinC 4 (fun v33 v34 v35 v36 h37 =>
 bK (fAddr 0 v35) fun v39 =>
 bK (ldO 1 false h37 v39) fun v40 =>
 bK (fAddr 1 v35) fun v41 =>
 bK (ldO 1 false h37 v41) fun v42 =>
 bK (fAddr 6 v34) fun v43 =>
 bK (ldO 1 false h37 v43) fun v44 =>
 mK (calM call 226 [v33, v40, v42, v36, v44] h37) fun v45 h46 =>
 bK (fAddr 8 v34) fun v47 =>
 bK (ldO 1 false h46 v47) fun v48 =>
 joinC 2 (fun v49 v50 h51 =>
 bK (fAddr 1 v50) fun v53 =>
 bK (ldO 1 false h51 v53) fun v54 =>
 mK (calM call 361 [v49, v54] h51) fun v55 h56 =>
 retC (NV.tuple []) h56) fun J52 =>
 condK v48 (
 bK (fAddr 0 v35) fun v57 =>
 bK (ldO 1 false h46 v57) fun v58 =>
 bK (fAddr 1 v35) fun v59 =>
 bK (ldO 1 false h46 v59) fun v60 =>
 bK (fAddr 7 v34) fun v61 =>
 bK (ldO 1 false h46 v61) fun v62 =>
 mK (calM call 226 [v33, v58, v60, v36, v62] h46) fun v63 h64 =>
 J52 v33 v35 h64) (
 J52 v33 v35 h46)) fun J38 =>
 condK v32 (
 bK (fAddr 0 v21) fun v65 =>
 bK (ldO 1 false h27 v65) fun v66 =>
 J38 v19 v20 v21 v66 h27) (
 J38 v19 v20 v21 v29 h27)) fun J23 =>
 condK v18 (
 mK (bslM 1 false [(0, 1)] [(NV.int .i64 (.ofNat 0))] [(NV.int .i64 (.ofNat 127))] h14) fun v67 h68 =>
 mK (calM call 288 [v11, v67] h68) fun v69 h70 =>
 bK (fAddr 8 v12) fun v71 =>
 bK (ldO 1 false h70 v71) fun v72 =>
 jK (fun v73 h74 =>
 jK (fun v76 h77 =>
 jK (fun v79 h80 =>
 jK (fun v82 h83 =>
 jK (fun v85 h86 =>
 bK (pickO v72 (NV.bool true) v85) fun v88 =>
 mK (calM call 289 [v11, v88] h86) fun v89 h90 =>
 J23 v11 v12 v13 h90) fun J87 => gK v72 false (
 mK (calM call 55 [v76, v82] h83) fun v91 h92 =>
 J87 v91 h92) (J87 (NV.tuple []) h83)) fun J84 => gK v72 false (
 bK (ldO 1 false h80 v79) fun v93 =>
 J84 v93 h80) (J84 (NV.tuple []) h80)) fun J81 => gK v72 false (
 bK (fAddr 1 v13) fun v94 =>
 J81 v94 h77) (J81 (NV.tuple []) h77)) fun J78 => gK v72 false (
 bK (ldO 1 false h74 v73) fun v95 =>
 J78 v95 h74) (J78 (NV.tuple []) h74)) fun J75 => gK v72 false (
 bK (fAddr 0 v13) fun v96 =>
 J75 v96 h70) (J75 (NV.tuple []) h70)) (
 J23 v11 v12 v13 h14)) fun J15 =>
 condK v10 (
 bK (fAddr 2 v4) fun v97 =>
 bK (ldO 1 false h7 v97) fun v98 =>
 mK (bslM 1 false [(0, 1)] [(NV.int .i64 (.ofNat 0))] [v98] h7) fun v99 h100 =>
 bK (fAddr 1 v6) fun v101 =>
 mK (stM 1 v101 v99 h100) fun v102 h103 =>
 J15 v0 v4 v6 h103) (
 bK (eqI v9 (NV.int .i64 (.ofNat 2))) fun v104 =>
 condK v104 (
 bK (fAddr 2 v4) fun v105 =>
 bK (ldO 1 false h7 (chkV h7 v105)) fun v106 =>
 bK (nilO v0) fun v107 =>
 bK (fAddr 0 v107) fun v108 =>
 bK (ldO 1 false h7 (chkV h7 v108)) fun v109 =>
 bK (nilO v109) fun v110 =>
 bK (fAddr 0 v110) fun v111 =>
 bK (fAddr 0 v111) fun v112 =>
 bK (ldO 1 false h7 (chkV h7 v112)) fun v113 =>
 bK (lenSl v113) fun v114 =>
 bK (geI v106 v114) fun v115 =>
 condK v115 (
 mK (calM call 289 [v0, (NV.bool false)] h7) fun v116 h117 =>
 retC (NV.tuple []) h117) (
 bK (nilO v0) fun v118 =>
 bK (fAddr 0 v118) fun v119 =>
 bK (ldO 1 false h7 (chkV h7 v119)) fun v120 =>
 bK (nilO v120) fun v121 =>
 bK (fAddr 0 v121) fun v122 =>
 bK (fAddr 0 v122) fun v123 =>
 bK (ldO 1 false h7 (chkV h7 v123)) fun v124 =>
 bK (fAddr 2 v4) fun v125 =>
 bK (ldO 1 false h7 (chkV h7 v125)) fun v126 =>
 bK (ixS 2 v124 v126) fun v127 =>
 bK (ldO 2 true h7 (chkV h7 v127)) fun v128 =>
 mK (stM 2 (chkV h7 v6) (chkV h7 v128) h7) fun v129 h130 =>
 nextK h7 h130 (
 J15 v0 v4 v6 h130))) (
 J15 v0 v4 v6 h7)))
theorem e362 : ikB Tryz.prog 10 Tryz.f362 = S362 := by kernel_rfl
theorem k362 [Sig] (w0 : World) : SOK cW w0 362 S362 := okW Tryz.func362 (by kernel_rfl) e362
noncomputable def S363 (call : CallF) (N : Nat) (l : List NV) (h : H) : R :=
 uc l fun v0 l1 => uc l1 fun v2 l3 => un l3 (
 mK (boxM false v2 h) fun v4 h5 =>
 bK (fAddr 0 v4) fun v6 =>
 bK (ldO 1 false h5 v6) fun v7 =>
 joinC 1 (fun v8 h9 =>
 mK (calM call 428 [v8] h9) fun v11 h12 =>
 retC (NV.tuple []) h12) fun J10 =>
 bK (eqI v7 (NV.int .i64 (.ofNat 13))) fun v13 =>
 condK v13 (
 mK (bslM 1 false [(0, 1)] [(NV.int .i64 (.ofNat 0))] [(NV.int .i64 (.ofNat 127))] h5) fun v14 h15 =>
 mK (calM call 288 [v0, v14] h15) fun v16 h17 =>
 bK (fAddr 1 v4) fun v18 =>
 bK (ldO 1 false h17 v18) fun v19 =>
 mK (calM call 427 [v0, v19] h17) fun v20 h21 =>
 mK (calM call 288 [v0, v20] h21) fun v22 h23 =>
 mK (calM call 361 [v0, v20] h23) fun v24 h25 =>
 retC (NV.tuple []) h25) (
 bK (eqI v7 (NV.int .i64 (.ofNat 16))) fun v26 =>
 condK v26 (
 bK (nilO v0) fun v27 =>
 bK (fAddr 0 v27) fun v28 =>
 bK (ldO 1 false h5 (chkV h5 v28)) fun v29 =>
 bK (fAddr 1 v4) fun v30 =>
 bK (ldO 1 false h5 (chkV h5 v30)) fun v31 =>
 mK (calM call 156 [(chkV h5 v29), (chkV h5 v31)] h5) fun v32 h33 =>
 nextK h5 h33 (
 bK (extO 0 v32) fun v34 =>
 bK (extO 1 v32) fun v35 =>
 mK (alM (NB.cells [NV.nslice, NV.nslice]) h33) fun v36 h37 =>
 mK (stM 2 (chkV h37 v36) (chkV h37 v34) h37) fun v38 h39 =>
 nextK h37 h39 (
 mK (calM call 289 [v0, v35] h39) fun v40 h41 =>
 bK (fAddr 0 v36) fun v42 =>
 bK (ldO 1 false h41 v42) fun v43 =>
 mK (calM call 288 [v0, v43] h41) fun v44 h45 =>
 bK (fAddr 1 v36) fun v46 =>
 bK (ldO 1 false h45 v46) fun v47 =>
 mK (calM call 361 [v0, v47] h45) fun v48 h49 =>
 retC (NV.tuple []) h49))) (
 bK (eqI v7 (NV.int .i64 (.ofNat 17))) fun v50 =>
 condK v50 (
 bK (fAddr 1 v4) fun v51 =>
 bK (ldO 1 false h5 (chkV h5 v51)) fun v52 =>
 bK (nilO v0) fun v53 =>
 bK (fAddr 0 v53) fun v54 =>
 bK (ldO 1 false h5 (chkV h5 v54)) fun v55 =>
 bK (nilO v55) fun v56 =>
 bK (fAddr 0 v56) fun v57 =>
 bK (fAddr 0 v57) fun v58 =>
 bK (ldO 1 false h5 (chkV h5 v58)) fun v59 =>
 bK (lenSl v59) fun v60 =>
 bK (ltI v52 v60) fun v61 =>
 jK (fun v62 h63 =>
 jK (fun v65 h66 =>
 jK (fun v68 h69 =>
 jK (fun v71 h72 =>
 jK (fun v74 h75 =>
 jK (fun v77 h78 =>
 jK (fun v80 h81 =>
 jK (fun v83 h84 =>
 jK (fun v86 h87 =>
 jK (fun v89 h90 =>
 jK (fun v92 h93 =>
 bK (pickO v61 v92 (NV.bool false)) fun v95 =>
 jK (fun v96 h97 =>
 jK (fun v99 h100 =>
 jK (fun v102 h103 =>
 jK (fun v105 h106 =>
 jK (fun v108 h109 =>
 jK (fun v111 h112 =>
 jK (fun v114 h115 =>
 jK (fun v117 h118 =>
 jK (fun v120 h121 =>
 jK (fun v123 h124 =>
 jK (fun v126 h127 =>
 jK (fun v129 h130 =>
 jK (fun v132 h133 =>
 bK (pickO v95 v132 (NV.bool false)) fun v135 =>
 mK (calM call 289 [(chkV h5 v0), (chkV h5 v135)] h5) fun v136 h137 =>
 nextK h5 h137 (
 bK (nilO v0) fun v138 =>
 bK (fAddr 6 v138) fun v139 =>
 bK (ldO 1 false h137 v139) fun v140 =>
 joinC 0 (fun h141 =>
 retC (NV.tuple []) h141) fun J142 =>
 condK v140 (
 mK (bslM 1 false [(0, 1)] [(NV.int .i64 (.ofNat 0))] [(NV.int .i64 (.ofNat 127))] h137) fun v143 h144 =>
 mK (calM call 288 [v0, v143] h144) fun v145 h146 =>
 bK (nilO v0) fun v147 =>
 bK (fAddr 0 v147) fun v148 =>
 bK (ldO 1 false h146 (chkV h146 v148)) fun v149 =>
 bK (nilO v149) fun v150 =>
 bK (fAddr 0 v150) fun v151 =>
 bK (fAddr 0 v151) fun v152 =>
 bK (ldO 1 false h146 (chkV h146 v152)) fun v153 =>
 bK (fAddr 1 v4) fun v154 =>
 bK (ldO 1 false h146 (chkV h146 v154)) fun v155 =>
 bK (ixS 2 v153 v155) fun v156 =>
 bK (fAddr 0 v156) fun v157 =>
 bK (ldO 1 false h146 (chkV h146 v157)) fun v158 =>
 mK (calM call 288 [(chkV h146 v0), (chkV h146 v158)] h146) fun v159 h160 =>
 nextK h146 h160 (
 bK (nilO v0) fun v161 =>
 bK (fAddr 0 v161) fun v162 =>
 bK (ldO 1 false h160 (chkV h160 v162)) fun v163 =>
 bK (nilO v163) fun v164 =>
 bK (fAddr 0 v164) fun v165 =>
 bK (fAddr 0 v165) fun v166 =>
 bK (ldO 1 false h160 (chkV h160 v166)) fun v167 =>
 bK (fAddr 1 v4) fun v168 =>
 bK (ldO 1 false h160 (chkV h160 v168)) fun v169 =>
 bK (ixS 2 v167 v169) fun v170 =>
 bK (fAddr 1 v170) fun v171 =>
 bK (ldO 1 false h160 (chkV h160 v171)) fun v172 =>
 mK (calM call 361 [(chkV h160 v0), (chkV h160 v172)] h160) fun v173 h174 =>
 nextK h160 h174 (
 J142 h174))) (
 J142 h137))) fun J134 => gK v95 true (
 bK (eqI v129 (NV.int .i64 (.ofNat 112))) fun v175 =>
 J134 v175 h5) (J134 (NV.tuple []) h5)) fun J131 => gK v95 true (
 bK (ldO 1 false h5 (chkV h5 v126)) fun v176 =>
 J131 v176 h5) (J131 (NV.tuple []) h5)) fun J128 => gK v95 true (
 bK (fAddr 0 v123) fun v177 =>
 J128 v177 h5) (J128 (NV.tuple []) h5)) fun J125 => gK v95 true (
 bK (ixS 4 v114 v120) fun v178 =>
 J125 v178 h5) (J125 (NV.tuple []) h5)) fun J122 => gK v95 true (
 bK (ldO 1 false h5 (chkV h5 v117)) fun v179 =>
 J122 v179 h5) (J122 (NV.tuple []) h5)) fun J119 => gK v95 true (
 bK (fAddr 2 v4) fun v180 =>
 J119 v180 h5) (J119 (NV.tuple []) h5)) fun J116 => gK v95 true (
 bK (ldO 1 false h5 (chkV h5 v111)) fun v181 =>
 J116 v181 h5) (J116 (NV.tuple []) h5)) fun J113 => gK v95 true (
 bK (fAddr 12 v108) fun v182 =>
 J113 v182 h5) (J113 (NV.tuple []) h5)) fun J110 => gK v95 true (
 bK (nilO v105) fun v183 =>
 J110 v183 h5) (J110 (NV.tuple []) h5)) fun J107 => gK v95 true (
 bK (ldO 1 false h5 (chkV h5 v102)) fun v184 =>
 J107 v184 h5) (J107 (NV.tuple []) h5)) fun J104 => gK v95 true (
 bK (fAddr 0 v99) fun v185 =>
 J104 v185 h5) (J104 (NV.tuple []) h5)) fun J101 => gK v95 true (
 bK (nilO v96) fun v186 =>
 J101 v186 h5) (J101 (NV.tuple []) h5)) fun J98 => gK v95 true (
 J98 v0 h5) (J98 (NV.tuple []) h5)) fun J94 => gK v61 true (
 bK (ltI v65 v89) fun v187 =>
 J94 v187 h5) (J94 (NV.tuple []) h5)) fun J91 => gK v61 true (
 bK (lenSl v86) fun v188 =>
 J91 v188 h5) (J91 (NV.tuple []) h5)) fun J88 => gK v61 true (
 bK (ldO 1 false h5 (chkV h5 v83)) fun v189 =>
 J88 v189 h5) (J88 (NV.tuple []) h5)) fun J85 => gK v61 true (
 bK (fAddr 12 v80) fun v190 =>
 J85 v190 h5) (J85 (NV.tuple []) h5)) fun J82 => gK v61 true (
 bK (nilO v77) fun v191 =>
 J82 v191 h5) (J82 (NV.tuple []) h5)) fun J79 => gK v61 true (
 bK (ldO 1 false h5 (chkV h5 v74)) fun v192 =>
 J79 v192 h5) (J79 (NV.tuple []) h5)) fun J76 => gK v61 true (
 bK (fAddr 0 v71) fun v193 =>
 J76 v193 h5) (J76 (NV.tuple []) h5)) fun J73 => gK v61 true (
 bK (nilO v68) fun v194 =>
 J73 v194 h5) (J73 (NV.tuple []) h5)) fun J70 => gK v61 true (
 J70 v0 h5) (J70 (NV.tuple []) h5)) fun J67 => gK v61 true (
 bK (ldO 1 false h5 (chkV h5 v62)) fun v195 =>
 J67 v195 h5) (J67 (NV.tuple []) h5)) fun J64 => gK v61 true (
 bK (fAddr 2 v4) fun v196 =>
 J64 v196 h5) (J64 (NV.tuple []) h5)) (
 bK (eqI v7 (NV.int .i64 (.ofNat 12))) fun v197 =>
 condK v197 (
 bK (fAddr 1 v4) fun v198 =>
 bK (ldO 1 false h5 v198) fun v199 =>
 mK (calM call 427 [v0, v199] h5) fun v200 h201 =>
 mK (calM call 288 [v0, v200] h201) fun v202 h203 =>
 J10 v0 h203) (
 bK (eqI v7 (NV.int .i64 (.ofNat 14))) fun v204 =>
 condK v204 (
 mK (bslM 1 false [(0, 1)] [(NV.int .i64 (.ofNat 0))] [(NV.int .i64 (.ofNat 127))] h5) fun v205 h206 =>
 mK (calM call 288 [v0, v205] h206) fun v207 h208 =>
 bK (fAddr 1 v4) fun v209 =>
 bK (ldO 1 false h208 v209) fun v210 =>
 mK (calM call 427 [v0, v210] h208) fun v211 h212 =>
 bK (fAddr 5 v4) fun v213 =>
 bK (ldO 1 false h212 v213) fun v214 =>
 bK (lenSl v214) fun v215 =>
 joinC 2 (fun v216 v217 h218 =>
 mK (calM call 288 [v216, v217] h218) fun v220 h221 =>
 J10 v216 h221) fun J219 =>
 loopC N 5 (fun L228 v222 v223 v224 v225 v226 h227 =>
 bK (ltI v226 v225) fun v229 =>
 condK v229 (
 bK (ixS 1 v224 v226) fun v230 =>
 bK (ldO 1 false h227 v230) fun v231 =>
 mK (calM call 427 [v222, v231] h227) fun v232 h233 =>
 bK (lenSl v232) fun v234 =>
 bK (lenSl v223) fun v235 =>
 bK (eqI v234 v235) fun v236 =>
 mK (calM call 289 [v222, v236] h233) fun v237 h238 =>
 bK (nilO v222) fun v239 =>
 bK (fAddr 4 v239) fun v240 =>
 bK (ldO 1 false h238 v240) fun v241 =>
 mK (calM call 89 [v241] h238) fun v242 h243 =>
 mK (calM call 288 [v222, v232] h243) fun v244 h245 =>
 bK (nilO v222) fun v246 =>
 bK (fAddr 4 v246) fun v247 =>
 mK (stM 1 v247 v242 h245) fun v248 h249 =>
 bK (addI v226 (NV.int .i64 (.ofNat 1))) fun v250 =>
 L228 v222 v223 v224 v225 v250 h249) (
 J219 v222 v223 h227)) v0 v211 v214 v215 (NV.int .i64 (.ofNat 0)) h212) (
 bK (eqI v7 (NV.int .i64 (.ofNat 15))) fun v251 =>
 condK v251 (
 bK (nilO v0) fun v252 =>
 bK (fAddr 2 v252) fun v253 =>
 bK (ldO 1 false h5 v253) fun v254 =>
 mK (calM call 288 [v0, v254] h5) fun v255 h256 =>
 J10 v0 h256) (
 J10 v0 h5)))))))
theorem e363 : ikB Tryz.prog 10 Tryz.f363 = S363 := by kernel_rfl
theorem k363 [Sig] (w0 : World) : SOK cW w0 363 S363 := okW Tryz.func363 (by kernel_rfl) e363
noncomputable def S364 (call : CallF) (N : Nat) (l : List NV) (h : H) : R :=
 uc l fun v0 l1 => uc l1 fun v2 l3 => un l3 (
 mK (boxM false v2 h) fun v4 h5 =>
 bK (fAddr 0 v4) fun v6 =>
 bK (ldO 1 false h5 v6) fun v7 =>
 bK (eqI v7 (NV.int .i64 (.ofNat 26))) fun v8 =>
 condK v8 (
 mK (calM call 366 [v0] h5) fun v9 h10 =>
 retC (NV.tuple []) h10) (
 bK (eqI v7 (NV.int .i64 (.ofNat 28))) fun v11 =>
 condK v11 (
 bK (fAddr 5 v4) fun v12 =>
 bK (ldO 1 false h5 v12) fun v13 =>
 bK (lenSl v13) fun v14 =>
 bK (eqI v14 (NV.int .i64 (.ofNat 1))) fun v15 =>
 mK (calM call 289 [v0, v15] h5) fun v16 h17 =>
 bK (nilO v0) fun v18 =>
 bK (fAddr 6 v18) fun v19 =>
 bK (ldO 1 false h17 v19) fun v20 =>
 condK v20 (
 bK (fAddr 5 v4) fun v21 =>
 bK (ldO 1 false h17 (chkV h17 v21)) fun v22 =>
 bK (ixS 1 v22 (NV.int .i64 (.ofNat 0))) fun v23 =>
 bK (ldO 1 false h17 (chkV h17 v23)) fun v24 =>
 bK (fAddr 5 v4) fun v25 =>
 bK (ldO 1 false h17 (chkV h17 v25)) fun v26 =>
 bK (ixS 1 v26 (NV.int .i64 (.ofNat 0))) fun v27 =>
 bK (ldO 1 false h17 (chkV h17 v27)) fun v28 =>
 mK (bslM 3 false [(0, 1), (1, 1), (2, 1)] [(NV.int .i64 (.ofNat 0)), (NV.int .i64 (.ofNat 0)), (NV.int .i64 (.ofNat 0))] [(chkV h17 v24), (chkV h17 v28), (NV.int .i64 (.ofNat 127))] h17) fun v29 h30 =>
 mK (calM call 288 [(chkV h30 v0), (chkV h30 v29)] h30) fun v31 h32 =>
 nextK h30 h32 (
 bK (fAddr 5 v4) fun v33 =>
 bK (ldO 1 false h32 v33) fun v34 =>
 bK (ixS 1 v34 (NV.int .i64 (.ofNat 0))) fun v35 =>
 bK (ldO 1 false h32 v35) fun v36 =>
 mK (bslM 1 false [(0, 1)] [(NV.int .i64 (.ofNat 0))] [v36] h32) fun v37 h38 =>
 mK (calM call 361 [v0, v37] h38) fun v39 h40 =>
 retC (NV.tuple []) h40)) (
 retC (NV.tuple []) h17)) (
 mK (bslM 1 false [(0, 1)] [(NV.int .i64 (.ofNat 0))] [(NV.int .i64 (.ofNat 127))] h5) fun v41 h42 =>
 mK (calM call 288 [v0, v41] h42) fun v43 h44 =>
 mK (calM call 366 [v0] h44) fun v45 h46 =>
 mK (calM call 366 [v0] h46) fun v47 h48 =>
 mK (calV call (NV.func (.func 429) [] []) [v45] h48) fun v49 h50 =>
 bK (notO v49) fun v51 =>
 jK (fun v52 h53 =>
 jK (fun v55 h56 =>
 jK (fun v58 h59 =>
 jK (fun v61 h62 =>
 bK (pickO v51 v61 (NV.bool false)) fun v64 =>
 jK (fun v65 h66 =>
 jK (fun v68 h69 =>
 jK (fun v71 h72 =>
 jK (fun v74 h75 =>
 jK (fun v77 h78 =>
 jK (fun v80 h81 =>
 jK (fun v83 h84 =>
 jK (fun v86 h87 =>
 jK (fun v89 h90 =>
 jK (fun v92 h93 =>
 jK (fun v95 h96 =>
 bK (pickO v64 v95 (NV.bool false)) fun v98 =>
 mK (calM call 289 [v0, v98] h96) fun v99 h100 =>
 bK (foldMM true v45 [v47]) fun v101 =>
 mK (bslM 1 false [(0, 1)] [(NV.int .i64 (.ofNat 0))] [v101] h100) fun v102 h103 =>
 mK (calM call 361 [v0, v102] h103) fun v104 h105 =>
 retC (NV.tuple []) h105) fun J97 => gK v64 true (
 bK (pickO v86 (NV.bool true) v92) fun v106 =>
 J97 v106 h93) (J97 (NV.tuple []) h93)) fun J94 => gK v86 false (
 bK (eqI v89 (NV.int .i64 (.ofNat 0))) fun v107 =>
 J94 v107 h90) (J94 (NV.tuple []) h90)) fun J91 => gK v86 false (
 J91 v47 h87) (J91 (NV.tuple []) h87)) fun J88 => gK v64 true (
 J88 v83 h84) (J88 (NV.tuple []) h84)) fun J85 => gK v64 true (
 bK (pickO v74 (NV.bool true) v80) fun v108 =>
 J85 v108 h81) (J85 (NV.tuple []) h81)) fun J82 => gK v74 false (
 bK (eqI v77 (NV.int .i64 (.ofNat 0))) fun v109 =>
 J82 v109 h78) (J82 (NV.tuple []) h78)) fun J79 => gK v74 false (
 J79 v45 h75) (J79 (NV.tuple []) h75)) fun J76 => gK v64 true (
 J76 v71 h72) (J76 (NV.tuple []) h72)) fun J73 => gK v64 true (
 bK (eqI v65 v68) fun v110 =>
 J73 v110 h69) (J73 (NV.tuple []) h69)) fun J70 => gK v64 true (
 J70 v47 h66) (J70 (NV.tuple []) h66)) fun J67 => gK v64 true (
 J67 v45 h62) (J67 (NV.tuple []) h62)) fun J63 => gK v51 true (
 bK (notO v58) fun v111 =>
 J63 v111 h59) (J63 (NV.tuple []) h59)) fun J60 => gK v51 true (
 mK (calV call v52 [v55] h56) fun v112 h113 =>
 J60 v112 h113) (J60 (NV.tuple []) h56)) fun J57 => gK v51 true (
 J57 v47 h53) (J57 (NV.tuple []) h53)) fun J54 => gK v51 true (
 J54 (NV.func (.func 429) [] []) h50) (J54 (NV.tuple []) h50))))
theorem e364 : ikB Tryz.prog 10 Tryz.f364 = S364 := by kernel_rfl
theorem k364 [Sig] (w0 : World) : SOK cW w0 364 S364 := okW Tryz.func364 (by kernel_rfl) e364
noncomputable def S365 (call : CallF) (N : Nat) (l : List NV) (h : H) : R :=
 uc l fun v0 l1 => uc l1 fun v2 l3 => uc l3 fun v4 l5 => un l5 (
 bK (gtI v2 (NV.int .i64 (.ofNat 0))) fun v6 =>
 joinC 3 (fun v7 v8 v9 h10 =>
 bK (neI v8 (NV.int .i64 (.ofNat 1))) fun v12 =>
 condK v12 (
 mK (bslM 1 false [(0, 1)] [(NV.int .i64 (.ofNat 0))] [v9] h10) fun v13 h14 =>
 mK (calM call 361 [v7, v13] h14) fun v15 h16 =>
 retC (NV.tuple []) h16) (
 retC (NV.tuple []) h10)) fun J11 =>
 condK v6 (
 mK (bslM 1 false [(0, 1)] [(NV.int .i64 (.ofNat 0))] [v4] h) fun v17 h18 =>
 mK (calM call 288 [v0, v17] h18) fun v19 h20 =>
 J11 v0 v2 v4 h20) (
 J11 v0 v2 v4 h))
theorem e365 : ikB Tryz.prog 10 Tryz.f365 = S365 := by kernel_rfl
theorem k365 [Sig] (w0 : World) : SOK cW w0 365 S365 := okW Tryz.func365 (by kernel_rfl) e365
noncomputable def S366 (call : CallF) (N : Nat) (l : List NV) (h : H) : R :=
 uc l fun v0 l1 => un l1 (
 bK (nilO v0) fun v2 =>
 bK (fAddr 4 v2) fun v3 =>
 bK (ldO 1 false h v3) fun v4 =>
 bK (lenSl v4) fun v5 =>
 bK (eqI v5 (NV.int .i64 (.ofNat 0))) fun v6 =>
 condK v6 (
 bK (nilO v0) fun v7 =>
 bK (fAddr 5 v7) fun v8 =>
 bK (ldO 1 false h v8) fun v9 =>
 mK (calM call 289 [v0, v9] h) fun v10 h11 =>
 retC (NV.int .i64 (.ofNat 0)) h11) (
 bK (nilO v0) fun v12 =>
 bK (fAddr 4 v12) fun v13 =>
 bK (ldO 1 false h v13) fun v14 =>
 bK (subI v5 (NV.int .i64 (.ofNat 1))) fun v15 =>
 bK (ixS 1 v14 v15) fun v16 =>
 bK (ldO 1 false h v16) fun v17 =>
 bK (nilO v0) fun v18 =>
 bK (fAddr 4 v18) fun v19 =>
 bK (ldO 1 false h v19) fun v20 =>
 bK (subI v5 (NV.int .i64 (.ofNat 1))) fun v21 =>
 bK (slcO Tryz.prog 25 h v20 none (some v21) none) fun v22 =>
 bK (nilO v0) fun v23 =>
 bK (fAddr 4 v23) fun v24 =>
 mK (stM 1 v24 v22 h) fun v25 h26 =>
 retC v17 h26))
theorem e366 : ikB Tryz.prog 10 Tryz.f366 = S366 := by kernel_rfl
theorem k366 [Sig] (w0 : World) : SOK cW w0 366 S366 := okW Tryz.func366 (by kernel_rfl) e366
noncomputable def S358 (call : CallF) (N : Nat) (l : List NV) (h : H) : R :=
 uc l fun v0 l1 => uc l1 fun v2 l3 => un l3 (
 mK (boxM false v0 h) fun v4 h5 =>
 bK (ldO 1 false h5 v2) fun v6 =>
 bK (ldO 9 true h5 v4) fun v7 =>
 mK (calV call v6 [v7] h5) fun v8 h9 =>
 bK (notO v8) fun v10 =>
 retC v10 h9)
theorem e358 : ikB Tryz.prog 10 Tryz.f358 = S358 := by kernel_rfl
theorem k358 [Sig] (w0 : World) : SOK cW w0 358 S358 := okW Tryz.func358 (by kernel_rfl) e358
noncomputable def S357 (call : CallF) (N : Nat) (l : List NV) (h : H) : R :=
 uc l fun v0 l1 => uc l1 fun v2 l3 => un l3 (
 mK (calM call 425 [v0, v2] h) fun v4 h5 =>
 bK (geI v4 (NV.int .i64 (.ofNat 0))) fun v6 =>
 retC v6 h5)
theorem e357 : ikB Tryz.prog 10 Tryz.f357 = S357 := by kernel_rfl
theorem k357 [Sig] (w0 : World) : SOK cW w0 357 S357 := okW Tryz.func357 (by kernel_rfl) e357
noncomputable def S359 (call : CallF) (N : Nat) (l : List NV) (h : H) : R :=
 uc l fun v0 l1 => un l1 (
 mK (boxM false v0 h) fun v2 h3 =>
 mK (alM (NB.cells [(NV.bool false), (NV.bool false), (NV.bool false), (NV.bool false), (NV.bool false)]) h3) fun v4 h5 =>
 bK (fAddr 1 v2) fun v6 =>
 bK (ldO 1 false h5 v6) fun v7 =>
 bK (neI v7 (NV.int .i64 (.ofNat 0))) fun v8 =>
 bK (fAddr 2 v2) fun v9 =>
 bK (ldO 1 false h5 v9) fun v10 =>
 bK (neI v10 (NV.int .i64 (.ofNat 0))) fun v11 =>
 bK (fAddr 3 v2) fun v12 =>
 bK (ldO 1 false h5 v12) fun v13 =>
 bK (neI v13 (NV.int .u64 (.ofNat 0))) fun v14 =>
 bK (fAddr 4 v2) fun v15 =>
 bK (ldO 1 false h5 v15) fun v16 =>
 bK (neI v16 (NV.int .u64 (.ofNat 0))) fun v17 =>
 bK (fAddr 5 v2) fun v18 =>
 bK (ldO 1 false h5 v18) fun v19 =>
 bK (lenSl v19) fun v20 =>
 bK (gtI v20 (NV.int .i64 (.ofNat 0))) fun v21 =>
 bK (bldO [(0, 1), (1, 1), (2, 1), (3, 1), (4, 1)] [(NV.bool false), (NV.bool false), (NV.bool false), (NV.bool false), (NV.bool false)] [v8, v11, v14, v17, v21]) fun v22 =>
 mK (stM 5 v4 v22 h5) fun v23 h24 =>
 bK (ldB 5 true h24 v4) fun v25 =>
 retC v25 h24)
theorem e359 : ikB Tryz.prog 10 Tryz.f359 = S359 := by kernel_rfl
theorem k359 [Sig] (w0 : World) : SOK cW w0 359 S359 := okW Tryz.func359 (by kernel_rfl) e359
noncomputable def S427 (call : CallF) (N : Nat) (l : List NV) (h : H) : R :=
 uc l fun v0 l1 => uc l1 fun v2 l3 => un l3 (
 bK (nilO v0) fun v4 =>
 bK (fAddr 3 v4) fun v5 =>
 bK (ldO 1 false h v5) fun v6 =>
 bK (lenSl v6) fun v7 =>
 bK (geI v2 v7) fun v8 =>
 condK v8 (
 mK (calM call 289 [v0, (NV.bool false)] h) fun v9 h10 =>
 retC NV.nslice h10) (
 bK (nilO v0) fun v11 =>
 bK (fAddr 3 v11) fun v12 =>
 bK (ldO 1 false h (chkV h v12)) fun v13 =>
 bK (nilO v0) fun v14 =>
 bK (fAddr 3 v14) fun v15 =>
 bK (ldO 1 false h (chkV h v15)) fun v16 =>
 bK (lenSl v16) fun v17 =>
 bK (subI v17 (NV.int .i64 (.ofNat 1))) fun v18 =>
 bK (subI v18 v2) fun v19 =>
 bK (ixS 1 v13 v19) fun v20 =>
 bK (ldO 1 false h (chkV h v20)) fun v21 =>
 retC v21 h))
theorem e427 : ikB Tryz.prog 10 Tryz.f427 = S427 := by kernel_rfl
theorem k427 [Sig] (w0 : World) : SOK cW w0 427 S427 := okW Tryz.func427 (by kernel_rfl) e427
noncomputable def S428 (call : CallF) (N : Nat) (l : List NV) (h : H) : R :=
 uc l fun v0 l1 => un l1 (
 bK (nilO v0) fun v2 =>
 bK (fAddr 4 v2) fun v3 =>
 mK (stM 1 v3 NV.nslice h) fun v4 h5 =>
 bK (nilO v0) fun v6 =>
 bK (fAddr 5 v6) fun v7 =>
 mK (stM 1 v7 (NV.bool true) h5) fun v8 h9 =>
 retC (NV.tuple []) h9)
theorem e428 : ikB Tryz.prog 10 Tryz.f428 = S428 := by kernel_rfl
theorem k428 [Sig] (w0 : World) : SOK cW w0 428 S428 := okW Tryz.func428 (by kernel_rfl) e428
noncomputable def S425 (call : CallF) (N : Nat) (l : List NV) (h : H) : R :=
 uc l fun v0 l1 => uc l1 fun v2 l3 => un l3 (
 bK (lenSl v0) fun v4 =>
 joinC 0 (fun h5 =>
 retC (NV.int .i64 (.negSucc 0)) h5) fun J6 =>
 loopC N 4 (fun L12 v7 v8 v9 v10 h11 =>
 bK (ltI v10 v9) fun v13 =>
 condK v13 (
 bK (ixS 9 v7 v10) fun v14 =>
 bK (ldO 9 true h11 v14) fun v15 =>
 mK (calV call v8 [v15] h11) fun v16 h17 =>
 condK v16 (
 retC v10 h17) (
 bK (addI v10 (NV.int .i64 (.ofNat 1))) fun v18 =>
 L12 v7 v8 v9 v18 h17)) (
 J6 h11)) v0 v2 v4 (NV.int .i64 (.ofNat 0)) h)
theorem e425 : ikB Tryz.prog 10 Tryz.f425 = S425 := by kernel_rfl
theorem k425 [Sig] (w0 : World) : SOK cW w0 425 S425 := okW Tryz.func425 (by kernel_rfl) e425
end Go.Proofs.YtfdmaafadphnfaaGreatDoor
