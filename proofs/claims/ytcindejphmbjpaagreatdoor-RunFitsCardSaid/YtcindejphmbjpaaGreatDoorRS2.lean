/- Seat runfits: the shallow functions of this program, part 2: printed by a program, each held against the staged interpreter by the kernel. -/
import Derived.Test.YtcindejphmbjpaaGreatDoorRA
set_option maxRecDepth 100000
set_option linter.unusedVariables false
namespace Go.Proofs.YtcindejphmbjpaaGreatDoor
open Go Go.Ne
noncomputable def S106 (call : CallF) (N : Nat) (l : List NV) (h : H) : R :=
 uc l fun v0 l1 => un l1 (
 bK (nilO v0) fun v2 =>
 bK (fAddr 0 v2) fun v3 =>
 bK (fAddr 2 v3) fun v4 =>
 bK (ldO 1 false h v4) fun v5 =>
 bK (lenSl v5) fun v6 =>
 joinC 0 (fun h7 =>
 retC (NV.bool true) h7) fun J8 =>
 loopC N 4 (fun L14 v9 v10 v11 v12 h13 =>
 bK (ltI v12 v11) fun v15 =>
 condK v15 (
 bK (ixS 3 v10 v12) fun v16 =>
 bK (ldO 3 true h13 v16) fun v17 =>
 mK (alM (NB.cells [(NV.int .i64 (.ofNat 0)), NV.nslice, NV.nslice]) h13) fun v18 h19 =>
 mK (stM 3 v18 v17 h19) fun v20 h21 =>
 bK (nilO v9) fun v22 =>
 bK (fAddr 11 v22) fun v23 =>
 bK (ldO 1 false h21 (chkV h21 v23)) fun v24 =>
 bK (lenSl v24) fun v25 =>
 bK (nilO v9) fun v26 =>
 bK (fAddr 0 v26) fun v27 =>
 bK (fAddr 2 v27) fun v28 =>
 bK (ldO 1 false h21 (chkV h21 v28)) fun v29 =>
 bK (lenSl v29) fun v30 =>
 bK (subI v25 v30) fun v31 =>
 bK (addI v31 v12) fun v32 =>
 mK (calM call 97 [(chkV h21 v9), (chkV h21 v32)] h21) fun v33 h34 =>
 nextK h21 h34 (
 bK (extO 0 v33) fun v35 =>
 bK (extO 1 v33) fun v36 =>
 mK (alM (NB.cells [NV.nslice, NV.nslice]) h34) fun v37 h38 =>
 mK (stM 2 (chkV h38 v37) (chkV h38 v35) h38) fun v39 h40 =>
 nextK h38 h40 (
 bK (fAddr 0 v37) fun v41 =>
 bK (ldO 1 false h40 (chkV h40 v41)) fun v42 =>
 bK (fAddr 1 v18) fun v43 =>
 bK (ldO 1 false h40 (chkV h40 v43)) fun v44 =>
 bK (fAddr 1 v37) fun v45 =>
 bK (ldO 1 false h40 (chkV h40 v45)) fun v46 =>
 mK (bslM 2 false [(0, 1), (1, 1)] [NV.nslice, NV.nslice] [(chkV h40 v42), (chkV h40 v44)] h40) fun v47 h48 =>
 mK (calM call 152 [(chkV h48 v47)] h48) fun v49 h50 =>
 nextK h48 h50 (
 bK (bldO [(0, 1), (1, 1), (2, 1), (6, 1)] [NV.nilptr, NV.nslice, NV.nslice, NV.nslice, NV.nslice, (NV.bool false), (NV.bool false)] [v9, v49, v46, (NV.bool true)]) fun v51 =>
 bK (ldO 1 false h50 (chkV h50 v45)) fun v52 =>
 sameK v52 v46 (
 mK (boxM false (chkV h50 v51) h50) fun v53 h54 =>
 bK (fAddr 1 v37) fun v55 =>
 bK (ldO 1 false h54 v55) fun v56 =>
 bK (fAddr 1 v37) fun v57 =>
 bK (ldO 1 false h54 v57) fun v58 =>
 bK (fAddr 2 v18) fun v59 =>
 bK (ldO 1 false h54 v59) fun v60 =>
 mK (calM call 153 [v53, NV.nslice, v56, v58, v60] h54) fun v61 h62 =>
 bK (nilO v53) fun v63 =>
 bK (fAddr 6 v63) fun v64 =>
 bK (ldO 1 false h62 v64) fun v65 =>
 bK (notO v65) fun v66 =>
 condK v66 (
 retC (NV.bool false) h62) (
 bK (addI v12 (NV.int .i64 (.ofNat 1))) fun v67 =>
 L14 v9 v10 v11 v67 h62)))))) (
 J8 h13)) v0 v5 v6 (NV.int .i64 (.ofNat 0)) h)
theorem e106 : ikB Tryz.prog 9 Tryz.f106 = S106 := by kernel_rfl
theorem k106 [Sig] (w0 : World) : SOK cW w0 106 S106 := okW Tryz.func106 (by kernel_rfl) e106
noncomputable def S107 (call : CallF) (N : Nat) (l : List NV) (h : H) : R :=
 uc l fun v0 l1 => uc l1 fun v2 l3 => un l3 (
 mK (boxM false v0 h) fun v4 h5 =>
 mK (boxM false v2 h5) fun v6 h7 =>
 bK (ldO 1 false h7 v4) fun v8 =>
 bK (nilO v8) fun v9 =>
 bK (fAddr 12 v9) fun v10 =>
 bK (ldO 1 false h7 v10) fun v11 =>
 bK (lenSl v11) fun v12 =>
 mK (alM (NB.cells [(NV.int .i64 (.ofNat 0))]) h7) fun v13 h14 =>
 mK (stM 1 v13 v12 h14) fun v15 h16 =>
 bK (fAddr 0 v6) fun v17 =>
 bK (ldO 1 false h16 v17) fun v18 =>
 bK (eqI v18 (NV.int .i64 (.ofNat 2))) fun v19 =>
 joinC 6 (fun v20 v21 v22 v23 v24 v25 h26 =>
 condK v25 (
 bK (ldO 1 false h26 v20) fun v28 =>
 bK (ldO 9 true h26 v21) fun v29 =>
 mK (calM call 155 [v28, v29] h26) fun v30 h31 =>
 retC (NV.tuple []) h31) (
 bK (eqI v24 (NV.int .i64 (.ofNat 12))) fun v32 =>
 condK v32 (
 bK (ldO 1 false h26 (chkV h26 v20)) fun v33 =>
 bK (ldO 1 false h26 (chkV h26 v20)) fun v34 =>
 bK (fAddr 1 v21) fun v35 =>
 bK (ldO 1 false h26 (chkV h26 v35)) fun v36 =>
 mK (calM call 157 [(chkV h26 v34), (chkV h26 v36), (chkV h26 v23)] h26) fun v37 h38 =>
 nextK h26 h38 (
 bK (bldO [(0, 1), (6, 3)] [(NV.int .i64 (.ofNat 0)), (NV.int .i64 (.ofNat 0)), (NV.int .i64 (.ofNat 0)), (NV.int .u64 (.ofNat 0)), (NV.int .u64 (.ofNat 0)), NV.nslice, (NV.int .i64 (.ofNat 0)), (NV.int .i64 (.ofNat 0)), (NV.int .i64 (.ofNat 0)), NV.nslice, (NV.bool false)] [(NV.int .i64 (.ofNat 65536)), v37]) fun v39 =>
 bK (ldO 1 false h38 (chkV h38 v20)) fun v40 =>
 sameK v40 v33 (
 mK (calM call 156 [(chkV h38 v33), (chkV h38 v39)] h38) fun v41 h42 =>
 nextK h38 h42 (
 bK (ldO 1 false h42 v20) fun v43 =>
 bK (nilO v43) fun v44 =>
 bK (fAddr 16 v44) fun v45 =>
 mK (stM 1 v45 (NV.bool true) h42) fun v46 h47 =>
 retC (NV.tuple []) h47)))) (
 bK (eqI v24 (NV.int .i64 (.ofNat 13))) fun v48 =>
 condK v48 (
 bK (ldO 1 false h26 v20) fun v49 =>
 bK (nilO v49) fun v50 =>
 bK (fAddr 14 v50) fun v51 =>
 bK (ldO 1 false h26 v51) fun v52 =>
 bK (subI v52 (NV.int .i64 (.ofNat 1))) fun v53 =>
 bK (nilO v49) fun v54 =>
 bK (fAddr 14 v54) fun v55 =>
 mK (stM 1 v55 v53 h26) fun v56 h57 =>
 bK (ldO 1 false h57 (chkV h57 v20)) fun v58 =>
 bK (ldO 1 false h57 (chkV h57 v20)) fun v59 =>
 bK (fAddr 1 v21) fun v60 =>
 bK (ldO 1 false h57 (chkV h57 v60)) fun v61 =>
 mK (calM call 157 [(chkV h57 v59), (chkV h57 v61), (chkV h57 v23)] h57) fun v62 h63 =>
 nextK h57 h63 (
 bK (bldO [(0, 1), (6, 3)] [(NV.int .i64 (.ofNat 0)), (NV.int .i64 (.ofNat 0)), (NV.int .i64 (.ofNat 0)), (NV.int .u64 (.ofNat 0)), (NV.int .u64 (.ofNat 0)), NV.nslice, (NV.int .i64 (.ofNat 0)), (NV.int .i64 (.ofNat 0)), (NV.int .i64 (.ofNat 0)), NV.nslice, (NV.bool false)] [(NV.int .i64 (.ofNat 65537)), v62]) fun v64 =>
 bK (ldO 1 false h63 (chkV h63 v20)) fun v65 =>
 sameK v65 v58 (
 mK (calM call 156 [(chkV h63 v58), (chkV h63 v64)] h63) fun v66 h67 =>
 nextK h63 h67 (
 retC (NV.tuple []) h67)))) (
 bK (eqI v24 (NV.int .i64 (.ofNat 14))) fun v68 =>
 condK v68 (
 bK (ldO 1 false h26 v20) fun v69 =>
 bK (nilO v69) fun v70 =>
 bK (fAddr 14 v70) fun v71 =>
 bK (ldO 1 false h26 v71) fun v72 =>
 bK (subI v72 (NV.int .i64 (.ofNat 1))) fun v73 =>
 bK (nilO v69) fun v74 =>
 bK (fAddr 14 v74) fun v75 =>
 mK (stM 1 v75 v73 h26) fun v76 h77 =>
 bK (ldO 1 false h77 v20) fun v78 =>
 bK (bldO [(0, 1)] [(NV.int .i64 (.ofNat 0)), (NV.int .i64 (.ofNat 0)), (NV.int .i64 (.ofNat 0)), (NV.int .u64 (.ofNat 0)), (NV.int .u64 (.ofNat 0)), NV.nslice, (NV.int .i64 (.ofNat 0)), (NV.int .i64 (.ofNat 0)), (NV.int .i64 (.ofNat 0)), NV.nslice, (NV.bool false)] [(NV.int .i64 (.ofNat 65539))]) fun v79 =>
 mK (calM call 156 [v78, v79] h77) fun v80 h81 =>
 bK (fAddr 5 v21) fun v82 =>
 bK (ldO 1 false h81 (chkV h81 v82)) fun v83 =>
 bK (fAddr 5 v21) fun v84 =>
 bK (ldO 1 false h81 (chkV h81 v84)) fun v85 =>
 bK (lenSl v85) fun v86 =>
 bK (fAddr 5 v21) fun v87 =>
 bK (ldO 1 false h81 (chkV h81 v87)) fun v88 =>
 bK (lenSl v88) fun v89 =>
 bK (slcO Tryz.prog 41 h81 (chkV h81 v83) none (some (chkV h81 v86)) (some (chkV h81 v89))) fun v90 =>
 bK (fAddr 1 v21) fun v91 =>
 bK (ldO 1 false h81 (chkV h81 v91)) fun v92 =>
 mK (bslM 1 false [(0, 1)] [(NV.int .i64 (.ofNat 0))] [(chkV h81 v92)] h81) fun v93 h94 =>
 mK (appM Tryz.prog 3 (chkV h94 v90) (chkV h94 v93) h94) fun v95 h96 =>
 nextK h94 h96 (
 bK (lenSl v95) fun v97 =>
 joinC 1 (fun v98 h99 =>
 bK (ldO 1 false h99 v98) fun v101 =>
 bK (nilO v101) fun v102 =>
 bK (fAddr 16 v102) fun v103 =>
 mK (stM 1 v103 (NV.bool true) h99) fun v104 h105 =>
 retC (NV.tuple []) h105) fun J100 =>
 loopC N 5 (fun L112 v106 v107 v108 v109 v110 h111 =>
 bK (ltI v110 v109) fun v113 =>
 condK v113 (
 bK (ixS 1 v108 v110) fun v114 =>
 bK (ldO 1 false h111 v114) fun v115 =>
 mK (alM (NB.cells [(NV.int .i64 (.ofNat 0))]) h111) fun v116 h117 =>
 mK (stM 1 v116 v110 h117) fun v118 h119 =>
 bK (ldO 1 false h119 v106) fun v120 =>
 mK (calM call 157 [v120, v115, (NV.func (.func 158) [] [v106, v107, v116])] h119) fun v121 h122 =>
 mK (alM (NB.cells [(NV.int .i64 (.ofNat 0)), (NV.int .i64 (.ofNat 0)), (NV.int .i64 (.ofNat 0))]) h122) fun v123 h124 =>
 mK (stM 3 v123 v121 h124) fun v125 h126 =>
 bK (ldO 1 false h126 (chkV h126 v106)) fun v127 =>
 bK (nilO v127) fun v128 =>
 bK (fAddr 12 v128) fun v129 =>
 bK (ldO 1 false h126 (chkV h126 v129)) fun v130 =>
 bK (ldO 1 false h126 (chkV h126 v107)) fun v131 =>
 bK (ldO 1 false h126 (chkV h126 v106)) fun v132 =>
 bK (nilO v132) fun v133 =>
 bK (fAddr 12 v133) fun v134 =>
 bK (ldO 1 false h126 (chkV h126 v134)) fun v135 =>
 bK (ldO 1 false h126 (chkV h126 v107)) fun v136 =>
 bK (ixS 11 v135 v136) fun v137 =>
 bK (fAddr 9 v137) fun v138 =>
 bK (ldO 1 false h126 (chkV h126 v138)) fun v139 =>
 bK (ldO 3 true h126 (chkV h126 v123)) fun v140 =>
 mK (bslM 1 false [(0, 3)] [(NV.int .i64 (.ofNat 0)), (NV.int .i64 (.ofNat 0)), (NV.int .i64 (.ofNat 0))] [(chkV h126 v140)] h126) fun v141 h142 =>
 mK (appM Tryz.prog 142 (chkV h142 v139) (chkV h142 v141) h142) fun v143 h144 =>
 nextK h142 h144 (
 bK (ixS 11 v130 v131) fun v145 =>
 bK (fAddr 9 v145) fun v146 =>
 bK (ldO 1 false h144 (chkV h144 v106)) fun v147 =>
 sameK v147 v127 (
 bK (ldO 1 false h144 (chkV h144 v129)) fun v148 =>
 sameK v148 v130 (
 bK (ldO 1 false h144 (chkV h144 v107)) fun v149 =>
 sameK v149 v131 (
 mK (stM 1 (chkV h144 v146) (chkV h144 v143) h144) fun v150 h151 =>
 nextK h144 h151 (
 bK (addI v110 (NV.int .i64 (.ofNat 1))) fun v152 =>
 L112 v106 v107 v108 v109 v152 h151)))))) (
 J100 v106 h111)) v20 v22 v95 v97 (NV.int .i64 (.ofNat 0)) h96)) (
 bK (eqI v24 (NV.int .i64 (.ofNat 15))) fun v153 =>
 condK v153 (
 bK (ldO 1 false h26 (chkV h26 v20)) fun v154 =>
 bK (ldO 1 false h26 (chkV h26 v20)) fun v155 =>
 bK (nilO v155) fun v156 =>
 bK (fAddr 15 v156) fun v157 =>
 bK (ldO 1 false h26 (chkV h26 v157)) fun v158 =>
 bK (bldO [(1, 1)] [(NV.int .i64 (.ofNat 0)), (NV.int .i64 (.ofNat 0)), (NV.int .i64 (.ofNat 0))] [v158]) fun v159 =>
 bK (bldO [(0, 1), (6, 3)] [(NV.int .i64 (.ofNat 0)), (NV.int .i64 (.ofNat 0)), (NV.int .i64 (.ofNat 0)), (NV.int .u64 (.ofNat 0)), (NV.int .u64 (.ofNat 0)), NV.nslice, (NV.int .i64 (.ofNat 0)), (NV.int .i64 (.ofNat 0)), (NV.int .i64 (.ofNat 0)), NV.nslice, (NV.bool false)] [(NV.int .i64 (.ofNat 65540)), v159]) fun v160 =>
 mK (calM call 156 [(chkV h26 v154), (chkV h26 v160)] h26) fun v161 h162 =>
 nextK h26 h162 (
 bK (ldO 1 false h162 v20) fun v163 =>
 bK (nilO v163) fun v164 =>
 bK (fAddr 16 v164) fun v165 =>
 mK (stM 1 v165 (NV.bool true) h162) fun v166 h167 =>
 retC (NV.tuple []) h167)) (
 bK (ldO 1 false h26 (chkV h26 v20)) fun v168 =>
 bK (fAddr 0 v21) fun v169 =>
 bK (ldO 1 false h26 (chkV h26 v169)) fun v170 =>
 bK (fAddr 1 v21) fun v171 =>
 bK (ldO 1 false h26 (chkV h26 v171)) fun v172 =>
 bK (fAddr 2 v21) fun v173 =>
 bK (ldO 1 false h26 (chkV h26 v173)) fun v174 =>
 bK (fAddr 3 v21) fun v175 =>
 bK (ldO 1 false h26 (chkV h26 v175)) fun v176 =>
 bK (fAddr 4 v21) fun v177 =>
 bK (ldO 1 false h26 (chkV h26 v177)) fun v178 =>
 bK (fAddr 5 v21) fun v179 =>
 bK (ldO 1 false h26 (chkV h26 v179)) fun v180 =>
 mK (calM call 41 [(chkV h26 v180)] h26) fun v181 h182 =>
 nextK h26 h182 (
 bK (bldO [(0, 1), (1, 1), (2, 1), (3, 1), (4, 1), (5, 1)] [(NV.int .i64 (.ofNat 0)), (NV.int .i64 (.ofNat 0)), (NV.int .i64 (.ofNat 0)), (NV.int .u64 (.ofNat 0)), (NV.int .u64 (.ofNat 0)), NV.nslice, (NV.int .i64 (.ofNat 0)), (NV.int .i64 (.ofNat 0)), (NV.int .i64 (.ofNat 0)), NV.nslice, (NV.bool false)] [v170, v172, v174, v176, v178, v181]) fun v183 =>
 bK (ldO 1 false h182 (chkV h182 v20)) fun v184 =>
 sameK v184 v168 (
 bK (ldO 1 false h182 (chkV h182 v169)) fun v185 =>
 sameK v185 v170 (
 bK (ldO 1 false h182 (chkV h182 v171)) fun v186 =>
 sameK v186 v172 (
 bK (ldO 1 false h182 (chkV h182 v173)) fun v187 =>
 sameK v187 v174 (
 bK (ldO 1 false h182 (chkV h182 v175)) fun v188 =>
 sameK v188 v176 (
 bK (ldO 1 false h182 (chkV h182 v177)) fun v189 =>
 sameK v189 v178 (
 mK (calM call 156 [(chkV h182 v168), (chkV h182 v183)] h182) fun v190 h191 =>
 nextK h182 h191 (
 bK (ldO 1 false h191 (chkV h191 v20)) fun v192 =>
 bK (nilO v192) fun v193 =>
 bK (fAddr 14 v193) fun v194 =>
 bK (ldO 1 false h191 (chkV h191 v194)) fun v195 =>
 bK (ldO 1 false h191 (chkV h191 v20)) fun v196 =>
 bK (ldO 9 true h191 (chkV h191 v21)) fun v197 =>
 mK (calM call 159 [(chkV h191 v196), (chkV h191 v197)] h191) fun v198 h199 =>
 nextK h191 h199 (
 bK (addI v195 v198) fun v200 =>
 bK (nilO v192) fun v201 =>
 bK (fAddr 14 v201) fun v202 =>
 bK (ldO 1 false h199 (chkV h199 v20)) fun v203 =>
 sameK v203 v192 (
 bK (ldO 1 false h199 (chkV h199 v194)) fun v204 =>
 sameK v204 v195 (
 mK (stM 1 (chkV h199 v202) (chkV h199 v200) h199) fun v205 h206 =>
 nextK h199 h206 (
 bK (ldO 1 false h206 v20) fun v207 =>
 bK (fAddr 0 v21) fun v208 =>
 bK (ldO 1 false h206 v208) fun v209 =>
 bK (eqI v209 (NV.int .i64 (.ofNat 0))) fun v210 =>
 bK (nilO v207) fun v211 =>
 bK (fAddr 16 v211) fun v212 =>
 mK (stM 1 v212 v210 h206) fun v213 h214 =>
 retC (NV.tuple []) h214)))))))))))))))))) fun J27 =>
 condK v19 (
 J27 v4 v6 v13 (NV.func (.func 154) [] [v4, v13]) v18 v19 h16) (
 bK (eqI v18 (NV.int .i64 (.ofNat 3))) fun v215 =>
 condK v215 (
 J27 v4 v6 v13 (NV.func (.func 154) [] [v4, v13]) v18 v215 h16) (
 bK (eqI v18 (NV.int .i64 (.ofNat 4))) fun v216 =>
 J27 v4 v6 v13 (NV.func (.func 154) [] [v4, v13]) v18 v216 h16)))
theorem e107 : ikB Tryz.prog 9 Tryz.f107 = S107 := by kernel_rfl
theorem k107 [Sig] (w0 : World) : SOK cW w0 107 S107 := okW Tryz.func107 (by kernel_rfl) e107
noncomputable def S110 (call : CallF) (N : Nat) (l : List NV) (h : H) : R :=
 uc l fun v0 l1 => un l1 (
 bK (geI v0 (NV.int .i64 (.ofNat 0))) fun v2 =>
 jK (fun v3 h4 =>
 jK (fun v6 h7 =>
 bK (pickO v2 v6 (NV.bool false)) fun v9 =>
 condK v9 (
 mK (calM call 163 [] h7) fun v10 h11 =>
 bK (ixArr 211 false 1 v10 v0) fun v12 =>
 retC v12 h11) (
 bK (geI v0 (NV.int .i64 (.ofNat 64512))) fun v13 =>
 jK (fun v14 h15 =>
 jK (fun v17 h18 =>
 bK (pickO v13 v17 (NV.bool false)) fun v20 =>
 condK v20 (
 bK (subI v0 (NV.int .i64 (.ofNat 64512))) fun v21 =>
 bK (ixA 18 1 (NV.ptr (.o .h) 0) v21) fun v22 =>
 bK (ldO 1 false h18 v22) fun v23 =>
 retC v23 h18) (
 bK (geI v0 (NV.int .i64 (.ofNat 64768))) fun v24 =>
 jK (fun v25 h26 =>
 jK (fun v28 h29 =>
 bK (pickO v24 v28 (NV.bool false)) fun v31 =>
 condK v31 (
 mK (calM call 164 [] h29) fun v32 h33 =>
 bK (subI v0 (NV.int .i64 (.ofNat 64768))) fun v34 =>
 bK (ixArr 256 false 1 v32 v34) fun v35 =>
 retC v35 h33) (
 retC (NV.str 0 0) h29)) fun J30 => gK v24 true (
 bK (ltI v25 (NV.int .i64 (.ofNat 65024))) fun v36 =>
 J30 v36 h26) (J30 (NV.tuple []) h26)) fun J27 => gK v24 true (
 J27 v0 h18) (J27 (NV.tuple []) h18))) fun J19 => gK v13 true (
 bK (ltI v14 (NV.int .i64 (.ofNat 64530))) fun v37 =>
 J19 v37 h15) (J19 (NV.tuple []) h15)) fun J16 => gK v13 true (
 J16 v0 h7) (J16 (NV.tuple []) h7))) fun J8 => gK v2 true (
 bK (ltI v3 (NV.int .i64 (.ofNat 211))) fun v38 =>
 J8 v38 h4) (J8 (NV.tuple []) h4)) fun J5 => gK v2 true (
 J5 v0 h) (J5 (NV.tuple []) h))
theorem e110 : ikB Tryz.prog 9 Tryz.f110 = S110 := by kernel_rfl
theorem k110 [Sig] (w0 : World) : SOK cW w0 110 S110 := okW Tryz.func110 (by kernel_rfl) e110
noncomputable def S109 (call : CallF) (N : Nat) (l : List NV) (h : H) : R :=
 uc l fun v0 l1 => un l1 (
 joinC 3 (fun v2 v3 v4 h5 =>
 bK (geI v4 (NV.int .u8 (.ofNat 128))) fun v7 =>
 condK v7 (
 mK (calM call 161 [v2, (NV.func (.func 162) [] [])] h5) fun v8 h9 =>
 retC v8 h9) (
 mK (mslM 16 false (NV.str 0 0) v3 v3 h5) fun v10 h11 =>
 joinC 4 (fun v12 v13 v14 v15 h16 =>
 joinC 4 (fun v18 v19 v20 v21 h22 =>
 bK (lenStr v18) fun v24 =>
 bK (ltI v21 v24) fun v25 =>
 joinC 1 (fun v26 h27 =>
 retC v26 h27) fun J28 =>
 condK v25 (
 bK (slStr v18 (some v21) none) fun v29 =>
 bK (ixS 1 v19 v20) fun v30 =>
 mK (stM 1 v30 v29 h22) fun v31 h32 =>
 J28 v19 h32) (
 J28 v19 h22)) fun J23 =>
 loopC N 5 (fun L39 v33 v34 v35 v36 v37 h38 =>
 bK (lenStr v33) fun v40 =>
 bK (ltI v37 v40) fun v41 =>
 condK v41 (
 bK (ixStr v33 v37) fun v42 =>
 bK (ixA 256 1 (NV.ptr .h 0) v42) fun v43 =>
 bK (ldO 1 false h38 v43) fun v44 =>
 bK (eqI v44 (NV.int .u8 (.ofNat 0))) fun v45 =>
 condK v45 (
 bK (addI v37 (NV.int .i64 (.ofNat 1))) fun v46 =>
 L39 v33 v34 v35 v36 v46 h38) (
 bK (slStr v33 (some v36) (some v37)) fun v47 =>
 bK (ixS 1 v34 v35) fun v48 =>
 mK (stM 1 v48 v47 h38) fun v49 h50 =>
 bK (addI v35 (NV.int .i64 (.ofNat 1))) fun v51 =>
 bK (addI v37 (NV.int .i64 (.ofNat 1))) fun v52 =>
 joinC 4 (fun v53 v54 v55 v56 h57 =>
 L39 v53 v54 v55 v56 v56 h57) fun J58 =>
 loopC N 4 (fun L64 v59 v60 v61 v62 h63 =>
 bK (lenStr v59) fun v65 =>
 bK (ltI v62 v65) fun v66 =>
 jK (fun v67 h68 =>
 jK (fun v70 h71 =>
 jK (fun v73 h74 =>
 jK (fun v76 h77 =>
 jK (fun v79 h80 =>
 jK (fun v82 h83 =>
 bK (pickO v66 v82 (NV.bool false)) fun v85 =>
 condK v85 (
 bK (addI v62 (NV.int .i64 (.ofNat 1))) fun v86 =>
 L64 v59 v60 v61 v86 h83) (
 J58 v59 v60 v61 v62 h83)) fun J84 => gK v66 true (
 bK (neI v79 (NV.int .u8 (.ofNat 0))) fun v87 =>
 J84 v87 h80) (J84 (NV.tuple []) h80)) fun J81 => gK v66 true (
 bK (ldO 1 false h77 v76) fun v88 =>
 J81 v88 h77) (J81 (NV.tuple []) h77)) fun J78 => gK v66 true (
 bK (ixA 256 1 (NV.ptr .h 0) v73) fun v89 =>
 J78 v89 h74) (J78 (NV.tuple []) h74)) fun J75 => gK v66 true (
 bK (ixStr v67 v70) fun v90 =>
 J75 v90 h71) (J75 (NV.tuple []) h71)) fun J72 => gK v66 true (
 J72 v62 h68) (J72 (NV.tuple []) h68)) fun J69 => gK v66 true (
 J69 v59 h63) (J69 (NV.tuple []) h63)) v33 v34 v51 v52 h50)) (
 J23 v33 v34 v35 v36 h38)) v12 v13 v14 v15 v15 h16) fun J17 =>
 loopC N 4 (fun L96 v91 v92 v93 v94 h95 =>
 bK (lenStr v91) fun v97 =>
 bK (ltI v94 v97) fun v98 =>
 jK (fun v99 h100 =>
 jK (fun v102 h103 =>
 jK (fun v105 h106 =>
 jK (fun v108 h109 =>
 jK (fun v111 h112 =>
 jK (fun v114 h115 =>
 bK (pickO v98 v114 (NV.bool false)) fun v117 =>
 condK v117 (
 bK (addI v94 (NV.int .i64 (.ofNat 1))) fun v118 =>
 L96 v91 v92 v93 v118 h115) (
 J17 v91 v92 v93 v94 h115)) fun J116 => gK v98 true (
 bK (neI v111 (NV.int .u8 (.ofNat 0))) fun v119 =>
 J116 v119 h112) (J116 (NV.tuple []) h112)) fun J113 => gK v98 true (
 bK (ldO 1 false h109 v108) fun v120 =>
 J113 v120 h109) (J113 (NV.tuple []) h109)) fun J110 => gK v98 true (
 bK (ixA 256 1 (NV.ptr .h 0) v105) fun v121 =>
 J110 v121 h106) (J110 (NV.tuple []) h106)) fun J107 => gK v98 true (
 bK (ixStr v99 v102) fun v122 =>
 J107 v122 h103) (J107 (NV.tuple []) h103)) fun J104 => gK v98 true (
 J104 v94 h100) (J104 (NV.tuple []) h100)) fun J101 => gK v98 true (
 J101 v91 h95) (J101 (NV.tuple []) h95)) v2 v10 (NV.int .i64 (.ofNat 0)) (NV.int .i64 (.ofNat 0)) h11)) fun J6 =>
 loopC N 5 (fun L129 v123 v124 v125 v126 v127 h128 =>
 bK (lenStr v123) fun v130 =>
 bK (ltI v127 v130) fun v131 =>
 condK v131 (
 bK (ixStr v123 v127) fun v132 =>
 bK (binO .or v126 v132) fun v133 =>
 bK (ixA 256 1 (NV.ptr .h 0) v132) fun v134 =>
 bK (ldO 1 false h128 v134) fun v135 =>
 bK (cvI .i64 v135) fun v136 =>
 bK (unO .xor v136) fun v137 =>
 bK (binO .and v125 v137) fun v138 =>
 bK (addI v124 v138) fun v139 =>
 bK (addI v127 (NV.int .i64 (.ofNat 1))) fun v140 =>
 L129 v123 v139 v136 v133 v140 h128) (
 J6 v123 v124 v126 h128)) v0 (NV.int .i64 (.ofNat 0)) (NV.int .i64 (.ofNat 1)) (NV.int .u8 (.ofNat 0)) (NV.int .i64 (.ofNat 0)) h)
theorem e109 : ikB Tryz.prog 9 Tryz.f109 = S109 := by kernel_rfl
theorem k109 [Sig] (w0 : World) : SOK cW w0 109 S109 := okW Tryz.func109 (by kernel_rfl) e109
noncomputable def S108 (call : CallF) (N : Nat) (l : List NV) (h : H) : R :=
 uc l fun v0 l1 => uc l1 fun v2 l3 => un l3 (
 mK (calM call 160 [v0, v2] h) fun v4 h5 =>
 bK (geI v4 (NV.int .i64 (.ofNat 0))) fun v6 =>
 condK v6 (
 bK (slStr v0 none (some v4)) fun v7 =>
 bK (lenStr v2) fun v8 =>
 bK (addI v4 v8) fun v9 =>
 bK (slStr v0 (some v9) none) fun v10 =>
 retC (NV.tuple [v7, v10, (NV.bool true)]) h5) (
 retC (NV.tuple [v0, (NV.str 0 0), (NV.bool false)]) h5))
theorem e108 : ikB Tryz.prog 9 Tryz.f108 = S108 := by kernel_rfl
theorem k108 [Sig] (w0 : World) : SOK cW w0 108 S108 := okW Tryz.func108 (by kernel_rfl) e108
noncomputable def S112 (call : CallF) (N : Nat) (l : List NV) (h : H) : R :=
 uc l fun v0 l1 => un l1 (
 bK (lenSl v0) fun v2 =>
 joinC 1 (fun v3 h4 =>
 retC v3 h4) fun J5 =>
 loopC N 4 (fun L11 v6 v7 v8 v9 h10 =>
 bK (ltI v9 v8) fun v12 =>
 condK v12 (
 bK (ixS 4 v7 v9) fun v13 =>
 bK (ldO 4 true h10 v13) fun v14 =>
 mK (alM (NB.cells [(NV.int .i64 (.ofNat 0)), (NV.int .u64 (.ofNat 0)), (NV.int .u64 (.ofNat 0)), (NV.bool false)]) h10) fun v15 h16 =>
 mK (stM 4 v15 v14 h16) fun v17 h18 =>
 bK (fAddr 0 v15) fun v19 =>
 bK (ldO 1 false h18 v19) fun v20 =>
 bK (fAddr 1 v15) fun v21 =>
 bK (ldO 1 false h18 v21) fun v22 =>
 bK (bldO [(0, 1), (1, 1)] [(NV.int .i64 (.ofNat 0)), (NV.int .u64 (.ofNat 0)), (NV.int .u64 (.ofNat 0)), (NV.bool false)] [v20, v22]) fun v23 =>
 mK (alM (NB.cells [(NV.int .i64 (.ofNat 0)), (NV.int .u64 (.ofNat 0)), (NV.int .u64 (.ofNat 0)), (NV.bool false)]) h18) fun v24 h25 =>
 mK (stM 4 v24 v23 h25) fun v26 h27 =>
 bK (fAddr 0 v15) fun v28 =>
 bK (ldO 1 false h27 v28) fun v29 =>
 bK (eqI v29 (NV.int .i64 (.ofNat 127))) fun v30 =>
 joinC 8 (fun v31 v32 v33 v34 v35 v36 v37 v38 h39 =>
 joinC 5 (fun v41 v42 v43 v44 v45 h46 =>
 bK (ldO 4 true h46 v42) fun v48 =>
 mK (bslM 1 false [(0, 4)] [(NV.int .i64 (.ofNat 0)), (NV.int .u64 (.ofNat 0)), (NV.int .u64 (.ofNat 0)), (NV.bool false)] [v48] h46) fun v49 h50 =>
 mK (appM Tryz.prog 24 v41 v49 h50) fun v51 h52 =>
 bK (addI v45 (NV.int .i64 (.ofNat 1))) fun v53 =>
 L11 v51 v43 v44 v53 h52) fun J47 =>
 condK v38 (
 bK (fAddr 1 v33) fun v54 =>
 bK (ldO 1 false h39 v54) fun v55 =>
 bK (binO .and v55 (NV.int .u64 (.ofNat 4294967295))) fun v56 =>
 bK (fAddr 1 v33) fun v57 =>
 mK (stM 1 v57 v56 h39) fun v58 h59 =>
 J47 v31 v33 v34 v35 v36 h59) (
 bK (eqI v37 (NV.int .i64 (.ofNat 123))) fun v60 =>
 condK v60 (
 bK (fAddr 2 v32) fun v61 =>
 bK (ldO 1 false h39 v61) fun v62 =>
 bK (fAddr 2 v33) fun v63 =>
 mK (stM 1 v63 v62 h39) fun v64 h65 =>
 J47 v31 v33 v34 v35 v36 h65) (
 J47 v31 v33 v34 v35 v36 h39))) fun J40 =>
 condK v30 (
 J40 v6 v15 v24 v7 v8 v9 v29 v30 h27) (
 bK (eqI v29 (NV.int .i64 (.ofNat 125))) fun v66 =>
 J40 v6 v15 v24 v7 v8 v9 v29 v66 h27)) (
 J5 v6 h10)) NV.nslice v0 v2 (NV.int .i64 (.ofNat 0)) h)
theorem e112 : ikB Tryz.prog 9 Tryz.f112 = S112 := by kernel_rfl
theorem k112 [Sig] (w0 : World) : SOK cW w0 112 S112 := okW Tryz.func112 (by kernel_rfl) e112
noncomputable def S114 (call : CallF) (N : Nat) (l : List NV) (h : H) : R :=
 uc l fun v0 l1 => un l1 (
 bK (eqI v0 (NV.int .i64 (.ofNat 127))) fun v2 =>
 jK (fun v3 h4 =>
 jK (fun v6 h7 =>
 bK (pickO v2 (NV.bool true) v6) fun v9 =>
 condK v9 (
 retC (NV.int .i64 (.ofNat 32)) h7) (
 retC (NV.int .i64 (.ofNat 64)) h7)) fun J8 => gK v2 false (
 bK (eqI v3 (NV.int .i64 (.ofNat 125))) fun v10 =>
 J8 v10 h4) (J8 (NV.tuple []) h4)) fun J5 => gK v2 false (
 J5 v0 h) (J5 (NV.tuple []) h))
theorem e114 : ikB Tryz.prog 9 Tryz.f114 = S114 := by kernel_rfl
theorem k114 [Sig] (w0 : World) : SOK cW w0 114 S114 := okW Tryz.func114 (by kernel_rfl) e114
noncomputable def S113 (call : CallF) (N : Nat) (l : List NV) (h : H) : R :=
 uc l fun v0 l1 => uc l1 fun v2 l3 => uc l3 fun v4 l5 => uc l5 fun v6 l7 => un l7 (
 bK (eqI v0 (NV.int .i64 (.ofNat 69))) fun v8 =>
 jK (fun v9 h10 =>
 jK (fun v12 h13 =>
 bK (pickO v8 (NV.bool true) v12) fun v15 =>
 condK v15 (
 bK (eqI v4 (NV.int .u64 (.ofNat 0))) fun v16 =>
 mK (calM call 168 [v16, (NV.int .i64 (.ofNat 0))] h13) fun v17 h18 =>
 bK (extO 0 v17) fun v19 =>
 bK (extO 1 v17) fun v20 =>
 retC (NV.tuple [v19, v20]) h18) (
 bK (leI v0 (NV.int .i64 (.ofNat 79))) fun v21 =>
 condK v21 (
 bK (addI (NV.int .i64 (.ofNat 1)) v0) fun v22 =>
 bK (subI v22 (NV.int .i64 (.ofNat 70))) fun v23 =>
 mK (calM call 169 [v2, v23, v4, v6] h13) fun v24 h25 =>
 bK (extO 0 v24) fun v26 =>
 bK (extO 1 v24) fun v27 =>
 mK (calM call 168 [v26, v27] h25) fun v28 h29 =>
 bK (extO 0 v28) fun v30 =>
 bK (extO 1 v28) fun v31 =>
 retC (NV.tuple [v30, v31]) h29) (
 bK (leI v0 (NV.int .i64 (.ofNat 90))) fun v32 =>
 condK v32 (
 bK (addI (NV.int .i64 (.ofNat 1)) v0) fun v33 =>
 bK (subI v33 (NV.int .i64 (.ofNat 81))) fun v34 =>
 mK (calM call 169 [v2, v34, v4, v6] h13) fun v35 h36 =>
 bK (extO 0 v35) fun v37 =>
 bK (extO 1 v35) fun v38 =>
 mK (calM call 168 [v37, v38] h36) fun v39 h40 =>
 bK (extO 0 v39) fun v41 =>
 bK (extO 1 v39) fun v42 =>
 retC (NV.tuple [v41, v42]) h40) (
 bK (leI v0 (NV.int .i64 (.ofNat 96))) fun v43 =>
 condK v43 (
 bK (addI (NV.int .i64 (.ofNat 1)) v0) fun v44 =>
 bK (subI v44 (NV.int .i64 (.ofNat 91))) fun v45 =>
 mK (calM call 170 [v2, v45, v4, v6] h13) fun v46 h47 =>
 bK (extO 0 v46) fun v48 =>
 bK (extO 1 v46) fun v49 =>
 mK (calM call 168 [v48, v49] h47) fun v50 h51 =>
 bK (extO 0 v50) fun v52 =>
 bK (extO 1 v50) fun v53 =>
 retC (NV.tuple [v52, v53]) h51) (
 bK (leI v0 (NV.int .i64 (.ofNat 102))) fun v54 =>
 condK v54 (
 bK (addI (NV.int .i64 (.ofNat 1)) v0) fun v55 =>
 bK (subI v55 (NV.int .i64 (.ofNat 97))) fun v56 =>
 mK (calM call 170 [v2, v56, v4, v6] h13) fun v57 h58 =>
 bK (extO 0 v57) fun v59 =>
 bK (extO 1 v57) fun v60 =>
 mK (calM call 168 [v59, v60] h58) fun v61 h62 =>
 bK (extO 0 v61) fun v63 =>
 bK (extO 1 v61) fun v64 =>
 retC (NV.tuple [v63, v64]) h62) (
 bK (leI v0 (NV.int .i64 (.ofNat 105))) fun v65 =>
 condK v65 (
 bK (addI (NV.int .i64 (.ofNat 1)) v0) fun v66 =>
 bK (subI v66 (NV.int .i64 (.ofNat 103))) fun v67 =>
 mK (calM call 171 [v2, v67, v4] h13) fun v68 h69 =>
 bK (extO 0 v68) fun v70 =>
 bK (extO 1 v68) fun v71 =>
 retC (NV.tuple [v70, v71]) h69) (
 bK (leI v0 (NV.int .i64 (.ofNat 120))) fun v72 =>
 condK v72 (
 bK (addI (NV.int .i64 (.ofNat 1)) v0) fun v73 =>
 bK (subI v73 (NV.int .i64 (.ofNat 106))) fun v74 =>
 mK (calM call 172 [v2, v74, v4, v6] h13) fun v75 h76 =>
 bK (extO 0 v75) fun v77 =>
 bK (extO 1 v75) fun v78 =>
 retC (NV.tuple [v77, v78]) h76) (
 bK (leI v0 (NV.int .i64 (.ofNat 123))) fun v79 =>
 condK v79 (
 bK (addI (NV.int .i64 (.ofNat 1)) v0) fun v80 =>
 bK (subI v80 (NV.int .i64 (.ofNat 121))) fun v81 =>
 mK (calM call 171 [v2, v81, v4] h13) fun v82 h83 =>
 bK (extO 0 v82) fun v84 =>
 bK (extO 1 v82) fun v85 =>
 retC (NV.tuple [v84, v85]) h83) (
 bK (leI v0 (NV.int .i64 (.ofNat 138))) fun v86 =>
 condK v86 (
 bK (addI (NV.int .i64 (.ofNat 1)) v0) fun v87 =>
 bK (subI v87 (NV.int .i64 (.ofNat 124))) fun v88 =>
 mK (calM call 172 [v2, v88, v4, v6] h13) fun v89 h90 =>
 bK (extO 0 v89) fun v91 =>
 bK (extO 1 v89) fun v92 =>
 retC (NV.tuple [v91, v92]) h90) (
 bK (leI v0 (NV.int .i64 (.ofNat 145))) fun v93 =>
 condK v93 (
 bK (subI v0 (NV.int .i64 (.ofNat 139))) fun v94 =>
 mK (calM call 173 [v2, v94, v4] h13) fun v95 h96 =>
 bK (extO 0 v95) fun v97 =>
 bK (extO 1 v95) fun v98 =>
 retC (NV.tuple [v97, v98]) h96) (
 bK (leI v0 (NV.int .i64 (.ofNat 152))) fun v99 =>
 condK v99 (
 bK (addI (NV.int .i64 (.ofNat 1)) v0) fun v100 =>
 bK (subI v100 (NV.int .i64 (.ofNat 146))) fun v101 =>
 mK (calM call 174 [v2, v101, v4, v6] h13) fun v102 h103 =>
 bK (extO 0 v102) fun v104 =>
 bK (extO 1 v102) fun v105 =>
 retC (NV.tuple [v104, v105]) h103) (
 bK (leI v0 (NV.int .i64 (.ofNat 159))) fun v106 =>
 condK v106 (
 bK (subI v0 (NV.int .i64 (.ofNat 153))) fun v107 =>
 mK (calM call 173 [v2, v107, v4] h13) fun v108 h109 =>
 bK (extO 0 v108) fun v110 =>
 bK (extO 1 v108) fun v111 =>
 retC (NV.tuple [v110, v111]) h109) (
 bK (leI v0 (NV.int .i64 (.ofNat 166))) fun v112 =>
 condK v112 (
 bK (addI (NV.int .i64 (.ofNat 1)) v0) fun v113 =>
 bK (subI v113 (NV.int .i64 (.ofNat 160))) fun v114 =>
 mK (calM call 174 [v2, v114, v4, v6] h13) fun v115 h116 =>
 bK (extO 0 v115) fun v117 =>
 bK (extO 1 v115) fun v118 =>
 retC (NV.tuple [v117, v118]) h116) (
 bK (geI v0 (NV.int .i64 (.ofNat 64512))) fun v119 =>
 condK v119 (
 bK (subI v0 (NV.int .i64 (.ofNat 64512))) fun v120 =>
 bK (binO .quo v120 (NV.int .i64 (.ofNat 2))) fun v121 =>
 bK (binO .rem v121 (NV.int .i64 (.ofNat 2))) fun v122 =>
 bK (binO .mul v122 (NV.int .i64 (.ofNat 32))) fun v123 =>
 bK (addI (NV.int .i64 (.ofNat 32)) v123) fun v124 =>
 bK (binO .quo v120 (NV.int .i64 (.ofNat 4))) fun v125 =>
 bK (binO .mul v125 (NV.int .i64 (.ofNat 32))) fun v126 =>
 bK (addI (NV.int .i64 (.ofNat 32)) v126) fun v127 =>
 bK (binO .rem v120 (NV.int .i64 (.ofNat 2))) fun v128 =>
 bK (eqI v128 (NV.int .i64 (.ofNat 0))) fun v129 =>
 mK (calM call 175 [v124, v127, v129, (NV.bool true), v4] h13) fun v130 h131 =>
 bK (extO 0 v130) fun v132 =>
 bK (extO 1 v130) fun v133 =>
 retC (NV.tuple [v132, v133]) h131) (
 mK (calM call 176 [v0, v4] h13) fun v134 h135 =>
 bK (extO 0 v134) fun v136 =>
 bK (extO 1 v134) fun v137 =>
 retC (NV.tuple [v136, v137]) h135))))))))))))))) fun J14 => gK v8 false (
 bK (eqI v9 (NV.int .i64 (.ofNat 80))) fun v138 =>
 J14 v138 h10) (J14 (NV.tuple []) h10)) fun J11 => gK v8 false (
 J11 v0 h) (J11 (NV.tuple []) h))
theorem e113 : ikB Tryz.prog 9 Tryz.f113 = S113 := by kernel_rfl
theorem k113 [Sig] (w0 : World) : SOK cW w0 113 S113 := okW Tryz.func113 (by kernel_rfl) e113
noncomputable def S70 (call : CallF) (N : Nat) (l : List NV) (h : H) : R :=
 uc l fun v0 l1 => uc l1 fun v2 l3 => un l3 (
 mK (boxM false v2 h) fun v4 h5 =>
 mK (calM call 125 [v0, (NV.func (.func 126) [] [v4])] h5) fun v6 h7 =>
 bK (notO v6) fun v8 =>
 retC v8 h7)
theorem e70 : ikB Tryz.prog 9 Tryz.f70 = S70 := by kernel_rfl
theorem k70 [Sig] (w0 : World) : SOK cW w0 70 S70 := okW Tryz.func70 (by kernel_rfl) e70
noncomputable def S71 (call : CallF) (N : Nat) (l : List NV) (h : H) : R :=
 uc l fun v0 l1 => un l1 (
 bK (geI v0 (NV.int .i64 (.ofNat 123))) fun v2 =>
 jK (fun v3 h4 =>
 jK (fun v6 h7 =>
 bK (pickO v2 v6 (NV.bool false)) fun v9 =>
 jK (fun v10 h11 =>
 jK (fun v13 h14 =>
 bK (pickO v9 (NV.bool true) v13) fun v16 =>
 retC v16 h14) fun J15 => gK v9 false (
 mK (calM call 80 [v10] h11) fun v17 h18 =>
 J15 v17 h18) (J15 (NV.tuple []) h11)) fun J12 => gK v9 false (
 J12 v0 h7) (J12 (NV.tuple []) h7)) fun J8 => gK v2 true (
 bK (leI v3 (NV.int .i64 (.ofNat 127))) fun v19 =>
 J8 v19 h4) (J8 (NV.tuple []) h4)) fun J5 => gK v2 true (
 J5 v0 h) (J5 (NV.tuple []) h))
theorem e71 : ikB Tryz.prog 9 Tryz.f71 = S71 := by kernel_rfl
theorem k71 [Sig] (w0 : World) : SOK cW w0 71 S71 := okW Tryz.func71 (by kernel_rfl) e71
noncomputable def S73 (call : CallF) (N : Nat) (l : List NV) (h : H) : R :=
 uc l fun v0 l1 => un l1 (
 bK (geI v0 (NV.int .i64 (.ofNat 0))) fun v2 =>
 jK (fun v3 h4 =>
 jK (fun v6 h7 =>
 bK (pickO v2 v6 (NV.bool false)) fun v9 =>
 retC v9 h7) fun J8 => gK v2 true (
 bK (ltI v3 (NV.int .i64 (.ofNat 4294967296))) fun v10 =>
 J8 v10 h4) (J8 (NV.tuple []) h4)) fun J5 => gK v2 true (
 J5 v0 h) (J5 (NV.tuple []) h))
theorem e73 : ikB Tryz.prog 9 Tryz.f73 = S73 := by kernel_rfl
theorem k73 [Sig] (w0 : World) : SOK cW w0 73 S73 := okW Tryz.func73 (by kernel_rfl) e73
noncomputable def S74 (call : CallF) (N : Nat) (l : List NV) (h : H) : R :=
 uc l fun v0 l1 => un l1 (
 mK (calM call 127 [v0] h) fun v2 h3 =>
 bK (leI v2 (NV.int .i64 (.ofNat 500))) fun v4 =>
 jK (fun v5 h6 =>
 jK (fun v8 h9 =>
 bK (pickO v4 v8 (NV.bool false)) fun v11 =>
 retC v11 h9) fun J10 => gK v4 true (
 mK (calM call 128 [v5, (NV.func (.func 129) [] [])] h6) fun v12 h13 =>
 J10 v12 h13) (J10 (NV.tuple []) h6)) fun J7 => gK v4 true (
 J7 v0 h3) (J7 (NV.tuple []) h3))
theorem e74 : ikB Tryz.prog 9 Tryz.f74 = S74 := by kernel_rfl
theorem k74 [Sig] (w0 : World) : SOK cW w0 74 S74 := okW Tryz.func74 (by kernel_rfl) e74
noncomputable def S77 (call : CallF) (N : Nat) (l : List NV) (h : H) : R :=
 uc l fun v0 l1 => un l1 (
 mK (rngM v0 h) fun v2 h3 =>
 joinC 0 (fun h4 =>
 retC (NV.bool true) h4) fun J5 =>
 loopC N 2 (fun L9 v6 v7 h8 =>
 mK (nxtM v7 h8) fun v10 h11 =>
 bK (extO 0 v10) fun v12 =>
 condK v12 (
 bK (extO 1 v10) fun v13 =>
 bK (extO 2 v10) fun v14 =>
 bK (eqI v14 (NV.int .i32 (.ofNat 65533))) fun v15 =>
 jK (fun v16 h17 =>
 jK (fun v19 h20 =>
 jK (fun v22 h23 =>
 jK (fun v25 h26 =>
 jK (fun v28 h29 =>
 jK (fun v31 h32 =>
 jK (fun v34 h35 =>
 jK (fun v37 h38 =>
 jK (fun v40 h41 =>
 jK (fun v43 h44 =>
 jK (fun v46 h47 =>
 jK (fun v49 h50 =>
 jK (fun v52 h53 =>
 bK (pickO v15 v52 (NV.bool false)) fun v55 =>
 condK v55 (
 retC (NV.bool false) h53) (
 L9 v6 v7 h53)) fun J54 => gK v15 true (
 bK (pickO v31 (NV.bool true) v49) fun v56 =>
 J54 v56 h50) (J54 (NV.tuple []) h50)) fun J51 => gK v31 false (
 bK (binO .neq v46 (NV.str 3 12435439)) fun v57 =>
 J51 v57 h47) (J51 (NV.tuple []) h47)) fun J48 => gK v31 false (
 bK (slStr v34 (some v37) (some v43)) fun v58 =>
 J48 v58 h44) (J48 (NV.tuple []) h44)) fun J45 => gK v31 false (
 bK (addI v40 (NV.int .i64 (.ofNat 3))) fun v59 =>
 J45 v59 h41) (J45 (NV.tuple []) h41)) fun J42 => gK v31 false (
 J42 v13 h38) (J42 (NV.tuple []) h38)) fun J39 => gK v31 false (
 J39 v13 h35) (J39 (NV.tuple []) h35)) fun J36 => gK v31 false (
 J36 v6 h32) (J36 (NV.tuple []) h32)) fun J33 => gK v15 true (
 J33 v28 h29) (J33 (NV.tuple []) h29)) fun J30 => gK v15 true (
 bK (ltI v25 (NV.int .i64 (.ofNat 3))) fun v60 =>
 J30 v60 h26) (J30 (NV.tuple []) h26)) fun J27 => gK v15 true (
 bK (subI v19 v22) fun v61 =>
 J27 v61 h23) (J27 (NV.tuple []) h23)) fun J24 => gK v15 true (
 J24 v13 h20) (J24 (NV.tuple []) h20)) fun J21 => gK v15 true (
 bK (lenStr v16) fun v62 =>
 J21 v62 h17) (J21 (NV.tuple []) h17)) fun J18 => gK v15 true (
 J18 v6 h11) (J18 (NV.tuple []) h11)) (
 J5 h11)) v0 v2 h3)
theorem e77 : ikB Tryz.prog 9 Tryz.f77 = S77 := by kernel_rfl
theorem k77 [Sig] (w0 : World) : SOK cW w0 77 S77 := okW Tryz.func77 (by kernel_rfl) e77
noncomputable def S80 (call : CallF) (N : Nat) (l : List NV) (h : H) : R :=
 uc l fun v0 l1 => un l1 (
 bK (eqI v0 (NV.int .i64 (.ofNat 112))) fun v2 =>
 jK (fun v3 h4 =>
 jK (fun v6 h7 =>
 bK (pickO v2 (NV.bool true) v6) fun v9 =>
 retC v9 h7) fun J8 => gK v2 false (
 bK (eqI v3 (NV.int .i64 (.ofNat 111))) fun v10 =>
 J8 v10 h4) (J8 (NV.tuple []) h4)) fun J5 => gK v2 false (
 J5 v0 h) (J5 (NV.tuple []) h))
theorem e80 : ikB Tryz.prog 9 Tryz.f80 = S80 := by kernel_rfl
theorem k80 [Sig] (w0 : World) : SOK cW w0 80 S80 := okW Tryz.func80 (by kernel_rfl) e80
noncomputable def S81 (call : CallF) (N : Nat) (l : List NV) (h : H) : R :=
 uc l fun v0 l1 => uc l1 fun v2 l3 => un l3 (
 mK (boxM false v2 h) fun v4 h5 =>
 mK (calM call 130 [v0, (NV.func (.func 131) [] [v4])] h5) fun v6 h7 =>
 bK (notO v6) fun v8 =>
 retC v8 h7)
theorem e81 : ikB Tryz.prog 9 Tryz.f81 = S81 := by kernel_rfl
theorem k81 [Sig] (w0 : World) : SOK cW w0 81 S81 := okW Tryz.func81 (by kernel_rfl) e81
noncomputable def S133 (call : CallF) (N : Nat) (l : List NV) (h : H) : R :=
 uc l fun v0 l1 => uc l1 fun v2 l3 => un l3 (
 mK (boxM false v0 h) fun v4 h5 =>
 bK (ldO 1 false h5 v2) fun v6 =>
 bK (ldO 2 true h5 v4) fun v7 =>
 mK (calV call v6 [v7] h5) fun v8 h9 =>
 bK (notO v8) fun v10 =>
 retC v10 h9)
theorem e133 : ikB Tryz.prog 9 Tryz.f133 = S133 := by kernel_rfl
theorem k133 [Sig] (w0 : World) : SOK cW w0 133 S133 := okW Tryz.func133 (by kernel_rfl) e133
noncomputable def S132 (call : CallF) (N : Nat) (l : List NV) (h : H) : R :=
 uc l fun v0 l1 => uc l1 fun v2 l3 => un l3 (
 mK (calM call 187 [v0, v2] h) fun v4 h5 =>
 bK (geI v4 (NV.int .i64 (.ofNat 0))) fun v6 =>
 retC v6 h5)
theorem e132 : ikB Tryz.prog 9 Tryz.f132 = S132 := by kernel_rfl
theorem k132 [Sig] (w0 : World) : SOK cW w0 132 S132 := okW Tryz.func132 (by kernel_rfl) e132
noncomputable def S135 (call : CallF) (N : Nat) (l : List NV) (h : H) : R :=
 uc l fun v0 l1 => uc l1 fun v2 l3 => un l3 (
 mK (boxM false v0 h) fun v4 h5 =>
 bK (ldO 1 false h5 v2) fun v6 =>
 bK (ldO 13 true h5 v4) fun v7 =>
 mK (calV call v6 [v7] h5) fun v8 h9 =>
 bK (notO v8) fun v10 =>
 retC v10 h9)
theorem e135 : ikB Tryz.prog 9 Tryz.f135 = S135 := by kernel_rfl
theorem k135 [Sig] (w0 : World) : SOK cW w0 135 S135 := okW Tryz.func135 (by kernel_rfl) e135
noncomputable def S134 (call : CallF) (N : Nat) (l : List NV) (h : H) : R :=
 uc l fun v0 l1 => uc l1 fun v2 l3 => un l3 (
 mK (calM call 188 [v0, v2] h) fun v4 h5 =>
 bK (geI v4 (NV.int .i64 (.ofNat 0))) fun v6 =>
 retC v6 h5)
theorem e134 : ikB Tryz.prog 9 Tryz.f134 = S134 := by kernel_rfl
theorem k134 [Sig] (w0 : World) : SOK cW w0 134 S134 := okW Tryz.func134 (by kernel_rfl) e134
noncomputable def S137 (call : CallF) (N : Nat) (l : List NV) (h : H) : R :=
 uc l fun v0 l1 => uc l1 fun v2 l3 => un l3 (
 mK (boxM false v0 h) fun v4 h5 =>
 bK (ldO 1 false h5 v2) fun v6 =>
 bK (ldO 3 true h5 v4) fun v7 =>
 mK (calV call v6 [v7] h5) fun v8 h9 =>
 bK (notO v8) fun v10 =>
 retC v10 h9)
theorem e137 : ikB Tryz.prog 9 Tryz.f137 = S137 := by kernel_rfl
theorem k137 [Sig] (w0 : World) : SOK cW w0 137 S137 := okW Tryz.func137 (by kernel_rfl) e137
noncomputable def S136 (call : CallF) (N : Nat) (l : List NV) (h : H) : R :=
 uc l fun v0 l1 => uc l1 fun v2 l3 => un l3 (
 mK (calM call 189 [v0, v2] h) fun v4 h5 =>
 bK (geI v4 (NV.int .i64 (.ofNat 0))) fun v6 =>
 retC v6 h5)
theorem e136 : ikB Tryz.prog 9 Tryz.f136 = S136 := by kernel_rfl
theorem k136 [Sig] (w0 : World) : SOK cW w0 136 S136 := okW Tryz.func136 (by kernel_rfl) e136
noncomputable def S138 (call : CallF) (N : Nat) (l : List NV) (h : H) : R :=
 uc l fun v0 l1 => uc l1 fun v2 l3 => un l3 (
 mK (boxM false v0 h) fun v4 h5 =>
 bK (ldO 1 false h5 v2) fun v6 =>
 bK (ldO 4 true h5 v4) fun v7 =>
 mK (calV call v6 [v7] h5) fun v8 h9 =>
 bK (notO v8) fun v10 =>
 retC v10 h9)
theorem e138 : ikB Tryz.prog 9 Tryz.f138 = S138 := by kernel_rfl
theorem k138 [Sig] (w0 : World) : SOK cW w0 138 S138 := okW Tryz.func138 (by kernel_rfl) e138
noncomputable def S139 (call : CallF) (N : Nat) (l : List NV) (h : H) : R :=
 uc l fun v0 l1 => uc l1 fun v2 l3 => un l3 (
 mK (boxM false v0 h) fun v4 h5 =>
 bK (ldO 1 false h5 v2) fun v6 =>
 bK (ldO 3 true h5 v4) fun v7 =>
 mK (calV call v6 [v7] h5) fun v8 h9 =>
 bK (notO v8) fun v10 =>
 retC v10 h9)
theorem e139 : ikB Tryz.prog 9 Tryz.f139 = S139 := by kernel_rfl
theorem k139 [Sig] (w0 : World) : SOK cW w0 139 S139 := okW Tryz.func139 (by kernel_rfl) e139
noncomputable def S141 (call : CallF) (N : Nat) (l : List NV) (h : H) : R :=
 uc l fun v0 l1 => uc l1 fun v2 l3 => un l3 (
 mK (boxM false v0 h) fun v4 h5 =>
 bK (ldO 1 false h5 v2) fun v6 =>
 bK (ldO 3 true h5 v4) fun v7 =>
 mK (calV call v6 [v7] h5) fun v8 h9 =>
 bK (notO v8) fun v10 =>
 retC v10 h9)
theorem e141 : ikB Tryz.prog 9 Tryz.f141 = S141 := by kernel_rfl
theorem k141 [Sig] (w0 : World) : SOK cW w0 141 S141 := okW Tryz.func141 (by kernel_rfl) e141
noncomputable def S140 (call : CallF) (N : Nat) (l : List NV) (h : H) : R :=
 uc l fun v0 l1 => uc l1 fun v2 l3 => un l3 (
 mK (calM call 190 [v0, v2] h) fun v4 h5 =>
 bK (geI v4 (NV.int .i64 (.ofNat 0))) fun v6 =>
 retC v6 h5)
theorem e140 : ikB Tryz.prog 9 Tryz.f140 = S140 := by kernel_rfl
theorem k140 [Sig] (w0 : World) : SOK cW w0 140 S140 := okW Tryz.func140 (by kernel_rfl) e140
noncomputable def S142 (call : CallF) (N : Nat) (l : List NV) (h : H) : R :=
 uc l fun v0 l1 => uc l1 fun v2 l3 => un l3 (
 mK (calM call 191 [v0, v2] h) fun v4 h5 =>
 bK (geI v4 (NV.int .i64 (.ofNat 0))) fun v6 =>
 retC v6 h5)
theorem e142 : ikB Tryz.prog 9 Tryz.f142 = S142 := by kernel_rfl
theorem k142 [Sig] (w0 : World) : SOK cW w0 142 S142 := okW Tryz.func142 (by kernel_rfl) e142
noncomputable def S145 (call : CallF) (N : Nat) (l : List NV) (h : H) : R :=
 uc l fun v0 l1 => uc l1 fun v2 l3 => un l3 (
 mK (boxM false v0 h) fun v4 h5 =>
 bK (ldO 1 false h5 v2) fun v6 =>
 bK (ldO 5 true h5 v4) fun v7 =>
 mK (calV call v6 [v7] h5) fun v8 h9 =>
 bK (notO v8) fun v10 =>
 retC v10 h9)
theorem e145 : ikB Tryz.prog 9 Tryz.f145 = S145 := by kernel_rfl
theorem k145 [Sig] (w0 : World) : SOK cW w0 145 S145 := okW Tryz.func145 (by kernel_rfl) e145
noncomputable def S144 (call : CallF) (N : Nat) (l : List NV) (h : H) : R :=
 uc l fun v0 l1 => uc l1 fun v2 l3 => un l3 (
 mK (calM call 192 [v0, v2] h) fun v4 h5 =>
 bK (geI v4 (NV.int .i64 (.ofNat 0))) fun v6 =>
 retC v6 h5)
theorem e144 : ikB Tryz.prog 9 Tryz.f144 = S144 := by kernel_rfl
theorem k144 [Sig] (w0 : World) : SOK cW w0 144 S144 := okW Tryz.func144 (by kernel_rfl) e144
noncomputable def S147 (call : CallF) (N : Nat) (l : List NV) (h : H) : R :=
 uc l fun v0 l1 => uc l1 fun v2 l3 => un l3 (
 mK (boxM false v0 h) fun v4 h5 =>
 bK (ldO 1 false h5 v2) fun v6 =>
 bK (ldO 4 true h5 v4) fun v7 =>
 mK (calV call v6 [v7] h5) fun v8 h9 =>
 bK (notO v8) fun v10 =>
 retC v10 h9)
theorem e147 : ikB Tryz.prog 9 Tryz.f147 = S147 := by kernel_rfl
theorem k147 [Sig] (w0 : World) : SOK cW w0 147 S147 := okW Tryz.func147 (by kernel_rfl) e147
noncomputable def S146 (call : CallF) (N : Nat) (l : List NV) (h : H) : R :=
 uc l fun v0 l1 => uc l1 fun v2 l3 => un l3 (
 mK (calM call 193 [v0, v2] h) fun v4 h5 =>
 bK (geI v4 (NV.int .i64 (.ofNat 0))) fun v6 =>
 retC v6 h5)
theorem e146 : ikB Tryz.prog 9 Tryz.f146 = S146 := by kernel_rfl
theorem k146 [Sig] (w0 : World) : SOK cW w0 146 S146 := okW Tryz.func146 (by kernel_rfl) e146
noncomputable def S99 (call : CallF) (N : Nat) (l : List NV) (h : H) : R :=
 uc l fun v0 l1 => uc l1 fun v2 l3 => un l3 (
 mK (boxM false v0 h) fun v4 h5 =>
 bK (fAddr 0 v4) fun v6 =>
 bK (ldO 1 false h5 v6) fun v7 =>
 bK (leI v7 v2) fun v8 =>
 jK (fun v9 h10 =>
 jK (fun v12 h13 =>
 jK (fun v15 h16 =>
 jK (fun v18 h19 =>
 jK (fun v21 h22 =>
 jK (fun v24 h25 =>
 jK (fun v27 h28 =>
 jK (fun v30 h31 =>
 jK (fun v33 h34 =>
 jK (fun v36 h37 =>
 jK (fun v39 h40 =>
 jK (fun v42 h43 =>
 jK (fun v45 h46 =>
 jK (fun v48 h49 =>
 jK (fun v51 h52 =>
 jK (fun v54 h55 =>
 bK (pickO v8 v54 (NV.bool false)) fun v57 =>
 retC v57 h55) fun J56 => gK v8 true (
 bK (pickO v18 (NV.bool true) v51) fun v58 =>
 J56 v58 h52) (J56 (NV.tuple []) h52)) fun J53 => gK v18 false (
 bK (pickO v33 v48 (NV.bool false)) fun v59 =>
 J53 v59 h49) (J53 (NV.tuple []) h49)) fun J50 => gK v33 true (
 bK (leI v39 v45) fun v60 =>
 J50 v60 h46) (J50 (NV.tuple []) h46)) fun J47 => gK v33 true (
 bK (ldO 1 false h43 v42) fun v61 =>
 J47 v61 h43) (J47 (NV.tuple []) h43)) fun J44 => gK v33 true (
 bK (fAddr 1 v4) fun v62 =>
 J44 v62 h40) (J44 (NV.tuple []) h40)) fun J41 => gK v33 true (
 bK (ldO 1 false h37 v36) fun v63 =>
 J41 v63 h37) (J41 (NV.tuple []) h37)) fun J38 => gK v33 true (
 bK (fAddr 0 v4) fun v64 =>
 J38 v64 h34) (J38 (NV.tuple []) h34)) fun J35 => gK v18 false (
 J35 v30 h31) (J35 (NV.tuple []) h31)) fun J32 => gK v18 false (
 bK (leI v24 v27) fun v65 =>
 J32 v65 h28) (J32 (NV.tuple []) h28)) fun J29 => gK v18 false (
 J29 v2 h25) (J29 (NV.tuple []) h25)) fun J26 => gK v18 false (
 bK (ldO 1 false h22 v21) fun v66 =>
 J26 v66 h22) (J26 (NV.tuple []) h22)) fun J23 => gK v18 false (
 bK (fAddr 1 v4) fun v67 =>
 J23 v67 h19) (J23 (NV.tuple []) h19)) fun J20 => gK v8 true (
 J20 v15 h16) (J20 (NV.tuple []) h16)) fun J17 => gK v8 true (
 bK (notO v12) fun v68 =>
 J17 v68 h13) (J17 (NV.tuple []) h13)) fun J14 => gK v8 true (
 bK (ldO 1 false h10 v9) fun v69 =>
 J14 v69 h10) (J14 (NV.tuple []) h10)) fun J11 => gK v8 true (
 bK (fAddr 2 v4) fun v70 =>
 J11 v70 h5) (J11 (NV.tuple []) h5))
theorem e99 : ikB Tryz.prog 9 Tryz.f99 = S99 := by kernel_rfl
theorem k99 [Sig] (w0 : World) : SOK cW w0 99 S99 := okW Tryz.func99 (by kernel_rfl) e99
noncomputable def S150 (call : CallF) (N : Nat) (l : List NV) (h : H) : R :=
 uc l fun v0 l1 => uc l1 fun v2 l3 => un l3 (
 bK (lenSl v0) fun v4 =>
 joinC 0 (fun h5 =>
 retC (NV.int .i64 (.negSucc 0)) h5) fun J6 =>
 loopC N 4 (fun L12 v7 v8 v9 v10 h11 =>
 bK (ltI v10 v9) fun v13 =>
 condK v13 (
 bK (ixS 4 v7 v10) fun v14 =>
 bK (ldO 4 true h11 v14) fun v15 =>
 mK (calV call v8 [v15] h11) fun v16 h17 =>
 condK v16 (
 retC v10 h17) (
 bK (addI v10 (NV.int .i64 (.ofNat 1))) fun v18 =>
 L12 v7 v8 v9 v18 h17)) (
 J6 h11)) v0 v2 v4 (NV.int .i64 (.ofNat 0)) h)
theorem e150 : ikB Tryz.prog 9 Tryz.f150 = S150 := by kernel_rfl
theorem k150 [Sig] (w0 : World) : SOK cW w0 150 S150 := okW Tryz.func150 (by kernel_rfl) e150
noncomputable def S151 (call : CallF) (N : Nat) (l : List NV) (h : H) : R :=
 uc l fun v0 l1 => uc l1 fun v2 l3 => un l3 (
 bK (lenSl v0) fun v4 =>
 joinC 0 (fun h5 =>
 retC (NV.int .i64 (.negSucc 0)) h5) fun J6 =>
 loopC N 4 (fun L12 v7 v8 v9 v10 h11 =>
 bK (ltI v10 v9) fun v13 =>
 condK v13 (
 bK (ixS 3 v7 v10) fun v14 =>
 bK (ldO 3 true h11 v14) fun v15 =>
 mK (calV call v8 [v15] h11) fun v16 h17 =>
 condK v16 (
 retC v10 h17) (
 bK (addI v10 (NV.int .i64 (.ofNat 1))) fun v18 =>
 L12 v7 v8 v9 v18 h17)) (
 J6 h11)) v0 v2 v4 (NV.int .i64 (.ofNat 0)) h)
theorem e151 : ikB Tryz.prog 9 Tryz.f151 = S151 := by kernel_rfl
theorem k151 [Sig] (w0 : World) : SOK cW w0 151 S151 := okW Tryz.func151 (by kernel_rfl) e151
noncomputable def S152 (call : CallF) (N : Nat) (l : List NV) (h : H) : R :=
 uc l fun v0 l1 => un l1 (
 bK (lenSl v0) fun v2 =>
 joinC 2 (fun v3 v4 h5 =>
 mK (calM call 194 [NV.nslice, v4] h5) fun v7 h8 =>
 bK (lenSl v3) fun v9 =>
 joinC 1 (fun v10 h11 =>
 retC v10 h11) fun J12 =>
 loopC N 4 (fun L18 v13 v14 v15 v16 h17 =>
 bK (ltI v16 v15) fun v19 =>
 condK v19 (
 bK (ixS 1 v14 v16) fun v20 =>
 bK (ldO 1 false h17 v20) fun v21 =>
 mK (appM Tryz.prog 3 v13 v21 h17) fun v22 h23 =>
 bK (addI v16 (NV.int .i64 (.ofNat 1))) fun v24 =>
 L18 v22 v14 v15 v24 h23) (
 J12 v13 h17)) v7 v3 v9 (NV.int .i64 (.ofNat 0)) h8) fun J6 =>
 loopC N 5 (fun L31 v25 v26 v27 v28 v29 h30 =>
 bK (ltI v29 v28) fun v32 =>
 condK v32 (
 bK (ixS 1 v27 v29) fun v33 =>
 bK (ldO 1 false h30 v33) fun v34 =>
 bK (lenSl v34) fun v35 =>
 bK (addI v26 v35) fun v36 =>
 bK (ltI v36 (NV.int .i64 (.ofNat 0))) fun v37 =>
 joinC 5 (fun v38 v39 v40 v41 v42 h43 =>
 bK (addI v42 (NV.int .i64 (.ofNat 1))) fun v45 =>
 L31 v38 v39 v40 v41 v45 h43) fun J44 =>
 condK v37 (
 none /- panic -/) (
 J44 v25 v36 v27 v28 v29 h30)) (
 J6 v25 v26 h30)) v0 (NV.int .i64 (.ofNat 0)) v0 v2 (NV.int .i64 (.ofNat 0)) h)
theorem e152 : ikB Tryz.prog 9 Tryz.f152 = S152 := by kernel_rfl
theorem k152 [Sig] (w0 : World) : SOK cW w0 152 S152 := okW Tryz.func152 (by kernel_rfl) e152
noncomputable def S153 (call : CallF) (N : Nat) (l : List NV) (h : H) : R :=
 uc l fun v0 l1 => uc l1 fun v2 l3 => uc l3 fun v4 l5 => uc l5 fun v6 l7 => uc l7 fun v8 l9 => un l9 (
 bK (nilO v0) fun v10 =>
 bK (fAddr 4 v10) fun v11 =>
 bK (ldO 1 false h (chkV h v11)) fun v12 =>
 bK (nilO v0) fun v13 =>
 bK (fAddr 5 v13) fun v14 =>
 bK (ldO 1 false h (chkV h v14)) fun v15 =>
 mK (calM call 41 [v2] h) fun v16 h17 =>
 bK (nilO v0) fun v18 =>
 bK (fAddr 4 v18) fun v19 =>
 mK (stM 1 v19 v16 h17) fun v20 h21 =>
 bK (nilO v0) fun v22 =>
 bK (fAddr 5 v22) fun v23 =>
 mK (stM 1 v23 (NV.bool false) h21) fun v24 h25 =>
 bK (nilO v0) fun v26 =>
 bK (fAddr 3 v26) fun v27 =>
 bK (ldO 1 false h25 v27) fun v28 =>
 mK (bslM 1 false [(0, 1)] [NV.nslice] [v6] h25) fun v29 h30 =>
 mK (appM Tryz.prog 41 v28 v29 h30) fun v31 h32 =>
 bK (nilO v0) fun v33 =>
 bK (fAddr 3 v33) fun v34 =>
 mK (stM 1 v34 v31 h32) fun v35 h36 =>
 bK (lenSl v8) fun v37 =>
 joinC 4 (fun v38 v39 v40 v41 h42 =>
 mK (calM call 196 [v38, v39] h42) fun v44 h45 =>
 bK (nilO v38) fun v46 =>
 bK (fAddr 4 v46) fun v47 =>
 bK (ldO 1 false h45 v47) fun v48 =>
 bK (lenSl v48) fun v49 =>
 bK (eqI v49 (NV.int .i64 (.ofNat 0))) fun v50 =>
 mK (calM call 197 [v38, v50] h45) fun v51 h52 =>
 bK (nilO v38) fun v53 =>
 bK (fAddr 3 v53) fun v54 =>
 bK (ldO 1 false h52 (chkV h52 v54)) fun v55 =>
 bK (nilO v38) fun v56 =>
 bK (fAddr 3 v56) fun v57 =>
 bK (ldO 1 false h52 (chkV h52 v57)) fun v58 =>
 bK (lenSl v58) fun v59 =>
 bK (subI v59 (NV.int .i64 (.ofNat 1))) fun v60 =>
 bK (slcO Tryz.prog 261 h52 (chkV h52 v55) none (some (chkV h52 v60)) none) fun v61 =>
 bK (nilO v38) fun v62 =>
 bK (fAddr 3 v62) fun v63 =>
 mK (stM 1 (chkV h52 v63) (chkV h52 v61) h52) fun v64 h65 =>
 nextK h52 h65 (
 bK (nilO v38) fun v66 =>
 bK (fAddr 4 v66) fun v67 =>
 mK (stM 1 v67 v40 h65) fun v68 h69 =>
 bK (nilO v38) fun v70 =>
 bK (fAddr 5 v70) fun v71 =>
 mK (stM 1 v71 v41 h69) fun v72 h73 =>
 retC (NV.tuple []) h73)) fun J43 =>
 loopC N 7 (fun L82 v74 v75 v76 v77 v78 v79 v80 h81 =>
 bK (ltI v80 v79) fun v83 =>
 condK v83 (
 bK (ixS 9 v78 v80) fun v84 =>
 bK (ldO 9 true h81 v84) fun v85 =>
 mK (alM (NB.cells [(NV.int .i64 (.ofNat 0)), (NV.int .i64 (.ofNat 0)), (NV.int .i64 (.ofNat 0)), (NV.int .u64 (.ofNat 0)), (NV.int .u64 (.ofNat 0)), NV.nslice, NV.nslice, NV.nslice, (NV.bool false)]) h81) fun v86 h87 =>
 mK (stM 9 v86 v85 h87) fun v88 h89 =>
 bK (nilO v74) fun v90 =>
 bK (fAddr 6 v90) fun v91 =>
 bK (ldO 1 false h89 v91) fun v92 =>
 joinC 7 (fun v93 v94 v95 v96 v97 v98 v99 h100 =>
 bK (addI v99 (NV.int .i64 (.ofNat 1))) fun v102 =>
 L82 v93 v94 v95 v96 v97 v98 v102 h100) fun J101 =>
 condK v92 (
 bK (ldO 9 true h89 v86) fun v103 =>
 mK (calM call 195 [v74, v103] h89) fun v104 h105 =>
 J101 v74 v75 v76 v77 v78 v79 v80 h105) (
 J101 v74 v75 v76 v77 v78 v79 v80 h89)) (
 J43 v74 v75 v76 v77 h81)) v0 v4 v12 v15 v8 v37 (NV.int .i64 (.ofNat 0)) h36)
theorem e153 : ikB Tryz.prog 9 Tryz.f153 = S153 := by kernel_rfl
theorem k153 [Sig] (w0 : World) : SOK cW w0 153 S153 := okW Tryz.func153 (by kernel_rfl) e153
noncomputable def S155 (call : CallF) (N : Nat) (l : List NV) (h : H) : R :=
 uc l fun v0 l1 => uc l1 fun v2 l3 => un l3 (
 mK (boxM false v0 h) fun v4 h5 =>
 mK (boxM false v2 h5) fun v6 h7 =>
 bK (fAddr 1 v6) fun v8 =>
 bK (ldO 1 false h7 (chkV h7 v8)) fun v9 =>
 bK (foldMM false v9 [(NV.int .i64 (.ofNat 1))]) fun v10 =>
 bK (fAddr 1 v6) fun v11 =>
 bK (ldO 1 false h7 v11) fun v12 =>
 bK (eqI v12 (NV.int .i64 (.ofNat 2))) fun v13 =>
 joinC 4 (fun v14 v15 v16 v17 h18 =>
 bK (fAddr 0 v15) fun v20 =>
 bK (ldO 1 false h18 v20) fun v21 =>
 bK (eqI v21 (NV.int .i64 (.ofNat 4))) fun v22 =>
 joinC 5 (fun v23 v24 v25 v26 v27 h28 =>
 bK (ldO 1 false h28 v23) fun v30 =>
 bK (nilO v30) fun v31 =>
 bK (fAddr 14 v31) fun v32 =>
 bK (ldO 1 false h28 v32) fun v33 =>
 bK (subI v33 v25) fun v34 =>
 bK (bldO [(0, 1), (1, 1), (2, 1)] [(NV.int .i64 (.ofNat 0)), (NV.int .i64 (.ofNat 0)), (NV.int .i64 (.ofNat 0)), NV.nslice] [v26, v34, (NV.int .i64 (.negSucc 0))]) fun v35 =>
 mK (boxM false v35 h28) fun v36 h37 =>
 bK (fAddr 0 v24) fun v38 =>
 bK (ldO 1 false h37 v38) fun v39 =>
 bK (eqI v39 (NV.int .i64 (.ofNat 3))) fun v40 =>
 joinC 7 (fun v41 v42 v43 v44 v45 v46 v47 h48 =>
 bK (ldO 1 false h48 (chkV h48 v41)) fun v50 =>
 bK (ldO 1 false h48 (chkV h48 v41)) fun v51 =>
 bK (nilO v51) fun v52 =>
 bK (fAddr 13 v52) fun v53 =>
 bK (ldO 1 false h48 (chkV h48 v53)) fun v54 =>
 mK (bslM 1 false [(0, 1)] [NV.nilptr] [(chkV h48 v47)] h48) fun v55 h56 =>
 mK (appM Tryz.prog 167 (chkV h56 v54) (chkV h56 v55) h56) fun v57 h58 =>
 nextK h56 h58 (
 bK (nilO v50) fun v59 =>
 bK (fAddr 13 v59) fun v60 =>
 bK (ldO 1 false h58 (chkV h58 v41)) fun v61 =>
 sameK v61 v50 (
 mK (stM 1 (chkV h58 v60) (chkV h58 v57) h58) fun v62 h63 =>
 nextK h58 h63 (
 bK (ldO 1 false h63 v41) fun v64 =>
 bK (fAddr 6 v42) fun v65 =>
 bK (ldO 1 false h63 v65) fun v66 =>
 mK (calM call 39 [v64, v66] h63) fun v67 h68 =>
 bK (fAddr 8 v42) fun v69 =>
 bK (ldO 1 false h68 v69) fun v70 =>
 joinC 4 (fun v71 v72 v73 v74 h75 =>
 bK (ldO 1 false h75 (chkV h75 v71)) fun v77 =>
 bK (ldO 1 false h75 (chkV h75 v71)) fun v78 =>
 bK (nilO v78) fun v79 =>
 bK (fAddr 13 v79) fun v80 =>
 bK (ldO 1 false h75 (chkV h75 v80)) fun v81 =>
 bK (ldO 1 false h75 (chkV h75 v71)) fun v82 =>
 bK (nilO v82) fun v83 =>
 bK (fAddr 13 v83) fun v84 =>
 bK (ldO 1 false h75 (chkV h75 v84)) fun v85 =>
 bK (lenSl v85) fun v86 =>
 bK (subI v86 (NV.int .i64 (.ofNat 1))) fun v87 =>
 bK (slcO Tryz.prog 164 h75 (chkV h75 v81) none (some (chkV h75 v87)) none) fun v88 =>
 bK (nilO v77) fun v89 =>
 bK (fAddr 13 v89) fun v90 =>
 mK (stM 1 (chkV h75 v90) (chkV h75 v88) h75) fun v91 h92 =>
 nextK h75 h92 (
 bK (nilO v74) fun v93 =>
 bK (fAddr 2 v93) fun v94 =>
 bK (ldO 1 false h92 v94) fun v95 =>
 bK (ltI v95 (NV.int .i64 (.ofNat 0))) fun v96 =>
 joinC 3 (fun v97 v98 v99 h100 =>
 bK (ldO 1 false h100 (chkV h100 v97)) fun v102 =>
 bK (ldO 1 false h100 (chkV h100 v97)) fun v103 =>
 bK (addI v99 v98) fun v104 =>
 bK (nilO v102) fun v105 =>
 bK (fAddr 14 v105) fun v106 =>
 mK (stM 1 (chkV h100 v106) (chkV h100 v104) h100) fun v107 h108 =>
 nextK h100 h108 (
 bK (nilO v103) fun v109 =>
 bK (fAddr 16 v109) fun v110 =>
 bK (ldO 1 false h108 (chkV h108 v97)) fun v111 =>
 sameK v111 v103 (
 mK (stM 1 (chkV h108 v110) (NV.bool false) h108) fun v112 h113 =>
 nextK h108 h113 (
 retC (NV.tuple []) h113)))) fun J101 =>
 condK v96 (
 bK (ldO 1 false h92 v71) fun v114 =>
 bK (nilO v114) fun v115 =>
 bK (fAddr 12 v115) fun v116 =>
 bK (ldO 1 false h92 v116) fun v117 =>
 bK (lenSl v117) fun v118 =>
 mK (calM call 40 [v74, v118] h92) fun v119 h120 =>
 J101 v71 v72 v73 h120) (
 J101 v71 v72 v73 h92))) fun J76 =>
 condK v70 (
 bK (ldO 1 false h68 v41) fun v121 =>
 bK (nilO v121) fun v122 =>
 bK (fAddr 16 v122) fun v123 =>
 bK (ldO 1 false h68 v123) fun v124 =>
 bK (notO v124) fun v125 =>
 joinC 7 (fun v126 v127 v128 v129 v130 v131 v132 h133 =>
 bK (ldO 1 false h133 (chkV h133 v126)) fun v135 =>
 bK (nilO v135) fun v136 =>
 bK (fAddr 12 v136) fun v137 =>
 bK (ldO 1 false h133 (chkV h133 v137)) fun v138 =>
 bK (ldO 1 false h133 (chkV h133 v126)) fun v139 =>
 bK (nilO v139) fun v140 =>
 bK (fAddr 12 v140) fun v141 =>
 bK (ldO 1 false h133 (chkV h133 v141)) fun v142 =>
 bK (lenSl v142) fun v143 =>
 bK (ixS 11 v138 v130) fun v144 =>
 bK (fAddr 6 v144) fun v145 =>
 bK (fAddr 0 v145) fun v146 =>
 mK (stM 1 (chkV h133 v146) (chkV h133 v143) h133) fun v147 h148 =>
 nextK h133 h148 (
 bK (ldO 1 false h148 v126) fun v149 =>
 bK (addI v131 v128) fun v150 =>
 bK (nilO v149) fun v151 =>
 bK (fAddr 14 v151) fun v152 =>
 mK (stM 1 v152 v150 h148) fun v153 h154 =>
 bK (ldO 1 false h154 v126) fun v155 =>
 bK (fAddr 7 v127) fun v156 =>
 bK (ldO 1 false h154 v156) fun v157 =>
 mK (calM call 39 [v155, v157] h154) fun v158 h159 =>
 J76 v126 v129 v131 v132 h159)) fun J134 =>
 condK v125 (
 bK (ldO 1 false h68 v41) fun v160 =>
 bK (bldO [(0, 1), (10, 1)] [(NV.int .i64 (.ofNat 0)), (NV.int .i64 (.ofNat 0)), (NV.int .i64 (.ofNat 0)), (NV.int .u64 (.ofNat 0)), (NV.int .u64 (.ofNat 0)), NV.nslice, (NV.int .i64 (.ofNat 0)), (NV.int .i64 (.ofNat 0)), (NV.int .i64 (.ofNat 0)), NV.nslice, (NV.bool false)] [(NV.int .i64 (.ofNat 65536)), (NV.bool true)]) fun v161 =>
 mK (calM call 156 [v160, v161] h68) fun v162 h163 =>
 mK (alM (NB.cells [(NV.int .i64 (.ofNat 0))]) h163) fun v164 h165 =>
 mK (stM 1 v164 v162 h165) fun v166 h167 =>
 bK (nilO v47) fun v168 =>
 bK (fAddr 3 v168) fun v169 =>
 bK (ldO 1 false h167 v169) fun v170 =>
 mK (bslM 1 false [(0, 1)] [NV.nilFunc] [(NV.func (.func 198) [] [v41, v164])] h167) fun v171 h172 =>
 mK (appM Tryz.prog 148 v170 v171 h172) fun v173 h174 =>
 bK (nilO v47) fun v175 =>
 bK (fAddr 3 v175) fun v176 =>
 mK (stM 1 v176 v173 h174) fun v177 h178 =>
 J134 v41 v42 v43 v44 v45 v46 v47 h178) (
 J134 v41 v42 v43 v44 v45 v46 v47 h68)) (
 bK (geI v45 (NV.int .i64 (.ofNat 0))) fun v179 =>
 condK v179 (
 bK (ldO 1 false h68 (chkV h68 v41)) fun v180 =>
 bK (nilO v180) fun v181 =>
 bK (fAddr 12 v181) fun v182 =>
 bK (ldO 1 false h68 (chkV h68 v182)) fun v183 =>
 bK (ldO 1 false h68 (chkV h68 v41)) fun v184 =>
 bK (nilO v184) fun v185 =>
 bK (fAddr 12 v185) fun v186 =>
 bK (ldO 1 false h68 (chkV h68 v186)) fun v187 =>
 bK (lenSl v187) fun v188 =>
 bK (ixS 11 v183 v45) fun v189 =>
 bK (fAddr 6 v189) fun v190 =>
 bK (fAddr 0 v190) fun v191 =>
 mK (stM 1 (chkV h68 v191) (chkV h68 v188) h68) fun v192 h193 =>
 nextK h68 h193 (
 J76 v41 v44 v46 v47 h193)) (
 J76 v41 v44 v46 v47 h68)))))) fun J49 =>
 condK v40 (
 bK (ldO 1 false h37 v23) fun v194 =>
 bK (nilO v194) fun v195 =>
 bK (fAddr 12 v195) fun v196 =>
 bK (ldO 1 false h37 v196) fun v197 =>
 bK (lenSl v197) fun v198 =>
 bK (nilO v36) fun v199 =>
 bK (fAddr 0 v199) fun v200 =>
 mK (stM 1 v200 v25 h37) fun v201 h202 =>
 bK (nilO v36) fun v203 =>
 bK (fAddr 2 v203) fun v204 =>
 mK (stM 1 v204 v198 h202) fun v205 h206 =>
 J49 v23 v24 v25 v26 v27 v34 v36 h206) (
 J49 v23 v24 v25 v26 v27 v34 v36 h37)) fun J29 =>
 condK v22 (
 bK (ldO 1 false h18 v14) fun v207 =>
 bK (nilO v207) fun v208 =>
 bK (fAddr 14 v208) fun v209 =>
 bK (ldO 1 false h18 v209) fun v210 =>
 bK (subI v210 (NV.int .i64 (.ofNat 1))) fun v211 =>
 bK (nilO v207) fun v212 =>
 bK (fAddr 14 v212) fun v213 =>
 mK (stM 1 v213 v211 h18) fun v214 h215 =>
 bK (ldO 1 false h215 v14) fun v216 =>
 bK (bldO [(0, 1)] [(NV.int .i64 (.ofNat 0)), (NV.int .i64 (.ofNat 0)), (NV.int .i64 (.ofNat 0)), (NV.int .u64 (.ofNat 0)), (NV.int .u64 (.ofNat 0)), NV.nslice, (NV.int .i64 (.ofNat 0)), (NV.int .i64 (.ofNat 0)), (NV.int .i64 (.ofNat 0)), NV.nslice, (NV.bool false)] [(NV.int .i64 (.ofNat 65538))]) fun v217 =>
 mK (calM call 156 [v216, v217] h215) fun v218 h219 =>
 J29 v14 v15 v16 v17 v218 h219) (
 J29 v14 v15 v16 v17 (NV.int .i64 (.negSucc 0)) h18)) fun J19 =>
 condK v13 (
 bK (ldO 1 false h7 (chkV h7 v4)) fun v220 =>
 bK (nilO v220) fun v221 =>
 bK (fAddr 0 v221) fun v222 =>
 bK (fAddr 0 v222) fun v223 =>
 bK (ldO 1 false h7 (chkV h7 v223)) fun v224 =>
 bK (fAddr 2 v6) fun v225 =>
 bK (ldO 1 false h7 (chkV h7 v225)) fun v226 =>
 bK (ixS 2 v224 v226) fun v227 =>
 bK (fAddr 0 v227) fun v228 =>
 bK (ldO 1 false h7 (chkV h7 v228)) fun v229 =>
 bK (lenSl v229) fun v230 =>
 bK (ldO 1 false h7 (chkV h7 v4)) fun v231 =>
 bK (nilO v231) fun v232 =>
 bK (fAddr 0 v232) fun v233 =>
 bK (fAddr 0 v233) fun v234 =>
 bK (ldO 1 false h7 (chkV h7 v234)) fun v235 =>
 bK (fAddr 2 v6) fun v236 =>
 bK (ldO 1 false h7 (chkV h7 v236)) fun v237 =>
 bK (ixS 2 v235 v237) fun v238 =>
 bK (fAddr 1 v238) fun v239 =>
 bK (ldO 1 false h7 (chkV h7 v239)) fun v240 =>
 bK (lenSl v240) fun v241 =>
 J19 v4 v6 v230 v241 h7) (
 J19 v4 v6 (NV.int .i64 (.ofNat 0)) v10 h7))
theorem e155 : ikB Tryz.prog 9 Tryz.f155 = S155 := by kernel_rfl
theorem k155 [Sig] (w0 : World) : SOK cW w0 155 S155 := okW Tryz.func155 (by kernel_rfl) e155
noncomputable def S157 (call : CallF) (N : Nat) (l : List NV) (h : H) : R :=
 uc l fun v0 l1 => uc l1 fun v2 l3 => uc l3 fun v4 l5 => un l5 (
 mK (alM (NB.cells [(NV.int .i64 (.ofNat 0)), (NV.int .i64 (.ofNat 0)), (NV.int .i64 (.ofNat 0))]) h) fun v6 h7 =>
 bK (nilO v0) fun v8 =>
 bK (fAddr 13 v8) fun v9 =>
 bK (ldO 1 false h7 (chkV h7 v9)) fun v10 =>
 bK (nilO v0) fun v11 =>
 bK (fAddr 13 v11) fun v12 =>
 bK (ldO 1 false h7 (chkV h7 v12)) fun v13 =>
 bK (lenSl v13) fun v14 =>
 bK (subI v14 (NV.int .i64 (.ofNat 1))) fun v15 =>
 bK (subI v15 v2) fun v16 =>
 bK (ixS 1 v10 v16) fun v17 =>
 bK (ldO 1 false h7 (chkV h7 v17)) fun v18 =>
 bK (nilO v18) fun v19 =>
 bK (fAddr 2 v19) fun v20 =>
 bK (ldO 1 false h7 v20) fun v21 =>
 bK (ltI v21 (NV.int .i64 (.ofNat 0))) fun v22 =>
 joinC 3 (fun v23 v24 v25 h26 =>
 bK (nilO v25) fun v28 =>
 bK (fAddr 2 v28) fun v29 =>
 bK (ldO 1 false h26 (chkV h26 v29)) fun v30 =>
 bK (foldMM true v30 [(NV.int .i64 (.ofNat 0))]) fun v31 =>
 bK (nilO v25) fun v32 =>
 bK (fAddr 0 v32) fun v33 =>
 bK (ldO 1 false h26 (chkV h26 v33)) fun v34 =>
 bK (nilO v23) fun v35 =>
 bK (fAddr 14 v35) fun v36 =>
 bK (ldO 1 false h26 (chkV h26 v36)) fun v37 =>
 bK (nilO v25) fun v38 =>
 bK (fAddr 0 v38) fun v39 =>
 bK (ldO 1 false h26 (chkV h26 v39)) fun v40 =>
 bK (subI v37 v40) fun v41 =>
 bK (nilO v25) fun v42 =>
 bK (fAddr 1 v42) fun v43 =>
 bK (ldO 1 false h26 (chkV h26 v43)) fun v44 =>
 bK (subI v41 v44) fun v45 =>
 bK (bldO [(0, 1), (1, 1), (2, 1)] [(NV.int .i64 (.ofNat 0)), (NV.int .i64 (.ofNat 0)), (NV.int .i64 (.ofNat 0))] [v31, v34, v45]) fun v46 =>
 mK (stM 3 (chkV h26 v24) (chkV h26 v46) h26) fun v47 h48 =>
 nextK h26 h48 (
 bK (ldB 3 true h48 v24) fun v49 =>
 retC v49 h48)) fun J27 =>
 condK v22 (
 bK (nilO v18) fun v50 =>
 bK (fAddr 3 v50) fun v51 =>
 bK (ldO 1 false h7 v51) fun v52 =>
 mK (bslM 1 false [(0, 1)] [NV.nilFunc] [v4] h7) fun v53 h54 =>
 mK (appM Tryz.prog 148 v52 v53 h54) fun v55 h56 =>
 bK (nilO v18) fun v57 =>
 bK (fAddr 3 v57) fun v58 =>
 mK (stM 1 v58 v55 h56) fun v59 h60 =>
 J27 v0 v6 v18 h60) (
 J27 v0 v6 v18 h7))
theorem e157 : ikB Tryz.prog 9 Tryz.f157 = S157 := by kernel_rfl
theorem k157 [Sig] (w0 : World) : SOK cW w0 157 S157 := okW Tryz.func157 (by kernel_rfl) e157
noncomputable def S156 (call : CallF) (N : Nat) (l : List NV) (h : H) : R :=
 uc l fun v0 l1 => uc l1 fun v2 l3 => un l3 (
 mK (boxM false v2 h) fun v4 h5 =>
 bK (nilO v0) fun v6 =>
 bK (fAddr 12 v6) fun v7 =>
 bK (ldO 1 false h5 (chkV h5 v7)) fun v8 =>
 bK (ldO 11 true h5 (chkV h5 v4)) fun v9 =>
 mK (bslM 1 false [(0, 11)] [(NV.int .i64 (.ofNat 0)), (NV.int .i64 (.ofNat 0)), (NV.int .i64 (.ofNat 0)), (NV.int .u64 (.ofNat 0)), (NV.int .u64 (.ofNat 0)), NV.nslice, (NV.int .i64 (.ofNat 0)), (NV.int .i64 (.ofNat 0)), (NV.int .i64 (.ofNat 0)), NV.nslice, (NV.bool false)] [(chkV h5 v9)] h5) fun v10 h11 =>
 mK (appM Tryz.prog 145 (chkV h11 v8) (chkV h11 v10) h11) fun v12 h13 =>
 nextK h11 h13 (
 bK (nilO v0) fun v14 =>
 bK (fAddr 12 v14) fun v15 =>
 mK (stM 1 (chkV h13 v15) (chkV h13 v12) h13) fun v16 h17 =>
 nextK h13 h17 (
 bK (nilO v0) fun v18 =>
 bK (fAddr 12 v18) fun v19 =>
 bK (ldO 1 false h17 v19) fun v20 =>
 bK (lenSl v20) fun v21 =>
 bK (subI v21 (NV.int .i64 (.ofNat 1))) fun v22 =>
 retC v22 h17)))
theorem e156 : ikB Tryz.prog 9 Tryz.f156 = S156 := by kernel_rfl
theorem k156 [Sig] (w0 : World) : SOK cW w0 156 S156 := okW Tryz.func156 (by kernel_rfl) e156
noncomputable def S159 (call : CallF) (N : Nat) (l : List NV) (h : H) : R :=
 uc l fun v0 l1 => uc l1 fun v2 l3 => un l3 (
 mK (boxM false v2 h) fun v4 h5 =>
 bK (fAddr 0 v4) fun v6 =>
 bK (ldO 1 false h5 v6) fun v7 =>
 mK (calM call 28 [v7] h5) fun v8 h9 =>
 bK (extO 0 v8) fun v10 =>
 bK (extO 1 v8) fun v11 =>
 bK (extO 2 v8) fun v12 =>
 condK v12 (
 bK (lenSl v11) fun v13 =>
 bK (lenSl v10) fun v14 =>
 bK (subI v13 v14) fun v15 =>
 retC v15 h9) (
 bK (fAddr 0 v4) fun v16 =>
 bK (ldO 1 false h9 v16) fun v17 =>
 bK (eqI v17 (NV.int .i64 (.ofNat 16))) fun v18 =>
 condK v18 (
 bK (nilO v0) fun v19 =>
 bK (fAddr 0 v19) fun v20 =>
 bK (fAddr 0 v20) fun v21 =>
 bK (ldO 1 false h9 (chkV h9 v21)) fun v22 =>
 bK (nilO v0) fun v23 =>
 bK (fAddr 11 v23) fun v24 =>
 bK (ldO 1 false h9 (chkV h9 v24)) fun v25 =>
 bK (fAddr 1 v4) fun v26 =>
 bK (ldO 1 false h9 (chkV h9 v26)) fun v27 =>
 bK (ixS 1 v25 v27) fun v28 =>
 bK (ldO 1 false h9 (chkV h9 v28)) fun v29 =>
 bK (ixS 2 v22 v29) fun v30 =>
 bK (ldO 2 true h9 (chkV h9 v30)) fun v31 =>
 mK (calV call (chkV h9 (NV.func (.func 199) [] [])) [(chkV h9 v31)] h9) fun v32 h33 =>
 nextK h9 h33 (
 retC v32 h33)) (
 bK (eqI v17 (NV.int .i64 (.ofNat 17))) fun v34 =>
 condK v34 (
 bK (nilO v0) fun v35 =>
 bK (fAddr 0 v35) fun v36 =>
 bK (fAddr 0 v36) fun v37 =>
 bK (ldO 1 false h9 (chkV h9 v37)) fun v38 =>
 bK (fAddr 1 v4) fun v39 =>
 bK (ldO 1 false h9 (chkV h9 v39)) fun v40 =>
 bK (ixS 2 v38 v40) fun v41 =>
 bK (ldO 2 true h9 (chkV h9 v41)) fun v42 =>
 mK (calV call (chkV h9 (NV.func (.func 199) [] [])) [(chkV h9 v42)] h9) fun v43 h44 =>
 nextK h9 h44 (
 bK (subI v43 (NV.int .i64 (.ofNat 1))) fun v45 =>
 retC v45 h44)) (
 bK (eqI v17 (NV.int .i64 (.ofNat 27))) fun v46 =>
 joinC 2 (fun v47 v48 h49 =>
 condK v48 (
 retC (NV.int .i64 (.negSucc 1)) h49) (
 bK (eqI v47 (NV.int .i64 (.ofNat 26))) fun v51 =>
 joinC 2 (fun v52 v53 h54 =>
 condK v53 (
 retC (NV.int .i64 (.negSucc 0)) h54) (
 bK (eqI v52 (NV.int .i64 (.ofNat 32))) fun v56 =>
 joinC 2 (fun v57 v58 h59 =>
 condK v58 (
 retC (NV.int .i64 (.ofNat 1)) h59) (
 bK (eqI v57 (NV.int .i64 (.ofNat 64529))) fun v61 =>
 condK v61 (
 retC (NV.int .i64 (.negSucc 2)) h59) (
 retC (NV.int .i64 (.ofNat 0)) h59))) fun J60 =>
 condK v56 (
 J60 v52 v56 h54) (
 bK (eqI v52 (NV.int .i64 (.ofNat 35))) fun v62 =>
 condK v62 (
 J60 v52 v62 h54) (
 bK (eqI v52 (NV.int .i64 (.ofNat 208))) fun v63 =>
 J60 v52 v63 h54)))) fun J55 =>
 condK v51 (
 J55 v47 v51 h49) (
 bK (eqI v47 (NV.int .i64 (.ofNat 33))) fun v64 =>
 condK v64 (
 J55 v47 v64 h49) (
 bK (eqI v47 (NV.int .i64 (.ofNat 36))) fun v65 =>
 condK v65 (
 J55 v47 v65 h49) (
 bK (eqI v47 (NV.int .i64 (.ofNat 64527))) fun v66 =>
 J55 v47 v66 h49))))) fun J50 =>
 condK v46 (
 J50 v17 v46 h9) (
 bK (eqI v17 (NV.int .i64 (.ofNat 28))) fun v67 =>
 condK v67 (
 J50 v17 v67 h9) (
 bK (eqI v17 (NV.int .i64 (.ofNat 38))) fun v68 =>
 J50 v17 v68 h9))))))
theorem e159 : ikB Tryz.prog 9 Tryz.f159 = S159 := by kernel_rfl
theorem k159 [Sig] (w0 : World) : SOK cW w0 159 S159 := okW Tryz.func159 (by kernel_rfl) e159
noncomputable def S163 (call : CallF) (N : Nat) (l : List NV) (h : H) : R :=
 un l (
 mK (alM (NB.cells [(NV.str 0 0), (NV.str 0 0), (NV.str 0 0), (NV.str 0 0), (NV.str 0 0), (NV.str 0 0), (NV.str 0 0), (NV.str 0 0), (NV.str 0 0), (NV.str 0 0), (NV.str 0 0), (NV.str 0 0), (NV.str 0 0), (NV.str 0 0), (NV.str 0 0), (NV.str 0 0), (NV.str 0 0), (NV.str 0 0), (NV.str 0 0), (NV.str 0 0), (NV.str 0 0), (NV.str 0 0), (NV.str 0 0), (NV.str 0 0), (NV.str 0 0), (NV.str 0 0), (NV.str 0 0), (NV.str 0 0), (NV.str 0 0), (NV.str 0 0), (NV.str 0 0), (NV.str 0 0), (NV.str 0 0), (NV.str 0 0), (NV.str 0 0), (NV.str 0 0), (NV.str 0 0), (NV.str 0 0), (NV.str 0 0), (NV.str 0 0), (NV.str 0 0), (NV.str 0 0), (NV.str 0 0), (NV.str 0 0), (NV.str 0 0), (NV.str 0 0), (NV.str 0 0), (NV.str 0 0), (NV.str 0 0), (NV.str 0 0), (NV.str 0 0), (NV.str 0 0), (NV.str 0 0), (NV.str 0 0), (NV.str 0 0), (NV.str 0 0), (NV.str 0 0), (NV.str 0 0), (NV.str 0 0), (NV.str 0 0), (NV.str 0 0), (NV.str 0 0), (NV.str 0 0), (NV.str 0 0), (NV.str 0 0), (NV.str 0 0), (NV.str 0 0), (NV.str 0 0), (NV.str 0 0), (NV.str 0 0), (NV.str 0 0), (NV.str 0 0), (NV.str 0 0), (NV.str 0 0), (NV.str 0 0), (NV.str 0 0), (NV.str 0 0), (NV.str 0 0), (NV.str 0 0), (NV.str 0 0), (NV.str 0 0), (NV.str 0 0), (NV.str 0 0), (NV.str 0 0), (NV.str 0 0), (NV.str 0 0), (NV.str 0 0), (NV.str 0 0), (NV.str 0 0), (NV.str 0 0), (NV.str 0 0), (NV.str 0 0), (NV.str 0 0), (NV.str 0 0), (NV.str 0 0), (NV.str 0 0), (NV.str 0 0), (NV.str 0 0), (NV.str 0 0), (NV.str 0 0), (NV.str 0 0), (NV.str 0 0), (NV.str 0 0), (NV.str 0 0), (NV.str 0 0), (NV.str 0 0), (NV.str 0 0), (NV.str 0 0), (NV.str 0 0), (NV.str 0 0), (NV.str 0 0), (NV.str 0 0), (NV.str 0 0), (NV.str 0 0), (NV.str 0 0), (NV.str 0 0), (NV.str 0 0), (NV.str 0 0), (NV.str 0 0), (NV.str 0 0), (NV.str 0 0), (NV.str 0 0), (NV.str 0 0), (NV.str 0 0), (NV.str 0 0), (NV.str 0 0), (NV.str 0 0), (NV.str 0 0), (NV.str 0 0), (NV.str 0 0), (NV.str 0 0), (NV.str 0 0), (NV.str 0 0), (NV.str 0 0), (NV.str 0 0), (NV.str 0 0), (NV.str 0 0), (NV.str 0 0), (NV.str 0 0), (NV.str 0 0), (NV.str 0 0), (NV.str 0 0), (NV.str 0 0), (NV.str 0 0), (NV.str 0 0), (NV.str 0 0), (NV.str 0 0), (NV.str 0 0), (NV.str 0 0), (NV.str 0 0), (NV.str 0 0), (NV.str 0 0), (NV.str 0 0), (NV.str 0 0), (NV.str 0 0), (NV.str 0 0), (NV.str 0 0), (NV.str 0 0), (NV.str 0 0), (NV.str 0 0), (NV.str 0 0), (NV.str 0 0), (NV.str 0 0), (NV.str 0 0), (NV.str 0 0), (NV.str 0 0), (NV.str 0 0), (NV.str 0 0), (NV.str 0 0), (NV.str 0 0), (NV.str 0 0), (NV.str 0 0), (NV.str 0 0), (NV.str 0 0), (NV.str 0 0), (NV.str 0 0), (NV.str 0 0), (NV.str 0 0), (NV.str 0 0), (NV.str 0 0), (NV.str 0 0), (NV.str 0 0), (NV.str 0 0), (NV.str 0 0), (NV.str 0 0), (NV.str 0 0), (NV.str 0 0), (NV.str 0 0), (NV.str 0 0), (NV.str 0 0), (NV.str 0 0), (NV.str 0 0), (NV.str 0 0), (NV.str 0 0), (NV.str 0 0), (NV.str 0 0), (NV.str 0 0), (NV.str 0 0), (NV.str 0 0), (NV.str 0 0), (NV.str 0 0), (NV.str 0 0), (NV.str 0 0), (NV.str 0 0), (NV.str 0 0), (NV.str 0 0), (NV.str 0 0), (NV.str 0 0), (NV.str 0 0), (NV.str 0 0), (NV.str 0 0)]) h) fun v0 h1 =>
 bK (bldO [(0, 1), (1, 1), (2, 1), (3, 1), (4, 1), (5, 1), (6, 1), (7, 1), (8, 1), (9, 1), (10, 1), (11, 1), (12, 1), (13, 1), (14, 1), (15, 1), (16, 1), (17, 1), (18, 1), (19, 1), (20, 1), (21, 1), (22, 1), (23, 1), (24, 1), (25, 1), (26, 1), (27, 1), (28, 1), (29, 1), (30, 1), (31, 1), (32, 1), (33, 1), (34, 1), (35, 1), (36, 1), (37, 1), (38, 1), (39, 1), (40, 1), (41, 1), (42, 1), (43, 1), (44, 1), (45, 1), (46, 1), (47, 1), (48, 1), (49, 1), (50, 1), (51, 1), (52, 1), (53, 1), (54, 1), (55, 1), (56, 1), (57, 1), (58, 1), (59, 1), (60, 1), (61, 1), (62, 1), (63, 1), (64, 1), (65, 1), (66, 1), (67, 1), (68, 1), (69, 1), (70, 1), (71, 1), (72, 1), (73, 1), (74, 1), (75, 1), (76, 1), (77, 1), (78, 1), (79, 1), (80, 1), (81, 1), (82, 1), (83, 1), (84, 1), (85, 1), (86, 1), (87, 1), (88, 1), (89, 1), (90, 1), (91, 1), (92, 1), (93, 1), (94, 1), (95, 1), (96, 1), (97, 1), (98, 1), (99, 1), (100, 1), (101, 1), (102, 1), (103, 1), (104, 1), (105, 1), (106, 1), (107, 1), (108, 1), (109, 1), (110, 1), (111, 1), (112, 1), (113, 1), (114, 1), (115, 1), (116, 1), (117, 1), (118, 1), (119, 1), (120, 1), (121, 1), (122, 1), (123, 1), (124, 1), (125, 1), (126, 1), (127, 1), (128, 1), (129, 1), (130, 1), (131, 1), (132, 1), (133, 1), (134, 1), (135, 1), (136, 1), (137, 1), (138, 1), (139, 1), (140, 1), (141, 1), (142, 1), (143, 1), (144, 1), (145, 1), (146, 1), (147, 1), (148, 1), (149, 1), (150, 1), (151, 1), (152, 1), (153, 1), (154, 1), (155, 1), (156, 1), (157, 1), (158, 1), (159, 1), (160, 1), (161, 1), (162, 1), (163, 1), (164, 1), (165, 1), (166, 1), (167, 1), (168, 1), (169, 1), (170, 1), (171, 1), (172, 1), (173, 1), (174, 1), (175, 1), (176, 1), (177, 1), (178, 1), (179, 1), (180, 1), (181, 1), (182, 1), (183, 1), (184, 1), (185, 1), (186, 1), (187, 1), (188, 1), (189, 1), (190, 1), (191, 1), (192, 1), (193, 1), (194, 1), (195, 1), (196, 1), (197, 1), (198, 1), (199, 1), (200, 1), (201, 1), (202, 1), (203, 1), (204, 1), (205, 1), (206, 1), (207, 1), (208, 1), (209, 1), (210, 1)] [(NV.str 0 0), (NV.str 0 0), (NV.str 0 0), (NV.str 0 0), (NV.str 0 0), (NV.str 0 0), (NV.str 0 0), (NV.str 0 0), (NV.str 0 0), (NV.str 0 0), (NV.str 0 0), (NV.str 0 0), (NV.str 0 0), (NV.str 0 0), (NV.str 0 0), (NV.str 0 0), (NV.str 0 0), (NV.str 0 0), (NV.str 0 0), (NV.str 0 0), (NV.str 0 0), (NV.str 0 0), (NV.str 0 0), (NV.str 0 0), (NV.str 0 0), (NV.str 0 0), (NV.str 0 0), (NV.str 0 0), (NV.str 0 0), (NV.str 0 0), (NV.str 0 0), (NV.str 0 0), (NV.str 0 0), (NV.str 0 0), (NV.str 0 0), (NV.str 0 0), (NV.str 0 0), (NV.str 0 0), (NV.str 0 0), (NV.str 0 0), (NV.str 0 0), (NV.str 0 0), (NV.str 0 0), (NV.str 0 0), (NV.str 0 0), (NV.str 0 0), (NV.str 0 0), (NV.str 0 0), (NV.str 0 0), (NV.str 0 0), (NV.str 0 0), (NV.str 0 0), (NV.str 0 0), (NV.str 0 0), (NV.str 0 0), (NV.str 0 0), (NV.str 0 0), (NV.str 0 0), (NV.str 0 0), (NV.str 0 0), (NV.str 0 0), (NV.str 0 0), (NV.str 0 0), (NV.str 0 0), (NV.str 0 0), (NV.str 0 0), (NV.str 0 0), (NV.str 0 0), (NV.str 0 0), (NV.str 0 0), (NV.str 0 0), (NV.str 0 0), (NV.str 0 0), (NV.str 0 0), (NV.str 0 0), (NV.str 0 0), (NV.str 0 0), (NV.str 0 0), (NV.str 0 0), (NV.str 0 0), (NV.str 0 0), (NV.str 0 0), (NV.str 0 0), (NV.str 0 0), (NV.str 0 0), (NV.str 0 0), (NV.str 0 0), (NV.str 0 0), (NV.str 0 0), (NV.str 0 0), (NV.str 0 0), (NV.str 0 0), (NV.str 0 0), (NV.str 0 0), (NV.str 0 0), (NV.str 0 0), (NV.str 0 0), (NV.str 0 0), (NV.str 0 0), (NV.str 0 0), (NV.str 0 0), (NV.str 0 0), (NV.str 0 0), (NV.str 0 0), (NV.str 0 0), (NV.str 0 0), (NV.str 0 0), (NV.str 0 0), (NV.str 0 0), (NV.str 0 0), (NV.str 0 0), (NV.str 0 0), (NV.str 0 0), (NV.str 0 0), (NV.str 0 0), (NV.str 0 0), (NV.str 0 0), (NV.str 0 0), (NV.str 0 0), (NV.str 0 0), (NV.str 0 0), (NV.str 0 0), (NV.str 0 0), (NV.str 0 0), (NV.str 0 0), (NV.str 0 0), (NV.str 0 0), (NV.str 0 0), (NV.str 0 0), (NV.str 0 0), (NV.str 0 0), (NV.str 0 0), (NV.str 0 0), (NV.str 0 0), (NV.str 0 0), (NV.str 0 0), (NV.str 0 0), (NV.str 0 0), (NV.str 0 0), (NV.str 0 0), (NV.str 0 0), (NV.str 0 0), (NV.str 0 0), (NV.str 0 0), (NV.str 0 0), (NV.str 0 0), (NV.str 0 0), (NV.str 0 0), (NV.str 0 0), (NV.str 0 0), (NV.str 0 0), (NV.str 0 0), (NV.str 0 0), (NV.str 0 0), (NV.str 0 0), (NV.str 0 0), (NV.str 0 0), (NV.str 0 0), (NV.str 0 0), (NV.str 0 0), (NV.str 0 0), (NV.str 0 0), (NV.str 0 0), (NV.str 0 0), (NV.str 0 0), (NV.str 0 0), (NV.str 0 0), (NV.str 0 0), (NV.str 0 0), (NV.str 0 0), (NV.str 0 0), (NV.str 0 0), (NV.str 0 0), (NV.str 0 0), (NV.str 0 0), (NV.str 0 0), (NV.str 0 0), (NV.str 0 0), (NV.str 0 0), (NV.str 0 0), (NV.str 0 0), (NV.str 0 0), (NV.str 0 0), (NV.str 0 0), (NV.str 0 0), (NV.str 0 0), (NV.str 0 0), (NV.str 0 0), (NV.str 0 0), (NV.str 0 0), (NV.str 0 0), (NV.str 0 0), (NV.str 0 0), (NV.str 0 0), (NV.str 0 0), (NV.str 0 0), (NV.str 0 0), (NV.str 0 0), (NV.str 0 0), (NV.str 0 0), (NV.str 0 0), (NV.str 0 0), (NV.str 0 0), (NV.str 0 0), (NV.str 0 0), (NV.str 0 0), (NV.str 0 0), (NV.str 0 0), (NV.str 0 0), (NV.str 0 0), (NV.str 0 0)] [(NV.str 15 327767552172945331183350251170983541), (NV.str 7 17486839630819182), (NV.str 9 1164464547572376104034), (NV.str 8 4548689639039266668), (NV.str 6 69407495710313), (NV.str 0 0), (NV.str 0 0), (NV.str 0 0), (NV.str 0 0), (NV.str 0 0), (NV.str 0 0), (NV.str 0 0), (NV.str 6 69407512490594), (NV.str 9 1164464829025977594466), (NV.str 12 19536482683267168639882588770), (NV.str 10 298102852124297305286002), (NV.str 8 4548692937506840931), (NV.str 17 21480600261876078678271969189338205151587), (NV.str 0 0), (NV.str 0 0), (NV.str 0 0), (NV.str 0 0), (NV.str 0 0), (NV.str 0 0), (NV.str 0 0), (NV.str 0 0), (NV.str 8 4548688539527639652), (NV.str 10 298102852130829681583475), (NV.str 10 298103284476393909151091), (NV.str 0 0), (NV.str 0 0), (NV.str 0 0), (NV.str 13 5001344402895871739539482701676), (NV.str 13 5001344402895875117239203229548), (NV.str 13 5001344402619174237608536665964), (NV.str 14 1280344476626352986667176279632999), (NV.str 14 1280344476626353851358304734768231), (NV.str 13 5001346820747510968767951823220), (NV.str 13 5001346820747514346467672351092), (NV.str 0 0), (NV.str 15 546457008460428049428634524118561641), (NV.str 15 562033899036032532314226013106353769), (NV.str 15 530880117884823566543043035130901350), (NV.str 15 520495524167753911285982042472592998), (NV.str 18 9168027265654428855846305424485748109882217), (NV.str 18 9168027265654428858264157063715006459294569), (NV.str 19 2347014980007533787096643803363673714847789929), (NV.str 19 2347014980007533787715613823006363852297352041), (NV.str 18 9429364123449709595786177122993346096412265), (NV.str 18 9429364123449709598204028762222604445824617), (NV.str 19 2413917215603125656521250958181618799365863017), (NV.str 19 2413917215603125657140220977824308936815425129), (NV.str 19 2413917215603125656521232105609175468204111465), (NV.str 19 2413917215603125657140202125251865605653673577), (NV.str 16 82959459112035195726565278189186331497), (NV.str 16 82975036002610800209450869678174123625), (NV.str 16 82943882221459591243679686700198671206), (NV.str 16 82933497627742521588422625707540362854), (NV.str 17 21237621532681009893254626581142469489513), (NV.str 18 5436831112366338530009530115527837092033385), (NV.str 17 21241609216668364640873338002323310655081), (NV.str 18 5437851959467101345399920239350132396799593), (NV.str 18 5437851959467101340573661693857354988402281), (NV.str 17 35812227813666953304285268971732295574893), (NV.str 18 9168027265674711270362288350078981819426157), (NV.str 15 546451230376424881116632515876107113), (NV.str 15 562028121261514373823569073588680297), (NV.str 15 530874340419790417873731164338008934), (NV.str 15 520489747012205772438015240404481638), (NV.str 13 8338272223821249852648853746537), (NV.str 13 8338272568259982785710304408425), (NV.str 13 8338272568259982772554819580777), (NV.str 15 546457031033486231986814062760702825), (NV.str 15 546457031033486232130929250836558697), (NV.str 15 546457031033486231986814041285866345), (NV.str 15 546457031033486232130929229361722217), (NV.str 15 546457031033486231986797570086286185), (NV.str 15 546457031033486232130912758162142057), (NV.str 15 546457031033486231986797548611449705), (NV.str 15 546457031033486232130912736687305577), (NV.str 13 8338275850598708696536377996905), (NV.str 13 8338276209204541078206764299881), (NV.str 13 8338276209204541065051279472233), (NV.str 15 546457269646428804243862049567028841), (NV.str 15 546457269646428804387977237642884713), (NV.str 15 546457269646428804243862028092192361), (NV.str 15 546457269646428804387977216168048233), (NV.str 15 546457269646428804243845556892612201), (NV.str 15 546457269646428804387960744968468073), (NV.str 15 546457269646428804243845535417775721), (NV.str 15 546457269646428804387960723493631593), (NV.str 13 8338268927315424493213844648806), (NV.str 13 8338268927315424480058359821158), (NV.str 13 8338268927315424496542444303206), (NV.str 13 8338268927315424496520969466726), (NV.str 13 8338268927315424480049769886566), (NV.str 13 8338268927315424480028295050086), (NV.str 13 8338266500019052298216204940902), (NV.str 13 8338266500019052285060720113254), (NV.str 13 8338266500019052301544804595302), (NV.str 13 8338266500019052301523329758822), (NV.str 13 8338266500019052285052130178662), (NV.str 13 8338266500019052285030655342182), (NV.str 13 8338272223821249847142705673065), (NV.str 13 8338272223821249855938798695273), (NV.str 16 139892994165849425778193391510663345001), (NV.str 14 2134597777474555589481782695834473), (NV.str 14 2134597777474555588937601749496681), (NV.str 14 2134597777474555591752325746799465), (NV.str 16 139892999944572475388624959950019507049), (NV.str 16 139892999944572475425518448097438610281), (NV.str 16 139892999944572475388622422337312142185), (NV.str 16 139892999944572475425515910484731245417), (NV.str 14 2134597777474555589492777812112233), (NV.str 13 8338272568259982786852765709161), (NV.str 14 2134597777474555593434625781937001), (NV.str 14 2134597777474555591738057865442153), (NV.str 16 139892999944572475388623833015025546089), (NV.str 16 139892999944572475425517321162444649321), (NV.str 15 546457031033486231488316407217795945), (NV.str 15 546457031033486231920661971445363561), (NV.str 13 8575960338141501703810861774441), (NV.str 13 8575960338141501712606954796649), (NV.str 16 143880739000432984351916084533258368617), (NV.str 14 2195445938367317523632718148286057), (NV.str 14 2195445938367317523088537201948265), (NV.str 14 2195445938367317525903261199251049), (NV.str 16 143880745016840521505140665753246381673), (NV.str 16 143880745016840521542034153900665484905), (NV.str 16 143880745016840521505138128140539016809), (NV.str 16 143880745016840521542031616287958120041), (NV.str 14 2195445938367317523643713264563817), (NV.str 13 8575960696747334092129857451625), (NV.str 14 2195445938367317527585561234388585), (NV.str 14 2195445938367317525888993317893737), (NV.str 16 143880745016840521505139538818252420713), (NV.str 16 143880745016840521542033026965671523945), (NV.str 15 562034160222033286630955883011782249), (NV.str 15 562034160222033287063301447239349865), (NV.str 13 8100584109500996009146006516582), (NV.str 13 8100584109500992634800655446886), (NV.str 14 2073749532032254475913169852314470), (NV.str 15 530879880200257256949406374500119398), (NV.str 15 530879880200256980177883181878489958), (NV.str 17 34791743828804062027993364878159753917286), (NV.str 14 2073749532032255054920459805143910), (NV.str 14 2073749616581793655330847243514726), (NV.str 14 2073749616581793654786666297176934), (NV.str 14 2073749616581793657601390294479718), (NV.str 14 2073749616581793660402907267347302), (NV.str 14 2073749616581793658151146108367718), (NV.str 14 2073749616581793660957099782452070), (NV.str 19 2280111816527703826117084885104847133433017190), (NV.str 13 7942125366620828104700569335398), (NV.str 13 7942125366620824730355218265702), (NV.str 14 2033184093854931492375137900312166), (NV.str 15 520495128026862573163670194753910374), (NV.str 15 520495128026862296392147002132280934), (NV.str 17 34111168710368468031411358602303559186022), (NV.str 14 2033184093854932071382427853141606), (NV.str 14 2033184175986619032563556942100070), (NV.str 14 2033184175986619032019375995762278), (NV.str 14 2033184175986619034834099993065062), (NV.str 14 2033184175986619037635616965932646), (NV.str 14 2033184175986619035383855806953062), (NV.str 14 2033184175986619038189809481037414), (NV.str 19 2235509642907452746387254776002721426324076134), (NV.str 18 9168031253337075447834847025118878901613417), (NV.str 21 153813906827515972354792814719229369436366500410217), (NV.str 21 153813906827515982739386531788884626497359158850409), (NV.str 21 153813862226025575293705916427850816850036750693225), (NV.str 21 153813862226025585678299633497506073911029409133417), (NV.str 22 40498810532286534835525964147540208006911372259767913), (NV.str 22 40498810532286537493981955717371953814525492820457065), (NV.str 21 158198411739508681109403869217378218495334298170985), (NV.str 21 158198411739508691493997586287033475556326956611177), (NV.str 21 158198367138018284048316970925999665909004548453993), (NV.str 21 158198367138018294432910687995654922969997206894185), (NV.str 23 9793009668440644596010266686608289008633361334015243110), (NV.str 23 9793009668440645276575000528485215935382576197551666022), (NV.str 23 9793014052945556588729466738608667767750753136225170278), (NV.str 23 9793014052945557269294200580485594694499967999761593190), (NV.str 20 583708427007939603893703423388374749582376186726), (NV.str 23 9601447725832408488715473308214500360681018943742424678), (NV.str 23 9601447725832409169280207150091427287430233807278847590), (NV.str 23 9601452110337320481434673360214879119798410745952351846), (NV.str 23 9601452110337321161999407202091806046547625609488774758), (NV.str 21 146506398640861119376186043912817649648091369059942), (NV.str 25 660625699494170760817850004513665363006326852999658830181225), (NV.str 25 679456813138388239736077332846436991477294210794981659260521), (NV.str 25 641794681630924630881524425534872769831381839002147440702310), (NV.str 25 629240765503065226570841043735052050693457300431125779592806), (NV.str 19 2347014980007195555834240459701630947512431465), (NV.str 20 600835834881842062292884885388448385621157884777), (NV.str 19 2413918236449888188074238004643398327335138921), (NV.str 20 617963068531171376146324256893540834855737374313), (NV.str 20 617963068531171376145088734705894683839187662441), (NV.str 0 0), (NV.str 0 0), (NV.str 0 0), (NV.str 0 0), (NV.str 0 0), (NV.str 0 0), (NV.str 0 0), (NV.str 0 0), (NV.str 0 0), (NV.str 0 0), (NV.str 0 0), (NV.str 13 5001343272701261720108883404146), (NV.str 15 327767552181408163343023129200321906), (NV.str 13 8734324878964745910403536938354)]) fun v2 =>
 mK (stM 211 v0 v2 h1) fun v3 h4 =>
 bK (ldB 211 true h4 v0) fun v5 =>
 retC v5 h4)
theorem e163 : ikB Tryz.prog 9 Tryz.f163 = S163 := by kernel_rfl
theorem k163 [Sig] (w0 : World) : SOK cW w0 163 S163 := okW Tryz.func163 (by kernel_rfl) e163
noncomputable def S160 (call : CallF) (N : Nat) (l : List NV) (h : H) : R :=
 uc l fun v0 l1 => uc l1 fun v2 l3 => un l3 (
 bK (lenStr v2) fun v4 =>
 bK (eqI v4 (NV.int .i64 (.ofNat 0))) fun v5 =>
 jK (fun v6 h7 =>
 jK (fun v9 h10 =>
 jK (fun v12 h13 =>
 bK (pickO v5 (NV.bool true) v12) fun v15 =>
 condK v15 (
 retC (NV.int .i64 (.ofNat 0)) h13) (
 bK (eqI v4 (NV.int .i64 (.ofNat 1))) fun v16 =>
 condK v16 (
 bK (ixStr v2 (NV.int .i64 (.ofNat 0))) fun v17 =>
 mK (calM call 200 [v0, v17] h13) fun v18 h19 =>
 retC v18 h19) (
 bK (lenStr v0) fun v20 =>
 bK (geI v4 v20) fun v21 =>
 condK v21 (
 retC (NV.int .i64 (.negSucc 0)) h13) (
 bK (ldO 1 false h13 (NV.ptr (.i .h) 0)) fun v22 =>
 bK (leI v4 v22) fun v23 =>
 jK (fun v24 h25 =>
 jK (fun v27 h28 =>
 jK (fun v30 h31 =>
 bK (pickO v23 v30 (NV.bool false)) fun v33 =>
 condK v33 (
 mK (calM call 201 [v0, v2] h31) fun v34 h35 =>
 retC v34 h35) (
 bK (ixStr v2 (NV.int .i64 (.ofNat 0))) fun v36 =>
 bK (ixStr v2 (NV.int .i64 (.ofNat 1))) fun v37 =>
 bK (lenStr v0) fun v38 =>
 bK (subI v38 v4) fun v39 =>
 bK (addI v39 (NV.int .i64 (.ofNat 1))) fun v40 =>
 joinC 0 (fun h41 =>
 retC (NV.int .i64 (.negSucc 0)) h41) fun J42 =>
 loopC N 8 (fun L52 v43 v44 v45 v46 v47 v48 v49 v50 h51 =>
 bK (ltI v48 v49) fun v53 =>
 condK v53 (
 bK (ixStr v43 v48) fun v54 =>
 bK (neI v54 v46) fun v55 =>
 joinC 8 (fun v56 v57 v58 v59 v60 v61 v62 v63 h64 =>
 bK (addI v61 (NV.int .i64 (.ofNat 1))) fun v66 =>
 bK (ixStr v56 v66) fun v67 =>
 bK (eqI v67 v60) fun v68 =>
 jK (fun v69 h70 =>
 jK (fun v72 h73 =>
 jK (fun v75 h76 =>
 jK (fun v78 h79 =>
 jK (fun v81 h82 =>
 jK (fun v84 h85 =>
 jK (fun v87 h88 =>
 jK (fun v90 h91 =>
 bK (pickO v68 v90 (NV.bool false)) fun v93 =>
 condK v93 (
 retC v61 h91) (
 bK (addI v61 (NV.int .i64 (.ofNat 1))) fun v94 =>
 bK (addI v63 (NV.int .i64 (.ofNat 1))) fun v95 =>
 bK (ldO 1 false h91 (NV.ptr (.i .h) 0)) fun v96 =>
 bK (leI v58 v96) fun v97 =>
 jK (fun v98 h99 =>
 jK (fun v101 h102 =>
 jK (fun v104 h105 =>
 jK (fun v107 h108 =>
 bK (pickO v97 v107 (NV.bool false)) fun v110 =>
 condK v110 (
 bK (slStr v56 (some v94) none) fun v111 =>
 mK (calM call 201 [v111, v57] h108) fun v112 h113 =>
 bK (geI v112 (NV.int .i64 (.ofNat 0))) fun v114 =>
 condK v114 (
 bK (addI v112 v94) fun v115 =>
 retC v115 h113) (
 retC (NV.int .i64 (.negSucc 0)) h113)) (
 bK (ldO 1 false h108 (NV.ptr (.i .h) 0)) fun v116 =>
 bK (gtI v58 v116) fun v117 =>
 jK (fun v118 h119 =>
 jK (fun v121 h122 =>
 jK (fun v124 h125 =>
 jK (fun v127 h128 =>
 jK (fun v130 h131 =>
 bK (pickO v117 v130 (NV.bool false)) fun v133 =>
 jK (fun v134 h135 =>
 jK (fun v137 h138 =>
 jK (fun v140 h141 =>
 bK (pickO v133 v140 (NV.bool false)) fun v143 =>
 condK v143 (
 bK (slStr v56 (some v94) none) fun v144 =>
 mK (calM call 203 [v144, v57] h141) fun v145 h146 =>
 bK (ltI v145 (NV.int .i64 (.ofNat 0))) fun v147 =>
 condK v147 (
 retC (NV.int .i64 (.negSucc 0)) h146) (
 bK (addI v94 v145) fun v148 =>
 retC v148 h146)) (
 L52 v56 v57 v58 v59 v60 v94 v62 v95 h141)) fun J142 => gK v133 true (
 bK (ltI v134 v137) fun v149 =>
 J142 v149 h138) (J142 (NV.tuple []) h138)) fun J139 => gK v133 true (
 J139 v62 h135) (J139 (NV.tuple []) h135)) fun J136 => gK v133 true (
 J136 v94 h131) (J136 (NV.tuple []) h131)) fun J132 => gK v117 true (
 bK (geI v118 v127) fun v150 =>
 J132 v150 h128) (J132 (NV.tuple []) h128)) fun J129 => gK v117 true (
 bK (addI (NV.int .i64 (.ofNat 4)) v124) fun v151 =>
 J129 v151 h125) (J129 (NV.tuple []) h125)) fun J126 => gK v117 true (
 bK (binO .shr v121 (NV.int .u64 (.ofNat 4))) fun v152 =>
 J126 v152 h122) (J126 (NV.tuple []) h122)) fun J123 => gK v117 true (
 J123 v94 h119) (J123 (NV.tuple []) h119)) fun J120 => gK v117 true (
 J120 v95 h108) (J120 (NV.tuple []) h108))) fun J109 => gK v97 true (
 bK (gtI v98 v104) fun v153 =>
 J109 v153 h105) (J109 (NV.tuple []) h105)) fun J106 => gK v97 true (
 mK (calM call 202 [v101] h102) fun v154 h155 =>
 J106 v154 h155) (J106 (NV.tuple []) h102)) fun J103 => gK v97 true (
 J103 v94 h99) (J103 (NV.tuple []) h99)) fun J100 => gK v97 true (
 J100 v95 h91) (J100 (NV.tuple []) h91))) fun J92 => gK v68 true (
 bK (binO .eql v84 v87) fun v156 =>
 J92 v156 h88) (J92 (NV.tuple []) h88)) fun J89 => gK v68 true (
 J89 v57 h85) (J89 (NV.tuple []) h85)) fun J86 => gK v68 true (
 bK (slStr v69 (some v72) (some v81)) fun v157 =>
 J86 v157 h82) (J86 (NV.tuple []) h82)) fun J83 => gK v68 true (
 bK (addI v75 v78) fun v158 =>
 J83 v158 h79) (J83 (NV.tuple []) h79)) fun J80 => gK v68 true (
 J80 v58 h76) (J80 (NV.tuple []) h76)) fun J77 => gK v68 true (
 J77 v61 h73) (J77 (NV.tuple []) h73)) fun J74 => gK v68 true (
 J74 v61 h70) (J74 (NV.tuple []) h70)) fun J71 => gK v68 true (
 J71 v56 h64) (J71 (NV.tuple []) h64)) fun J65 =>
 condK v55 (
 bK (addI v48 (NV.int .i64 (.ofNat 1))) fun v159 =>
 bK (slStr v43 (some v159) (some v49)) fun v160 =>
 mK (calM call 200 [v160, v46] h51) fun v161 h162 =>
 bK (ltI v161 (NV.int .i64 (.ofNat 0))) fun v163 =>
 condK v163 (
 retC (NV.int .i64 (.negSucc 0)) h162) (
 bK (addI v161 (NV.int .i64 (.ofNat 1))) fun v164 =>
 bK (addI v48 v164) fun v165 =>
 J65 v43 v44 v45 v46 v47 v165 v49 v50 h162)) (
 J65 v43 v44 v45 v46 v47 v48 v49 v50 h51)) (
 J42 h51)) v0 v2 v4 v36 v37 (NV.int .i64 (.ofNat 0)) v40 (NV.int .i64 (.ofNat 0)) h31)) fun J32 => gK v23 true (
 bK (leI v27 (NV.int .i64 (.ofNat 64))) fun v166 =>
 J32 v166 h28) (J32 (NV.tuple []) h28)) fun J29 => gK v23 true (
 bK (lenStr v24) fun v167 =>
 J29 v167 h25) (J29 (NV.tuple []) h25)) fun J26 => gK v23 true (
 J26 v0 h13) (J26 (NV.tuple []) h13))))) fun J14 => gK v5 false (
 bK (binO .eql v6 v9) fun v168 =>
 J14 v168 h10) (J14 (NV.tuple []) h10)) fun J11 => gK v5 false (
 J11 v0 h7) (J11 (NV.tuple []) h7)) fun J8 => gK v5 false (
 J8 v2 h) (J8 (NV.tuple []) h))
theorem e160 : ikB Tryz.prog 9 Tryz.f160 = S160 := by kernel_rfl
theorem k160 [Sig] (w0 : World) : SOK cW w0 160 S160 := okW Tryz.func160 (by kernel_rfl) e160
noncomputable def S172 (call : CallF) (N : Nat) (l : List NV) (h : H) : R :=
 uc l fun v0 l1 => uc l1 fun v2 l3 => uc l3 fun v4 l5 => uc l5 fun v6 l7 => un l7 (
 mK (calM call 215 [v0] h) fun v8 h9 =>
 bK (notO v8) fun v10 =>
 jK (fun v11 h12 =>
 jK (fun v14 h15 =>
 bK (pickO v10 (NV.bool true) v14) fun v17 =>
 jK (fun v18 h19 =>
 jK (fun v21 h22 =>
 bK (pickO v17 (NV.bool true) v21) fun v24 =>
 jK (fun v25 h26 =>
 jK (fun v28 h29 =>
 jK (fun v31 h32 =>
 jK (fun v34 h35 =>
 jK (fun v37 h38 =>
 jK (fun v40 h41 =>
 bK (pickO v24 (NV.bool true) v40) fun v43 =>
 condK v43 (
 retC (NV.tuple [(NV.int .u64 (.ofNat 0)), (NV.int .i64 (.ofNat 1))]) h41) (
 mK (calM call 216 [v0] h41) fun v44 h45 =>
 bK (binO .and v4 v44) fun v46 =>
 bK (binO .and v6 v44) fun v47 =>
 bK (geI v2 (NV.int .i64 (.ofNat 4))) fun v48 =>
 jK (fun v49 h50 =>
 jK (fun v52 h53 =>
 bK (pickO v48 v52 (NV.bool false)) fun v55 =>
 joinC 3 (fun v56 v57 v58 h59 =>
 bK (binO .and v57 v56) fun v61 =>
 retC (NV.tuple [v61, v58]) h59) fun J60 =>
 condK v55 (
 mK (calM call 225 [v0, v2, v46, v47] h53) fun v62 h63 =>
 bK (extO 0 v62) fun v64 =>
 bK (extO 1 v62) fun v65 =>
 J60 v44 v64 v65 h63) (
 bK (geI v2 (NV.int .i64 (.ofNat 11))) fun v66 =>
 jK (fun v67 h68 =>
 jK (fun v70 h71 =>
 bK (pickO v66 v70 (NV.bool false)) fun v73 =>
 condK v73 (
 bK (cvI .u64 v0) fun v74 =>
 bK (binO .rem v47 v74) fun v75 =>
 mK (calM call 226 [v0, v2, v46, v75] h71) fun v76 h77 =>
 J60 v44 v76 (NV.int .i64 (.ofNat 0)) h77) (
 bK (geI v2 (NV.int .i64 (.ofNat 16))) fun v78 =>
 condK v78 (
 mK (calM call 227 [v0, v2, v46, v47] h71) fun v79 h80 =>
 J60 v44 v79 (NV.int .i64 (.ofNat 0)) h80) (
 mK (calM call 228 [v2, v46, v47] h71) fun v81 h82 =>
 J60 v44 v81 (NV.int .i64 (.ofNat 0)) h82))) fun J72 => gK v66 true (
 bK (leI v67 (NV.int .i64 (.ofNat 15))) fun v83 =>
 J72 v83 h68) (J72 (NV.tuple []) h68)) fun J69 => gK v66 true (
 J69 v2 h53) (J69 (NV.tuple []) h53))) fun J54 => gK v48 true (
 bK (leI v49 (NV.int .i64 (.ofNat 7))) fun v84 =>
 J54 v84 h50) (J54 (NV.tuple []) h50)) fun J51 => gK v48 true (
 J51 v2 h45) (J51 (NV.tuple []) h45))) fun J42 => gK v24 false (
 bK (pickO v31 v37 (NV.bool false)) fun v85 =>
 J42 v85 h38) (J42 (NV.tuple []) h38)) fun J39 => gK v31 true (
 bK (neI v34 (NV.int .i64 (.ofNat 16))) fun v86 =>
 J39 v86 h35) (J39 (NV.tuple []) h35)) fun J36 => gK v31 true (
 J36 v0 h32) (J36 (NV.tuple []) h32)) fun J33 => gK v24 false (
 J33 v28 h29) (J33 (NV.tuple []) h29)) fun J30 => gK v24 false (
 bK (eqI v25 (NV.int .i64 (.ofNat 25))) fun v87 =>
 J30 v87 h26) (J30 (NV.tuple []) h26)) fun J27 => gK v24 false (
 J27 v2 h22) (J27 (NV.tuple []) h22)) fun J23 => gK v17 false (
 bK (gtI v18 (NV.int .i64 (.ofNat 25))) fun v88 =>
 J23 v88 h19) (J23 (NV.tuple []) h19)) fun J20 => gK v17 false (
 J20 v2 h15) (J20 (NV.tuple []) h15)) fun J16 => gK v10 false (
 bK (ltI v11 (NV.int .i64 (.ofNat 1))) fun v89 =>
 J16 v89 h12) (J16 (NV.tuple []) h12)) fun J13 => gK v10 false (
 J13 v2 h9) (J13 (NV.tuple []) h9))
theorem e172 : ikB Tryz.prog 9 Tryz.f172 = S172 := by kernel_rfl
theorem k172 [Sig] (w0 : World) : SOK cW w0 172 S172 := okW Tryz.func172 (by kernel_rfl) e172
noncomputable def S126 (call : CallF) (N : Nat) (l : List NV) (h : H) : R :=
 uc l fun v0 l1 => uc l1 fun v2 l3 => un l3 (
 bK (ldO 1 false h v2) fun v4 =>
 mK (calV call v4 [v0] h) fun v5 h6 =>
 bK (notO v5) fun v7 =>
 retC v7 h6)
theorem e126 : ikB Tryz.prog 9 Tryz.f126 = S126 := by kernel_rfl
theorem k126 [Sig] (w0 : World) : SOK cW w0 126 S126 := okW Tryz.func126 (by kernel_rfl) e126
noncomputable def S125 (call : CallF) (N : Nat) (l : List NV) (h : H) : R :=
 uc l fun v0 l1 => uc l1 fun v2 l3 => un l3 (
 mK (calM call 181 [v0, v2] h) fun v4 h5 =>
 bK (geI v4 (NV.int .i64 (.ofNat 0))) fun v6 =>
 retC v6 h5)
theorem e125 : ikB Tryz.prog 9 Tryz.f125 = S125 := by kernel_rfl
theorem k125 [Sig] (w0 : World) : SOK cW w0 125 S125 := okW Tryz.func125 (by kernel_rfl) e125
noncomputable def S127 (call : CallF) (N : Nat) (l : List NV) (h : H) : R :=
 uc l fun v0 l1 => un l1 (
 bK (lenSl v0) fun v2 =>
 joinC 1 (fun v3 h4 =>
 retC v3 h4) fun J5 =>
 loopC N 4 (fun L11 v6 v7 v8 v9 h10 =>
 bK (ltI v9 v8) fun v12 =>
 condK v12 (
 bK (ixS 9 v7 v9) fun v13 =>
 bK (ldO 9 true h10 v13) fun v14 =>
 mK (alM (NB.cells [(NV.int .i64 (.ofNat 0)), (NV.int .i64 (.ofNat 0)), (NV.int .i64 (.ofNat 0)), (NV.int .u64 (.ofNat 0)), (NV.int .u64 (.ofNat 0)), NV.nslice, NV.nslice, NV.nslice, (NV.bool false)]) h10) fun v15 h16 =>
 mK (stM 9 v15 v14 h16) fun v17 h18 =>
 bK (fAddr 6 v15) fun v19 =>
 bK (ldO 1 false h18 (chkV h18 v19)) fun v20 =>
 bK (fAddr 7 v15) fun v21 =>
 bK (ldO 1 false h18 (chkV h18 v21)) fun v22 =>
 mK (calM call 127 [(chkV h18 v20)] h18) fun v23 h24 =>
 nextK h18 h24 (
 bK (ldO 1 false h24 (chkV h24 v21)) fun v25 =>
 sameK v25 v22 (
 mK (calM call 127 [(chkV h24 v22)] h24) fun v26 h27 =>
 nextK h24 h27 (
 bK (foldMM true v23 [v26]) fun v28 =>
 bK (addI (NV.int .i64 (.ofNat 1)) v28) fun v29 =>
 bK (foldMM true v6 [v29]) fun v30 =>
 bK (addI v9 (NV.int .i64 (.ofNat 1))) fun v31 =>
 L11 v30 v7 v8 v31 h27)))) (
 J5 v6 h10)) (NV.int .i64 (.ofNat 0)) v0 v2 (NV.int .i64 (.ofNat 0)) h)
theorem e127 : ikB Tryz.prog 9 Tryz.f127 = S127 := by kernel_rfl
theorem k127 [Sig] (w0 : World) : SOK cW w0 127 S127 := okW Tryz.func127 (by kernel_rfl) e127
end Go.Proofs.YtcindejphmbjpaaGreatDoor

