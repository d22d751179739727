/- Seat Ytoikhmpgaihiaaa.ZD: the shallow functions of this program, part 0: printed by a program, each held against the staged interpreter by the kernel. -/
import Derived.Test.YtoikhmpgaihiaaaGreatDoorIA
set_option maxRecDepth 100000
set_option linter.unusedVariables false
namespace Go.Proofs.YtoikhmpgaihiaaaGreatDoor
open Go Go.Ne
noncomputable def S3 (call : CallF) (N : Nat) (l : List NV) (h : H) : R :=
 uc l fun v0 l1 => uc l1 fun v2 l3 => uc l3 fun v4 l5 => un l5 (
 mK (boxM false v0 h) fun v6 h7 =>
 mK (calM call 4 [] h7) fun v8 h9 =>
 bK (notO v8) fun v10 =>
 condK v10 (
 retC (NV.bool false) h9) (
 bK (ldO 11 true h9 v6) fun v11 =>
 mK (calM call 5 [v11] h9) fun v12 h13 =>
 bK (notO v12) fun v14 =>
 condK v14 (
 retC (NV.bool true) h13) (
 bK (ldO 11 true h13 v6) fun v15 =>
 bK (bldO [] [(NV.int .i64 (.ofNat 0)), (NV.int .i64 (.ofNat 0)), (NV.int .i64 (.ofNat 0))] []) fun v16 =>
 mK (calM call 6 [NV.nilptr, v15, NV.nslice, v16] h13) fun v17 h18 =>
 bK (extO 0 v17) fun v19 =>
 bK (extO 1 v17) fun v20 =>
 bK (extO 2 v17) fun v21 =>
 bK (bldO [] [NV.nslice, NV.nslice, NV.nslice, NV.nslice, NV.nslice, NV.nslice, NV.nslice, NV.nslice] []) fun v22 =>
 mK (boxM false v22 h18) fun v23 h24 =>
 bK (ldO 11 true h24 v6) fun v25 =>
 bK (bldO [(2, 1)] [(NV.int .i64 (.ofNat 0)), (NV.int .i64 (.ofNat 0)), (NV.int .i64 (.ofNat 0))] [(NV.int .i64 (.negSucc 0))]) fun v26 =>
 mK (calM call 6 [v23, v25, NV.nslice, v26] h24) fun v27 h28 =>
 bK (extO 0 v27) fun v29 =>
 bK (extO 1 v27) fun v30 =>
 bK (extO 2 v27) fun v31 =>
 mK (calM call 7 [NV.nilptr, v2, v4] h28) fun v32 h33 =>
 bK (extO 0 v32) fun v34 =>
 bK (extO 1 v32) fun v35 =>
 mK (alM (NB.cells [(NV.int .i64 (.ofNat 0)), (NV.int .i64 (.ofNat 0))]) h33) fun v36 h37 =>
 mK (stM 2 v36 v34 h37) fun v38 h39 =>
 bK (bldO [] [NV.nslice, NV.nslice, NV.nslice, NV.nslice, NV.nslice, NV.nslice, NV.nslice, NV.nslice] []) fun v40 =>
 mK (boxM false v40 h39) fun v41 h42 =>
 mK (calM call 7 [v41, v2, v4] h42) fun v43 h44 =>
 bK (extO 0 v43) fun v45 =>
 bK (extO 1 v43) fun v46 =>
 mK (alM (NB.cells [(NV.int .i64 (.ofNat 0)), (NV.int .i64 (.ofNat 0))]) h44) fun v47 h48 =>
 mK (stM 2 v47 v45 h48) fun v49 h50 =>
 bK (eqI v21 (NV.int .i64 (.ofNat 1))) fun v51 =>
 jK (fun v52 h53 =>
 jK (fun v55 h56 =>
 bK (pickO v51 v55 (NV.bool false)) fun v58 =>
 jK (fun v59 h60 =>
 jK (fun v62 h63 =>
 bK (pickO v58 v62 (NV.bool false)) fun v65 =>
 jK (fun v66 h67 =>
 jK (fun v69 h70 =>
 bK (pickO v65 v69 (NV.bool false)) fun v72 =>
 jK (fun v73 h74 =>
 jK (fun v76 h77 =>
 jK (fun v79 h80 =>
 jK (fun v82 h83 =>
 bK (pickO v72 v82 (NV.bool false)) fun v85 =>
 retC v85 h83) fun J84 => gK v72 true (
 bK (eqI v79 (NV.int .i64 (.ofNat 0))) fun v86 =>
 J84 v86 h80) (J84 (NV.tuple []) h80)) fun J81 => gK v72 true (
 mK (calM call 8 [NV.nilptr, v73, v76] h77) fun v87 h88 =>
 J81 v87 h88) (J81 (NV.tuple []) h77)) fun J78 => gK v72 true (
 J78 v2 h74) (J78 (NV.tuple []) h74)) fun J75 => gK v72 true (
 bK (bldO [] [NV.nslice, NV.nslice] []) fun v89 =>
 J75 v89 h70) (J75 (NV.tuple []) h70)) fun J71 => gK v65 true (
 bK (notO v66) fun v90 =>
 J71 v90 h67) (J71 (NV.tuple []) h67)) fun J68 => gK v65 true (
 J68 v46 h63) (J68 (NV.tuple []) h63)) fun J64 => gK v58 true (
 bK (notO v59) fun v91 =>
 J64 v91 h60) (J64 (NV.tuple []) h60)) fun J61 => gK v58 true (
 J61 v35 h56) (J61 (NV.tuple []) h56)) fun J57 => gK v51 true (
 bK (eqI v52 (NV.int .i64 (.ofNat 1))) fun v92 =>
 J57 v92 h53) (J57 (NV.tuple []) h53)) fun J54 => gK v51 true (
 J54 v31 h50) (J54 (NV.tuple []) h50))))
theorem e3 : ikB Tryz.prog 9 Tryz.f3 = S3 := by kernel_rfl
theorem k3 [Sig] (w0 : World) : SOK cW w0 3 S3 := okW Tryz.func3 (by kernel_rfl) e3
noncomputable def S4 (call : CallF) (N : Nat) (l : List NV) (h : H) : R :=
 un l (
 bK (bldO [] [NV.nslice, NV.nslice, NV.nslice, NV.nslice, NV.nslice, NV.nslice, NV.nslice, NV.nslice] []) fun v0 =>
 mK (boxM false v0 h) fun v1 h2 =>
 bK (bldO [(0, 1)] [(NV.int .i64 (.ofNat 0)), (NV.int .i64 (.ofNat 0)), (NV.bool false)] [(NV.int .i64 (.ofNat 1))]) fun v3 =>
 mK (bslM 1 false [(0, 3)] [(NV.int .i64 (.ofNat 0)), (NV.int .i64 (.ofNat 0)), (NV.bool false)] [v3] h2) fun v4 h5 =>
 bK (bldO [(0, 1), (3, 1)] [(NV.int .i64 (.ofNat 0)), (NV.int .i64 (.ofNat 0)), (NV.int .i64 (.ofNat 0)), (NV.int .u64 (.ofNat 0)), (NV.int .u64 (.ofNat 0)), NV.nslice, NV.nslice, NV.nslice, (NV.bool false)] [(NV.int .i64 (.ofNat 65)), (NV.int .u64 (.ofNat 65535))]) fun v6 =>
 mK (bslM 1 false [(0, 9)] [(NV.int .i64 (.ofNat 0)), (NV.int .i64 (.ofNat 0)), (NV.int .i64 (.ofNat 0)), (NV.int .u64 (.ofNat 0)), (NV.int .u64 (.ofNat 0)), NV.nslice, NV.nslice, NV.nslice, (NV.bool false)] [v6] h5) fun v7 h8 =>
 mK (bslM 2 true [(0, 1), (1, 1)] [(NV.int .u8 (.ofNat 0)), (NV.int .u8 (.ofNat 0))] [(NV.int .u8 (.ofNat 97)), (NV.int .u8 (.ofNat 98))] h8) fun v9 h10 =>
 mK (cvbM v9 h10) fun v11 h12 =>
 bK (bldO [(2, 1), (3, 1)] [(NV.int .i64 (.ofNat 0)), (NV.int .i64 (.ofNat 0)), NV.nslice, NV.nslice] [v7, v11]) fun v13 =>
 mK (bslM 1 false [(0, 4)] [(NV.int .i64 (.ofNat 0)), (NV.int .i64 (.ofNat 0)), NV.nslice, NV.nslice] [v13] h12) fun v14 h15 =>
 bK (bldO [(4, 1), (9, 1)] [NV.nslice, NV.nslice, NV.nslice, NV.nslice, NV.nslice, NV.nslice, NV.nslice, (NV.int .i64 (.ofNat 0)), NV.nslice, NV.nslice, (NV.bool false)] [v4, v14]) fun v16 =>
 mK (alM (NB.cells [NV.nslice, NV.nslice, NV.nslice, NV.nslice, NV.nslice, NV.nslice, NV.nslice, (NV.int .i64 (.ofNat 0)), NV.nslice, NV.nslice, (NV.bool false)]) h15) fun v17 h18 =>
 mK (stM 11 v17 v16 h18) fun v19 h20 =>
 bK (ldO 11 true h20 v17) fun v21 =>
 bK (bldO [(0, 1), (1, 1), (2, 1)] [(NV.int .i64 (.ofNat 0)), (NV.int .i64 (.ofNat 0)), (NV.int .i64 (.ofNat 0))] [(NV.int .i64 (.ofNat 9)), (NV.int .i64 (.ofNat 9)), (NV.int .i64 (.ofNat 9))]) fun v22 =>
 mK (calM call 6 [v1, v21, NV.nslice, v22] h20) fun v23 h24 =>
 bK (extO 0 v23) fun v25 =>
 bK (extO 1 v23) fun v26 =>
 bK (extO 2 v23) fun v27 =>
 bK (fAddr 9 v17) fun v28 =>
 bK (ldO 1 false h24 v28) fun v29 =>
 bK (ixS 4 v29 (NV.int .i64 (.ofNat 0))) fun v30 =>
 bK (fAddr 2 v30) fun v31 =>
 bK (ldO 1 false h24 v31) fun v32 =>
 bK (ixS 9 v32 (NV.int .i64 (.ofNat 0))) fun v33 =>
 bK (fAddr 3 v33) fun v34 =>
 mK (stM 1 v34 (NV.int .u64 (.ofNat 65534)) h24) fun v35 h36 =>
 bK (bldO [(0, 1), (1, 1)] [(NV.str 0 0), (NV.int .i64 (.ofNat 0)), (NV.int .i64 (.ofNat 0))] [(NV.str 1 109), (NV.int .i64 (.ofNat 2))]) fun v37 =>
 mK (bslM 1 false [(0, 3)] [(NV.str 0 0), (NV.int .i64 (.ofNat 0)), (NV.int .i64 (.ofNat 0))] [v37] h36) fun v38 h39 =>
 bK (fAddr 6 v17) fun v40 =>
 mK (stM 1 v40 v38 h39) fun v41 h42 =>
 bK (ldO 11 true h42 v17) fun v43 =>
 bK (bldO [(0, 1), (1, 1), (2, 1)] [(NV.int .i64 (.ofNat 0)), (NV.int .i64 (.ofNat 0)), (NV.int .i64 (.ofNat 0))] [(NV.int .i64 (.ofNat 9)), (NV.int .i64 (.ofNat 9)), (NV.int .i64 (.ofNat 9))]) fun v44 =>
 mK (calM call 6 [v1, v43, NV.nslice, v44] h42) fun v45 h46 =>
 bK (extO 0 v45) fun v47 =>
 bK (extO 1 v45) fun v48 =>
 bK (extO 2 v45) fun v49 =>
 mK (calM call 7 [v1, v47, (NV.str 1 109)] h46) fun v50 h51 =>
 bK (extO 0 v50) fun v52 =>
 bK (extO 1 v50) fun v53 =>
 mK (alM (NB.cells [(NV.int .i64 (.ofNat 0)), (NV.int .i64 (.ofNat 0))]) h51) fun v54 h55 =>
 mK (stM 2 v54 v52 h55) fun v56 h57 =>
 bK (bldO [] [NV.nslice, NV.nslice] []) fun v58 =>
 mK (calM call 8 [v1, v58, (NV.int .i64 (.ofNat 3))] h57) fun v59 h60 =>
 bK (eqI v27 (NV.int .i64 (.ofNat 44))) fun v61 =>
 jK (fun v62 h63 =>
 jK (fun v65 h66 =>
 bK (pickO v61 v65 (NV.bool false)) fun v68 =>
 jK (fun v69 h70 =>
 jK (fun v72 h73 =>
 bK (pickO v68 v72 (NV.bool false)) fun v75 =>
 jK (fun v76 h77 =>
 bK (pickO v75 v76 (NV.bool false)) fun v79 =>
 jK (fun v80 h81 =>
 jK (fun v83 h84 =>
 jK (fun v86 h87 =>
 bK (pickO v79 v86 (NV.bool false)) fun v89 =>
 jK (fun v90 h91 =>
 jK (fun v93 h94 =>
 jK (fun v96 h97 =>
 bK (pickO v89 v96 (NV.bool false)) fun v99 =>
 jK (fun v100 h101 =>
 jK (fun v103 h104 =>
 jK (fun v106 h107 =>
 jK (fun v109 h110 =>
 jK (fun v112 h113 =>
 jK (fun v115 h116 =>
 jK (fun v118 h119 =>
 jK (fun v121 h122 =>
 jK (fun v124 h125 =>
 jK (fun v127 h128 =>
 jK (fun v130 h131 =>
 jK (fun v133 h134 =>
 bK (pickO v99 v133 (NV.bool false)) fun v136 =>
 jK (fun v137 h138 =>
 jK (fun v140 h141 =>
 jK (fun v143 h144 =>
 jK (fun v146 h147 =>
 jK (fun v149 h150 =>
 jK (fun v152 h153 =>
 jK (fun v155 h156 =>
 jK (fun v158 h159 =>
 jK (fun v161 h162 =>
 jK (fun v164 h165 =>
 jK (fun v167 h168 =>
 jK (fun v170 h171 =>
 bK (pickO v136 v170 (NV.bool false)) fun v173 =>
 jK (fun v174 h175 =>
 jK (fun v177 h178 =>
 bK (pickO v173 v177 (NV.bool false)) fun v180 =>
 jK (fun v181 h182 =>
 jK (fun v184 h185 =>
 jK (fun v187 h188 =>
 jK (fun v190 h191 =>
 jK (fun v193 h194 =>
 jK (fun v196 h197 =>
 jK (fun v199 h200 =>
 jK (fun v202 h203 =>
 bK (pickO v180 v202 (NV.bool false)) fun v205 =>
 retC v205 h203) fun J204 => gK v180 true (
 bK (eqI v199 (NV.int .i64 (.ofNat 4))) fun v206 =>
 J204 v206 h200) (J204 (NV.tuple []) h200)) fun J201 => gK v180 true (
 bK (ldO 1 false h197 v196) fun v207 =>
 J201 v207 h197) (J201 (NV.tuple []) h197)) fun J198 => gK v180 true (
 bK (fAddr 4 v193) fun v208 =>
 J198 v208 h194) (J198 (NV.tuple []) h194)) fun J195 => gK v180 true (
 bK (ixS 5 v190 (NV.int .i64 (.ofNat 0))) fun v209 =>
 J195 v209 h191) (J195 (NV.tuple []) h191)) fun J192 => gK v180 true (
 bK (ldO 1 false h188 v187) fun v210 =>
 J192 v210 h188) (J192 (NV.tuple []) h188)) fun J189 => gK v180 true (
 bK (fAddr 0 v184) fun v211 =>
 J189 v211 h185) (J189 (NV.tuple []) h185)) fun J186 => gK v180 true (
 bK (nilO v181) fun v212 =>
 J186 v212 h182) (J186 (NV.tuple []) h182)) fun J183 => gK v180 true (
 J183 v1 h178) (J183 (NV.tuple []) h178)) fun J179 => gK v173 true (
 bK (eqI v174 (NV.int .i64 (.ofNat 0))) fun v213 =>
 J179 v213 h175) (J179 (NV.tuple []) h175)) fun J176 => gK v173 true (
 J176 v59 h171) (J176 (NV.tuple []) h171)) fun J172 => gK v136 true (
 bK (eqI v167 (NV.int .u8 (.ofNat 0))) fun v214 =>
 J172 v214 h168) (J172 (NV.tuple []) h168)) fun J169 => gK v136 true (
 bK (ldO 1 false h165 v164) fun v215 =>
 J169 v215 h165) (J169 (NV.tuple []) h165)) fun J166 => gK v136 true (
 bK (ixS 1 v161 (NV.int .i64 (.ofNat 65535))) fun v216 =>
 J166 v216 h162) (J166 (NV.tuple []) h162)) fun J163 => gK v136 true (
 bK (ldO 1 false h159 v158) fun v217 =>
 J163 v217 h159) (J163 (NV.tuple []) h159)) fun J160 => gK v136 true (
 bK (fAddr 3 v155) fun v218 =>
 J160 v218 h156) (J160 (NV.tuple []) h156)) fun J157 => gK v136 true (
 bK (nilO v152) fun v219 =>
 J157 v219 h153) (J157 (NV.tuple []) h153)) fun J154 => gK v136 true (
 bK (ldO 1 false h150 v149) fun v220 =>
 J154 v220 h150) (J154 (NV.tuple []) h150)) fun J151 => gK v136 true (
 bK (ixS 1 v146 (NV.int .i64 (.ofNat 0))) fun v221 =>
 J151 v221 h147) (J151 (NV.tuple []) h147)) fun J148 => gK v136 true (
 bK (ldO 1 false h144 v143) fun v222 =>
 J148 v222 h144) (J148 (NV.tuple []) h144)) fun J145 => gK v136 true (
 bK (fAddr 2 v140) fun v223 =>
 J145 v223 h141) (J145 (NV.tuple []) h141)) fun J142 => gK v136 true (
 bK (nilO v137) fun v224 =>
 J142 v224 h138) (J142 (NV.tuple []) h138)) fun J139 => gK v136 true (
 J139 v1 h134) (J139 (NV.tuple []) h134)) fun J135 => gK v99 true (
 bK (eqI v130 (NV.int .u8 (.ofNat 98))) fun v225 =>
 J135 v225 h131) (J135 (NV.tuple []) h131)) fun J132 => gK v99 true (
 bK (ldO 1 false h128 v127) fun v226 =>
 J132 v226 h128) (J132 (NV.tuple []) h128)) fun J129 => gK v99 true (
 bK (ixS 1 v124 (NV.int .i64 (.ofNat 65535))) fun v227 =>
 J129 v227 h125) (J129 (NV.tuple []) h125)) fun J126 => gK v99 true (
 bK (ldO 1 false h122 v121) fun v228 =>
 J126 v228 h122) (J126 (NV.tuple []) h122)) fun J123 => gK v99 true (
 bK (fAddr 3 v118) fun v229 =>
 J123 v229 h119) (J123 (NV.tuple []) h119)) fun J120 => gK v99 true (
 bK (nilO v115) fun v230 =>
 J120 v230 h116) (J120 (NV.tuple []) h116)) fun J117 => gK v99 true (
 bK (ldO 1 false h113 v112) fun v231 =>
 J117 v231 h113) (J117 (NV.tuple []) h113)) fun J114 => gK v99 true (
 bK (ixS 1 v109 (NV.int .i64 (.ofNat 1))) fun v232 =>
 J114 v232 h110) (J114 (NV.tuple []) h110)) fun J111 => gK v99 true (
 bK (ldO 1 false h107 v106) fun v233 =>
 J111 v233 h107) (J111 (NV.tuple []) h107)) fun J108 => gK v99 true (
 bK (fAddr 2 v103) fun v234 =>
 J108 v234 h104) (J108 (NV.tuple []) h104)) fun J105 => gK v99 true (
 bK (nilO v100) fun v235 =>
 J105 v235 h101) (J105 (NV.tuple []) h101)) fun J102 => gK v99 true (
 J102 v1 h97) (J102 (NV.tuple []) h97)) fun J98 => gK v89 true (
 bK (eqI v93 (NV.int .i64 (.ofNat 1))) fun v236 =>
 J98 v236 h94) (J98 (NV.tuple []) h94)) fun J95 => gK v89 true (
 bK (ldO 1 false h91 v90) fun v237 =>
 J95 v237 h91) (J95 (NV.tuple []) h91)) fun J92 => gK v89 true (
 bK (fAddr 1 v54) fun v238 =>
 J92 v238 h87) (J92 (NV.tuple []) h87)) fun J88 => gK v79 true (
 bK (eqI v83 (NV.int .i64 (.ofNat 2))) fun v239 =>
 J88 v239 h84) (J88 (NV.tuple []) h84)) fun J85 => gK v79 true (
 bK (ldO 1 false h81 v80) fun v240 =>
 J85 v240 h81) (J85 (NV.tuple []) h81)) fun J82 => gK v79 true (
 bK (fAddr 0 v54) fun v241 =>
 J82 v241 h77) (J82 (NV.tuple []) h77)) fun J78 => gK v75 true (
 J78 v53 h73) (J78 (NV.tuple []) h73)) fun J74 => gK v68 true (
 bK (eqI v69 (NV.int .i64 (.ofNat 1))) fun v242 =>
 J74 v242 h70) (J74 (NV.tuple []) h70)) fun J71 => gK v68 true (
 J71 v47 h66) (J71 (NV.tuple []) h66)) fun J67 => gK v61 true (
 bK (eqI v62 (NV.int .i64 (.ofNat 0))) fun v243 =>
 J67 v243 h63) (J67 (NV.tuple []) h63)) fun J64 => gK v61 true (
 J64 v49 h60) (J64 (NV.tuple []) h60))
theorem e4 : ikB Tryz.prog 9 Tryz.f4 = S4 := by kernel_rfl
theorem k4 [Sig] (w0 : World) : SOK cW w0 4 S4 := okW Tryz.func4 (by kernel_rfl) e4
noncomputable def S5 (call : CallF) (N : Nat) (l : List NV) (h : H) : R :=
 uc l fun v0 l1 => un l1 (
 mK (boxM false v0 h) fun v2 h3 =>
 bK (fAddr 0 v2) fun v4 =>
 bK (ldO 1 false h3 v4) fun v5 =>
 bK (lenSl v5) fun v6 =>
 bK (leI v6 (NV.int .i64 (.ofNat 100))) fun v7 =>
 jK (fun v8 h9 =>
 jK (fun v11 h12 =>
 jK (fun v14 h15 =>
 jK (fun v17 h18 =>
 bK (pickO v7 v17 (NV.bool false)) fun v20 =>
 jK (fun v21 h22 =>
 jK (fun v24 h25 =>
 jK (fun v27 h28 =>
 jK (fun v30 h31 =>
 bK (pickO v20 v30 (NV.bool false)) fun v33 =>
 jK (fun v34 h35 =>
 jK (fun v37 h38 =>
 jK (fun v40 h41 =>
 jK (fun v43 h44 =>
 bK (pickO v33 v43 (NV.bool false)) fun v46 =>
 jK (fun v47 h48 =>
 jK (fun v50 h51 =>
 jK (fun v53 h54 =>
 jK (fun v56 h57 =>
 bK (pickO v46 v56 (NV.bool false)) fun v59 =>
 jK (fun v60 h61 =>
 jK (fun v63 h64 =>
 jK (fun v66 h67 =>
 jK (fun v69 h70 =>
 bK (pickO v59 v69 (NV.bool false)) fun v72 =>
 jK (fun v73 h74 =>
 jK (fun v76 h77 =>
 jK (fun v79 h80 =>
 jK (fun v82 h83 =>
 bK (pickO v72 v82 (NV.bool false)) fun v85 =>
 jK (fun v86 h87 =>
 jK (fun v89 h90 =>
 jK (fun v92 h93 =>
 jK (fun v95 h96 =>
 bK (pickO v85 v95 (NV.bool false)) fun v98 =>
 jK (fun v99 h100 =>
 jK (fun v102 h103 =>
 jK (fun v105 h106 =>
 jK (fun v108 h109 =>
 bK (pickO v98 v108 (NV.bool false)) fun v111 =>
 joinC 2 (fun v112 v113 h114 =>
 joinC 2 (fun v116 v117 h118 =>
 joinC 2 (fun v120 v121 h122 =>
 joinC 2 (fun v124 v125 h126 =>
 joinC 2 (fun v128 v129 h130 =>
 joinC 2 (fun v132 v133 h134 =>
 joinC 1 (fun v136 h137 =>
 retC v136 h137) fun J138 =>
 loopC N 3 (fun L143 v139 v140 v141 h142 =>
 bK (fAddr 9 v139) fun v144 =>
 bK (ldO 1 false h142 v144) fun v145 =>
 bK (lenSl v145) fun v146 =>
 bK (ltI v141 v146) fun v147 =>
 jK (fun v148 h149 =>
 bK (pickO v147 v148 (NV.bool false)) fun v151 =>
 condK v151 (
 bK (fAddr 9 v139) fun v152 =>
 bK (ldO 1 false h149 v152) fun v153 =>
 bK (ixS 4 v153 v141) fun v154 =>
 bK (fAddr 2 v154) fun v155 =>
 bK (ldO 1 false h149 v155) fun v156 =>
 mK (calM call 9 [v156] h149) fun v157 h158 =>
 jK (fun v159 h160 =>
 jK (fun v162 h163 =>
 jK (fun v165 h166 =>
 jK (fun v168 h169 =>
 jK (fun v171 h172 =>
 jK (fun v174 h175 =>
 jK (fun v177 h178 =>
 jK (fun v180 h181 =>
 bK (pickO v157 v180 (NV.bool false)) fun v183 =>
 bK (addI v141 (NV.int .i64 (.ofNat 1))) fun v184 =>
 L143 v139 v183 v184 h181) fun J182 => gK v157 true (
 bK (leI v177 (NV.int .i64 (.ofNat 100000))) fun v185 =>
 J182 v185 h178) (J182 (NV.tuple []) h178)) fun J179 => gK v157 true (
 bK (lenSl v174) fun v186 =>
 J179 v186 h175) (J179 (NV.tuple []) h175)) fun J176 => gK v157 true (
 bK (ldO 1 false h172 v171) fun v187 =>
 J176 v187 h172) (J176 (NV.tuple []) h172)) fun J173 => gK v157 true (
 bK (fAddr 3 v168) fun v188 =>
 J173 v188 h169) (J173 (NV.tuple []) h169)) fun J170 => gK v157 true (
 bK (ixS 4 v162 v165) fun v189 =>
 J170 v189 h166) (J170 (NV.tuple []) h166)) fun J167 => gK v157 true (
 J167 v141 h163) (J167 (NV.tuple []) h163)) fun J164 => gK v157 true (
 bK (ldO 1 false h160 v159) fun v190 =>
 J164 v190 h160) (J164 (NV.tuple []) h160)) fun J161 => gK v157 true (
 bK (fAddr 9 v139) fun v191 =>
 J161 v191 h158) (J161 (NV.tuple []) h158)) (
 J138 v140 h149)) fun J150 => gK v147 true (
 J150 v140 h142) (J150 (NV.tuple []) h142)) v132 v133 (NV.int .i64 (.ofNat 0)) h134) fun J135 =>
 loopC N 3 (fun L196 v192 v193 v194 h195 =>
 bK (fAddr 8 v192) fun v197 =>
 bK (ldO 1 false h195 v197) fun v198 =>
 bK (lenSl v198) fun v199 =>
 bK (ltI v194 v199) fun v200 =>
 jK (fun v201 h202 =>
 bK (pickO v200 v201 (NV.bool false)) fun v204 =>
 condK v204 (
 joinC 3 (fun v205 v206 v207 h208 =>
 bK (addI v207 (NV.int .i64 (.ofNat 1))) fun v210 =>
 L196 v205 v206 v210 h208) fun J209 =>
 bK (fAddr 8 v192) fun v211 =>
 bK (ldO 1 false h202 v211) fun v212 =>
 bK (ixS 5 v212 v194) fun v213 =>
 bK (fAddr 3 v213) fun v214 =>
 bK (ldO 1 false h202 v214) fun v215 =>
 mK (calM call 9 [v215] h202) fun v216 h217 =>
 jK (fun v218 h219 =>
 jK (fun v221 h222 =>
 jK (fun v224 h225 =>
 jK (fun v227 h228 =>
 jK (fun v230 h231 =>
 jK (fun v233 h234 =>
 jK (fun v236 h237 =>
 jK (fun v239 h240 =>
 bK (pickO v216 v239 (NV.bool false)) fun v242 =>
 loopC N 4 (fun L248 v243 v244 v245 v246 h247 =>
 bK (fAddr 8 v243) fun v249 =>
 bK (ldO 1 false h247 v249) fun v250 =>
 bK (ixS 5 v250 v245) fun v251 =>
 bK (fAddr 4 v251) fun v252 =>
 bK (ldO 1 false h247 v252) fun v253 =>
 bK (lenSl v253) fun v254 =>
 bK (ltI v246 v254) fun v255 =>
 jK (fun v256 h257 =>
 bK (pickO v255 v256 (NV.bool false)) fun v259 =>
 condK v259 (
 bK (fAddr 8 v243) fun v260 =>
 bK (ldO 1 false h257 v260) fun v261 =>
 bK (ixS 5 v261 v245) fun v262 =>
 bK (fAddr 4 v262) fun v263 =>
 bK (ldO 1 false h257 v263) fun v264 =>
 bK (ixS 1 v264 v246) fun v265 =>
 bK (ldO 1 false h257 v265) fun v266 =>
 mK (calM call 9 [v266] h257) fun v267 h268 =>
 bK (addI v246 (NV.int .i64 (.ofNat 1))) fun v269 =>
 L248 v243 v267 v245 v269 h268) (
 J209 v243 v244 v245 h257)) fun J258 => gK v255 true (
 J258 v244 h247) (J258 (NV.tuple []) h247)) v192 v242 v194 (NV.int .i64 (.ofNat 0)) h240) fun J241 => gK v216 true (
 bK (leI v236 (NV.int .i64 (.ofNat 100))) fun v270 =>
 J241 v270 h237) (J241 (NV.tuple []) h237)) fun J238 => gK v216 true (
 bK (lenSl v233) fun v271 =>
 J238 v271 h234) (J238 (NV.tuple []) h234)) fun J235 => gK v216 true (
 bK (ldO 1 false h231 v230) fun v272 =>
 J235 v272 h231) (J235 (NV.tuple []) h231)) fun J232 => gK v216 true (
 bK (fAddr 4 v227) fun v273 =>
 J232 v273 h228) (J232 (NV.tuple []) h228)) fun J229 => gK v216 true (
 bK (ixS 5 v221 v224) fun v274 =>
 J229 v274 h225) (J229 (NV.tuple []) h225)) fun J226 => gK v216 true (
 J226 v194 h222) (J226 (NV.tuple []) h222)) fun J223 => gK v216 true (
 bK (ldO 1 false h219 v218) fun v275 =>
 J223 v275 h219) (J223 (NV.tuple []) h219)) fun J220 => gK v216 true (
 bK (fAddr 8 v192) fun v276 =>
 J220 v276 h217) (J220 (NV.tuple []) h217)) (
 J135 v192 v193 h202)) fun J203 => gK v200 true (
 J203 v193 h195) (J203 (NV.tuple []) h195)) v128 v129 (NV.int .i64 (.ofNat 0)) h130) fun J131 =>
 loopC N 3 (fun L281 v277 v278 v279 h280 =>
 bK (fAddr 5 v277) fun v282 =>
 bK (ldO 1 false h280 v282) fun v283 =>
 bK (lenSl v283) fun v284 =>
 bK (ltI v279 v284) fun v285 =>
 jK (fun v286 h287 =>
 bK (pickO v285 v286 (NV.bool false)) fun v289 =>
 condK v289 (
 bK (fAddr 5 v277) fun v290 =>
 bK (ldO 1 false h287 v290) fun v291 =>
 bK (ixS 3 v291 v279) fun v292 =>
 bK (fAddr 2 v292) fun v293 =>
 bK (ldO 1 false h287 v293) fun v294 =>
 mK (calM call 9 [v294] h287) fun v295 h296 =>
 bK (addI v279 (NV.int .i64 (.ofNat 1))) fun v297 =>
 L281 v277 v295 v297 h296) (
 J131 v277 v278 h287)) fun J288 => gK v285 true (
 J288 v278 h280) (J288 (NV.tuple []) h280)) v124 v125 (NV.int .i64 (.ofNat 0)) h126) fun J127 =>
 loopC N 3 (fun L302 v298 v299 v300 h301 =>
 bK (fAddr 2 v298) fun v303 =>
 bK (ldO 1 false h301 v303) fun v304 =>
 bK (lenSl v304) fun v305 =>
 bK (ltI v300 v305) fun v306 =>
 jK (fun v307 h308 =>
 bK (pickO v306 v307 (NV.bool false)) fun v310 =>
 condK v310 (
 bK (fAddr 2 v298) fun v311 =>
 bK (ldO 1 false h308 v311) fun v312 =>
 bK (ixS 3 v312 v300) fun v313 =>
 bK (fAddr 2 v313) fun v314 =>
 bK (ldO 1 false h308 v314) fun v315 =>
 mK (calM call 9 [v315] h308) fun v316 h317 =>
 jK (fun v318 h319 =>
 jK (fun v321 h322 =>
 jK (fun v324 h325 =>
 jK (fun v327 h328 =>
 jK (fun v330 h331 =>
 jK (fun v333 h334 =>
 jK (fun v336 h337 =>
 jK (fun v339 h340 =>
 bK (pickO v316 v339 (NV.bool false)) fun v342 =>
 bK (addI v300 (NV.int .i64 (.ofNat 1))) fun v343 =>
 L302 v298 v342 v343 h340) fun J341 => gK v316 true (
 bK (leI v336 (NV.int .i64 (.ofNat 60000))) fun v344 =>
 J341 v344 h337) (J341 (NV.tuple []) h337)) fun J338 => gK v316 true (
 bK (lenSl v333) fun v345 =>
 J338 v345 h334) (J338 (NV.tuple []) h334)) fun J335 => gK v316 true (
 bK (ldO 1 false h331 v330) fun v346 =>
 J335 v346 h331) (J335 (NV.tuple []) h331)) fun J332 => gK v316 true (
 bK (fAddr 1 v327) fun v347 =>
 J332 v347 h328) (J332 (NV.tuple []) h328)) fun J329 => gK v316 true (
 bK (ixS 3 v321 v324) fun v348 =>
 J329 v348 h325) (J329 (NV.tuple []) h325)) fun J326 => gK v316 true (
 J326 v300 h322) (J326 (NV.tuple []) h322)) fun J323 => gK v316 true (
 bK (ldO 1 false h319 v318) fun v349 =>
 J323 v349 h319) (J323 (NV.tuple []) h319)) fun J320 => gK v316 true (
 bK (fAddr 2 v298) fun v350 =>
 J320 v350 h317) (J320 (NV.tuple []) h317)) (
 J127 v298 v299 h308)) fun J309 => gK v306 true (
 J309 v299 h301) (J309 (NV.tuple []) h301)) v120 v121 (NV.int .i64 (.ofNat 0)) h122) fun J123 =>
 loopC N 3 (fun L355 v351 v352 v353 h354 =>
 bK (fAddr 6 v351) fun v356 =>
 bK (ldO 1 false h354 v356) fun v357 =>
 bK (lenSl v357) fun v358 =>
 bK (ltI v353 v358) fun v359 =>
 jK (fun v360 h361 =>
 bK (pickO v359 v360 (NV.bool false)) fun v363 =>
 condK v363 (
 bK (fAddr 6 v351) fun v364 =>
 bK (ldO 1 false h361 v364) fun v365 =>
 bK (ixS 3 v365 v353) fun v366 =>
 bK (fAddr 0 v366) fun v367 =>
 bK (ldO 1 false h361 v367) fun v368 =>
 bK (lenStr v368) fun v369 =>
 bK (leI v369 (NV.int .i64 (.ofNat 1000))) fun v370 =>
 bK (addI v353 (NV.int .i64 (.ofNat 1))) fun v371 =>
 L355 v351 v370 v371 h361) (
 J123 v351 v352 h361)) fun J362 => gK v359 true (
 J362 v352 h354) (J362 (NV.tuple []) h354)) v116 v117 (NV.int .i64 (.ofNat 0)) h118) fun J119 =>
 loopC N 3 (fun L376 v372 v373 v374 h375 =>
 bK (fAddr 1 v372) fun v377 =>
 bK (ldO 1 false h375 v377) fun v378 =>
 bK (lenSl v378) fun v379 =>
 bK (ltI v374 v379) fun v380 =>
 jK (fun v381 h382 =>
 bK (pickO v380 v381 (NV.bool false)) fun v384 =>
 condK v384 (
 bK (fAddr 1 v372) fun v385 =>
 bK (ldO 1 false h382 v385) fun v386 =>
 bK (ixS 13 v386 v374) fun v387 =>
 bK (fAddr 0 v387) fun v388 =>
 bK (ldO 1 false h382 v388) fun v389 =>
 bK (lenStr v389) fun v390 =>
 bK (leI v390 (NV.int .i64 (.ofNat 1000))) fun v391 =>
 jK (fun v392 h393 =>
 jK (fun v395 h396 =>
 jK (fun v398 h399 =>
 jK (fun v401 h402 =>
 jK (fun v404 h405 =>
 jK (fun v407 h408 =>
 jK (fun v410 h411 =>
 jK (fun v413 h414 =>
 bK (pickO v391 v413 (NV.bool false)) fun v416 =>
 bK (addI v374 (NV.int .i64 (.ofNat 1))) fun v417 =>
 L376 v372 v416 v417 h414) fun J415 => gK v391 true (
 bK (leI v410 (NV.int .i64 (.ofNat 1000))) fun v418 =>
 J415 v418 h411) (J415 (NV.tuple []) h411)) fun J412 => gK v391 true (
 bK (lenStr v407) fun v419 =>
 J412 v419 h408) (J412 (NV.tuple []) h408)) fun J409 => gK v391 true (
 bK (ldO 1 false h405 v404) fun v420 =>
 J409 v420 h405) (J409 (NV.tuple []) h405)) fun J406 => gK v391 true (
 bK (fAddr 1 v401) fun v421 =>
 J406 v421 h402) (J406 (NV.tuple []) h402)) fun J403 => gK v391 true (
 bK (ixS 13 v395 v398) fun v422 =>
 J403 v422 h399) (J403 (NV.tuple []) h399)) fun J400 => gK v391 true (
 J400 v374 h396) (J400 (NV.tuple []) h396)) fun J397 => gK v391 true (
 bK (ldO 1 false h393 v392) fun v423 =>
 J397 v423 h393) (J397 (NV.tuple []) h393)) fun J394 => gK v391 true (
 bK (fAddr 1 v372) fun v424 =>
 J394 v424 h382) (J394 (NV.tuple []) h382)) (
 J119 v372 v373 h382)) fun J383 => gK v380 true (
 J383 v373 h375) (J383 (NV.tuple []) h375)) v112 v113 (NV.int .i64 (.ofNat 0)) h114) fun J115 =>
 loopC N 3 (fun L429 v425 v426 v427 h428 =>
 bK (fAddr 0 v425) fun v430 =>
 bK (ldO 1 false h428 v430) fun v431 =>
 bK (lenSl v431) fun v432 =>
 bK (ltI v427 v432) fun v433 =>
 jK (fun v434 h435 =>
 bK (pickO v433 v434 (NV.bool false)) fun v437 =>
 condK v437 (
 bK (fAddr 0 v425) fun v438 =>
 bK (ldO 1 false h435 v438) fun v439 =>
 bK (ixS 2 v439 v427) fun v440 =>
 bK (fAddr 0 v440) fun v441 =>
 bK (ldO 1 false h435 v441) fun v442 =>
 bK (lenSl v442) fun v443 =>
 bK (leI v443 (NV.int .i64 (.ofNat 1000))) fun v444 =>
 jK (fun v445 h446 =>
 jK (fun v448 h449 =>
 jK (fun v451 h452 =>
 jK (fun v454 h455 =>
 jK (fun v457 h458 =>
 jK (fun v460 h461 =>
 jK (fun v463 h464 =>
 jK (fun v466 h467 =>
 bK (pickO v444 v466 (NV.bool false)) fun v469 =>
 bK (addI v427 (NV.int .i64 (.ofNat 1))) fun v470 =>
 L429 v425 v469 v470 h467) fun J468 => gK v444 true (
 bK (leI v463 (NV.int .i64 (.ofNat 1000))) fun v471 =>
 J468 v471 h464) (J468 (NV.tuple []) h464)) fun J465 => gK v444 true (
 bK (lenSl v460) fun v472 =>
 J465 v472 h461) (J465 (NV.tuple []) h461)) fun J462 => gK v444 true (
 bK (ldO 1 false h458 v457) fun v473 =>
 J462 v473 h458) (J462 (NV.tuple []) h458)) fun J459 => gK v444 true (
 bK (fAddr 1 v454) fun v474 =>
 J459 v474 h455) (J459 (NV.tuple []) h455)) fun J456 => gK v444 true (
 bK (ixS 2 v448 v451) fun v475 =>
 J456 v475 h452) (J456 (NV.tuple []) h452)) fun J453 => gK v444 true (
 J453 v427 h449) (J453 (NV.tuple []) h449)) fun J450 => gK v444 true (
 bK (ldO 1 false h446 v445) fun v476 =>
 J450 v476 h446) (J450 (NV.tuple []) h446)) fun J447 => gK v444 true (
 bK (fAddr 0 v425) fun v477 =>
 J447 v477 h435) (J447 (NV.tuple []) h435)) (
 J115 v425 v426 h435)) fun J436 => gK v433 true (
 J436 v426 h428) (J436 (NV.tuple []) h428)) v2 v111 (NV.int .i64 (.ofNat 0)) h109) fun J110 => gK v98 true (
 bK (leI v105 (NV.int .i64 (.ofNat 50))) fun v478 =>
 J110 v478 h106) (J110 (NV.tuple []) h106)) fun J107 => gK v98 true (
 bK (lenSl v102) fun v479 =>
 J107 v479 h103) (J107 (NV.tuple []) h103)) fun J104 => gK v98 true (
 bK (ldO 1 false h100 v99) fun v480 =>
 J104 v480 h100) (J104 (NV.tuple []) h100)) fun J101 => gK v98 true (
 bK (fAddr 9 v2) fun v481 =>
 J101 v481 h96) (J101 (NV.tuple []) h96)) fun J97 => gK v85 true (
 bK (leI v92 (NV.int .i64 (.ofNat 50))) fun v482 =>
 J97 v482 h93) (J97 (NV.tuple []) h93)) fun J94 => gK v85 true (
 bK (lenSl v89) fun v483 =>
 J94 v483 h90) (J94 (NV.tuple []) h90)) fun J91 => gK v85 true (
 bK (ldO 1 false h87 v86) fun v484 =>
 J91 v484 h87) (J91 (NV.tuple []) h87)) fun J88 => gK v85 true (
 bK (fAddr 8 v2) fun v485 =>
 J88 v485 h83) (J88 (NV.tuple []) h83)) fun J84 => gK v72 true (
 bK (leI v79 (NV.int .i64 (.ofNat 100))) fun v486 =>
 J84 v486 h80) (J84 (NV.tuple []) h80)) fun J81 => gK v72 true (
 bK (lenSl v76) fun v487 =>
 J81 v487 h77) (J81 (NV.tuple []) h77)) fun J78 => gK v72 true (
 bK (ldO 1 false h74 v73) fun v488 =>
 J78 v488 h74) (J78 (NV.tuple []) h74)) fun J75 => gK v72 true (
 bK (fAddr 6 v2) fun v489 =>
 J75 v489 h70) (J75 (NV.tuple []) h70)) fun J71 => gK v59 true (
 bK (leI v66 (NV.int .i64 (.ofNat 50))) fun v490 =>
 J71 v490 h67) (J71 (NV.tuple []) h67)) fun J68 => gK v59 true (
 bK (lenSl v63) fun v491 =>
 J68 v491 h64) (J68 (NV.tuple []) h64)) fun J65 => gK v59 true (
 bK (ldO 1 false h61 v60) fun v492 =>
 J65 v492 h61) (J65 (NV.tuple []) h61)) fun J62 => gK v59 true (
 bK (fAddr 5 v2) fun v493 =>
 J62 v493 h57) (J62 (NV.tuple []) h57)) fun J58 => gK v46 true (
 bK (leI v53 (NV.int .i64 (.ofNat 100))) fun v494 =>
 J58 v494 h54) (J58 (NV.tuple []) h54)) fun J55 => gK v46 true (
 bK (lenSl v50) fun v495 =>
 J55 v495 h51) (J55 (NV.tuple []) h51)) fun J52 => gK v46 true (
 bK (ldO 1 false h48 v47) fun v496 =>
 J52 v496 h48) (J52 (NV.tuple []) h48)) fun J49 => gK v46 true (
 bK (fAddr 4 v2) fun v497 =>
 J49 v497 h44) (J49 (NV.tuple []) h44)) fun J45 => gK v33 true (
 bK (leI v40 (NV.int .i64 (.ofNat 100))) fun v498 =>
 J45 v498 h41) (J45 (NV.tuple []) h41)) fun J42 => gK v33 true (
 bK (lenSl v37) fun v499 =>
 J42 v499 h38) (J42 (NV.tuple []) h38)) fun J39 => gK v33 true (
 bK (ldO 1 false h35 v34) fun v500 =>
 J39 v500 h35) (J39 (NV.tuple []) h35)) fun J36 => gK v33 true (
 bK (fAddr 3 v2) fun v501 =>
 J36 v501 h31) (J36 (NV.tuple []) h31)) fun J32 => gK v20 true (
 bK (leI v27 (NV.int .i64 (.ofNat 50))) fun v502 =>
 J32 v502 h28) (J32 (NV.tuple []) h28)) fun J29 => gK v20 true (
 bK (lenSl v24) fun v503 =>
 J29 v503 h25) (J29 (NV.tuple []) h25)) fun J26 => gK v20 true (
 bK (ldO 1 false h22 v21) fun v504 =>
 J26 v504 h22) (J26 (NV.tuple []) h22)) fun J23 => gK v20 true (
 bK (fAddr 2 v2) fun v505 =>
 J23 v505 h18) (J23 (NV.tuple []) h18)) fun J19 => gK v7 true (
 bK (leI v14 (NV.int .i64 (.ofNat 100))) fun v506 =>
 J19 v506 h15) (J19 (NV.tuple []) h15)) fun J16 => gK v7 true (
 bK (lenSl v11) fun v507 =>
 J16 v507 h12) (J16 (NV.tuple []) h12)) fun J13 => gK v7 true (
 bK (ldO 1 false h9 v8) fun v508 =>
 J13 v508 h9) (J13 (NV.tuple []) h9)) fun J10 => gK v7 true (
 bK (fAddr 1 v2) fun v509 =>
 J10 v509 h3) (J10 (NV.tuple []) h3))
theorem e5 : ikB Tryz.prog 9 Tryz.f5 = S5 := by kernel_rfl
theorem k5 [Sig] (w0 : World) : SOK cW w0 5 S5 := okW Tryz.func5 (by kernel_rfl) e5
noncomputable def S6 (call : CallF) (N : Nat) (l : List NV) (h : H) : R :=
 uc l fun v0 l1 => uc l1 fun v2 l3 => uc l3 fun v4 l5 => uc l5 fun v6 l7 => un l7 (
 mK (boxM false v2 h) fun v8 h9 =>
 mK (boxM false v6 h9) fun v10 h11 =>
 bK (eqD Tryz.prog .eql 40 h11 v0 NV.nilptr) fun v12 =>
 jK (fun v13 h14 =>
 jK (fun v16 h17 =>
 jK (fun v19 h20 =>
 bK (pickO v12 (NV.bool true) v19) fun v22 =>
 jK (fun v23 h24 =>
 jK (fun v26 h27 =>
 jK (fun v29 h30 =>
 bK (pickO v22 (NV.bool true) v29) fun v32 =>
 jK (fun v33 h34 =>
 jK (fun v36 h37 =>
 jK (fun v39 h40 =>
 bK (pickO v32 (NV.bool true) v39) fun v42 =>
 condK v42 (
 retC (NV.tuple [(NV.int .i64 (.ofNat 0)), (NV.int .i64 (.ofNat 0)), (NV.int .i64 (.ofNat 1))]) h40) (
 bK (ldO 11 true h40 v8) fun v43 =>
 mK (calM call 10 [v43] h40) fun v44 h45 =>
 bK (neI v44 (NV.int .i64 (.ofNat 0))) fun v46 =>
 condK v46 (
 retC (NV.tuple [(NV.int .i64 (.ofNat 0)), (NV.int .i64 (.ofNat 0)), v44]) h45) (
 bK (lenSl v4) fun v47 =>
 bK (fAddr 1 v8) fun v48 =>
 bK (ldO 1 false h45 v48) fun v49 =>
 bK (lenSl v49) fun v50 =>
 bK (neI v47 v50) fun v51 =>
 condK v51 (
 retC (NV.tuple [(NV.int .i64 (.ofNat 0)), (NV.int .i64 (.ofNat 0)), (NV.int .i64 (.ofNat 30))]) h45) (
 bK (lenSl v4) fun v52 =>
 joinC 4 (fun v53 v54 v55 v56 h57 =>
 bK (fAddr 3 v55) fun v59 =>
 bK (ldO 1 false h57 v59) fun v60 =>
 mK (calM call 14 [v60, (NV.func (.func 12) [] [])] h57) fun v61 h62 =>
 jK (fun v63 h64 =>
 jK (fun v66 h67 =>
 jK (fun v69 h70 =>
 jK (fun v72 h73 =>
 bK (pickO v61 (NV.bool true) v72) fun v75 =>
 condK v75 (
 retC (NV.tuple [(NV.int .i64 (.ofNat 0)), (NV.int .i64 (.ofNat 0)), (NV.int .i64 (.ofNat 65))]) h73) (
 bK (ldO 11 true h73 v55) fun v76 =>
 mK (calM call 16 [v76] h73) fun v77 h78 =>
 bK (bldO [] [NV.nslice, NV.nslice, NV.nslice, NV.nslice, NV.nslice, NV.nslice, NV.nslice, (NV.int .i64 (.ofNat 0)), NV.nslice, NV.nslice, (NV.bool false), NV.nslice, NV.nslice, NV.nslice, NV.nslice, NV.nslice, NV.nslice, NV.nslice] []) fun v79 =>
 mK (boxM false v79 h78) fun v80 h81 =>
 bK (bldO [(0, 1), (1, 11), (12, 1)] [NV.nilptr, NV.nslice, NV.nslice, NV.nslice, NV.nslice, NV.nslice, NV.nslice, NV.nslice, (NV.int .i64 (.ofNat 0)), NV.nslice, NV.nslice, (NV.bool false), NV.nilptr] [v53, v77, v80]) fun v82 =>
 mK (boxM false v82 h81) fun v83 h84 =>
 mK (calM call 17 [v83, v54] h84) fun v85 h86 =>
 mK (calM call 18 [v83] h86) fun v87 h88 =>
 bK (neI v87 (NV.int .i64 (.ofNat 0))) fun v89 =>
 condK v89 (
 retC (NV.tuple [(NV.int .i64 (.ofNat 0)), (NV.int .i64 (.ofNat 0)), v87]) h88) (
 bK (nilO v53) fun v90 =>
 bK (fAddr 6 v90) fun v91 =>
 bK (ldO 1 false h88 v91) fun v92 =>
 bK (lenSl v92) fun v93 =>
 bK (subI v93 (NV.int .i64 (.ofNat 1))) fun v94 =>
 bK (fAddr 7 v55) fun v95 =>
 bK (ldO 1 false h88 v95) fun v96 =>
 bK (eqI v96 (NV.int .i64 (.ofNat 0))) fun v97 =>
 condK v97 (
 retC (NV.tuple [v94, (NV.int .i64 (.ofNat 0)), (NV.int .i64 (.ofNat 0))]) h88) (
 bK (nilO v83) fun v98 =>
 bK (fAddr 12 v98) fun v99 =>
 bK (ldO 1 false h88 (chkV h88 v99)) fun v100 =>
 bK (nilO v100) fun v101 =>
 bK (fAddr 11 v101) fun v102 =>
 bK (ldO 1 false h88 (chkV h88 v102)) fun v103 =>
 bK (fAddr 7 v55) fun v104 =>
 bK (ldO 1 false h88 (chkV h88 v104)) fun v105 =>
 bK (subI v105 (NV.int .i64 (.ofNat 1))) fun v106 =>
 bK (ixS 1 v103 v106) fun v107 =>
 bK (ldO 1 false h88 (chkV h88 v107)) fun v108 =>
 bK (ldO 3 true h88 (chkV h88 v56)) fun v109 =>
 mK (calM call 19 [(chkV h88 v53), (chkV h88 v108), NV.nslice, (chkV h88 v109)] h88) fun v110 h111 =>
 nextK h88 h111 (
 bK (extO 0 v110) fun v112 =>
 bK (extO 1 v110) fun v113 =>
 bK (extO 2 v110) fun v114 =>
 bK (neI v114 (NV.int .i64 (.ofNat 0))) fun v115 =>
 condK v115 (
 retC (NV.tuple [(NV.int .i64 (.ofNat 0)), v113, v114]) h111) (
 retC (NV.tuple [v94, v113, (NV.int .i64 (.ofNat 0))]) h111)))))) fun J74 => gK v61 false (
 mK (calM call 15 [v66, v69] h70) fun v116 h117 =>
 J74 v116 h117) (J74 (NV.tuple []) h70)) fun J71 => gK v61 false (
 J71 (NV.func (.func 13) [] [v56]) h67) (J71 (NV.tuple []) h67)) fun J68 => gK v61 false (
 bK (ldO 1 false h64 v63) fun v118 =>
 J68 v118 h64) (J68 (NV.tuple []) h64)) fun J65 => gK v61 false (
 bK (fAddr 4 v55) fun v119 =>
 J65 v119 h62) (J65 (NV.tuple []) h62)) fun J58 =>
 loopC N 7 (fun L128 v120 v121 v122 v123 v124 v125 v126 h127 =>
 bK (ltI v126 v125) fun v129 =>
 condK v129 (
 bK (ixS 2 v124 v126) fun v130 =>
 bK (ldO 2 true h127 v130) fun v131 =>
 mK (alM (NB.cells [(NV.int .i64 (.ofNat 0)), (NV.int .i64 (.ofNat 0))]) h127) fun v132 h133 =>
 mK (stM 2 v132 v131 h133) fun v134 h135 =>
 bK (ldO 2 true h135 (chkV h135 v132)) fun v136 =>
 bK (fAddr 1 v122) fun v137 =>
 bK (ldO 1 false h135 (chkV h135 v137)) fun v138 =>
 bK (ixS 13 v138 v126) fun v139 =>
 bK (ldO 13 true h135 (chkV h135 v139)) fun v140 =>
 bK (ldO 11 true h135 (chkV h135 v122)) fun v141 =>
 mK (calM call 11 [(chkV h135 v120), (chkV h135 v136), (chkV h135 v140), (chkV h135 v141)] h135) fun v142 h143 =>
 nextK h135 h143 (
 bK (notO v142) fun v144 =>
 condK v144 (
 retC (NV.tuple [(NV.int .i64 (.ofNat 0)), (NV.int .i64 (.ofNat 0)), (NV.int .i64 (.ofNat 30))]) h143) (
 bK (addI v126 (NV.int .i64 (.ofNat 1))) fun v145 =>
 L128 v120 v121 v122 v123 v124 v125 v145 h143))) (
 J58 v120 v121 v122 v123 h127)) v0 v4 v8 v10 v4 v52 (NV.int .i64 (.ofNat 0)) h45)))) fun J41 => gK v32 false (
 bK (ltI v36 (NV.int .i64 (.ofNat 0))) fun v146 =>
 J41 v146 h37) (J41 (NV.tuple []) h37)) fun J38 => gK v32 false (
 bK (ldO 1 false h34 v33) fun v147 =>
 J38 v147 h34) (J38 (NV.tuple []) h34)) fun J35 => gK v32 false (
 bK (fAddr 2 v10) fun v148 =>
 J35 v148 h30) (J35 (NV.tuple []) h30)) fun J31 => gK v22 false (
 bK (ltI v26 (NV.int .i64 (.ofNat 0))) fun v149 =>
 J31 v149 h27) (J31 (NV.tuple []) h27)) fun J28 => gK v22 false (
 bK (ldO 1 false h24 v23) fun v150 =>
 J28 v150 h24) (J28 (NV.tuple []) h24)) fun J25 => gK v22 false (
 bK (fAddr 1 v10) fun v151 =>
 J25 v151 h20) (J25 (NV.tuple []) h20)) fun J21 => gK v12 false (
 bK (ltI v16 (NV.int .i64 (.ofNat 0))) fun v152 =>
 J21 v152 h17) (J21 (NV.tuple []) h17)) fun J18 => gK v12 false (
 bK (ldO 1 false h14 v13) fun v153 =>
 J18 v153 h14) (J18 (NV.tuple []) h14)) fun J15 => gK v12 false (
 bK (fAddr 0 v10) fun v154 =>
 J15 v154 h11) (J15 (NV.tuple []) h11))
theorem e6 : ikB Tryz.prog 9 Tryz.f6 = S6 := by kernel_rfl
theorem k6 [Sig] (w0 : World) : SOK cW w0 6 S6 := okW Tryz.func6 (by kernel_rfl) e6
noncomputable def S7 (call : CallF) (N : Nat) (l : List NV) (h : H) : R :=
 uc l fun v0 l1 => uc l1 fun v2 l3 => uc l3 fun v4 l5 => un l5 (
 mK (alM (NB.cells [(NV.int .i64 (.ofNat 0)), (NV.int .i64 (.ofNat 0))]) h) fun v6 h7 =>
 bK (eqD Tryz.prog .eql 40 h7 v0 NV.nilptr) fun v8 =>
 condK v8 (
 bK (bldO [] [(NV.int .i64 (.ofNat 0)), (NV.int .i64 (.ofNat 0))] []) fun v9 =>
 mK (stM 2 v6 v9 h7) fun v10 h11 =>
 bK (ldB 2 true h11 v6) fun v12 =>
 retC (NV.tuple [v12, (NV.bool false)]) h11) (
 bK (nilO v0) fun v13 =>
 bK (fAddr 6 v13) fun v14 =>
 bK (ldO 1 false h7 v14) fun v15 =>
 mK (calM call 20 [v15, v2] h7) fun v16 h17 =>
 bK (extO 0 v16) fun v18 =>
 bK (extO 1 v16) fun v19 =>
 bK (notO v19) fun v20 =>
 condK v20 (
 bK (bldO [] [(NV.int .i64 (.ofNat 0)), (NV.int .i64 (.ofNat 0))] []) fun v21 =>
 mK (stM 2 v6 v21 h17) fun v22 h23 =>
 bK (ldB 2 true h23 v6) fun v24 =>
 retC (NV.tuple [v24, (NV.bool false)]) h23) (
 bK (nilO v18) fun v25 =>
 bK (fAddr 17 v25) fun v26 =>
 bK (ldO 1 false h17 v26) fun v27 =>
 bK (lenSl v27) fun v28 =>
 joinC 1 (fun v29 h30 =>
 bK (bldO [] [(NV.int .i64 (.ofNat 0)), (NV.int .i64 (.ofNat 0))] []) fun v32 =>
 mK (stM 2 v29 v32 h30) fun v33 h34 =>
 bK (ldB 2 true h34 v29) fun v35 =>
 retC (NV.tuple [v35, (NV.bool false)]) h34) fun J31 =>
 loopC N 5 (fun L42 v36 v37 v38 v39 v40 h41 =>
 bK (ltI v40 v39) fun v43 =>
 condK v43 (
 bK (ixS 3 v38 v40) fun v44 =>
 bK (ldO 3 true h41 v44) fun v45 =>
 mK (alM (NB.cells [(NV.str 0 0), (NV.int .i64 (.ofNat 0)), (NV.int .i64 (.ofNat 0))]) h41) fun v46 h47 =>
 mK (stM 3 v46 v45 h47) fun v48 h49 =>
 bK (fAddr 0 v46) fun v50 =>
 bK (ldO 1 false h49 v50) fun v51 =>
 bK (binO .eql v51 v36) fun v52 =>
 condK v52 (
 bK (fAddr 1 v46) fun v53 =>
 bK (ldO 1 false h49 v53) fun v54 =>
 bK (fAddr 2 v46) fun v55 =>
 bK (ldO 1 false h49 v55) fun v56 =>
 bK (bldO [(0, 1), (1, 1)] [(NV.int .i64 (.ofNat 0)), (NV.int .i64 (.ofNat 0))] [v54, v56]) fun v57 =>
 mK (stM 2 v37 v57 h49) fun v58 h59 =>
 bK (ldB 2 true h59 v37) fun v60 =>
 retC (NV.tuple [v60, (NV.bool true)]) h59) (
 bK (addI v40 (NV.int .i64 (.ofNat 1))) fun v61 =>
 L42 v36 v37 v38 v39 v61 h49)) (
 J31 v37 h41)) v4 v6 v27 v28 (NV.int .i64 (.ofNat 0)) h17)))
theorem e7 : ikB Tryz.prog 9 Tryz.f7 = S7 := by kernel_rfl
theorem k7 [Sig] (w0 : World) : SOK cW w0 7 S7 := okW Tryz.func7 (by kernel_rfl) e7
noncomputable def S8 (call : CallF) (N : Nat) (l : List NV) (h : H) : R :=
 uc l fun v0 l1 => uc l1 fun v2 l3 => uc l3 fun v4 l5 => un l5 (
 mK (boxM false v2 h) fun v6 h7 =>
 bK (eqD Tryz.prog .eql 40 h7 v0 NV.nilptr) fun v8 =>
 condK v8 (
 retC (NV.int .i64 (.ofNat 0)) h7) (
 bK (fAddr 0 v6) fun v9 =>
 bK (ldO 1 false h7 (chkV h7 v9)) fun v10 =>
 bK (fAddr 1 v6) fun v11 =>
 bK (ldO 1 false h7 (chkV h7 v11)) fun v12 =>
 mK (calM call 21 [(chkV h7 v10)] h7) fun v13 h14 =>
 nextK h7 h14 (
 bK (ldO 1 false h14 (chkV h14 v11)) fun v15 =>
 sameK v15 v12 (
 mK (calM call 21 [(chkV h14 v12)] h14) fun v16 h17 =>
 nextK h14 h17 (
 bK (bldO [(0, 1), (1, 1)] [NV.nslice, NV.nslice] [v13, v16]) fun v18 =>
 mK (alM (NB.cells [NV.nslice, NV.nslice]) h17) fun v19 h20 =>
 mK (stM 2 (chkV h20 v19) (chkV h20 v18) h20) fun v21 h22 =>
 nextK h20 h22 (
 bK (nilO v0) fun v23 =>
 bK (fAddr 0 v23) fun v24 =>
 bK (ldO 1 false h22 (chkV h22 v24)) fun v25 =>
 bK (ldO 2 true h22 (chkV h22 v19)) fun v26 =>
 bK (foldMM true v4 [(NV.int .i64 (.ofNat 0))]) fun v27 =>
 bK (foldMM false v27 [(NV.int .i64 (.ofNat 1073741824))]) fun v28 =>
 bK (addI v28 (NV.int .i64 (.ofNat 1))) fun v29 =>
 bK (bldO [(0, 2), (4, 1)] [NV.nslice, NV.nslice, (NV.int .i64 (.ofNat 0)), (NV.int .i64 (.ofNat 0)), (NV.int .i64 (.ofNat 0))] [v26, v29]) fun v30 =>
 mK (bslM 1 false [(0, 5)] [NV.nslice, NV.nslice, (NV.int .i64 (.ofNat 0)), (NV.int .i64 (.ofNat 0)), (NV.int .i64 (.ofNat 0))] [(chkV h22 v30)] h22) fun v31 h32 =>
 mK (appM Tryz.prog 75 (chkV h32 v25) (chkV h32 v31) h32) fun v33 h34 =>
 nextK h32 h34 (
 bK (nilO v0) fun v35 =>
 bK (fAddr 0 v35) fun v36 =>
 mK (stM 1 (chkV h34 v36) (chkV h34 v33) h34) fun v37 h38 =>
 nextK h34 h38 (
 bK (nilO v0) fun v39 =>
 bK (fAddr 0 v39) fun v40 =>
 bK (ldO 1 false h38 v40) fun v41 =>
 bK (lenSl v41) fun v42 =>
 bK (subI v42 (NV.int .i64 (.ofNat 1))) fun v43 =>
 retC v43 h38))))))))
theorem e8 : ikB Tryz.prog 9 Tryz.f8 = S8 := by kernel_rfl
theorem k8 [Sig] (w0 : World) : SOK cW w0 8 S8 := okW Tryz.func8 (by kernel_rfl) e8
noncomputable def S9 (call : CallF) (N : Nat) (l : List NV) (h : H) : R :=
 uc l fun v0 l1 => un l1 (
 mK (calM call 22 [v0, (NV.int .i64 (.ofNat 0)), (NV.int .i64 (.ofNat 3000))] h) fun v2 h3 =>
 bK (geI v2 (NV.int .i64 (.ofNat 0))) fun v4 =>
 retC v4 h3)
theorem e9 : ikB Tryz.prog 9 Tryz.f9 = S9 := by kernel_rfl
theorem k9 [Sig] (w0 : World) : SOK cW w0 9 S9 := okW Tryz.func9 (by kernel_rfl) e9
noncomputable def S10 (call : CallF) (N : Nat) (l : List NV) (h : H) : R :=
 uc l fun v0 l1 => un l1 (
 mK (boxM false v0 h) fun v2 h3 =>
 bK (ldO 11 true h3 v2) fun v4 =>
 mK (calM call 23 [v4] h3) fun v5 h6 =>
 bK (notO v5) fun v7 =>
 condK v7 (
 retC (NV.int .i64 (.ofNat 1)) h6) (
 bK (ldO 11 true h6 v2) fun v8 =>
 mK (calM call 24 [v8] h6) fun v9 h10 =>
 mK (calM call 25 [v9] h10) fun v11 h12 =>
 bK (notO v11) fun v13 =>
 condK v13 (
 retC (NV.int .i64 (.ofNat 20)) h12) (
 retC (NV.int .i64 (.ofNat 0)) h12)))
theorem e10 : ikB Tryz.prog 9 Tryz.f10 = S10 := by kernel_rfl
theorem k10 [Sig] (w0 : World) : SOK cW w0 10 S10 := okW Tryz.func10 (by kernel_rfl) e10
noncomputable def S13 (call : CallF) (N : Nat) (l : List NV) (h : H) : R :=
 uc l fun v0 l1 => uc l1 fun v2 l3 => un l3 (
 mK (boxM false v0 h) fun v4 h5 =>
 bK (fAddr 0 v4) fun v6 =>
 bK (ldO 1 false h5 v6) fun v7 =>
 bK (fAddr 2 v2) fun v8 =>
 bK (ldO 1 false h5 v8) fun v9 =>
 bK (gtI v7 v9) fun v10 =>
 retC v10 h5)
theorem e13 : ikB Tryz.prog 9 Tryz.f13 = S13 := by kernel_rfl
theorem k13 [Sig] (w0 : World) : SOK cW w0 13 S13 := okW Tryz.func13 (by kernel_rfl) e13
noncomputable def S14 (call : CallF) (N : Nat) (l : List NV) (h : H) : R :=
 uc l fun v0 l1 => uc l1 fun v2 l3 => un l3 (
 mK (calM call 33 [v0, v2] h) fun v4 h5 =>
 bK (geI v4 (NV.int .i64 (.ofNat 0))) fun v6 =>
 retC v6 h5)
theorem e14 : ikB Tryz.prog 9 Tryz.f14 = S14 := by kernel_rfl
theorem k14 [Sig] (w0 : World) : SOK cW w0 14 S14 := okW Tryz.func14 (by kernel_rfl) e14
noncomputable def S15 (call : CallF) (N : Nat) (l : List NV) (h : H) : R :=
 uc l fun v0 l1 => uc l1 fun v2 l3 => un l3 (
 mK (calM call 34 [v0, v2] h) fun v4 h5 =>
 bK (geI v4 (NV.int .i64 (.ofNat 0))) fun v6 =>
 retC v6 h5)
theorem e15 : ikB Tryz.prog 9 Tryz.f15 = S15 := by kernel_rfl
theorem k15 [Sig] (w0 : World) : SOK cW w0 15 S15 := okW Tryz.func15 (by kernel_rfl) e15
noncomputable def S16 (call : CallF) (N : Nat) (l : List NV) (h : H) : R :=
 uc l fun v0 l1 => un l1 (
 mK (boxM false v0 h) fun v2 h3 =>
 mK (alM (NB.cells [NV.nslice, NV.nslice, NV.nslice, NV.nslice, NV.nslice, NV.nslice, NV.nslice, (NV.int .i64 (.ofNat 0)), NV.nslice, NV.nslice, (NV.bool false)]) h3) fun v4 h5 =>
 bK (fAddr 0 v2) fun v6 =>
 bK (ldO 1 false h5 (chkV h5 v6)) fun v7 =>
 bK (fAddr 1 v2) fun v8 =>
 bK (ldO 1 false h5 (chkV h5 v8)) fun v9 =>
 bK (fAddr 2 v2) fun v10 =>
 bK (ldO 1 false h5 (chkV h5 v10)) fun v11 =>
 bK (fAddr 3 v2) fun v12 =>
 bK (ldO 1 false h5 (chkV h5 v12)) fun v13 =>
 bK (fAddr 4 v2) fun v14 =>
 bK (ldO 1 false h5 (chkV h5 v14)) fun v15 =>
 mK (calM call 35 [(chkV h5 v7)] h5) fun v16 h17 =>
 nextK h5 h17 (
 bK (fAddr 0 v2) fun v18 =>
 bK (ldO 1 false h17 (chkV h17 v8)) fun v19 =>
 sameK v19 v9 (
 bK (ldO 1 false h17 (chkV h17 v10)) fun v20 =>
 sameK v20 v11 (
 bK (ldO 1 false h17 (chkV h17 v12)) fun v21 =>
 sameK v21 v13 (
 bK (ldO 1 false h17 (chkV h17 v14)) fun v22 =>
 sameK v22 v15 (
 mK (calM call 36 [(chkV h17 v9)] h17) fun v23 h24 =>
 nextK h17 h24 (
 bK (ldO 1 false h24 (chkV h24 v10)) fun v25 =>
 sameK v25 v11 (
 bK (ldO 1 false h24 (chkV h24 v12)) fun v26 =>
 sameK v26 v13 (
 bK (ldO 1 false h24 (chkV h24 v14)) fun v27 =>
 sameK v27 v15 (
 mK (calM call 37 [(chkV h24 v11)] h24) fun v28 h29 =>
 nextK h24 h29 (
 bK (ldO 1 false h29 (chkV h29 v12)) fun v30 =>
 sameK v30 v13 (
 bK (ldO 1 false h29 (chkV h29 v14)) fun v31 =>
 sameK v31 v15 (
 mK (calM call 38 [(chkV h29 v13)] h29) fun v32 h33 =>
 nextK h29 h33 (
 bK (ldO 1 false h33 (chkV h33 v14)) fun v34 =>
 sameK v34 v15 (
 mK (calM call 39 [(chkV h33 v15)] h33) fun v35 h36 =>
 nextK h33 h36 (
 mK (stM 1 (chkV h36 v18) (chkV h36 v16) h36) fun v37 h38 =>
 nextK h36 h38 (
 bK (fAddr 1 v2) fun v39 =>
 mK (stM 1 (chkV h38 v39) (chkV h38 v23) h38) fun v40 h41 =>
 nextK h38 h41 (
 bK (fAddr 2 v2) fun v42 =>
 mK (stM 1 (chkV h41 v42) (chkV h41 v28) h41) fun v43 h44 =>
 nextK h41 h44 (
 bK (fAddr 3 v2) fun v45 =>
 mK (stM 1 (chkV h44 v45) (chkV h44 v32) h44) fun v46 h47 =>
 nextK h44 h47 (
 bK (fAddr 4 v2) fun v48 =>
 mK (stM 1 (chkV h47 v48) (chkV h47 v35) h47) fun v49 h50 =>
 nextK h47 h50 (
 bK (fAddr 5 v2) fun v51 =>
 bK (ldO 1 false h50 (chkV h50 v51)) fun v52 =>
 bK (fAddr 6 v2) fun v53 =>
 bK (ldO 1 false h50 (chkV h50 v53)) fun v54 =>
 bK (fAddr 8 v2) fun v55 =>
 bK (ldO 1 false h50 (chkV h50 v55)) fun v56 =>
 bK (fAddr 9 v2) fun v57 =>
 bK (ldO 1 false h50 (chkV h50 v57)) fun v58 =>
 mK (calM call 40 [(chkV h50 v52)] h50) fun v59 h60 =>
 nextK h50 h60 (
 bK (fAddr 5 v2) fun v61 =>
 bK (ldO 1 false h60 (chkV h60 v53)) fun v62 =>
 sameK v62 v54 (
 bK (ldO 1 false h60 (chkV h60 v55)) fun v63 =>
 sameK v63 v56 (
 bK (ldO 1 false h60 (chkV h60 v57)) fun v64 =>
 sameK v64 v58 (
 mK (calM call 41 [(chkV h60 v54)] h60) fun v65 h66 =>
 nextK h60 h66 (
 bK (ldO 1 false h66 (chkV h66 v55)) fun v67 =>
 sameK v67 v56 (
 bK (ldO 1 false h66 (chkV h66 v57)) fun v68 =>
 sameK v68 v58 (
 mK (calM call 42 [(chkV h66 v56)] h66) fun v69 h70 =>
 nextK h66 h70 (
 bK (ldO 1 false h70 (chkV h70 v57)) fun v71 =>
 sameK v71 v58 (
 mK (calM call 43 [(chkV h70 v58)] h70) fun v72 h73 =>
 nextK h70 h73 (
 mK (stM 1 (chkV h73 v61) (chkV h73 v59) h73) fun v74 h75 =>
 nextK h73 h75 (
 bK (fAddr 6 v2) fun v76 =>
 mK (stM 1 (chkV h75 v76) (chkV h75 v65) h75) fun v77 h78 =>
 nextK h75 h78 (
 bK (fAddr 8 v2) fun v79 =>
 mK (stM 1 (chkV h78 v79) (chkV h78 v69) h78) fun v80 h81 =>
 nextK h78 h81 (
 bK (fAddr 9 v2) fun v82 =>
 mK (stM 1 (chkV h81 v82) (chkV h81 v72) h81) fun v83 h84 =>
 nextK h81 h84 (
 bK (fAddr 0 v2) fun v85 =>
 bK (ldO 1 false h84 v85) fun v86 =>
 bK (lenSl v86) fun v87 =>
 joinC 2 (fun v88 v89 h90 =>
 bK (fAddr 2 v88) fun v92 =>
 bK (ldO 1 false h90 v92) fun v93 =>
 bK (lenSl v93) fun v94 =>
 joinC 2 (fun v95 v96 h97 =>
 bK (fAddr 5 v95) fun v99 =>
 bK (ldO 1 false h97 v99) fun v100 =>
 bK (lenSl v100) fun v101 =>
 joinC 2 (fun v102 v103 h104 =>
 bK (fAddr 8 v102) fun v106 =>
 bK (ldO 1 false h104 v106) fun v107 =>
 bK (lenSl v107) fun v108 =>
 joinC 2 (fun v109 v110 h111 =>
 bK (fAddr 9 v109) fun v113 =>
 bK (ldO 1 false h111 v113) fun v114 =>
 bK (lenSl v114) fun v115 =>
 joinC 2 (fun v116 v117 h118 =>
 bK (ldO 11 true h118 v116) fun v120 =>
 mK (stM 11 v117 v120 h118) fun v121 h122 =>
 bK (ldB 11 true h122 v117) fun v123 =>
 retC v123 h122) fun J119 =>
 loopC N 4 (fun L129 v124 v125 v126 v127 h128 =>
 bK (ltI v127 v126) fun v130 =>
 condK v130 (
 bK (fAddr 9 v124) fun v131 =>
 bK (ldO 1 false h128 v131) fun v132 =>
 bK (ixS 4 v132 v127) fun v133 =>
 bK (nilO v133) fun v134 =>
 bK (fAddr 2 v134) fun v135 =>
 bK (ldO 1 false h128 (chkV h128 v135)) fun v136 =>
 bK (nilO v133) fun v137 =>
 bK (fAddr 3 v137) fun v138 =>
 bK (ldO 1 false h128 (chkV h128 v138)) fun v139 =>
 mK (calM call 44 [(chkV h128 v136)] h128) fun v140 h141 =>
 nextK h128 h141 (
 bK (ldO 1 false h141 (chkV h141 v138)) fun v142 =>
 sameK v142 v139 (
 mK (calM call 46 [(chkV h141 v139)] h141) fun v143 h144 =>
 nextK h141 h144 (
 bK (nilO v133) fun v145 =>
 bK (fAddr 2 v145) fun v146 =>
 mK (stM 1 (chkV h144 v146) (chkV h144 v140) h144) fun v147 h148 =>
 nextK h144 h148 (
 bK (nilO v133) fun v149 =>
 bK (fAddr 3 v149) fun v150 =>
 mK (stM 1 (chkV h148 v150) (chkV h148 v143) h148) fun v151 h152 =>
 nextK h148 h152 (
 bK (addI v127 (NV.int .i64 (.ofNat 1))) fun v153 =>
 L129 v124 v125 v126 v153 h152)))))) (
 J119 v124 v125 h128)) v109 v110 v115 (NV.int .i64 (.ofNat 0)) h111) fun J112 =>
 loopC N 4 (fun L159 v154 v155 v156 v157 h158 =>
 bK (ltI v157 v156) fun v160 =>
 condK v160 (
 joinC 4 (fun v161 v162 v163 v164 h165 =>
 bK (addI v164 (NV.int .i64 (.ofNat 1))) fun v167 =>
 L159 v161 v162 v163 v167 h165) fun J166 =>
 bK (fAddr 8 v154) fun v168 =>
 bK (ldO 1 false h158 v168) fun v169 =>
 bK (ixS 5 v169 v157) fun v170 =>
 bK (nilO v170) fun v171 =>
 bK (fAddr 3 v171) fun v172 =>
 bK (ldO 1 false h158 (chkV h158 v172)) fun v173 =>
 bK (nilO v170) fun v174 =>
 bK (fAddr 4 v174) fun v175 =>
 bK (ldO 1 false h158 (chkV h158 v175)) fun v176 =>
 mK (calM call 44 [(chkV h158 v173)] h158) fun v177 h178 =>
 nextK h158 h178 (
 bK (ldO 1 false h178 (chkV h178 v175)) fun v179 =>
 sameK v179 v176 (
 mK (calM call 45 [(chkV h178 v176)] h178) fun v180 h181 =>
 nextK h178 h181 (
 bK (nilO v170) fun v182 =>
 bK (fAddr 3 v182) fun v183 =>
 mK (stM 1 (chkV h181 v183) (chkV h181 v177) h181) fun v184 h185 =>
 nextK h181 h185 (
 bK (nilO v170) fun v186 =>
 bK (fAddr 4 v186) fun v187 =>
 mK (stM 1 (chkV h185 v187) (chkV h185 v180) h185) fun v188 h189 =>
 nextK h185 h189 (
 bK (nilO v170) fun v190 =>
 bK (fAddr 4 v190) fun v191 =>
 bK (ldO 1 false h189 v191) fun v192 =>
 bK (lenSl v192) fun v193 =>
 loopC N 8 (fun L203 v194 v195 v196 v197 v198 v199 v200 v201 h202 =>
 bK (ltI v201 v200) fun v204 =>
 condK v204 (
 bK (ixS 1 v199 v201) fun v205 =>
 bK (ldO 1 false h202 v205) fun v206 =>
 bK (nilO v196) fun v207 =>
 bK (fAddr 4 v207) fun v208 =>
 bK (ldO 1 false h202 (chkV h202 v208)) fun v209 =>
 mK (calM call 44 [(chkV h202 v206)] h202) fun v210 h211 =>
 nextK h202 h211 (
 bK (ixS 1 v209 v201) fun v212 =>
 bK (ldO 1 false h211 (chkV h211 v208)) fun v213 =>
 sameK v213 v209 (
 mK (stM 1 (chkV h211 v212) (chkV h211 v210) h211) fun v214 h215 =>
 nextK h211 h215 (
 bK (addI v201 (NV.int .i64 (.ofNat 1))) fun v216 =>
 L203 v194 v195 v196 v197 v198 v199 v200 v216 h215)))) (
 J166 v194 v195 v197 v198 h202)) v154 v155 v170 v156 v157 v192 v193 (NV.int .i64 (.ofNat 0)) h189)))))) (
 J112 v154 v155 h158)) v102 v103 v108 (NV.int .i64 (.ofNat 0)) h104) fun J105 =>
 loopC N 5 (fun L223 v217 v218 v219 v220 v221 h222 =>
 bK (ltI v221 v220) fun v224 =>
 condK v224 (
 bK (ixS 3 v219 v221) fun v225 =>
 bK (ldO 3 true h222 v225) fun v226 =>
 mK (alM (NB.cells [(NV.int .i64 (.ofNat 0)), (NV.bool false), NV.nslice]) h222) fun v227 h228 =>
 mK (stM 3 v227 v226 h228) fun v229 h230 =>
 bK (fAddr 5 v217) fun v231 =>
 bK (ldO 1 false h230 (chkV h230 v231)) fun v232 =>
 bK (fAddr 2 v227) fun v233 =>
 bK (ldO 1 false h230 (chkV h230 v233)) fun v234 =>
 mK (calM call 44 [(chkV h230 v234)] h230) fun v235 h236 =>
 nextK h230 h236 (
 bK (ixS 3 v232 v221) fun v237 =>
 bK (fAddr 2 v237) fun v238 =>
 bK (ldO 1 false h236 (chkV h236 v231)) fun v239 =>
 sameK v239 v232 (
 mK (stM 1 (chkV h236 v238) (chkV h236 v235) h236) fun v240 h241 =>
 nextK h236 h241 (
 bK (addI v221 (NV.int .i64 (.ofNat 1))) fun v242 =>
 L223 v217 v218 v219 v220 v242 h241)))) (
 J105 v217 v218 h222)) v95 v96 v100 v101 (NV.int .i64 (.ofNat 0)) h97) fun J98 =>
 loopC N 5 (fun L249 v243 v244 v245 v246 v247 h248 =>
 bK (ltI v247 v246) fun v250 =>
 condK v250 (
 bK (ixS 3 v245 v247) fun v251 =>
 bK (ldO 3 true h248 v251) fun v252 =>
 mK (alM (NB.cells [(NV.int .i64 (.ofNat 0)), NV.nslice, NV.nslice]) h248) fun v253 h254 =>
 mK (stM 3 v253 v252 h254) fun v255 h256 =>
 bK (fAddr 2 v243) fun v257 =>
 bK (ldO 1 false h256 (chkV h256 v257)) fun v258 =>
 bK (fAddr 0 v253) fun v259 =>
 bK (ldO 1 false h256 (chkV h256 v259)) fun v260 =>
 bK (fAddr 1 v253) fun v261 =>
 bK (ldO 1 false h256 (chkV h256 v261)) fun v262 =>
 bK (fAddr 2 v253) fun v263 =>
 bK (ldO 1 false h256 (chkV h256 v263)) fun v264 =>
 mK (calM call 21 [(chkV h256 v262)] h256) fun v265 h266 =>
 nextK h256 h266 (
 bK (ldO 1 false h266 (chkV h266 v257)) fun v267 =>
 sameK v267 v258 (
 bK (ldO 1 false h266 (chkV h266 v259)) fun v268 =>
 sameK v268 v260 (
 bK (ldO 1 false h266 (chkV h266 v263)) fun v269 =>
 sameK v269 v264 (
 mK (calM call 44 [(chkV h266 v264)] h266) fun v270 h271 =>
 nextK h266 h271 (
 bK (bldO [(0, 1), (1, 1), (2, 1)] [(NV.int .i64 (.ofNat 0)), NV.nslice, NV.nslice] [v260, v265, v270]) fun v272 =>
 bK (ixS 3 v258 v247) fun v273 =>
 bK (ldO 1 false h271 (chkV h271 v257)) fun v274 =>
 sameK v274 v258 (
 bK (ldO 1 false h271 (chkV h271 v259)) fun v275 =>
 sameK v275 v260 (
 mK (stM 3 (chkV h271 v273) (chkV h271 v272) h271) fun v276 h277 =>
 nextK h271 h277 (
 bK (addI v247 (NV.int .i64 (.ofNat 1))) fun v278 =>
 L249 v243 v244 v245 v246 v278 h277))))))))) (
 J98 v243 v244 h248)) v88 v89 v93 v94 (NV.int .i64 (.ofNat 0)) h90) fun J91 =>
 loopC N 5 (fun L285 v279 v280 v281 v282 v283 h284 =>
 bK (ltI v283 v282) fun v286 =>
 condK v286 (
 bK (ixS 2 v281 v283) fun v287 =>
 bK (ldO 2 true h284 v287) fun v288 =>
 mK (alM (NB.cells [NV.nslice, NV.nslice]) h284) fun v289 h290 =>
 mK (stM 2 v289 v288 h290) fun v291 h292 =>
 bK (fAddr 0 v279) fun v293 =>
 bK (ldO 1 false h292 (chkV h292 v293)) fun v294 =>
 bK (fAddr 0 v289) fun v295 =>
 bK (ldO 1 false h292 (chkV h292 v295)) fun v296 =>
 bK (fAddr 1 v289) fun v297 =>
 bK (ldO 1 false h292 (chkV h292 v297)) fun v298 =>
 mK (calM call 21 [(chkV h292 v296)] h292) fun v299 h300 =>
 nextK h292 h300 (
 bK (ldO 1 false h300 (chkV h300 v293)) fun v301 =>
 sameK v301 v294 (
 bK (ldO 1 false h300 (chkV h300 v297)) fun v302 =>
 sameK v302 v298 (
 mK (calM call 21 [(chkV h300 v298)] h300) fun v303 h304 =>
 nextK h300 h304 (
 bK (bldO [(0, 1), (1, 1)] [NV.nslice, NV.nslice] [v299, v303]) fun v305 =>
 bK (ixS 2 v294 v283) fun v306 =>
 bK (ldO 1 false h304 (chkV h304 v293)) fun v307 =>
 sameK v307 v294 (
 mK (stM 2 (chkV h304 v306) (chkV h304 v305) h304) fun v308 h309 =>
 nextK h304 h309 (
 bK (addI v283 (NV.int .i64 (.ofNat 1))) fun v310 =>
 L285 v279 v280 v281 v282 v310 h309))))))) (
 J91 v279 v280 h284)) v2 v4 v86 v87 (NV.int .i64 (.ofNat 0)) h84)))))))))))))))))))))))))))))))))))
theorem e16 : ikB Tryz.prog 9 Tryz.f16 = S16 := by kernel_rfl
theorem k16 [Sig] (w0 : World) : SOK cW w0 16 S16 := okW Tryz.func16 (by kernel_rfl) e16
noncomputable def S17 (call : CallF) (N : Nat) (l : List NV) (h : H) : R :=
 uc l fun v0 l1 => uc l1 fun v2 l3 => un l3 (
 bK (nilO v0) fun v4 =>
 bK (fAddr 0 v4) fun v5 =>
 bK (ldO 1 false h (chkV h v5)) fun v6 =>
 bK (nilO v0) fun v7 =>
 bK (fAddr 1 v7) fun v8 =>
 bK (ldO 11 true h (chkV h v8)) fun v9 =>
 bK (nilO v0) fun v10 =>
 bK (fAddr 12 v10) fun v11 =>
 bK (ldO 1 false h (chkV h v11)) fun v12 =>
 mK (alM (NB.cells [NV.nslice, NV.nslice, NV.nslice, NV.nslice, NV.nslice, NV.nslice, NV.nslice, (NV.int .i64 (.ofNat 0)), NV.nslice, NV.nslice, (NV.bool false)]) h) fun v13 h14 =>
 mK (stM 11 (chkV h14 v13) (chkV h14 v9) h14) fun v15 h16 =>
 nextK h14 h16 (
 bK (ldO 1 false h16 (chkV h16 v11)) fun v17 =>
 sameK v17 v12 (
 bK (ldO 11 true h16 v13) fun v18 =>
 bK (nilO v12) fun v19 =>
 bK (fAddr 0 v19) fun v20 =>
 mK (stM 11 v20 v18 h16) fun v21 h22 =>
 bK (lenSl v2) fun v23 =>
 joinC 4 (fun v24 v25 v26 v27 h28 =>
 bK (fAddr 2 v26) fun v30 =>
 bK (ldO 1 false h28 v30) fun v31 =>
 bK (lenSl v31) fun v32 =>
 joinC 4 (fun v33 v34 v35 v36 h37 =>
 bK (fAddr 3 v35) fun v39 =>
 bK (ldO 1 false h37 v39) fun v40 =>
 bK (lenSl v40) fun v41 =>
 joinC 4 (fun v42 v43 v44 v45 h46 =>
 bK (fAddr 4 v44) fun v48 =>
 bK (ldO 1 false h46 v48) fun v49 =>
 bK (lenSl v49) fun v50 =>
 joinC 4 (fun v51 v52 v53 v54 h55 =>
 bK (fAddr 5 v53) fun v57 =>
 bK (ldO 1 false h55 v57) fun v58 =>
 bK (lenSl v58) fun v59 =>
 joinC 4 (fun v60 v61 v62 v63 h64 =>
 bK (fAddr 8 v62) fun v66 =>
 bK (ldO 1 false h64 v66) fun v67 =>
 bK (lenSl v67) fun v68 =>
 joinC 3 (fun v69 v70 v71 h72 =>
 bK (fAddr 9 v70) fun v74 =>
 bK (ldO 1 false h72 v74) fun v75 =>
 bK (lenSl v75) fun v76 =>
 joinC 3 (fun v77 v78 v79 h80 =>
 bK (nilO v79) fun v82 =>
 bK (fAddr 11 v82) fun v83 =>
 bK (ldO 1 false h80 (chkV h80 v83)) fun v84 =>
 bK (nilO v79) fun v85 =>
 bK (fAddr 12 v85) fun v86 =>
 bK (ldO 1 false h80 (chkV h80 v86)) fun v87 =>
 bK (nilO v79) fun v88 =>
 bK (fAddr 13 v88) fun v89 =>
 bK (ldO 1 false h80 (chkV h80 v89)) fun v90 =>
 bK (nilO v79) fun v91 =>
 bK (fAddr 14 v91) fun v92 =>
 bK (ldO 1 false h80 (chkV h80 v92)) fun v93 =>
 bK (bldO [(0, 1), (1, 1), (2, 1), (3, 1)] [NV.nslice, NV.nslice, NV.nslice, NV.nslice] [v84, v87, v90, v93]) fun v94 =>
 mK (alM (NB.cells [NV.nslice, NV.nslice, NV.nslice, NV.nslice]) h80) fun v95 h96 =>
 mK (stM 4 (chkV h96 v95) (chkV h96 v94) h96) fun v97 h98 =>
 nextK h96 h98 (
 bK (fAddr 6 v78) fun v99 =>
 bK (ldO 1 false h98 v99) fun v100 =>
 bK (lenSl v100) fun v101 =>
 joinC 2 (fun v102 v103 h104 =>
 bK (nilO v102) fun v106 =>
 bK (fAddr 6 v106) fun v107 =>
 bK (ldO 1 false h104 v107) fun v108 =>
 mK (bslM 1 false [(0, 1)] [NV.nilptr] [v103] h104) fun v109 h110 =>
 mK (appM Tryz.prog 99 v108 v109 h110) fun v111 h112 =>
 bK (nilO v102) fun v113 =>
 bK (fAddr 6 v113) fun v114 =>
 mK (stM 1 v114 v111 h112) fun v115 h116 =>
 retC (NV.tuple []) h116) fun J105 =>
 loopC N 6 (fun L124 v117 v118 v119 v120 v121 v122 h123 =>
 bK (ltI v122 v121) fun v125 =>
 condK v125 (
 bK (ixS 3 v120 v122) fun v126 =>
 bK (ldO 3 true h123 v126) fun v127 =>
 mK (alM (NB.cells [(NV.str 0 0), (NV.int .i64 (.ofNat 0)), (NV.int .i64 (.ofNat 0))]) h123) fun v128 h129 =>
 mK (stM 3 v128 v127 h129) fun v130 h131 =>
 bK (nilO v118) fun v132 =>
 bK (fAddr 17 v132) fun v133 =>
 bK (ldO 1 false h131 (chkV h131 v133)) fun v134 =>
 bK (fAddr 0 v128) fun v135 =>
 bK (ldO 1 false h131 (chkV h131 v135)) fun v136 =>
 bK (fAddr 1 v128) fun v137 =>
 bK (ldO 1 false h131 (chkV h131 v137)) fun v138 =>
 bK (fAddr 1 v128) fun v139 =>
 bK (ldO 1 false h131 (chkV h131 v139)) fun v140 =>
 bK (ixA 4 1 v119 v140) fun v141 =>
 bK (ldO 1 false h131 (chkV h131 v141)) fun v142 =>
 bK (fAddr 2 v128) fun v143 =>
 bK (ldO 1 false h131 (chkV h131 v143)) fun v144 =>
 bK (ixS 1 v142 v144) fun v145 =>
 bK (ldO 1 false h131 (chkV h131 v145)) fun v146 =>
 bK (bldO [(0, 1), (1, 1), (2, 1)] [(NV.str 0 0), (NV.int .i64 (.ofNat 0)), (NV.int .i64 (.ofNat 0))] [v136, v138, v146]) fun v147 =>
 mK (bslM 1 false [(0, 3)] [(NV.str 0 0), (NV.int .i64 (.ofNat 0)), (NV.int .i64 (.ofNat 0))] [(chkV h131 v147)] h131) fun v148 h149 =>
 mK (appM Tryz.prog 113 (chkV h149 v134) (chkV h149 v148) h149) fun v150 h151 =>
 nextK h149 h151 (
 bK (nilO v118) fun v152 =>
 bK (fAddr 17 v152) fun v153 =>
 mK (stM 1 (chkV h151 v153) (chkV h151 v150) h151) fun v154 h155 =>
 nextK h151 h155 (
 bK (addI v122 (NV.int .i64 (.ofNat 1))) fun v156 =>
 L124 v117 v118 v119 v120 v121 v156 h155))) (
 J105 v117 v118 h123)) v77 v79 v95 v100 v101 (NV.int .i64 (.ofNat 0)) h98)) fun J81 =>
 loopC N 6 (fun L164 v157 v158 v159 v160 v161 v162 h163 =>
 bK (ltI v162 v161) fun v165 =>
 condK v165 (
 bK (ixS 4 v160 v162) fun v166 =>
 bK (ldO 4 true h163 v166) fun v167 =>
 mK (alM (NB.cells [(NV.int .i64 (.ofNat 0)), (NV.int .i64 (.ofNat 0)), NV.nslice, NV.nslice]) h163) fun v168 h169 =>
 mK (stM 4 v168 v167 h169) fun v170 h171 =>
 bK (nilO v157) fun v172 =>
 bK (fAddr 5 v172) fun v173 =>
 bK (nilO v159) fun v174 =>
 bK (fAddr 16 v174) fun v175 =>
 bK (fAddr 3 v168) fun v176 =>
 bK (ldO 1 false h171 (chkV h171 v176)) fun v177 =>
 mK (calM call 46 [(chkV h171 v177)] h171) fun v178 h179 =>
 nextK h171 h179 (
 mK (calM call 55 [(chkV h179 v173), (chkV h179 v175), (chkV h179 v178)] h179) fun v180 h181 =>
 nextK h179 h181 (
 bK (addI v162 (NV.int .i64 (.ofNat 1))) fun v182 =>
 L164 v157 v158 v159 v160 v161 v182 h181))) (
 J81 v157 v158 v159 h163)) v69 v70 v71 v75 v76 (NV.int .i64 (.ofNat 0)) h72) fun J73 =>
 loopC N 7 (fun L191 v183 v184 v185 v186 v187 v188 v189 h190 =>
 bK (ltI v189 v188) fun v192 =>
 condK v192 (
 joinC 7 (fun v193 v194 v195 v196 v197 v198 v199 h200 =>
 bK (addI v199 (NV.int .i64 (.ofNat 1))) fun v202 =>
 L191 v193 v194 v195 v196 v197 v198 v202 h200) fun J201 =>
 bK (ixS 5 v187 v189) fun v203 =>
 bK (ldO 5 true h190 v203) fun v204 =>
 mK (alM (NB.cells [(NV.int .i64 (.ofNat 0)), (NV.int .i64 (.ofNat 0)), (NV.int .i64 (.ofNat 0)), NV.nslice, NV.nslice]) h190) fun v205 h206 =>
 mK (stM 5 v205 v204 h206) fun v207 h208 =>
 bK (fAddr 4 v205) fun v209 =>
 bK (ldO 1 false h208 v209) fun v210 =>
 bK (lenSl v210) fun v211 =>
 joinC 8 (fun v212 v213 v214 v215 v216 v217 v218 v219 h220 =>
 bK (nilO v213) fun v222 =>
 bK (fAddr 4 v222) fun v223 =>
 bK (nilO v215) fun v224 =>
 bK (fAddr 15 v224) fun v225 =>
 mK (calM call 54 [(chkV h220 v223), (chkV h220 v225), (chkV h220 v216)] h220) fun v226 h227 =>
 nextK h220 h227 (
 J201 v212 v213 v214 v215 v217 v218 v219 h227)) fun J221 =>
 loopC N 12 (fun L241 v228 v229 v230 v231 v232 v233 v234 v235 v236 v237 v238 v239 h240 =>
 bK (ltI v239 v238) fun v242 =>
 condK v242 (
 bK (ixS 1 v237 v239) fun v243 =>
 bK (ldO 1 false h240 v243) fun v244 =>
 bK (fAddr 1 v232) fun v245 =>
 bK (ldO 1 false h240 v245) fun v246 =>
 bK (neI v246 (NV.int .i64 (.ofNat 2))) fun v247 =>
 joinC 12 (fun v248 v249 v250 v251 v252 v253 v254 v255 v256 v257 v258 v259 h260 =>
 bK (addI v259 (NV.int .i64 (.ofNat 1))) fun v262 =>
 L241 v248 v249 v250 v251 v252 v253 v254 v255 v256 v257 v258 v262 h260) fun J261 =>
 condK v247 (
 mK (calM call 53 [v228, v244] h240) fun v263 h264 =>
 mK (bslM 1 false [(0, 4)] [(NV.int .i64 (.ofNat 0)), (NV.int .u64 (.ofNat 0)), (NV.int .u64 (.ofNat 0)), (NV.bool false)] [v263] h264) fun v265 h266 =>
 mK (appM Tryz.prog 135 v233 v265 h266) fun v267 h268 =>
 J261 v228 v229 v230 v231 v232 v267 v234 v235 v236 v237 v238 v239 h268) (
 J261 v228 v229 v230 v231 v232 v233 v234 v235 v236 v237 v238 v239 h240)) (
 J221 v228 v229 v230 v231 v233 v234 v235 v236 h240)) v183 v184 v185 v186 v205 NV.nslice v187 v188 v189 v210 v211 (NV.int .i64 (.ofNat 0)) h208) (
 J73 v184 v185 v186 h190)) v60 v61 v62 v63 v67 v68 (NV.int .i64 (.ofNat 0)) h64) fun J65 =>
 loopC N 7 (fun L277 v269 v270 v271 v272 v273 v274 v275 h276 =>
 bK (ltI v275 v274) fun v278 =>
 condK v278 (
 bK (ixS 3 v273 v275) fun v279 =>
 bK (ldO 3 true h276 v279) fun v280 =>
 mK (alM (NB.cells [(NV.int .i64 (.ofNat 0)), (NV.bool false), NV.nslice]) h276) fun v281 h282 =>
 mK (stM 3 v281 v280 h282) fun v283 h284 =>
 bK (nilO v270) fun v285 =>
 bK (fAddr 3 v285) fun v286 =>
 bK (nilO v272) fun v287 =>
 bK (fAddr 14 v287) fun v288 =>
 bK (fAddr 0 v281) fun v289 =>
 bK (ldO 2 true h284 (chkV h284 v289)) fun v290 =>
 bK (fAddr 2 v281) fun v291 =>
 bK (ldO 1 false h284 (chkV h284 v291)) fun v292 =>
 mK (calM call 53 [(chkV h284 v269), (chkV h284 v292)] h284) fun v293 h294 =>
 nextK h284 h294 (
 bK (bldO [(0, 2), (2, 4)] [(NV.int .i64 (.ofNat 0)), (NV.bool false), (NV.int .i64 (.ofNat 0)), (NV.int .u64 (.ofNat 0)), (NV.int .u64 (.ofNat 0)), (NV.bool false)] [v290, v293]) fun v295 =>
 bK (ldO 2 true h294 (chkV h294 v289)) fun v296 =>
 sameK v296 v290 (
 mK (boxM false (chkV h294 v295) h294) fun v297 h298 =>
 mK (calM call 52 [(chkV h298 v286), (chkV h298 v288), (chkV h298 v297)] h298) fun v299 h300 =>
 nextK h298 h300 (
 bK (addI v275 (NV.int .i64 (.ofNat 1))) fun v301 =>
 L277 v269 v270 v271 v272 v273 v274 v301 h300)))) (
 J65 v269 v270 v271 v272 h276)) v51 v52 v53 v54 v58 v59 (NV.int .i64 (.ofNat 0)) h55) fun J56 =>
 loopC N 7 (fun L310 v302 v303 v304 v305 v306 v307 v308 h309 =>
 bK (ltI v308 v307) fun v311 =>
 condK v311 (
 bK (ixS 3 v306 v308) fun v312 =>
 bK (ldO 3 true h309 v312) fun v313 =>
 mK (alM (NB.cells [(NV.int .i64 (.ofNat 0)), (NV.int .i64 (.ofNat 0)), (NV.bool false)]) h309) fun v314 h315 =>
 mK (stM 3 v314 v313 h315) fun v316 h317 =>
 bK (nilO v303) fun v318 =>
 bK (fAddr 2 v318) fun v319 =>
 bK (nilO v305) fun v320 =>
 bK (fAddr 13 v320) fun v321 =>
 bK (ldO 3 true h317 (chkV h317 v314)) fun v322 =>
 bK (fAddr 0 v314) fun v323 =>
 bK (ldO 1 false h317 (chkV h317 v323)) fun v324 =>
 bK (binO .mul v324 (NV.int .i64 (.ofNat 65536))) fun v325 =>
 mK (mslM 1 true (NV.int .u8 (.ofNat 0)) (chkV h317 v325) (chkV h317 v325) h317) fun v326 h327 =>
 bK (bldO [(0, 3), (3, 1)] [(NV.int .i64 (.ofNat 0)), (NV.int .i64 (.ofNat 0)), (NV.bool false), NV.nslice] [v322, v326]) fun v328 =>
 mK (boxM false (chkV h327 v328) h327) fun v329 h330 =>
 mK (calM call 51 [(chkV h330 v319), (chkV h330 v321), (chkV h330 v329)] h330) fun v331 h332 =>
 nextK h330 h332 (
 bK (addI v308 (NV.int .i64 (.ofNat 1))) fun v333 =>
 L310 v302 v303 v304 v305 v306 v307 v333 h332)) (
 J56 v302 v303 v304 v305 h309)) v42 v43 v44 v45 v49 v50 (NV.int .i64 (.ofNat 0)) h46) fun J47 =>
 loopC N 7 (fun L342 v334 v335 v336 v337 v338 v339 v340 h341 =>
 bK (ltI v340 v339) fun v343 =>
 condK v343 (
 bK (ixS 4 v338 v340) fun v344 =>
 bK (ldO 4 true h341 v344) fun v345 =>
 mK (alM (NB.cells [(NV.int .i64 (.ofNat 0)), (NV.int .i64 (.ofNat 0)), (NV.int .i64 (.ofNat 0)), (NV.bool false)]) h341) fun v346 h347 =>
 mK (stM 4 v346 v345 h347) fun v348 h349 =>
 bK (nilO v335) fun v350 =>
 bK (fAddr 1 v350) fun v351 =>
 bK (nilO v337) fun v352 =>
 bK (fAddr 12 v352) fun v353 =>
 bK (ldO 4 true h349 (chkV h349 v346)) fun v354 =>
 bK (fAddr 0 v346) fun v355 =>
 bK (ldO 1 false h349 (chkV h349 v355)) fun v356 =>
 bK (fAddr 1 v346) fun v357 =>
 bK (fAddr 0 v357) fun v358 =>
 bK (ldO 1 false h349 (chkV h349 v358)) fun v359 =>
 mK (calM call 50 [(chkV h349 v356)] h349) fun v360 h361 =>
 nextK h349 h361 (
 bK (ldO 4 true h361 (chkV h361 v346)) fun v362 =>
 sameK v362 v354 (
 bK (ldO 1 false h361 (chkV h361 v358)) fun v363 =>
 sameK v363 v359 (
 mK (bslM 1 false [(0, 4)] [(NV.int .i64 (.ofNat 0)), (NV.int .u64 (.ofNat 0)), (NV.int .u64 (.ofNat 0)), (NV.bool false)] [(chkV h361 v360)] h361) fun v364 h365 =>
 mK (calM call 49 [(chkV h365 v364), (chkV h365 v359)] h365) fun v366 h367 =>
 nextK h365 h367 (
 bK (bldO [(0, 4), (4, 1)] [(NV.int .i64 (.ofNat 0)), (NV.int .i64 (.ofNat 0)), (NV.int .i64 (.ofNat 0)), (NV.bool false), NV.nslice] [v354, v366]) fun v368 =>
 bK (ldO 4 true h367 (chkV h367 v346)) fun v369 =>
 sameK v369 v354 (
 mK (boxM false (chkV h367 v368) h367) fun v370 h371 =>
 mK (calM call 48 [(chkV h371 v351), (chkV h371 v353), (chkV h371 v370)] h371) fun v372 h373 =>
 nextK h371 h373 (
 bK (addI v340 (NV.int .i64 (.ofNat 1))) fun v374 =>
 L342 v334 v335 v336 v337 v338 v339 v374 h373))))))) (
 J47 v334 v335 v336 v337 h341)) v33 v34 v35 v36 v40 v41 (NV.int .i64 (.ofNat 0)) h37) fun J38 =>
 loopC N 7 (fun L383 v375 v376 v377 v378 v379 v380 v381 h382 =>
 bK (ltI v381 v380) fun v384 =>
 condK v384 (
 bK (ixS 3 v379 v381) fun v385 =>
 bK (ldO 3 true h382 v385) fun v386 =>
 mK (alM (NB.cells [(NV.int .i64 (.ofNat 0)), NV.nslice, NV.nslice]) h382) fun v387 h388 =>
 mK (stM 3 v387 v386 h388) fun v389 h390 =>
 bK (nilO v376) fun v391 =>
 bK (fAddr 0 v391) fun v392 =>
 bK (nilO v378) fun v393 =>
 bK (fAddr 11 v393) fun v394 =>
 bK (fAddr 0 v377) fun v395 =>
 bK (ldO 1 false h390 (chkV h390 v395)) fun v396 =>
 bK (fAddr 0 v387) fun v397 =>
 bK (ldO 1 false h390 (chkV h390 v397)) fun v398 =>
 bK (ixS 2 v396 v398) fun v399 =>
 bK (ldO 2 true h390 (chkV h390 v399)) fun v400 =>
 bK (nilO v376) fun v401 =>
 bK (fAddr 6 v401) fun v402 =>
 bK (ldO 1 false h390 (chkV h390 v402)) fun v403 =>
 bK (lenSl v403) fun v404 =>
 bK (bldO [(0, 2), (2, 1), (3, 1)] [NV.nslice, NV.nslice, (NV.int .i64 (.ofNat 0)), (NV.int .i64 (.ofNat 0)), (NV.int .i64 (.ofNat 0))] [v400, v404, v381]) fun v405 =>
 mK (calM call 47 [(chkV h390 v392), (chkV h390 v394), (chkV h390 v405)] h390) fun v406 h407 =>
 nextK h390 h407 (
 bK (addI v381 (NV.int .i64 (.ofNat 1))) fun v408 =>
 L383 v375 v376 v377 v378 v379 v380 v408 h407)) (
 J38 v375 v376 v377 v378 h382)) v24 v25 v26 v27 v31 v32 (NV.int .i64 (.ofNat 0)) h28) fun J29 =>
 loopC N 7 (fun L417 v409 v410 v411 v412 v413 v414 v415 h416 =>
 bK (ltI v415 v414) fun v418 =>
 condK v418 (
 bK (ixS 2 v413 v415) fun v419 =>
 bK (ldO 2 true h416 v419) fun v420 =>
 mK (alM (NB.cells [(NV.int .i64 (.ofNat 0)), (NV.int .i64 (.ofNat 0))]) h416) fun v421 h422 =>
 mK (stM 2 v421 v420 h422) fun v423 h424 =>
 bK (nilO v412) fun v425 =>
 bK (fAddr 11 v425) fun v426 =>
 bK (nilO v412) fun v427 =>
 bK (fAddr 12 v427) fun v428 =>
 bK (nilO v412) fun v429 =>
 bK (fAddr 13 v429) fun v430 =>
 bK (nilO v412) fun v431 =>
 bK (fAddr 14 v431) fun v432 =>
 bK (bldO [(0, 1), (1, 1), (2, 1), (3, 1)] [NV.nilptr, NV.nilptr, NV.nilptr, NV.nilptr] [v426, v428, v430, v432]) fun v433 =>
 mK (alM (NB.cells [NV.nilptr, NV.nilptr, NV.nilptr, NV.nilptr]) h424) fun v434 h435 =>
 mK (stM 4 (chkV h435 v434) (chkV h435 v433) h435) fun v436 h437 =>
 nextK h435 h437 (
 bK (fAddr 0 v421) fun v438 =>
 bK (ldO 1 false h437 (chkV h437 v438)) fun v439 =>
 bK (ixA 4 1 v434 v439) fun v440 =>
 bK (ldO 1 false h437 (chkV h437 v440)) fun v441 =>
 bK (fAddr 0 v421) fun v442 =>
 bK (ldO 1 false h437 (chkV h437 v442)) fun v443 =>
 bK (ixA 4 1 v434 v443) fun v444 =>
 bK (ldO 1 false h437 (chkV h437 v444)) fun v445 =>
 bK (nilO v445) fun v446 =>
 bK (ldO 1 false h437 (chkV h437 v446)) fun v447 =>
 bK (fAddr 1 v421) fun v448 =>
 bK (ldO 1 false h437 (chkV h437 v448)) fun v449 =>
 mK (bslM 1 false [(0, 1)] [(NV.int .i64 (.ofNat 0))] [(chkV h437 v449)] h437) fun v450 h451 =>
 mK (appM Tryz.prog 3 (chkV h451 v447) (chkV h451 v450) h451) fun v452 h453 =>
 nextK h451 h453 (
 bK (nilO v441) fun v454 =>
 bK (ldO 1 false h453 (chkV h453 v438)) fun v455 =>
 sameK v455 v439 (
 bK (ldO 1 false h453 (chkV h453 v440)) fun v456 =>
 sameK v456 v441 (
 mK (stM 1 (chkV h453 v454) (chkV h453 v452) h453) fun v457 h458 =>
 nextK h453 h458 (
 bK (addI v415 (NV.int .i64 (.ofNat 1))) fun v459 =>
 L417 v409 v410 v411 v412 v413 v414 v459 h458)))))) (
 J29 v409 v410 v411 v412 h416)) v0 v6 v13 v12 v2 v23 (NV.int .i64 (.ofNat 0)) h22)))
theorem e17 : ikB Tryz.prog 9 Tryz.f17 = S17 := by kernel_rfl
theorem k17 [Sig] (w0 : World) : SOK cW w0 17 S17 := okW Tryz.func17 (by kernel_rfl) e17
noncomputable def S18 (call : CallF) (N : Nat) (l : List NV) (h : H) : R :=
 uc l fun v0 l1 => un l1 (
 bK (nilO v0) fun v2 =>
 bK (fAddr 1 v2) fun v3 =>
 bK (fAddr 8 v3) fun v4 =>
 bK (ldO 1 false h v4) fun v5 =>
 bK (lenSl v5) fun v6 =>
 joinC 1 (fun v7 h8 =>
 bK (nilO v7) fun v10 =>
 bK (fAddr 1 v10) fun v11 =>
 bK (fAddr 9 v11) fun v12 =>
 bK (ldO 1 false h8 v12) fun v13 =>
 bK (lenSl v13) fun v14 =>
 joinC 0 (fun h15 =>
 retC (NV.int .i64 (.ofNat 0)) h15) fun J16 =>
 loopC N 4 (fun L22 v17 v18 v19 v20 h21 =>
 bK (ltI v20 v19) fun v23 =>
 condK v23 (
 joinC 4 (fun v24 v25 v26 v27 h28 =>
 bK (addI v27 (NV.int .i64 (.ofNat 1))) fun v30 =>
 L22 v24 v25 v26 v30 h28) fun J29 =>
 bK (ixS 4 v18 v20) fun v31 =>
 bK (ldO 4 true h21 v31) fun v32 =>
 mK (alM (NB.cells [(NV.int .i64 (.ofNat 0)), (NV.int .i64 (.ofNat 0)), NV.nslice, NV.nslice]) h21) fun v33 h34 =>
 mK (stM 4 v33 v32 h34) fun v35 h36 =>
 bK (fAddr 0 v33) fun v37 =>
 bK (ldO 1 false h36 v37) fun v38 =>
 bK (neI v38 (NV.int .i64 (.ofNat 0))) fun v39 =>
 condK v39 (
 J29 v17 v18 v19 v20 h36) (
 bK (nilO v17) fun v40 =>
 bK (fAddr 12 v40) fun v41 =>
 bK (ldO 1 false h36 v41) fun v42 =>
 bK (nilO v42) fun v43 =>
 bK (fAddr 16 v43) fun v44 =>
 bK (ldO 1 false h36 v44) fun v45 =>
 bK (ixS 1 v45 v20) fun v46 =>
 bK (ldO 1 false h36 v46) fun v47 =>
 bK (nilO v17) fun v48 =>
 bK (fAddr 0 v48) fun v49 =>
 bK (ldO 1 false h36 v49) fun v50 =>
 bK (nilO v50) fun v51 =>
 bK (fAddr 5 v51) fun v52 =>
 bK (ldO 1 false h36 v52) fun v53 =>
 bK (ixS 1 v53 v47) fun v54 =>
 bK (ldO 1 false h36 v54) fun v55 =>
 bK (nilO v17) fun v56 =>
 bK (fAddr 0 v56) fun v57 =>
 bK (ldO 1 false h36 (chkV h36 v57)) fun v58 =>
 bK (nilO v58) fun v59 =>
 bK (fAddr 2 v59) fun v60 =>
 bK (ldO 1 false h36 (chkV h36 v60)) fun v61 =>
 bK (nilO v17) fun v62 =>
 bK (fAddr 12 v62) fun v63 =>
 bK (ldO 1 false h36 (chkV h36 v63)) fun v64 =>
 bK (nilO v64) fun v65 =>
 bK (fAddr 13 v65) fun v66 =>
 bK (ldO 1 false h36 (chkV h36 v66)) fun v67 =>
 bK (fAddr 1 v33) fun v68 =>
 bK (ldO 1 false h36 (chkV h36 v68)) fun v69 =>
 bK (ixS 1 v67 v69) fun v70 =>
 bK (ldO 1 false h36 (chkV h36 v70)) fun v71 =>
 bK (ixS 1 v61 v71) fun v72 =>
 bK (ldO 1 false h36 (chkV h36 v72)) fun v73 =>
 bK (fAddr 2 v33) fun v74 =>
 bK (ldO 1 false h36 (chkV h36 v74)) fun v75 =>
 mK (calM call 53 [(chkV h36 v17), (chkV h36 v75)] h36) fun v76 h77 =>
 nextK h36 h77 (
 bK (fldO false 1 1 v76) fun v78 =>
 bK (ldO 1 false h77 (chkV h77 v57)) fun v79 =>
 sameK v79 v58 (
 bK (ldO 1 false h77 (chkV h77 v60)) fun v80 =>
 sameK v80 v61 (
 bK (ldO 1 false h77 (chkV h77 v63)) fun v81 =>
 sameK v81 v64 (
 bK (ldO 1 false h77 (chkV h77 v66)) fun v82 =>
 sameK v82 v67 (
 bK (ldO 1 false h77 (chkV h77 v68)) fun v83 =>
 sameK v83 v69 (
 bK (ldO 1 false h77 (chkV h77 v70)) fun v84 =>
 sameK v84 v71 (
 bK (ldO 1 false h77 (chkV h77 v72)) fun v85 =>
 sameK v85 v73 (
 mK (calM call 57 [(chkV h77 v73), (chkV h77 v78), (chkV h77 v55)] h77) fun v86 h87 =>
 nextK h77 h87 (
 bK (neI v86 (NV.int .i64 (.ofNat 0))) fun v88 =>
 condK v88 (
 retC v86 h87) (
 bK (nilO v17) fun v89 =>
 bK (fAddr 0 v89) fun v90 =>
 bK (ldO 1 false h87 v90) fun v91 =>
 bK (nilO v91) fun v92 =>
 bK (fAddr 5 v92) fun v93 =>
 bK (ldO 1 false h87 v93) fun v94 =>
 bK (ixS 1 v94 v47) fun v95 =>
 mK (stM 1 v95 NV.nslice h87) fun v96 h97 =>
 J29 v17 v18 v19 v20 h97)))))))))))) (
 J16 h21)) v7 v13 v14 (NV.int .i64 (.ofNat 0)) h8) fun J9 =>
 loopC N 4 (fun L103 v98 v99 v100 v101 h102 =>
 bK (ltI v101 v100) fun v104 =>
 condK v104 (
 joinC 4 (fun v105 v106 v107 v108 h109 =>
 bK (addI v108 (NV.int .i64 (.ofNat 1))) fun v111 =>
 L103 v105 v106 v107 v111 h109) fun J110 =>
 bK (ixS 5 v99 v101) fun v112 =>
 bK (ldO 5 true h102 v112) fun v113 =>
 mK (alM (NB.cells [(NV.int .i64 (.ofNat 0)), (NV.int .i64 (.ofNat 0)), (NV.int .i64 (.ofNat 0)), NV.nslice, NV.nslice]) h102) fun v114 h115 =>
 mK (stM 5 v114 v113 h115) fun v116 h117 =>
 bK (fAddr 1 v114) fun v118 =>
 bK (ldO 1 false h117 v118) fun v119 =>
 bK (neI v119 (NV.int .i64 (.ofNat 0))) fun v120 =>
 condK v120 (
 J110 v98 v99 v100 v101 h117) (
 bK (nilO v98) fun v121 =>
 bK (fAddr 12 v121) fun v122 =>
 bK (ldO 1 false h117 v122) fun v123 =>
 bK (nilO v123) fun v124 =>
 bK (fAddr 15 v124) fun v125 =>
 bK (ldO 1 false h117 v125) fun v126 =>
 bK (ixS 1 v126 v101) fun v127 =>
 bK (ldO 1 false h117 v127) fun v128 =>
 bK (nilO v98) fun v129 =>
 bK (fAddr 0 v129) fun v130 =>
 bK (ldO 1 false h117 v130) fun v131 =>
 bK (nilO v131) fun v132 =>
 bK (fAddr 4 v132) fun v133 =>
 bK (ldO 1 false h117 v133) fun v134 =>
 bK (ixS 1 v134 v128) fun v135 =>
 bK (ldO 1 false h117 v135) fun v136 =>
 bK (nilO v98) fun v137 =>
 bK (fAddr 0 v137) fun v138 =>
 bK (ldO 1 false h117 (chkV h117 v138)) fun v139 =>
 bK (nilO v139) fun v140 =>
 bK (fAddr 1 v140) fun v141 =>
 bK (ldO 1 false h117 (chkV h117 v141)) fun v142 =>
 bK (nilO v98) fun v143 =>
 bK (fAddr 12 v143) fun v144 =>
 bK (ldO 1 false h117 (chkV h117 v144)) fun v145 =>
 bK (nilO v145) fun v146 =>
 bK (fAddr 12 v146) fun v147 =>
 bK (ldO 1 false h117 (chkV h117 v147)) fun v148 =>
 bK (fAddr 2 v114) fun v149 =>
 bK (ldO 1 false h117 (chkV h117 v149)) fun v150 =>
 bK (ixS 1 v148 v150) fun v151 =>
 bK (ldO 1 false h117 (chkV h117 v151)) fun v152 =>
 bK (ixS 1 v142 v152) fun v153 =>
 bK (ldO 1 false h117 (chkV h117 v153)) fun v154 =>
 bK (fAddr 3 v114) fun v155 =>
 bK (ldO 1 false h117 (chkV h117 v155)) fun v156 =>
 bK (lenSl v136) fun v157 =>
 bK (cvI .u64 v157) fun v158 =>
 mK (calM call 53 [(chkV h117 v98), (chkV h117 v156)] h117) fun v159 h160 =>
 nextK h117 h160 (
 bK (fldO false 1 1 v159) fun v161 =>
 bK (ldO 1 false h160 (chkV h160 v138)) fun v162 =>
 sameK v162 v139 (
 bK (ldO 1 false h160 (chkV h160 v141)) fun v163 =>
 sameK v163 v142 (
 bK (ldO 1 false h160 (chkV h160 v144)) fun v164 =>
 sameK v164 v145 (
 bK (ldO 1 false h160 (chkV h160 v147)) fun v165 =>
 sameK v165 v148 (
 bK (ldO 1 false h160 (chkV h160 v149)) fun v166 =>
 sameK v166 v150 (
 bK (ldO 1 false h160 (chkV h160 v151)) fun v167 =>
 sameK v167 v152 (
 bK (ldO 1 false h160 (chkV h160 v153)) fun v168 =>
 sameK v168 v154 (
 mK (calM call 56 [(chkV h160 v154), (chkV h160 v161), (NV.int .u64 (.ofNat 0)), (chkV h160 v158), (chkV h160 v136)] h160) fun v169 h170 =>
 nextK h160 h170 (
 bK (neI v169 (NV.int .i64 (.ofNat 0))) fun v171 =>
 condK v171 (
 retC v169 h170) (
 bK (nilO v98) fun v172 =>
 bK (fAddr 0 v172) fun v173 =>
 bK (ldO 1 false h170 v173) fun v174 =>
 bK (nilO v174) fun v175 =>
 bK (fAddr 4 v175) fun v176 =>
 bK (ldO 1 false h170 v176) fun v177 =>
 bK (ixS 1 v177 v128) fun v178 =>
 mK (stM 1 v178 NV.nslice h170) fun v179 h180 =>
 J110 v98 v99 v100 v101 h180)))))))))))) (
 J9 v98 h102)) v0 v5 v6 (NV.int .i64 (.ofNat 0)) h)
theorem e18 : ikB Tryz.prog 9 Tryz.f18 = S18 := by kernel_rfl
theorem k18 [Sig] (w0 : World) : SOK cW w0 18 S18 := okW Tryz.func18 (by kernel_rfl) e18
noncomputable def S20 (call : CallF) (N : Nat) (l : List NV) (h : H) : R :=
 uc l fun v0 l1 => uc l1 fun v2 l3 => un l3 (
 bK (ltI v2 (NV.int .i64 (.ofNat 0))) fun v4 =>
 jK (fun v5 h6 =>
 jK (fun v8 h9 =>
 jK (fun v11 h12 =>
 jK (fun v14 h15 =>
 bK (pickO v4 (NV.bool true) v14) fun v17 =>
 condK v17 (
 retC (NV.tuple [NV.nilptr, (NV.bool false)]) h15) (
 bK (ixS 1 v0 v2) fun v18 =>
 bK (ldO 1 false h15 v18) fun v19 =>
 retC (NV.tuple [v19, (NV.bool true)]) h15)) fun J16 => gK v4 false (
 bK (geI v5 v11) fun v20 =>
 J16 v20 h12) (J16 (NV.tuple []) h12)) fun J13 => gK v4 false (
 bK (lenSl v8) fun v21 =>
 J13 v21 h9) (J13 (NV.tuple []) h9)) fun J10 => gK v4 false (
 J10 v0 h6) (J10 (NV.tuple []) h6)) fun J7 => gK v4 false (
 J7 v2 h) (J7 (NV.tuple []) h))
theorem e20 : ikB Tryz.prog 9 Tryz.f20 = S20 := by kernel_rfl
theorem k20 [Sig] (w0 : World) : SOK cW w0 20 S20 := okW Tryz.func20 (by kernel_rfl) e20
noncomputable def S21 (call : CallF) (N : Nat) (l : List NV) (h : H) : R :=
 uc l fun v0 l1 => un l1 (
 bK (eqD Tryz.prog .eql 56 h v0 NV.nslice) fun v2 =>
 condK v2 (
 retC NV.nslice h) (
 mK (bslM 0 false [] [] [] h) fun v3 h4 =>
 mK (appM Tryz.prog 3 v3 v0 h4) fun v5 h6 =>
 retC v5 h6))
theorem e21 : ikB Tryz.prog 9 Tryz.f21 = S21 := by kernel_rfl
theorem k21 [Sig] (w0 : World) : SOK cW w0 21 S21 := okW Tryz.func21 (by kernel_rfl) e21
noncomputable def S22 (call : CallF) (N : Nat) (l : List NV) (h : H) : R :=
 uc l fun v0 l1 => uc l1 fun v2 l3 => uc l3 fun v4 l5 => un l5 (
 bK (gtI v2 (NV.int .i64 (.ofNat 600))) fun v6 =>
 condK v6 (
 retC (NV.int .i64 (.negSucc 0)) h) (
 joinC 1 (fun v7 h8 =>
 retC v7 h8) fun J9 =>
 loopC N 4 (fun L15 v10 v11 v12 v13 h14 =>
 bK (lenSl v10) fun v16 =>
 bK (ltI v13 v16) fun v17 =>
 jK (fun v18 h19 =>
 jK (fun v21 h22 =>
 bK (pickO v17 v21 (NV.bool false)) fun v24 =>
 condK v24 (
 bK (ixS 9 v10 v13) fun v25 =>
 bK (fAddr 6 v25) fun v26 =>
 bK (ldO 1 false h22 v26) fun v27 =>
 bK (addI v11 (NV.int .i64 (.ofNat 1))) fun v28 =>
 bK (subI v12 (NV.int .i64 (.ofNat 1))) fun v29 =>
 mK (calM call 22 [v27, v28, v29] h22) fun v30 h31 =>
 bK (geI v30 (NV.int .i64 (.ofNat 0))) fun v32 =>
 joinC 4 (fun v33 v34 v35 v36 h37 =>
 bK (ixS 9 v33 v36) fun v39 =>
 bK (fAddr 5 v39) fun v40 =>
 bK (ldO 1 false h37 v40) fun v41 =>
 bK (lenSl v41) fun v42 =>
 bK (gtI v42 (NV.int .i64 (.ofNat 1000))) fun v43 =>
 joinC 4 (fun v44 v45 v46 v47 h48 =>
 bK (addI v47 (NV.int .i64 (.ofNat 1))) fun v50 =>
 L15 v44 v45 v46 v50 h48) fun J49 =>
 condK v43 (
 J49 v33 v34 (NV.int .i64 (.negSucc 0)) v36 h37) (
 J49 v33 v34 v35 v36 h37)) fun J38 =>
 condK v32 (
 bK (ixS 9 v10 v13) fun v51 =>
 bK (fAddr 7 v51) fun v52 =>
 bK (ldO 1 false h31 v52) fun v53 =>
 bK (addI v11 (NV.int .i64 (.ofNat 1))) fun v54 =>
 mK (calM call 22 [v53, v54, v30] h31) fun v55 h56 =>
 J38 v10 v11 v55 v13 h56) (
 J38 v10 v11 v30 v13 h31)) (
 J9 v12 h22)) fun J23 => gK v17 true (
 bK (geI v18 (NV.int .i64 (.ofNat 0))) fun v57 =>
 J23 v57 h19) (J23 (NV.tuple []) h19)) fun J20 => gK v17 true (
 J20 v12 h14) (J20 (NV.tuple []) h14)) v0 v2 v4 (NV.int .i64 (.ofNat 0)) h))
theorem e22 : ikB Tryz.prog 9 Tryz.f22 = S22 := by kernel_rfl
theorem k22 [Sig] (w0 : World) : SOK cW w0 22 S22 := okW Tryz.func22 (by kernel_rfl) e22
noncomputable def S23 (call : CallF) (N : Nat) (l : List NV) (h : H) : R :=
 uc l fun v0 l1 => un l1 (
 mK (boxM false v0 h) fun v2 h3 =>
 mK (alM (NB.cells [NV.nilFunc]) h3) fun v4 h5 =>
 mK (stM 1 v4 (NV.func (.func 71) [] []) h5) fun v6 h7 =>
 bK (fAddr 0 v2) fun v8 =>
 bK (ldO 1 false h7 v8) fun v9 =>
 mK (calM call 76 [v9, (NV.func (.func 62) [] [])] h7) fun v10 h11 =>
 jK (fun v12 h13 =>
 jK (fun v15 h16 =>
 jK (fun v18 h19 =>
 bK (pickO v10 v18 (NV.bool false)) fun v21 =>
 jK (fun v22 h23 =>
 jK (fun v25 h26 =>
 jK (fun v28 h29 =>
 jK (fun v31 h32 =>
 bK (pickO v21 v31 (NV.bool false)) fun v34 =>
 jK (fun v35 h36 =>
 jK (fun v38 h39 =>
 jK (fun v41 h42 =>
 bK (pickO v34 v41 (NV.bool false)) fun v44 =>
 jK (fun v45 h46 =>
 jK (fun v48 h49 =>
 jK (fun v51 h52 =>
 bK (pickO v44 v51 (NV.bool false)) fun v54 =>
 jK (fun v55 h56 =>
 jK (fun v58 h59 =>
 jK (fun v61 h62 =>
 jK (fun v64 h65 =>
 bK (pickO v54 v64 (NV.bool false)) fun v67 =>
 jK (fun v68 h69 =>
 jK (fun v71 h72 =>
 jK (fun v74 h75 =>
 jK (fun v77 h78 =>
 bK (pickO v67 v77 (NV.bool false)) fun v80 =>
 jK (fun v81 h82 =>
 jK (fun v84 h85 =>
 jK (fun v87 h88 =>
 bK (pickO v80 v87 (NV.bool false)) fun v90 =>
 jK (fun v91 h92 =>
 jK (fun v94 h95 =>
 jK (fun v97 h98 =>
 bK (pickO v90 v97 (NV.bool false)) fun v100 =>
 jK (fun v101 h102 =>
 jK (fun v104 h105 =>
 jK (fun v107 h108 =>
 jK (fun v110 h111 =>
 bK (pickO v100 v110 (NV.bool false)) fun v113 =>
 jK (fun v114 h115 =>
 jK (fun v117 h118 =>
 jK (fun v120 h121 =>
 jK (fun v123 h124 =>
 bK (pickO v113 v123 (NV.bool false)) fun v126 =>
 jK (fun v127 h128 =>
 jK (fun v130 h131 =>
 jK (fun v133 h134 =>
 jK (fun v136 h137 =>
 jK (fun v139 h140 =>
 jK (fun v142 h143 =>
 jK (fun v145 h146 =>
 bK (pickO v126 v145 (NV.bool false)) fun v148 =>
 retC v148 h146) fun J147 => gK v126 true (
 bK (pickO v133 (NV.bool true) v142) fun v149 =>
 J147 v149 h143) (J147 (NV.tuple []) h143)) fun J144 => gK v133 false (
 bK (notO v139) fun v150 =>
 J144 v150 h140) (J144 (NV.tuple []) h140)) fun J141 => gK v133 false (
 mK (calM call 88 [v136] h137) fun v151 h152 =>
 J141 v151 h152) (J141 (NV.tuple []) h137)) fun J138 => gK v133 false (
 bK (ldO 11 true h134 v2) fun v153 =>
 J138 v153 h134) (J138 (NV.tuple []) h134)) fun J135 => gK v126 true (
 J135 v130 h131) (J135 (NV.tuple []) h131)) fun J132 => gK v126 true (
 bK (ldO 1 false h128 v127) fun v154 =>
 J132 v154 h128) (J132 (NV.tuple []) h128)) fun J129 => gK v126 true (
 bK (fAddr 10 v2) fun v155 =>
 J129 v155 h124) (J129 (NV.tuple []) h124)) fun J125 => gK v113 true (
 mK (calM call 87 [v117, v120] h121) fun v156 h157 =>
 J125 v156 h157) (J125 (NV.tuple []) h121)) fun J122 => gK v113 true (
 J122 (NV.func (.func 75) [] [v4]) h118) (J122 (NV.tuple []) h118)) fun J119 => gK v113 true (
 bK (ldO 1 false h115 v114) fun v158 =>
 J119 v158 h115) (J119 (NV.tuple []) h115)) fun J116 => gK v113 true (
 bK (fAddr 9 v2) fun v159 =>
 J116 v159 h111) (J116 (NV.tuple []) h111)) fun J112 => gK v100 true (
 mK (calM call 86 [v104, v107] h108) fun v160 h161 =>
 J112 v160 h161) (J112 (NV.tuple []) h108)) fun J109 => gK v100 true (
 J109 (NV.func (.func 72) [] [v4]) h105) (J109 (NV.tuple []) h105)) fun J106 => gK v100 true (
 bK (ldO 1 false h102 v101) fun v162 =>
 J106 v162 h102) (J106 (NV.tuple []) h102)) fun J103 => gK v100 true (
 bK (fAddr 8 v2) fun v163 =>
 J103 v163 h98) (J103 (NV.tuple []) h98)) fun J99 => gK v90 true (
 bK (leI v94 (NV.int .i64 (.ofNat 4294967296))) fun v164 =>
 J99 v164 h95) (J99 (NV.tuple []) h95)) fun J96 => gK v90 true (
 bK (ldO 1 false h92 v91) fun v165 =>
 J96 v165 h92) (J96 (NV.tuple []) h92)) fun J93 => gK v90 true (
 bK (fAddr 7 v2) fun v166 =>
 J93 v166 h88) (J93 (NV.tuple []) h88)) fun J89 => gK v80 true (
 bK (geI v84 (NV.int .i64 (.ofNat 0))) fun v167 =>
 J89 v167 h85) (J89 (NV.tuple []) h85)) fun J86 => gK v80 true (
 bK (ldO 1 false h82 v81) fun v168 =>
 J86 v168 h82) (J86 (NV.tuple []) h82)) fun J83 => gK v80 true (
 bK (fAddr 7 v2) fun v169 =>
 J83 v169 h78) (J83 (NV.tuple []) h78)) fun J79 => gK v67 true (
 mK (calM call 85 [v71, v74] h75) fun v170 h171 =>
 J79 v170 h171) (J79 (NV.tuple []) h75)) fun J76 => gK v67 true (
 J76 (NV.func (.func 69) [] []) h72) (J76 (NV.tuple []) h72)) fun J73 => gK v67 true (
 bK (ldO 1 false h69 v68) fun v172 =>
 J73 v172 h69) (J73 (NV.tuple []) h69)) fun J70 => gK v67 true (
 bK (fAddr 6 v2) fun v173 =>
 J70 v173 h65) (J70 (NV.tuple []) h65)) fun J66 => gK v54 true (
 mK (calM call 84 [v58, v61] h62) fun v174 h175 =>
 J66 v174 h175) (J66 (NV.tuple []) h62)) fun J63 => gK v54 true (
 J63 (NV.func (.func 68) [] []) h59) (J63 (NV.tuple []) h59)) fun J60 => gK v54 true (
 bK (ldO 1 false h56 v55) fun v176 =>
 J60 v176 h56) (J60 (NV.tuple []) h56)) fun J57 => gK v54 true (
 bK (fAddr 5 v2) fun v177 =>
 J57 v177 h52) (J57 (NV.tuple []) h52)) fun J53 => gK v44 true (
 mK (calM call 82 [v48, (NV.func (.func 83) [] [])] h49) fun v178 h179 =>
 J53 v178 h179) (J53 (NV.tuple []) h49)) fun J50 => gK v44 true (
 bK (ldO 1 false h46 v45) fun v180 =>
 J50 v180 h46) (J50 (NV.tuple []) h46)) fun J47 => gK v44 true (
 bK (fAddr 4 v2) fun v181 =>
 J47 v181 h42) (J47 (NV.tuple []) h42)) fun J43 => gK v34 true (
 mK (calM call 80 [v38, (NV.func (.func 81) [] [])] h39) fun v182 h183 =>
 J43 v182 h183) (J43 (NV.tuple []) h39)) fun J40 => gK v34 true (
 bK (ldO 1 false h36 v35) fun v184 =>
 J40 v184 h36) (J40 (NV.tuple []) h36)) fun J37 => gK v34 true (
 bK (fAddr 3 v2) fun v185 =>
 J37 v185 h32) (J37 (NV.tuple []) h32)) fun J33 => gK v21 true (
 mK (calM call 79 [v25, v28] h29) fun v186 h187 =>
 J33 v186 h187) (J33 (NV.tuple []) h29)) fun J30 => gK v21 true (
 J30 (NV.func (.func 65) [] []) h26) (J30 (NV.tuple []) h26)) fun J27 => gK v21 true (
 bK (ldO 1 false h23 v22) fun v188 =>
 J27 v188 h23) (J27 (NV.tuple []) h23)) fun J24 => gK v21 true (
 bK (fAddr 2 v2) fun v189 =>
 J24 v189 h19) (J24 (NV.tuple []) h19)) fun J20 => gK v10 true (
 mK (calM call 77 [v15, (NV.func (.func 78) [] [])] h16) fun v190 h191 =>
 J20 v190 h191) (J20 (NV.tuple []) h16)) fun J17 => gK v10 true (
 bK (ldO 1 false h13 v12) fun v192 =>
 J17 v192 h13) (J17 (NV.tuple []) h13)) fun J14 => gK v10 true (
 bK (fAddr 1 v2) fun v193 =>
 J14 v193 h11) (J14 (NV.tuple []) h11))
theorem e23 : ikB Tryz.prog 9 Tryz.f23 = S23 := by kernel_rfl
theorem k23 [Sig] (w0 : World) : SOK cW w0 23 S23 := okW Tryz.func23 (by kernel_rfl) e23
noncomputable def S24 (call : CallF) (N : Nat) (l : List NV) (h : H) : R :=
 uc l fun v0 l1 => un l1 (
 mK (boxM false v0 h) fun v2 h3 =>
 bK (ldO 11 true h3 v2) fun v4 =>
 mK (mapM none h3) fun v5 h6 =>
 bK (bldO [(0, 11), (16, 1)] [NV.nslice, NV.nslice, NV.nslice, NV.nslice, NV.nslice, NV.nslice, NV.nslice, (NV.int .i64 (.ofNat 0)), NV.nslice, NV.nslice, (NV.bool false), NV.nslice, NV.nslice, NV.nslice, NV.nslice, (NV.int .i64 (.ofNat 0)), NV.nmap] [v4, v5]) fun v7 =>
 mK (boxM false v7 h6) fun v8 h9 =>
 bK (fAddr 1 v2) fun v10 =>
 bK (ldO 1 false h9 v10) fun v11 =>
 bK (lenSl v11) fun v12 =>
 joinC 2 (fun v13 v14 h15 =>
 bK (nilO v14) fun v17 =>
 bK (fAddr 14 v17) fun v18 =>
 bK (ldO 1 false h15 v18) fun v19 =>
 bK (lenSl v19) fun v20 =>
 bK (nilO v14) fun v21 =>
 bK (fAddr 15 v21) fun v22 =>
 mK (stM 1 v22 v20 h15) fun v23 h24 =>
 bK (fAddr 2 v13) fun v25 =>
 bK (ldO 1 false h24 v25) fun v26 =>
 bK (lenSl v26) fun v27 =>
 joinC 2 (fun v28 v29 h30 =>
 bK (nilO v29) fun v32 =>
 bK (fAddr 12 v32) fun v33 =>
 bK (ldO 1 false h30 (chkV h30 v33)) fun v34 =>
 bK (fAddr 3 v28) fun v35 =>
 bK (ldO 1 false h30 (chkV h30 v35)) fun v36 =>
 mK (appM Tryz.prog 77 (chkV h30 v34) (chkV h30 v36) h30) fun v37 h38 =>
 nextK h30 h38 (
 bK (nilO v29) fun v39 =>
 bK (fAddr 12 v39) fun v40 =>
 mK (stM 1 (chkV h38 v40) (chkV h38 v37) h38) fun v41 h42 =>
 nextK h38 h42 (
 bK (nilO v29) fun v43 =>
 bK (fAddr 13 v43) fun v44 =>
 bK (ldO 1 false h42 (chkV h42 v44)) fun v45 =>
 bK (fAddr 4 v28) fun v46 =>
 bK (ldO 1 false h42 (chkV h42 v46)) fun v47 =>
 mK (appM Tryz.prog 61 (chkV h42 v45) (chkV h42 v47) h42) fun v48 h49 =>
 nextK h42 h49 (
 bK (nilO v29) fun v50 =>
 bK (fAddr 13 v50) fun v51 =>
 mK (stM 1 (chkV h49 v51) (chkV h49 v48) h49) fun v52 h53 =>
 nextK h49 h53 (
 bK (fAddr 5 v28) fun v54 =>
 bK (ldO 1 false h53 v54) fun v55 =>
 bK (lenSl v55) fun v56 =>
 joinC 2 (fun v57 v58 h59 =>
 bK (fAddr 8 v57) fun v61 =>
 bK (ldO 1 false h59 v61) fun v62 =>
 bK (lenSl v62) fun v63 =>
 joinC 2 (fun v64 v65 h66 =>
 bK (fAddr 6 v64) fun v68 =>
 bK (ldO 1 false h66 v68) fun v69 =>
 bK (lenSl v69) fun v70 =>
 joinC 1 (fun v71 h72 =>
 retC v71 h72) fun J73 =>
 loopC N 4 (fun L79 v74 v75 v76 v77 h78 =>
 bK (ltI v77 v76) fun v80 =>
 condK v80 (
 bK (ixS 3 v75 v77) fun v81 =>
 bK (ldO 3 true h78 v81) fun v82 =>
 mK (alM (NB.cells [(NV.str 0 0), (NV.int .i64 (.ofNat 0)), (NV.int .i64 (.ofNat 0))]) h78) fun v83 h84 =>
 mK (stM 3 v83 v82 h84) fun v85 h86 =>
 bK (fAddr 1 v83) fun v87 =>
 bK (ldO 1 false h86 v87) fun v88 =>
 bK (eqI v88 (NV.int .i64 (.ofNat 0))) fun v89 =>
 joinC 4 (fun v90 v91 v92 v93 h94 =>
 bK (addI v93 (NV.int .i64 (.ofNat 1))) fun v96 =>
 L79 v90 v91 v92 v96 h94) fun J95 =>
 condK v89 (
 bK (nilO v74) fun v97 =>
 bK (fAddr 16 v97) fun v98 =>
 bK (ldO 1 false h86 (chkV h86 v98)) fun v99 =>
 bK (fAddr 2 v83) fun v100 =>
 bK (ldO 1 false h86 (chkV h86 v100)) fun v101 =>
 mK (updM Tryz.prog 201 (chkV h86 v99) (chkV h86 v101) (NV.bool true) h86) fun v102 h103 =>
 nextK h86 h103 (
 J95 v74 v75 v76 v77 h103)) (
 J95 v74 v75 v76 v77 h86)) (
 J73 v74 h78)) v65 v69 v70 (NV.int .i64 (.ofNat 0)) h66) fun J67 =>
 loopC N 5 (fun L110 v104 v105 v106 v107 v108 h109 =>
 bK (ltI v108 v107) fun v111 =>
 condK v111 (
 joinC 5 (fun v112 v113 v114 v115 v116 h117 =>
 bK (addI v116 (NV.int .i64 (.ofNat 1))) fun v119 =>
 L110 v112 v113 v114 v115 v119 h117) fun J118 =>
 bK (ixS 5 v106 v108) fun v120 =>
 bK (ldO 5 true h109 v120) fun v121 =>
 mK (alM (NB.cells [(NV.int .i64 (.ofNat 0)), (NV.int .i64 (.ofNat 0)), (NV.int .i64 (.ofNat 0)), NV.nslice, NV.nslice]) h109) fun v122 h123 =>
 mK (stM 5 v122 v121 h123) fun v124 h125 =>
 bK (fAddr 4 v122) fun v126 =>
 bK (ldO 1 false h125 v126) fun v127 =>
 bK (lenSl v127) fun v128 =>
 loopC N 8 (fun L138 v129 v130 v131 v132 v133 v134 v135 v136 h137 =>
 bK (ltI v136 v135) fun v139 =>
 condK v139 (
 bK (ixS 1 v134 v136) fun v140 =>
 bK (ldO 1 false h137 v140) fun v141 =>
 mK (calM call 89 [v130, v141] h137) fun v142 h143 =>
 bK (addI v136 (NV.int .i64 (.ofNat 1))) fun v144 =>
 L138 v129 v130 v131 v132 v133 v134 v135 v144 h143) (
 J118 v129 v130 v131 v132 v133 h137)) v104 v105 v106 v107 v108 v127 v128 (NV.int .i64 (.ofNat 0)) h125) (
 J67 v104 v105 h109)) v57 v58 v62 v63 (NV.int .i64 (.ofNat 0)) h59) fun J60 =>
 loopC N 5 (fun L151 v145 v146 v147 v148 v149 h150 =>
 bK (ltI v149 v148) fun v152 =>
 condK v152 (
 bK (ixS 3 v147 v149) fun v153 =>
 bK (ldO 3 true h150 v153) fun v154 =>
 mK (alM (NB.cells [(NV.int .i64 (.ofNat 0)), (NV.bool false), NV.nslice]) h150) fun v155 h156 =>
 mK (stM 3 v155 v154 h156) fun v157 h158 =>
 bK (nilO v146) fun v159 =>
 bK (fAddr 14 v159) fun v160 =>
 bK (ldO 1 false h158 (chkV h158 v160)) fun v161 =>
 bK (fAddr 0 v155) fun v162 =>
 bK (ldO 2 true h158 (chkV h158 v162)) fun v163 =>
 mK (bslM 1 false [(0, 2)] [(NV.int .i64 (.ofNat 0)), (NV.bool false)] [(chkV h158 v163)] h158) fun v164 h165 =>
 mK (appM Tryz.prog 79 (chkV h165 v161) (chkV h165 v164) h165) fun v166 h167 =>
 nextK h165 h167 (
 bK (nilO v146) fun v168 =>
 bK (fAddr 14 v168) fun v169 =>
 mK (stM 1 (chkV h167 v169) (chkV h167 v166) h167) fun v170 h171 =>
 nextK h167 h171 (
 bK (fAddr 2 v155) fun v172 =>
 bK (ldO 1 false h171 v172) fun v173 =>
 mK (calM call 89 [v146, v173] h171) fun v174 h175 =>
 bK (addI v149 (NV.int .i64 (.ofNat 1))) fun v176 =>
 L151 v145 v146 v147 v148 v176 h175))) (
 J60 v145 v146 h150)) v28 v29 v55 v56 (NV.int .i64 (.ofNat 0)) h53))))) fun J31 =>
 loopC N 5 (fun L183 v177 v178 v179 v180 v181 h182 =>
 bK (ltI v181 v180) fun v184 =>
 condK v184 (
 bK (ixS 3 v179 v181) fun v185 =>
 bK (ldO 3 true h182 v185) fun v186 =>
 mK (alM (NB.cells [(NV.int .i64 (.ofNat 0)), NV.nslice, NV.nslice]) h182) fun v187 h188 =>
 mK (stM 3 v187 v186 h188) fun v189 h190 =>
 bK (nilO v178) fun v191 =>
 bK (fAddr 11 v191) fun v192 =>
 bK (ldO 1 false h190 (chkV h190 v192)) fun v193 =>
 bK (fAddr 0 v187) fun v194 =>
 bK (ldO 1 false h190 (chkV h190 v194)) fun v195 =>
 mK (bslM 1 false [(0, 1)] [(NV.int .i64 (.ofNat 0))] [(chkV h190 v195)] h190) fun v196 h197 =>
 mK (appM Tryz.prog 3 (chkV h197 v193) (chkV h197 v196) h197) fun v198 h199 =>
 nextK h197 h199 (
 bK (nilO v178) fun v200 =>
 bK (fAddr 11 v200) fun v201 =>
 mK (stM 1 (chkV h199 v201) (chkV h199 v198) h199) fun v202 h203 =>
 nextK h199 h203 (
 bK (addI v181 (NV.int .i64 (.ofNat 1))) fun v204 =>
 L183 v177 v178 v179 v180 v204 h203))) (
 J31 v177 v178 h182)) v13 v14 v26 v27 (NV.int .i64 (.ofNat 0)) h24) fun J16 =>
 loopC N 5 (fun L211 v205 v206 v207 v208 v209 h210 =>
 bK (ltI v209 v208) fun v212 =>
 condK v212 (
 bK (ixS 13 v207 v209) fun v213 =>
 bK (ldO 13 true h210 v213) fun v214 =>
 mK (alM (NB.cells [(NV.str 0 0), (NV.str 0 0), (NV.int .i64 (.ofNat 0)), (NV.int .i64 (.ofNat 0)), (NV.int .i64 (.ofNat 0)), (NV.int .i64 (.ofNat 0)), (NV.int .i64 (.ofNat 0)), (NV.bool false), (NV.int .i64 (.ofNat 0)), (NV.int .i64 (.ofNat 0)), (NV.bool false), (NV.int .i64 (.ofNat 0)), (NV.bool false)]) h210) fun v215 h216 =>
 mK (stM 13 v215 v214 h216) fun v217 h218 =>
 bK (fAddr 2 v215) fun v219 =>
 bK (ldO 1 false h218 v219) fun v220 =>
 bK (eqI v220 (NV.int .i64 (.ofNat 0))) fun v221 =>
 joinC 5 (fun v222 v223 v224 v225 v226 h227 =>
 bK (addI v226 (NV.int .i64 (.ofNat 1))) fun v229 =>
 L211 v222 v223 v224 v225 v229 h227) fun J228 =>
 condK v221 (
 bK (nilO v206) fun v230 =>
 bK (fAddr 11 v230) fun v231 =>
 bK (ldO 1 false h218 (chkV h218 v231)) fun v232 =>
 bK (fAddr 3 v215) fun v233 =>
 bK (ldO 1 false h218 (chkV h218 v233)) fun v234 =>
 mK (bslM 1 false [(0, 1)] [(NV.int .i64 (.ofNat 0))] [(chkV h218 v234)] h218) fun v235 h236 =>
 mK (appM Tryz.prog 3 (chkV h236 v232) (chkV h236 v235) h236) fun v237 h238 =>
 nextK h236 h238 (
 bK (nilO v206) fun v239 =>
 bK (fAddr 11 v239) fun v240 =>
 mK (stM 1 (chkV h238 v240) (chkV h238 v237) h238) fun v241 h242 =>
 nextK h238 h242 (
 J228 v205 v206 v207 v208 v209 h242))) (
 bK (eqI v220 (NV.int .i64 (.ofNat 1))) fun v243 =>
 condK v243 (
 bK (nilO v206) fun v244 =>
 bK (fAddr 12 v244) fun v245 =>
 bK (ldO 1 false h218 (chkV h218 v245)) fun v246 =>
 bK (fAddr 4 v215) fun v247 =>
 bK (ldO 4 true h218 (chkV h218 v247)) fun v248 =>
 mK (bslM 1 false [(0, 4)] [(NV.int .i64 (.ofNat 0)), (NV.int .i64 (.ofNat 0)), (NV.int .i64 (.ofNat 0)), (NV.bool false)] [(chkV h218 v248)] h218) fun v249 h250 =>
 mK (appM Tryz.prog 77 (chkV h250 v246) (chkV h250 v249) h250) fun v251 h252 =>
 nextK h250 h252 (
 bK (nilO v206) fun v253 =>
 bK (fAddr 12 v253) fun v254 =>
 mK (stM 1 (chkV h252 v254) (chkV h252 v251) h252) fun v255 h256 =>
 nextK h252 h256 (
 J228 v205 v206 v207 v208 v209 h256))) (
 bK (eqI v220 (NV.int .i64 (.ofNat 2))) fun v257 =>
 condK v257 (
 bK (nilO v206) fun v258 =>
 bK (fAddr 13 v258) fun v259 =>
 bK (ldO 1 false h218 (chkV h218 v259)) fun v260 =>
 bK (fAddr 8 v215) fun v261 =>
 bK (ldO 3 true h218 (chkV h218 v261)) fun v262 =>
 mK (bslM 1 false [(0, 3)] [(NV.int .i64 (.ofNat 0)), (NV.int .i64 (.ofNat 0)), (NV.bool false)] [(chkV h218 v262)] h218) fun v263 h264 =>
 mK (appM Tryz.prog 61 (chkV h264 v260) (chkV h264 v263) h264) fun v265 h266 =>
 nextK h264 h266 (
 bK (nilO v206) fun v267 =>
 bK (fAddr 13 v267) fun v268 =>
 mK (stM 1 (chkV h266 v268) (chkV h266 v265) h266) fun v269 h270 =>
 nextK h266 h270 (
 J228 v205 v206 v207 v208 v209 h270))) (
 bK (nilO v206) fun v271 =>
 bK (fAddr 14 v271) fun v272 =>
 bK (ldO 1 false h218 (chkV h218 v272)) fun v273 =>
 bK (fAddr 11 v215) fun v274 =>
 bK (ldO 2 true h218 (chkV h218 v274)) fun v275 =>
 mK (bslM 1 false [(0, 2)] [(NV.int .i64 (.ofNat 0)), (NV.bool false)] [(chkV h218 v275)] h218) fun v276 h277 =>
 mK (appM Tryz.prog 79 (chkV h277 v273) (chkV h277 v276) h277) fun v278 h279 =>
 nextK h277 h279 (
 bK (nilO v206) fun v280 =>
 bK (fAddr 14 v280) fun v281 =>
 mK (stM 1 (chkV h279 v281) (chkV h279 v278) h279) fun v282 h283 =>
 nextK h279 h283 (
 J228 v205 v206 v207 v208 v209 h283)))))) (
 J16 v205 v206 h210)) v2 v8 v11 v12 (NV.int .i64 (.ofNat 0)) h9)
theorem e24 : ikB Tryz.prog 9 Tryz.f24 = S24 := by kernel_rfl
theorem k24 [Sig] (w0 : World) : SOK cW w0 24 S24 := okW Tryz.func24 (by kernel_rfl) e24
noncomputable def S25 (call : CallF) (N : Nat) (l : List NV) (h : H) : R :=
 uc l fun v0 l1 => un l1 (
 bK (nilO v0) fun v2 =>
 bK (fAddr 0 v2) fun v3 =>
 bK (ldO 11 true h v3) fun v4 =>
 mK (alM (NB.cells [NV.nslice, NV.nslice, NV.nslice, NV.nslice, NV.nslice, NV.nslice, NV.nslice, (NV.int .i64 (.ofNat 0)), NV.nslice, NV.nslice, (NV.bool false)]) h) fun v5 h6 =>
 mK (stM 11 v5 v4 h6) fun v7 h8 =>
 bK (nilO v0) fun v9 =>
 bK (fAddr 11 v9) fun v10 =>
 bK (ldO 1 false h8 v10) fun v11 =>
 bK (lenSl v11) fun v12 =>
 joinC 2 (fun v13 v14 h15 =>
 bK (nilO v13) fun v17 =>
 bK (fAddr 12 v17) fun v18 =>
 bK (ldO 1 false h15 v18) fun v19 =>
 mK (calM call 14 [v19, (NV.func (.func 91) [] [])] h15) fun v20 h21 =>
 jK (fun v22 h23 =>
 jK (fun v25 h26 =>
 jK (fun v28 h29 =>
 jK (fun v31 h32 =>
 jK (fun v34 h35 =>
 jK (fun v37 h38 =>
 bK (pickO v20 (NV.bool true) v37) fun v40 =>
 jK (fun v41 h42 =>
 jK (fun v44 h45 =>
 jK (fun v47 h48 =>
 jK (fun v50 h51 =>
 jK (fun v53 h54 =>
 jK (fun v56 h57 =>
 bK (pickO v40 (NV.bool true) v56) fun v59 =>
 condK v59 (
 retC (NV.bool false) h57) (
 bK (fAddr 5 v14) fun v60 =>
 bK (ldO 1 false h57 v60) fun v61 =>
 bK (lenSl v61) fun v62 =>
 joinC 2 (fun v63 v64 h65 =>
 bK (fAddr 7 v64) fun v67 =>
 bK (ldO 1 false h65 v67) fun v68 =>
 bK (gtI v68 (NV.int .i64 (.ofNat 0))) fun v69 =>
 joinC 1 (fun v70 h71 =>
 mK (calM call 95 [v70] h71) fun v73 h74 =>
 jK (fun v75 h76 =>
 jK (fun v78 h79 =>
 bK (pickO v73 v78 (NV.bool false)) fun v81 =>
 jK (fun v82 h83 =>
 jK (fun v85 h86 =>
 bK (pickO v81 v85 (NV.bool false)) fun v88 =>
 retC v88 h86) fun J87 => gK v81 true (
 mK (calM call 97 [v82] h83) fun v89 h90 =>
 J87 v89 h90) (J87 (NV.tuple []) h83)) fun J84 => gK v81 true (
 J84 v70 h79) (J84 (NV.tuple []) h79)) fun J80 => gK v73 true (
 mK (calM call 96 [v75] h76) fun v91 h92 =>
 J80 v91 h92) (J80 (NV.tuple []) h76)) fun J77 => gK v73 true (
 J77 v70 h74) (J77 (NV.tuple []) h74)) fun J72 =>
 condK v69 (
 bK (fAddr 7 v64) fun v93 =>
 bK (ldO 1 false h65 v93) fun v94 =>
 bK (subI v94 (NV.int .i64 (.ofNat 1))) fun v95 =>
 mK (calM call 90 [v63, v95] h65) fun v96 h97 =>
 bK (extO 0 v96) fun v98 =>
 bK (extO 1 v96) fun v99 =>
 mK (alM (NB.cells [NV.nslice, NV.nslice]) h97) fun v100 h101 =>
 mK (stM 2 v100 v98 h101) fun v102 h103 =>
 bK (notO v99) fun v104 =>
 jK (fun v105 h106 =>
 jK (fun v108 h109 =>
 jK (fun v111 h112 =>
 jK (fun v114 h115 =>
 jK (fun v117 h118 =>
 jK (fun v120 h121 =>
 jK (fun v123 h124 =>
 jK (fun v126 h127 =>
 bK (pickO v104 (NV.bool true) v126) fun v129 =>
 condK v129 (
 retC (NV.bool false) h127) (
 J72 v63 h127)) fun J128 => gK v104 false (
 bK (gtI v123 (NV.int .i64 (.ofNat 0))) fun v130 =>
 J128 v130 h124) (J128 (NV.tuple []) h124)) fun J125 => gK v104 false (
 bK (addI v111 v120) fun v131 =>
 J125 v131 h121) (J125 (NV.tuple []) h121)) fun J122 => gK v104 false (
 bK (lenSl v117) fun v132 =>
 J122 v132 h118) (J122 (NV.tuple []) h118)) fun J119 => gK v104 false (
 bK (ldO 1 false h115 v114) fun v133 =>
 J119 v133 h115) (J119 (NV.tuple []) h115)) fun J116 => gK v104 false (
 bK (fAddr 1 v100) fun v134 =>
 J116 v134 h112) (J116 (NV.tuple []) h112)) fun J113 => gK v104 false (
 bK (lenSl v108) fun v135 =>
 J113 v135 h109) (J113 (NV.tuple []) h109)) fun J110 => gK v104 false (
 bK (ldO 1 false h106 v105) fun v136 =>
 J110 v136 h106) (J110 (NV.tuple []) h106)) fun J107 => gK v104 false (
 bK (fAddr 0 v100) fun v137 =>
 J107 v137 h103) (J107 (NV.tuple []) h103)) (
 J72 v63 h65)) fun J66 =>
 loopC N 5 (fun L144 v138 v139 v140 v141 v142 h143 =>
 bK (ltI v142 v141) fun v145 =>
 condK v145 (
 bK (ixS 3 v140 v142) fun v146 =>
 bK (ldO 3 true h143 v146) fun v147 =>
 mK (alM (NB.cells [(NV.int .i64 (.ofNat 0)), (NV.bool false), NV.nslice]) h143) fun v148 h149 =>
 mK (stM 3 v148 v147 h149) fun v150 h151 =>
 bK (fAddr 2 v148) fun v152 =>
 bK (ldO 1 false h151 v152) fun v153 =>
 bK (fAddr 0 v148) fun v154 =>
 bK (fAddr 0 v154) fun v155 =>
 bK (ldO 1 false h151 v155) fun v156 =>
 mK (calM call 94 [v138, v153, v156] h151) fun v157 h158 =>
 bK (notO v157) fun v159 =>
 condK v159 (
 retC (NV.bool false) h158) (
 bK (addI v142 (NV.int .i64 (.ofNat 1))) fun v160 =>
 L144 v138 v139 v140 v141 v160 h158)) (
 J66 v138 v139 h143)) v13 v14 v61 v62 (NV.int .i64 (.ofNat 0)) h57)) fun J58 => gK v40 false (
 bK (gtI v53 (NV.int .i64 (.ofNat 1))) fun v161 =>
 J58 v161 h54) (J58 (NV.tuple []) h54)) fun J55 => gK v40 false (
 bK (lenSl v50) fun v162 =>
 J55 v162 h51) (J55 (NV.tuple []) h51)) fun J52 => gK v40 false (
 bK (ldO 1 false h48 v47) fun v163 =>
 J52 v163 h48) (J52 (NV.tuple []) h48)) fun J49 => gK v40 false (
 bK (fAddr 13 v44) fun v164 =>
 J49 v164 h45) (J49 (NV.tuple []) h45)) fun J46 => gK v40 false (
 bK (nilO v41) fun v165 =>
 J46 v165 h42) (J46 (NV.tuple []) h42)) fun J43 => gK v40 false (
 J43 v13 h38) (J43 (NV.tuple []) h38)) fun J39 => gK v20 false (
 mK (calM call 15 [v31, v34] h35) fun v166 h167 =>
 J39 v166 h167) (J39 (NV.tuple []) h35)) fun J36 => gK v20 false (
 J36 (NV.func (.func 93) [] []) h32) (J36 (NV.tuple []) h32)) fun J33 => gK v20 false (
 bK (ldO 1 false h29 v28) fun v168 =>
 J33 v168 h29) (J33 (NV.tuple []) h29)) fun J30 => gK v20 false (
 bK (fAddr 13 v25) fun v169 =>
 J30 v169 h26) (J30 (NV.tuple []) h26)) fun J27 => gK v20 false (
 bK (nilO v22) fun v170 =>
 J27 v170 h23) (J27 (NV.tuple []) h23)) fun J24 => gK v20 false (
 J24 v13 h21) (J24 (NV.tuple []) h21)) fun J16 =>
 loopC N 4 (fun L176 v171 v172 v173 v174 h175 =>
 bK (ltI v174 v173) fun v177 =>
 condK v177 (
 mK (calM call 90 [v171, v174] h175) fun v178 h179 =>
 bK (extO 0 v178) fun v180 =>
 bK (extO 1 v178) fun v181 =>
 mK (alM (NB.cells [NV.nslice, NV.nslice]) h179) fun v182 h183 =>
 mK (stM 2 v182 v180 h183) fun v184 h185 =>
 bK (notO v181) fun v186 =>
 condK v186 (
 retC (NV.bool false) h185) (
 bK (addI v174 (NV.int .i64 (.ofNat 1))) fun v187 =>
 L176 v171 v172 v173 v187 h185)) (
 J16 v171 v172 h175)) v0 v5 v12 (NV.int .i64 (.ofNat 0)) h8)
theorem e25 : ikB Tryz.prog 9 Tryz.f25 = S25 := by kernel_rfl
theorem k25 [Sig] (w0 : World) : SOK cW w0 25 S25 := okW Tryz.func25 (by kernel_rfl) e25
noncomputable def S33 (call : CallF) (N : Nat) (l : List NV) (h : H) : R :=
 uc l fun v0 l1 => uc l1 fun v2 l3 => un l3 (
 bK (lenSl v0) fun v4 =>
 joinC 0 (fun h5 =>
 retC (NV.int .i64 (.negSucc 0)) h5) fun J6 =>
 loopC N 4 (fun L12 v7 v8 v9 v10 h11 =>
 bK (ltI v10 v9) fun v13 =>
 condK v13 (
 bK (ixS 4 v7 v10) fun v14 =>
 bK (ldO 4 true h11 v14) fun v15 =>
 mK (calV call v8 [v15] h11) fun v16 h17 =>
 condK v16 (
 retC v10 h17) (
 bK (addI v10 (NV.int .i64 (.ofNat 1))) fun v18 =>
 L12 v7 v8 v9 v18 h17)) (
 J6 h11)) v0 v2 v4 (NV.int .i64 (.ofNat 0)) h)
theorem e33 : ikB Tryz.prog 9 Tryz.f33 = S33 := by kernel_rfl
theorem k33 [Sig] (w0 : World) : SOK cW w0 33 S33 := okW Tryz.func33 (by kernel_rfl) e33
noncomputable def S34 (call : CallF) (N : Nat) (l : List NV) (h : H) : R :=
 uc l fun v0 l1 => uc l1 fun v2 l3 => un l3 (
 bK (lenSl v0) fun v4 =>
 joinC 0 (fun h5 =>
 retC (NV.int .i64 (.negSucc 0)) h5) fun J6 =>
 loopC N 4 (fun L12 v7 v8 v9 v10 h11 =>
 bK (ltI v10 v9) fun v13 =>
 condK v13 (
 bK (ixS 3 v7 v10) fun v14 =>
 bK (ldO 3 true h11 v14) fun v15 =>
 mK (calV call v8 [v15] h11) fun v16 h17 =>
 condK v16 (
 retC v10 h17) (
 bK (addI v10 (NV.int .i64 (.ofNat 1))) fun v18 =>
 L12 v7 v8 v9 v18 h17)) (
 J6 h11)) v0 v2 v4 (NV.int .i64 (.ofNat 0)) h)
theorem e34 : ikB Tryz.prog 9 Tryz.f34 = S34 := by kernel_rfl
theorem k34 [Sig] (w0 : World) : SOK cW w0 34 S34 := okW Tryz.func34 (by kernel_rfl) e34
noncomputable def S35 (call : CallF) (N : Nat) (l : List NV) (h : H) : R :=
 uc l fun v0 l1 => un l1 (
 bK (eqD Tryz.prog .eql 22 h v0 NV.nslice) fun v2 =>
 condK v2 (
 retC NV.nslice h) (
 mK (bslM 0 false [] [] [] h) fun v3 h4 =>
 mK (appM Tryz.prog 58 v3 v0 h4) fun v5 h6 =>
 retC v5 h6))
theorem e35 : ikB Tryz.prog 9 Tryz.f35 = S35 := by kernel_rfl
theorem k35 [Sig] (w0 : World) : SOK cW w0 35 S35 := okW Tryz.func35 (by kernel_rfl) e35
noncomputable def S36 (call : CallF) (N : Nat) (l : List NV) (h : H) : R :=
 uc l fun v0 l1 => un l1 (
 bK (eqD Tryz.prog .eql 23 h v0 NV.nslice) fun v2 =>
 condK v2 (
 retC NV.nslice h) (
 mK (bslM 0 false [] [] [] h) fun v3 h4 =>
 mK (appM Tryz.prog 81 v3 v0 h4) fun v5 h6 =>
 retC v5 h6))
theorem e36 : ikB Tryz.prog 9 Tryz.f36 = S36 := by kernel_rfl
theorem k36 [Sig] (w0 : World) : SOK cW w0 36 S36 := okW Tryz.func36 (by kernel_rfl) e36
noncomputable def S37 (call : CallF) (N : Nat) (l : List NV) (h : H) : R :=
 uc l fun v0 l1 => un l1 (
 bK (eqD Tryz.prog .eql 24 h v0 NV.nslice) fun v2 =>
 condK v2 (
 retC NV.nslice h) (
 mK (bslM 0 false [] [] [] h) fun v3 h4 =>
 mK (appM Tryz.prog 84 v3 v0 h4) fun v5 h6 =>
 retC v5 h6))
theorem e37 : ikB Tryz.prog 9 Tryz.f37 = S37 := by kernel_rfl
theorem k37 [Sig] (w0 : World) : SOK cW w0 37 S37 := okW Tryz.func37 (by kernel_rfl) e37
noncomputable def S38 (call : CallF) (N : Nat) (l : List NV) (h : H) : R :=
 uc l fun v0 l1 => un l1 (
 bK (eqD Tryz.prog .eql 25 h v0 NV.nslice) fun v2 =>
 condK v2 (
 retC NV.nslice h) (
 mK (bslM 0 false [] [] [] h) fun v3 h4 =>
 mK (appM Tryz.prog 77 v3 v0 h4) fun v5 h6 =>
 retC v5 h6))
theorem e38 : ikB Tryz.prog 9 Tryz.f38 = S38 := by kernel_rfl
theorem k38 [Sig] (w0 : World) : SOK cW w0 38 S38 := okW Tryz.func38 (by kernel_rfl) e38
noncomputable def S39 (call : CallF) (N : Nat) (l : List NV) (h : H) : R :=
 uc l fun v0 l1 => un l1 (
 bK (eqD Tryz.prog .eql 26 h v0 NV.nslice) fun v2 =>
 condK v2 (
 retC NV.nslice h) (
 mK (bslM 0 false [] [] [] h) fun v3 h4 =>
 mK (appM Tryz.prog 61 v3 v0 h4) fun v5 h6 =>
 retC v5 h6))
theorem e39 : ikB Tryz.prog 9 Tryz.f39 = S39 := by kernel_rfl
theorem k39 [Sig] (w0 : World) : SOK cW w0 39 S39 := okW Tryz.func39 (by kernel_rfl) e39
noncomputable def S40 (call : CallF) (N : Nat) (l : List NV) (h : H) : R :=
 uc l fun v0 l1 => un l1 (
 bK (eqD Tryz.prog .eql 27 h v0 NV.nslice) fun v2 =>
 condK v2 (
 retC NV.nslice h) (
 mK (bslM 0 false [] [] [] h) fun v3 h4 =>
 mK (appM Tryz.prog 86 v3 v0 h4) fun v5 h6 =>
 retC v5 h6))
theorem e40 : ikB Tryz.prog 9 Tryz.f40 = S40 := by kernel_rfl
theorem k40 [Sig] (w0 : World) : SOK cW w0 40 S40 := okW Tryz.func40 (by kernel_rfl) e40
noncomputable def S41 (call : CallF) (N : Nat) (l : List NV) (h : H) : R :=
 uc l fun v0 l1 => un l1 (
 bK (eqD Tryz.prog .eql 28 h v0 NV.nslice) fun v2 =>
 condK v2 (
 retC NV.nslice h) (
 mK (bslM 0 false [] [] [] h) fun v3 h4 =>
 mK (appM Tryz.prog 70 v3 v0 h4) fun v5 h6 =>
 retC v5 h6))
theorem e41 : ikB Tryz.prog 9 Tryz.f41 = S41 := by kernel_rfl
theorem k41 [Sig] (w0 : World) : SOK cW w0 41 S41 := okW Tryz.func41 (by kernel_rfl) e41
noncomputable def S42 (call : CallF) (N : Nat) (l : List NV) (h : H) : R :=
 uc l fun v0 l1 => un l1 (
 bK (eqD Tryz.prog .eql 29 h v0 NV.nslice) fun v2 =>
 condK v2 (
 retC NV.nslice h) (
 mK (bslM 0 false [] [] [] h) fun v3 h4 =>
 mK (appM Tryz.prog 89 v3 v0 h4) fun v5 h6 =>
 retC v5 h6))
theorem e42 : ikB Tryz.prog 9 Tryz.f42 = S42 := by kernel_rfl
theorem k42 [Sig] (w0 : World) : SOK cW w0 42 S42 := okW Tryz.func42 (by kernel_rfl) e42
noncomputable def S43 (call : CallF) (N : Nat) (l : List NV) (h : H) : R :=
 uc l fun v0 l1 => un l1 (
 bK (eqD Tryz.prog .eql 30 h v0 NV.nslice) fun v2 =>
 condK v2 (
 retC NV.nslice h) (
 mK (bslM 0 false [] [] [] h) fun v3 h4 =>
 mK (appM Tryz.prog 68 v3 v0 h4) fun v5 h6 =>
 retC v5 h6))
theorem e43 : ikB Tryz.prog 9 Tryz.f43 = S43 := by kernel_rfl
theorem k43 [Sig] (w0 : World) : SOK cW w0 43 S43 := okW Tryz.func43 (by kernel_rfl) e43
noncomputable def S44 (call : CallF) (N : Nat) (l : List NV) (h : H) : R :=
 uc l fun v0 l1 => un l1 (
 mK (calM call 98 [v0] h) fun v2 h3 =>
 bK (lenSl v2) fun v4 =>
 joinC 1 (fun v5 h6 =>
 retC v5 h6) fun J7 =>
 loopC N 3 (fun L12 v8 v9 v10 h11 =>
 bK (ltI v10 v9) fun v13 =>
 condK v13 (
 bK (ixS 9 v8 v10) fun v14 =>
 bK (nilO v14) fun v15 =>
 bK (fAddr 5 v15) fun v16 =>
 bK (ldO 1 false h11 (chkV h11 v16)) fun v17 =>
 bK (nilO v14) fun v18 =>
 bK (fAddr 6 v18) fun v19 =>
 bK (ldO 1 false h11 (chkV h11 v19)) fun v20 =>
 bK (nilO v14) fun v21 =>
 bK (fAddr 7 v21) fun v22 =>
 bK (ldO 1 false h11 (chkV h11 v22)) fun v23 =>
 mK (calM call 21 [(chkV h11 v17)] h11) fun v24 h25 =>
 nextK h11 h25 (
 bK (ldO 1 false h25 (chkV h25 v19)) fun v26 =>
 sameK v26 v20 (
 bK (ldO 1 false h25 (chkV h25 v22)) fun v27 =>
 sameK v27 v23 (
 mK (calM call 44 [(chkV h25 v20)] h25) fun v28 h29 =>
 nextK h25 h29 (
 bK (ldO 1 false h29 (chkV h29 v22)) fun v30 =>
 sameK v30 v23 (
 mK (calM call 44 [(chkV h29 v23)] h29) fun v31 h32 =>
 nextK h29 h32 (
 bK (nilO v14) fun v33 =>
 bK (fAddr 5 v33) fun v34 =>
 mK (stM 1 (chkV h32 v34) (chkV h32 v24) h32) fun v35 h36 =>
 nextK h32 h36 (
 bK (nilO v14) fun v37 =>
 bK (fAddr 6 v37) fun v38 =>
 mK (stM 1 (chkV h36 v38) (chkV h36 v28) h36) fun v39 h40 =>
 nextK h36 h40 (
 bK (nilO v14) fun v41 =>
 bK (fAddr 7 v41) fun v42 =>
 mK (stM 1 (chkV h40 v42) (chkV h40 v31) h40) fun v43 h44 =>
 nextK h40 h44 (
 bK (addI v10 (NV.int .i64 (.ofNat 1))) fun v45 =>
 L12 v8 v9 v45 h44)))))))))) (
 J7 v8 h11)) v2 v4 (NV.int .i64 (.ofNat 0)) h3)
theorem e44 : ikB Tryz.prog 9 Tryz.f44 = S44 := by kernel_rfl
theorem k44 [Sig] (w0 : World) : SOK cW w0 44 S44 := okW Tryz.func44 (by kernel_rfl) e44
noncomputable def S46 (call : CallF) (N : Nat) (l : List NV) (h : H) : R :=
 uc l fun v0 l1 => un l1 (
 bK (eqD Tryz.prog .eql 66 h v0 NV.nslice) fun v2 =>
 condK v2 (
 retC NV.nslice h) (
 mK (bslM 0 true [] [] [] h) fun v3 h4 =>
 mK (appM Tryz.prog 5 v3 v0 h4) fun v5 h6 =>
 retC v5 h6))
theorem e46 : ikB Tryz.prog 9 Tryz.f46 = S46 := by kernel_rfl
theorem k46 [Sig] (w0 : World) : SOK cW w0 46 S46 := okW Tryz.func46 (by kernel_rfl) e46
noncomputable def S51 (call : CallF) (N : Nat) (l : List NV) (h : H) : R :=
 uc l fun v0 l1 => uc l1 fun v2 l3 => uc l3 fun v4 l5 => un l5 (
 bK (nilO v2) fun v6 =>
 bK (ldO 1 false h (chkV h v6)) fun v7 =>
 bK (nilO v0) fun v8 =>
 bK (ldO 1 false h (chkV h v8)) fun v9 =>
 bK (lenSl v9) fun v10 =>
 mK (bslM 1 false [(0, 1)] [(NV.int .i64 (.ofNat 0))] [(chkV h v10)] h) fun v11 h12 =>
 mK (appM Tryz.prog 3 (chkV h12 v7) (chkV h12 v11) h12) fun v13 h14 =>
 nextK h12 h14 (
 bK (nilO v2) fun v15 =>
 mK (stM 1 (chkV h14 v15) (chkV h14 v13) h14) fun v16 h17 =>
 nextK h14 h17 (
 bK (nilO v0) fun v18 =>
 bK (ldO 1 false h17 v18) fun v19 =>
 mK (bslM 1 false [(0, 1)] [NV.nilptr] [v4] h17) fun v20 h21 =>
 mK (appM Tryz.prog 73 v19 v20 h21) fun v22 h23 =>
 bK (nilO v0) fun v24 =>
 mK (stM 1 v24 v22 h23) fun v25 h26 =>
 retC (NV.tuple []) h26)))
theorem e51 : ikB Tryz.prog 9 Tryz.f51 = S51 := by kernel_rfl
theorem k51 [Sig] (w0 : World) : SOK cW w0 51 S51 := okW Tryz.func51 (by kernel_rfl) e51
noncomputable def S53 (call : CallF) (N : Nat) (l : List NV) (h : H) : R :=
 uc l fun v0 l1 => uc l1 fun v2 l3 => un l3 (
 mK (alM (NB.cells [(NV.int .i64 (.ofNat 0)), (NV.int .u64 (.ofNat 0)), (NV.int .u64 (.ofNat 0)), (NV.bool false)]) h) fun v4 h5 =>
 bK (ixS 9 v2 (NV.int .i64 (.ofNat 0))) fun v6 =>
 bK (ldO 9 true h5 v6) fun v7 =>
 mK (alM (NB.cells [(NV.int .i64 (.ofNat 0)), (NV.int .i64 (.ofNat 0)), (NV.int .i64 (.ofNat 0)), (NV.int .u64 (.ofNat 0)), (NV.int .u64 (.ofNat 0)), NV.nslice, NV.nslice, NV.nslice, (NV.bool false)]) h5) fun v8 h9 =>
 mK (stM 9 v8 v7 h9) fun v10 h11 =>
 bK (fAddr 0 v8) fun v12 =>
 bK (ldO 1 false h11 v12) fun v13 =>
 bK (eqI v13 (NV.int .i64 (.ofNat 65))) fun v14 =>
 condK v14 (
 bK (fAddr 3 v8) fun v15 =>
 bK (ldO 1 false h11 v15) fun v16 =>
 bK (bldO [(0, 1), (1, 1)] [(NV.int .i64 (.ofNat 0)), (NV.int .u64 (.ofNat 0)), (NV.int .u64 (.ofNat 0)), (NV.bool false)] [(NV.int .i64 (.ofNat 127)), v16]) fun v17 =>
 mK (stM 4 v4 v17 h11) fun v18 h19 =>
 bK (ldB 4 true h19 v4) fun v20 =>
 retC v20 h19) (
 bK (eqI v13 (NV.int .i64 (.ofNat 66))) fun v21 =>
 condK v21 (
 bK (fAddr 3 v8) fun v22 =>
 bK (ldO 1 false h11 v22) fun v23 =>
 bK (bldO [(0, 1), (1, 1)] [(NV.int .i64 (.ofNat 0)), (NV.int .u64 (.ofNat 0)), (NV.int .u64 (.ofNat 0)), (NV.bool false)] [(NV.int .i64 (.ofNat 126)), v23]) fun v24 =>
 mK (stM 4 v4 v24 h11) fun v25 h26 =>
 bK (ldB 4 true h26 v4) fun v27 =>
 retC v27 h26) (
 bK (eqI v13 (NV.int .i64 (.ofNat 67))) fun v28 =>
 condK v28 (
 bK (fAddr 3 v8) fun v29 =>
 bK (ldO 1 false h11 v29) fun v30 =>
 bK (bldO [(0, 1), (1, 1)] [(NV.int .i64 (.ofNat 0)), (NV.int .u64 (.ofNat 0)), (NV.int .u64 (.ofNat 0)), (NV.bool false)] [(NV.int .i64 (.ofNat 125)), v30]) fun v31 =>
 mK (stM 4 v4 v31 h11) fun v32 h33 =>
 bK (ldB 4 true h33 v4) fun v34 =>
 retC v34 h33) (
 bK (eqI v13 (NV.int .i64 (.ofNat 68))) fun v35 =>
 condK v35 (
 bK (fAddr 3 v8) fun v36 =>
 bK (ldO 1 false h11 v36) fun v37 =>
 bK (bldO [(0, 1), (1, 1)] [(NV.int .i64 (.ofNat 0)), (NV.int .u64 (.ofNat 0)), (NV.int .u64 (.ofNat 0)), (NV.bool false)] [(NV.int .i64 (.ofNat 124)), v37]) fun v38 =>
 mK (stM 4 v4 v38 h11) fun v39 h40 =>
 bK (ldB 4 true h40 v4) fun v41 =>
 retC v41 h40) (
 bK (eqI v13 (NV.int .i64 (.ofNat 208))) fun v42 =>
 condK v42 (
 bK (fAddr 1 v8) fun v43 =>
 bK (ldO 1 false h11 v43) fun v44 =>
 mK (calM call 50 [v44] h11) fun v45 h46 =>
 mK (stM 4 v4 v45 h46) fun v47 h48 =>
 bK (ldB 4 true h48 v4) fun v49 =>
 retC v49 h48) (
 bK (eqI v13 (NV.int .i64 (.ofNat 210))) fun v50 =>
 condK v50 (
 bK (nilO v0) fun v51 =>
 bK (fAddr 12 v51) fun v52 =>
 bK (ldO 1 false h11 (chkV h11 v52)) fun v53 =>
 bK (nilO v53) fun v54 =>
 bK (fAddr 11 v54) fun v55 =>
 bK (ldO 1 false h11 (chkV h11 v55)) fun v56 =>
 bK (fAddr 1 v8) fun v57 =>
 bK (ldO 1 false h11 (chkV h11 v57)) fun v58 =>
 bK (ixS 1 v56 v58) fun v59 =>
 bK (ldO 1 false h11 (chkV h11 v59)) fun v60 =>
 bK (cvI .u64 v60) fun v61 =>
 bK (bldO [(0, 1), (1, 1)] [(NV.int .i64 (.ofNat 0)), (NV.int .u64 (.ofNat 0)), (NV.int .u64 (.ofNat 0)), (NV.bool false)] [(NV.int .i64 (.ofNat 112)), v61]) fun v62 =>
 mK (stM 4 (chkV h11 v4) (chkV h11 v62) h11) fun v63 h64 =>
 nextK h11 h64 (
 bK (ldB 4 true h64 v4) fun v65 =>
 retC v65 h64)) (
 bK (eqI v13 (NV.int .i64 (.ofNat 35))) fun v66 =>
 condK v66 (
 bK (nilO v0) fun v67 =>
 bK (fAddr 0 v67) fun v68 =>
 bK (ldO 1 false h11 (chkV h11 v68)) fun v69 =>
 bK (nilO v69) fun v70 =>
 bK (fAddr 3 v70) fun v71 =>
 bK (ldO 1 false h11 (chkV h11 v71)) fun v72 =>
 bK (nilO v0) fun v73 =>
 bK (fAddr 12 v73) fun v74 =>
 bK (ldO 1 false h11 (chkV h11 v74)) fun v75 =>
 bK (nilO v75) fun v76 =>
 bK (fAddr 14 v76) fun v77 =>
 bK (ldO 1 false h11 (chkV h11 v77)) fun v78 =>
 bK (fAddr 1 v8) fun v79 =>
 bK (ldO 1 false h11 (chkV h11 v79)) fun v80 =>
 bK (ixS 1 v78 v80) fun v81 =>
 bK (ldO 1 false h11 (chkV h11 v81)) fun v82 =>
 bK (ixS 1 v72 v82) fun v83 =>
 bK (ldO 1 false h11 (chkV h11 v83)) fun v84 =>
 bK (nilO v84) fun v85 =>
 bK (fAddr 2 v85) fun v86 =>
 bK (ldO 4 true h11 (chkV h11 v86)) fun v87 =>
 mK (stM 4 (chkV h11 v4) (chkV h11 v87) h11) fun v88 h89 =>
 nextK h11 h89 (
 bK (ldB 4 true h89 v4) fun v90 =>
 retC v90 h89)) (
 bK (fAddr 3 v8) fun v91 =>
 bK (ldO 1 false h11 v91) fun v92 =>
 bK (fAddr 4 v8) fun v93 =>
 bK (ldO 1 false h11 v93) fun v94 =>
 bK (bldO [(0, 1), (1, 1), (2, 1)] [(NV.int .i64 (.ofNat 0)), (NV.int .u64 (.ofNat 0)), (NV.int .u64 (.ofNat 0)), (NV.bool false)] [(NV.int .i64 (.ofNat 123)), v92, v94]) fun v95 =>
 mK (stM 4 v4 v95 h11) fun v96 h97 =>
 bK (ldB 4 true h97 v4) fun v98 =>
 retC v98 h97))))))))
theorem e53 : ikB Tryz.prog 9 Tryz.f53 = S53 := by kernel_rfl
theorem k53 [Sig] (w0 : World) : SOK cW w0 53 S53 := okW Tryz.func53 (by kernel_rfl) e53
end Go.Proofs.YtoikhmpgaihiaaaGreatDoor
