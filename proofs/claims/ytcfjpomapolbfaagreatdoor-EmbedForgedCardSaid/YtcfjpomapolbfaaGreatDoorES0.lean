/- Seat Ytcfjpomapolbfaa.ZD: the shallow functions of this program, part 0: printed by a program, each held against the staged interpreter by the kernel. -/
import Derived.Test.YtcfjpomapolbfaaGreatDoorEA
set_option maxRecDepth 100000
set_option linter.unusedVariables false
namespace Go.Proofs.YtcfjpomapolbfaaGreatDoor
open Go Go.Ne
noncomputable def S3 (call : CallF) (N : Nat) (l : List NV) (h : H) : R :=
 uc l fun v0 l1 => uc l1 fun v2 l3 => uc l3 fun v4 l5 => uc l5 fun v6 l7 => un l7 (
 mK (boxM false v4 h) fun v8 h9 =>
 mK (calM call 4 [] h9) fun v10 h11 =>
 bK (notO v10) fun v12 =>
 condK v12 (
 retC (NV.bool false) h11) (
 bK (bldO [(0, 1), (1, 1), (2, 1)] [(NV.int .i64 (.ofNat 0)), (NV.int .i64 (.ofNat 0)), (NV.int .i64 (.ofNat 0))] [(NV.int .i64 (.ofNat 100)), (NV.int .i64 (.ofNat 5)), (NV.int .i64 (.ofNat 2))]) fun v13 =>
 mK (calM call 5 [v13] h11) fun v14 h15 =>
 mK (bslM 8 true [(0, 1), (1, 1), (2, 1), (3, 1), (4, 1), (5, 1), (6, 1), (7, 1)] [(NV.int .u8 (.ofNat 0)), (NV.int .u8 (.ofNat 0)), (NV.int .u8 (.ofNat 0)), (NV.int .u8 (.ofNat 0)), (NV.int .u8 (.ofNat 0)), (NV.int .u8 (.ofNat 0)), (NV.int .u8 (.ofNat 0)), (NV.int .u8 (.ofNat 0))] [(NV.int .u8 (.ofNat 0)), (NV.int .u8 (.ofNat 97)), (NV.int .u8 (.ofNat 115)), (NV.int .u8 (.ofNat 109)), (NV.int .u8 (.ofNat 1)), (NV.int .u8 (.ofNat 0)), (NV.int .u8 (.ofNat 0)), (NV.int .u8 (.ofNat 0))] h15) fun v16 h17 =>
 mK (cvbM v16 h17) fun v18 h19 =>
 mK (calM call 6 [v14, v18] h19) fun v20 h21 =>
 bK (extO 0 v20) fun v22 =>
 bK (extO 1 v20) fun v23 =>
 bK (bldO [(0, 1), (1, 1)] [(NV.int .i64 (.ofNat 0)), (NV.bool false)] [(NV.int .i64 (.ofNat 126)), (NV.bool true)]) fun v24 =>
 bK (bldO [(0, 1), (1, 1)] [(NV.int .i64 (.ofNat 0)), (NV.int .u64 (.ofNat 0)), (NV.int .u64 (.ofNat 0)), (NV.bool false)] [(NV.int .i64 (.ofNat 126)), (NV.int .u64 (.ofNat 3))]) fun v25 =>
 mK (calM call 7 [v14, v24, v25] h21) fun v26 h27 =>
 bK (extO 0 v26) fun v28 =>
 bK (extO 1 v26) fun v29 =>
 bK (eqI v0 v22) fun v30 =>
 condK v30 (
 mK (calM call 8 [v14, v0] h27) fun v31 h32 =>
 bK (extO 0 v31) fun v33 =>
 bK (extO 1 v31) fun v34 =>
 mK (alM (NB.cells [(NV.int .i64 (.ofNat 0)), (NV.int .u64 (.ofNat 0)), (NV.int .u64 (.ofNat 0)), (NV.bool false)]) h32) fun v35 h36 =>
 mK (stM 4 v35 v33 h36) fun v37 h38 =>
 mK (calM call 9 [v14, v0, v6] h38) fun v39 h40 =>
 bK (extO 0 v39) fun v41 =>
 bK (extO 1 v39) fun v42 =>
 bK (eqI v34 (NV.int .i64 (.ofNat 60))) fun v43 =>
 jK (fun v44 h45 =>
 jK (fun v47 h48 =>
 bK (pickO v43 v47 (NV.bool false)) fun v50 =>
 retC v50 h48) fun J49 => gK v43 true (
 bK (eqI v44 (NV.int .i64 (.ofNat 60))) fun v51 =>
 J49 v51 h45) (J49 (NV.tuple []) h45)) fun J46 => gK v43 true (
 J46 v42 h40) (J46 (NV.tuple []) h40)) (
 bK (eqI v0 v28) fun v52 =>
 condK v52 (
 mK (calM call 10 [v14, v0] h27) fun v53 h54 =>
 bK (eqI v53 (NV.int .i64 (.ofNat 60))) fun v55 =>
 jK (fun v56 h57 =>
 jK (fun v59 h60 =>
 jK (fun v62 h63 =>
 jK (fun v65 h66 =>
 jK (fun v68 h69 =>
 bK (pickO v55 v68 (NV.bool false)) fun v71 =>
 retC v71 h69) fun J70 => gK v55 true (
 bK (eqI v65 (NV.int .i64 (.ofNat 60))) fun v72 =>
 J70 v72 h66) (J70 (NV.tuple []) h66)) fun J67 => gK v55 true (
 mK (calM call 11 [v56, v59, v62, (NV.int .u8 (.ofNat 1))] h63) fun v73 h74 =>
 J67 v73 h74) (J67 (NV.tuple []) h63)) fun J64 => gK v55 true (
 J64 v2 h60) (J64 (NV.tuple []) h60)) fun J61 => gK v55 true (
 J61 v0 h57) (J61 (NV.tuple []) h57)) fun J58 => gK v55 true (
 J58 v14 h54) (J58 (NV.tuple []) h54)) (
 mK (calM call 12 [v14, v0] h27) fun v75 h76 =>
 bK (extO 0 v75) fun v77 =>
 bK (extO 1 v75) fun v78 =>
 mK (calM call 13 [v14, v0] h76) fun v79 h80 =>
 bK (extO 0 v79) fun v81 =>
 bK (extO 1 v79) fun v82 =>
 mK (calM call 14 [v14, v0, NV.nslice] h80) fun v83 h84 =>
 bK (extO 0 v83) fun v85 =>
 bK (extO 1 v83) fun v86 =>
 mK (bslM 1 false [(0, 1)] [(NV.int .i64 (.ofNat 0))] [v0] h84) fun v87 h88 =>
 mK (calM call 14 [v14, v22, v87] h88) fun v89 h90 =>
 bK (extO 0 v89) fun v91 =>
 bK (extO 1 v89) fun v92 =>
 mK (calM call 9 [v14, v0, v6] h90) fun v93 h94 =>
 bK (extO 0 v93) fun v95 =>
 bK (extO 1 v93) fun v96 =>
 mK (calM call 15 [v14, v0] h94) fun v97 h98 =>
 bK (extO 0 v97) fun v99 =>
 bK (extO 1 v97) fun v100 =>
 mK (alM (NB.cells [NV.nslice, NV.nslice]) h98) fun v101 h102 =>
 mK (stM 2 v101 v99 h102) fun v103 h104 =>
 bK (ldO 4 true h104 v8) fun v105 =>
 mK (bslM 1 false [(0, 4)] [(NV.int .i64 (.ofNat 0)), (NV.int .u64 (.ofNat 0)), (NV.int .u64 (.ofNat 0)), (NV.bool false)] [v105] h104) fun v106 h107 =>
 mK (calM call 16 [v14, v0, v106] h107) fun v108 h109 =>
 bK (extO 0 v108) fun v110 =>
 bK (extO 1 v108) fun v111 =>
 mK (calM call 17 [v14, v0] h109) fun v112 h113 =>
 bK (extO 0 v112) fun v114 =>
 bK (extO 1 v112) fun v115 =>
 mK (alM (NB.cells [(NV.int .i64 (.ofNat 0)), (NV.int .i64 (.ofNat 0)), (NV.int .i64 (.ofNat 0)), (NV.bool false)]) h113) fun v116 h117 =>
 mK (stM 4 v116 v114 h117) fun v118 h119 =>
 mK (calM call 18 [v14, v0, v2] h119) fun v120 h121 =>
 bK (extO 0 v120) fun v122 =>
 bK (extO 1 v120) fun v123 =>
 mK (alM (NB.cells [(NV.int .i64 (.ofNat 0)), (NV.int .u64 (.ofNat 0)), (NV.int .u64 (.ofNat 0)), (NV.bool false)]) h121) fun v124 h125 =>
 mK (stM 4 v124 v122 h125) fun v126 h127 =>
 mK (calM call 19 [v14, v0] h127) fun v128 h129 =>
 bK (extO 0 v128) fun v130 =>
 bK (extO 1 v128) fun v131 =>
 mK (calM call 20 [v14, v0] h129) fun v132 h133 =>
 bK (extO 0 v132) fun v134 =>
 bK (extO 1 v132) fun v135 =>
 mK (alM (NB.cells [(NV.int .i64 (.ofNat 0)), (NV.int .i64 (.ofNat 0)), (NV.bool false)]) h133) fun v136 h137 =>
 mK (stM 3 v136 v134 h137) fun v138 h139 =>
 mK (calM call 21 [v14, v0, v2] h139) fun v140 h141 =>
 bK (extO 0 v140) fun v142 =>
 bK (extO 1 v140) fun v143 =>
 mK (calM call 22 [v14, v0] h141) fun v144 h145 =>
 bK (extO 0 v144) fun v146 =>
 bK (extO 1 v144) fun v147 =>
 mK (calM call 23 [v14, v0] h145) fun v148 h149 =>
 bK (extO 0 v148) fun v150 =>
 bK (extO 1 v148) fun v151 =>
 mK (alM (NB.cells [(NV.int .i64 (.ofNat 0)), (NV.bool false)]) h149) fun v152 h153 =>
 mK (stM 2 v152 v150 h153) fun v154 h155 =>
 mK (calM call 8 [v14, v0] h155) fun v156 h157 =>
 bK (extO 0 v156) fun v158 =>
 bK (extO 1 v156) fun v159 =>
 mK (alM (NB.cells [(NV.int .i64 (.ofNat 0)), (NV.int .u64 (.ofNat 0)), (NV.int .u64 (.ofNat 0)), (NV.bool false)]) h157) fun v160 h161 =>
 mK (stM 4 v160 v158 h161) fun v162 h163 =>
 bK (ldO 4 true h163 (chkV h163 v8)) fun v164 =>
 bK (ldO 4 true h163 (chkV h163 v8)) fun v165 =>
 bK (ldO 4 true h163 (chkV h163 v8)) fun v166 =>
 mK (calM call 10 [(chkV h163 v14), (chkV h163 v0)] h163) fun v167 h168 =>
 nextK h163 h168 (
 bK (ldO 4 true h168 (chkV h168 v8)) fun v169 =>
 sameK v169 v164 (
 bK (ldO 4 true h168 (chkV h168 v8)) fun v170 =>
 sameK v170 v165 (
 bK (ldO 4 true h168 (chkV h168 v8)) fun v171 =>
 sameK v171 v166 (
 mK (calM call 24 [(chkV h168 v14), (chkV h168 v0), (chkV h168 v2), (chkV h168 v164)] h168) fun v172 h173 =>
 nextK h168 h173 (
 bK (ldO 4 true h173 (chkV h173 v8)) fun v174 =>
 sameK v174 v165 (
 bK (ldO 4 true h173 (chkV h173 v8)) fun v175 =>
 sameK v175 v166 (
 mK (calM call 25 [(chkV h173 v14), (chkV h173 v0), (NV.int .u64 (.ofNat 1)), (chkV h173 v165)] h173) fun v176 h177 =>
 nextK h173 h177 (
 bK (ldO 4 true h177 (chkV h177 v8)) fun v178 =>
 sameK v178 v166 (
 mK (calM call 11 [(chkV h177 v14), (chkV h177 v0), (chkV h177 v2), (NV.int .u8 (.ofNat 1))] h177) fun v179 h180 =>
 nextK h177 h180 (
 bK (ldO 4 true h180 (chkV h180 v8)) fun v181 =>
 sameK v181 v166 (
 mK (calM call 26 [(chkV h180 v14), (chkV h180 v0), (NV.int .u64 (.ofNat 1))] h180) fun v182 h183 =>
 nextK h180 h183 (
 bK (ldO 4 true h183 (chkV h183 v8)) fun v184 =>
 sameK v184 v166 (
 mK (calM call 27 [(chkV h183 v14), (chkV h183 v0), (chkV h183 v166)] h183) fun v185 h186 =>
 nextK h183 h186 (
 mK (bslM 21 false [(0, 1), (1, 1), (2, 1), (3, 1), (4, 1), (5, 1), (6, 1), (7, 1), (8, 1), (9, 1), (10, 1), (11, 1), (12, 1), (13, 1), (14, 1), (15, 1), (16, 1), (17, 1), (18, 1), (19, 1), (20, 1)] [(NV.int .i64 (.ofNat 0)), (NV.int .i64 (.ofNat 0)), (NV.int .i64 (.ofNat 0)), (NV.int .i64 (.ofNat 0)), (NV.int .i64 (.ofNat 0)), (NV.int .i64 (.ofNat 0)), (NV.int .i64 (.ofNat 0)), (NV.int .i64 (.ofNat 0)), (NV.int .i64 (.ofNat 0)), (NV.int .i64 (.ofNat 0)), (NV.int .i64 (.ofNat 0)), (NV.int .i64 (.ofNat 0)), (NV.int .i64 (.ofNat 0)), (NV.int .i64 (.ofNat 0)), (NV.int .i64 (.ofNat 0)), (NV.int .i64 (.ofNat 0)), (NV.int .i64 (.ofNat 0)), (NV.int .i64 (.ofNat 0)), (NV.int .i64 (.ofNat 0)), (NV.int .i64 (.ofNat 0)), (NV.int .i64 (.ofNat 0))] [(chkV h186 v78), (chkV h186 v82), (chkV h186 v86), (chkV h186 v92), (chkV h186 v96), (chkV h186 v100), (chkV h186 v111), (chkV h186 v115), (chkV h186 v123), (chkV h186 v131), (chkV h186 v135), (chkV h186 v143), (chkV h186 v147), (chkV h186 v151), (chkV h186 v159), (chkV h186 v167), (chkV h186 v172), (chkV h186 v176), (chkV h186 v179), (chkV h186 v182), (chkV h186 v185)] h186) fun v187 h188 =>
 joinC 2 (fun v189 v190 h191 =>
 mK (calM call 8 [v189, v190] h191) fun v193 h194 =>
 bK (extO 0 v193) fun v195 =>
 bK (extO 1 v193) fun v196 =>
 mK (alM (NB.cells [(NV.int .i64 (.ofNat 0)), (NV.int .u64 (.ofNat 0)), (NV.int .u64 (.ofNat 0)), (NV.bool false)]) h194) fun v197 h198 =>
 mK (stM 4 v197 v195 h198) fun v199 h200 =>
 bK (eqI v196 (NV.int .i64 (.ofNat 0))) fun v201 =>
 jK (fun v202 h203 =>
 jK (fun v205 h206 =>
 jK (fun v208 h209 =>
 bK (pickO v201 v208 (NV.bool false)) fun v211 =>
 jK (fun v212 h213 =>
 jK (fun v215 h216 =>
 jK (fun v218 h219 =>
 jK (fun v221 h222 =>
 jK (fun v224 h225 =>
 bK (pickO v211 v224 (NV.bool false)) fun v227 =>
 jK (fun v228 h229 =>
 jK (fun v231 h232 =>
 jK (fun v234 h235 =>
 jK (fun v237 h238 =>
 bK (pickO v227 v237 (NV.bool false)) fun v240 =>
 retC v240 h238) fun J239 => gK v227 true (
 bK (eqI v234 (NV.int .i64 (.ofNat 0))) fun v241 =>
 J239 v241 h235) (J239 (NV.tuple []) h235)) fun J236 => gK v227 true (
 bK (lenSl v231) fun v242 =>
 J236 v242 h232) (J236 (NV.tuple []) h232)) fun J233 => gK v227 true (
 mK (calM call 29 [v228] h229) fun v243 h244 =>
 J233 v243 h244) (J233 (NV.tuple []) h229)) fun J230 => gK v227 true (
 J230 v189 h225) (J230 (NV.tuple []) h225)) fun J226 => gK v211 true (
 bK (eqI v221 (NV.int .i64 (.negSucc 0))) fun v245 =>
 J226 v245 h222) (J226 (NV.tuple []) h222)) fun J223 => gK v211 true (
 mK (calM call 28 [v212, v218] h219) fun v246 h247 =>
 J223 v246 h247) (J223 (NV.tuple []) h219)) fun J220 => gK v211 true (
 bK (addI v215 (NV.int .i64 (.ofNat 1))) fun v248 =>
 J220 v248 h216) (J220 (NV.tuple []) h216)) fun J217 => gK v211 true (
 J217 v190 h213) (J217 (NV.tuple []) h213)) fun J214 => gK v211 true (
 J214 v189 h209) (J214 (NV.tuple []) h209)) fun J210 => gK v201 true (
 bK (eqI v205 (NV.int .u64 (.ofNat 3))) fun v249 =>
 J210 v249 h206) (J210 (NV.tuple []) h206)) fun J207 => gK v201 true (
 bK (ldO 1 false h203 v202) fun v250 =>
 J207 v250 h203) (J207 (NV.tuple []) h203)) fun J204 => gK v201 true (
 bK (fAddr 1 v197) fun v251 =>
 J204 v251 h200) (J204 (NV.tuple []) h200)) fun J192 =>
 loopC N 4 (fun L257 v252 v253 v254 v255 h256 =>
 bK (lenSl v254) fun v258 =>
 bK (ltI v255 v258) fun v259 =>
 condK v259 (
 bK (ixS 1 v254 v255) fun v260 =>
 bK (ldO 1 false h256 v260) fun v261 =>
 bK (neI v261 (NV.int .i64 (.ofNat 60))) fun v262 =>
 condK v262 (
 retC (NV.bool false) h256) (
 bK (addI v255 (NV.int .i64 (.ofNat 1))) fun v263 =>
 L257 v252 v253 v254 v263 h256)) (
 J192 v252 v253 h256)) v14 v28 v187 (NV.int .i64 (.ofNat 0)) h188))))))))))))))))))
theorem e3 : ikB Tryz.prog 9 Tryz.f3 = S3 := by kernel_rfl
theorem k3 [Sig] (w0 : World) : SOK cW w0 3 S3 := okW Tryz.func3 (by kernel_rfl) e3
noncomputable def S4 (call : CallF) (N : Nat) (l : List NV) (h : H) : R :=
 un l (
 bK (bldO [(0, 1), (1, 1), (2, 1)] [(NV.int .i64 (.ofNat 0)), (NV.int .i64 (.ofNat 0)), (NV.int .i64 (.ofNat 0))] [(NV.int .i64 (.ofNat 100)), (NV.int .i64 (.ofNat 5)), (NV.int .i64 (.ofNat 2))]) fun v0 =>
 mK (calM call 5 [v0] h) fun v1 h2 =>
 bK (eqD Tryz.prog .eql 26 h2 v1 NV.nilptr) fun v3 =>
 condK v3 (
 retC (NV.bool false) h2) (
 bK (bldO [(0, 1)] [(NV.int .i64 (.ofNat 0)), (NV.int .i64 (.ofNat 0)), (NV.bool false)] [(NV.int .i64 (.ofNat 1))]) fun v4 =>
 mK (calM call 30 [v1, v4] h2) fun v5 h6 =>
 bK (extO 0 v5) fun v7 =>
 bK (extO 1 v5) fun v8 =>
 mK (calM call 11 [v1, v7, (NV.int .u64 (.ofNat 65536)), (NV.int .u8 (.ofNat 1))] h6) fun v9 h10 =>
 bK (bldO [(0, 1)] [(NV.int .i64 (.ofNat 0)), (NV.bool false)] [(NV.int .i64 (.ofNat 127))]) fun v11 =>
 bK (bldO [(0, 1), (1, 1)] [(NV.int .i64 (.ofNat 0)), (NV.int .u64 (.ofNat 0)), (NV.int .u64 (.ofNat 0)), (NV.bool false)] [(NV.int .i64 (.ofNat 127)), (NV.int .u64 (.ofNat 7))]) fun v12 =>
 mK (calM call 7 [v1, v11, v12] h10) fun v13 h14 =>
 bK (extO 0 v13) fun v15 =>
 bK (extO 1 v13) fun v16 =>
 mK (calM call 8 [v1, v15] h14) fun v17 h18 =>
 bK (extO 0 v17) fun v19 =>
 bK (extO 1 v17) fun v20 =>
 mK (alM (NB.cells [(NV.int .i64 (.ofNat 0)), (NV.int .u64 (.ofNat 0)), (NV.int .u64 (.ofNat 0)), (NV.bool false)]) h18) fun v21 h22 =>
 mK (stM 4 v21 v19 h22) fun v23 h24 =>
 mK (bslM 8 true [(0, 1), (1, 1), (2, 1), (3, 1), (4, 1), (5, 1), (6, 1), (7, 1)] [(NV.int .u8 (.ofNat 0)), (NV.int .u8 (.ofNat 0)), (NV.int .u8 (.ofNat 0)), (NV.int .u8 (.ofNat 0)), (NV.int .u8 (.ofNat 0)), (NV.int .u8 (.ofNat 0)), (NV.int .u8 (.ofNat 0)), (NV.int .u8 (.ofNat 0))] [(NV.int .u8 (.ofNat 0)), (NV.int .u8 (.ofNat 97)), (NV.int .u8 (.ofNat 115)), (NV.int .u8 (.ofNat 109)), (NV.int .u8 (.ofNat 1)), (NV.int .u8 (.ofNat 0)), (NV.int .u8 (.ofNat 0)), (NV.int .u8 (.ofNat 0))] h24) fun v25 h26 =>
 mK (cvbM v25 h26) fun v27 h28 =>
 mK (calM call 6 [v1, v27] h28) fun v29 h30 =>
 bK (extO 0 v29) fun v31 =>
 bK (extO 1 v29) fun v32 =>
 mK (calM call 14 [v1, v31, NV.nslice] h30) fun v33 h34 =>
 bK (extO 0 v33) fun v35 =>
 bK (extO 1 v33) fun v36 =>
 bK (eqI v7 (NV.int .i64 (.ofNat 1))) fun v37 =>
 jK (fun v38 h39 =>
 jK (fun v41 h42 =>
 bK (pickO v37 v41 (NV.bool false)) fun v44 =>
 jK (fun v45 h46 =>
 jK (fun v48 h49 =>
 bK (pickO v44 v48 (NV.bool false)) fun v51 =>
 jK (fun v52 h53 =>
 jK (fun v55 h56 =>
 bK (pickO v51 v55 (NV.bool false)) fun v58 =>
 jK (fun v59 h60 =>
 jK (fun v62 h63 =>
 jK (fun v65 h66 =>
 jK (fun v68 h69 =>
 jK (fun v71 h72 =>
 bK (pickO v58 v71 (NV.bool false)) fun v74 =>
 jK (fun v75 h76 =>
 jK (fun v78 h79 =>
 jK (fun v81 h82 =>
 bK (pickO v74 v81 (NV.bool false)) fun v84 =>
 jK (fun v85 h86 =>
 jK (fun v88 h89 =>
 bK (pickO v84 v88 (NV.bool false)) fun v91 =>
 jK (fun v92 h93 =>
 jK (fun v95 h96 =>
 bK (pickO v91 v95 (NV.bool false)) fun v98 =>
 jK (fun v99 h100 =>
 jK (fun v102 h103 =>
 bK (pickO v98 v102 (NV.bool false)) fun v105 =>
 jK (fun v106 h107 =>
 jK (fun v109 h110 =>
 jK (fun v112 h113 =>
 jK (fun v115 h116 =>
 bK (pickO v105 v115 (NV.bool false)) fun v118 =>
 jK (fun v119 h120 =>
 jK (fun v122 h123 =>
 jK (fun v125 h126 =>
 bK (pickO v118 v125 (NV.bool false)) fun v128 =>
 jK (fun v129 h130 =>
 jK (fun v132 h133 =>
 jK (fun v135 h136 =>
 jK (fun v138 h139 =>
 bK (pickO v128 v138 (NV.bool false)) fun v141 =>
 retC v141 h139) fun J140 => gK v128 true (
 bK (eqI v135 (NV.int .i64 (.ofNat 0))) fun v142 =>
 J140 v142 h136) (J140 (NV.tuple []) h136)) fun J137 => gK v128 true (
 mK (calM call 10 [v129, v132] h133) fun v143 h144 =>
 J137 v143 h144) (J137 (NV.tuple []) h133)) fun J134 => gK v128 true (
 J134 v31 h130) (J134 (NV.tuple []) h130)) fun J131 => gK v128 true (
 J131 v1 h126) (J131 (NV.tuple []) h126)) fun J127 => gK v118 true (
 bK (eqI v122 (NV.int .i64 (.negSucc 0))) fun v145 =>
 J127 v145 h123) (J127 (NV.tuple []) h123)) fun J124 => gK v118 true (
 mK (calM call 28 [v119, (NV.int .i64 (.ofNat 99))] h120) fun v146 h147 =>
 J124 v146 h147) (J124 (NV.tuple []) h120)) fun J121 => gK v118 true (
 J121 v1 h116) (J121 (NV.tuple []) h116)) fun J117 => gK v105 true (
 bK (eqI v112 (NV.int .i64 (.ofNat 5))) fun v148 =>
 J117 v148 h113) (J117 (NV.tuple []) h113)) fun J114 => gK v105 true (
 mK (calM call 28 [v106, v109] h110) fun v149 h150 =>
 J114 v149 h150) (J114 (NV.tuple []) h110)) fun J111 => gK v105 true (
 J111 v35 h107) (J111 (NV.tuple []) h107)) fun J108 => gK v105 true (
 J108 v1 h103) (J108 (NV.tuple []) h103)) fun J104 => gK v98 true (
 bK (eqI v99 (NV.int .i64 (.ofNat 0))) fun v151 =>
 J104 v151 h100) (J104 (NV.tuple []) h100)) fun J101 => gK v98 true (
 J101 v36 h96) (J101 (NV.tuple []) h96)) fun J97 => gK v91 true (
 bK (eqI v92 (NV.int .i64 (.ofNat 0))) fun v152 =>
 J97 v152 h93) (J97 (NV.tuple []) h93)) fun J94 => gK v91 true (
 J94 v32 h89) (J94 (NV.tuple []) h89)) fun J90 => gK v84 true (
 bK (eqI v85 (NV.int .i64 (.ofNat 0))) fun v153 =>
 J90 v153 h86) (J90 (NV.tuple []) h86)) fun J87 => gK v84 true (
 J87 v20 h82) (J87 (NV.tuple []) h82)) fun J83 => gK v74 true (
 bK (eqI v78 (NV.int .u64 (.ofNat 7))) fun v154 =>
 J83 v154 h79) (J83 (NV.tuple []) h79)) fun J80 => gK v74 true (
 bK (ldO 1 false h76 v75) fun v155 =>
 J80 v155 h76) (J80 (NV.tuple []) h76)) fun J77 => gK v74 true (
 bK (fAddr 1 v21) fun v156 =>
 J77 v156 h72) (J77 (NV.tuple []) h72)) fun J73 => gK v58 true (
 bK (eqI v68 (NV.int .i64 (.ofNat 64))) fun v157 =>
 J73 v157 h69) (J73 (NV.tuple []) h69)) fun J70 => gK v58 true (
 mK (calM call 27 [v59, v62, v65] h66) fun v158 h159 =>
 J70 v158 h159) (J70 (NV.tuple []) h66)) fun J67 => gK v58 true (
 bK (ldO 4 true h63 v21) fun v160 =>
 J67 v160 h63) (J67 (NV.tuple []) h63)) fun J64 => gK v58 true (
 J64 v15 h60) (J64 (NV.tuple []) h60)) fun J61 => gK v58 true (
 J61 v1 h56) (J61 (NV.tuple []) h56)) fun J57 => gK v51 true (
 bK (eqI v52 (NV.int .i64 (.ofNat 0))) fun v161 =>
 J57 v161 h53) (J57 (NV.tuple []) h53)) fun J54 => gK v51 true (
 J54 v16 h49) (J54 (NV.tuple []) h49)) fun J50 => gK v44 true (
 bK (eqI v45 (NV.int .i64 (.ofNat 62))) fun v162 =>
 J50 v162 h46) (J50 (NV.tuple []) h46)) fun J47 => gK v44 true (
 J47 v9 h42) (J47 (NV.tuple []) h42)) fun J43 => gK v37 true (
 bK (eqI v38 (NV.int .i64 (.ofNat 0))) fun v163 =>
 J43 v163 h39) (J43 (NV.tuple []) h39)) fun J40 => gK v37 true (
 J40 v8 h34) (J40 (NV.tuple []) h34)))
theorem e4 : ikB Tryz.prog 9 Tryz.f4 = S4 := by kernel_rfl
theorem k4 [Sig] (w0 : World) : SOK cW w0 4 S4 := okW Tryz.func4 (by kernel_rfl) e4
noncomputable def S5 (call : CallF) (N : Nat) (l : List NV) (h : H) : R :=
 uc l fun v0 l1 => un l1 (
 mK (boxM false v0 h) fun v2 h3 =>
 bK (fAddr 0 v2) fun v4 =>
 bK (ldO 1 false h3 v4) fun v5 =>
 bK (foldMM true v5 [(NV.int .i64 (.ofNat 0))]) fun v6 =>
 bK (fAddr 1 v2) fun v7 =>
 bK (ldO 1 false h3 v7) fun v8 =>
 bK (foldMM true v8 [(NV.int .i64 (.ofNat 0))]) fun v9 =>
 bK (fAddr 2 v2) fun v10 =>
 bK (ldO 1 false h3 v10) fun v11 =>
 bK (foldMM true v11 [(NV.int .i64 (.ofNat 0))]) fun v12 =>
 bK (bldO [(0, 1), (1, 1), (2, 1)] [(NV.int .i64 (.ofNat 0)), (NV.int .i64 (.ofNat 0)), (NV.int .i64 (.ofNat 0))] [v6, v9, v12]) fun v13 =>
 mK (stM 3 v2 v13 h3) fun v14 h15 =>
 bK (bldO [] [NV.nslice, NV.nslice, NV.nslice, NV.nslice, NV.nslice, NV.nslice, NV.nslice, NV.nslice] []) fun v16 =>
 mK (boxM false v16 h15) fun v17 h18 =>
 bK (ldO 3 true h18 v2) fun v19 =>
 mK (mapM none h18) fun v20 h21 =>
 bK (bldO [(0, 1), (1, 3), (6, 1)] [NV.nilptr, (NV.int .i64 (.ofNat 0)), (NV.int .i64 (.ofNat 0)), (NV.int .i64 (.ofNat 0)), NV.nslice, NV.nslice, NV.nmap] [v17, v19, v20]) fun v22 =>
 mK (boxM false v22 h21) fun v23 h24 =>
 retC v23 h24)
theorem e5 : ikB Tryz.prog 9 Tryz.f5 = S5 := by kernel_rfl
theorem k5 [Sig] (w0 : World) : SOK cW w0 5 S5 := okW Tryz.func5 (by kernel_rfl) e5
noncomputable def S6 (call : CallF) (N : Nat) (l : List NV) (h : H) : R :=
 uc l fun v0 l1 => uc l1 fun v2 l3 => un l3 (
 bK (eqD Tryz.prog .eql 26 h v0 NV.nilptr) fun v4 =>
 condK v4 (
 retC (NV.tuple [(NV.int .i64 (.ofNat 0)), (NV.int .i64 (.ofNat 1))]) h) (
 mK (calM call 31 [v2] h) fun v5 h6 =>
 bK (extO 0 v5) fun v7 =>
 bK (extO 1 v5) fun v8 =>
 mK (alM (NB.cells [NV.nslice, NV.nslice, NV.nslice, NV.nslice, NV.nslice, NV.nslice, NV.nslice, (NV.int .i64 (.ofNat 0)), NV.nslice, NV.nslice, (NV.bool false)]) h6) fun v9 h10 =>
 mK (stM 11 v9 v7 h10) fun v11 h12 =>
 bK (neI v8 (NV.int .i64 (.ofNat 0))) fun v13 =>
 condK v13 (
 retC (NV.tuple [(NV.int .i64 (.ofNat 0)), v8]) h12) (
 bK (nilO v0) fun v14 =>
 bK (fAddr 4 v14) fun v15 =>
 bK (ldO 1 false h12 (chkV h12 v15)) fun v16 =>
 bK (ldO 11 true h12 (chkV h12 v9)) fun v17 =>
 mK (bslM 1 false [(0, 11)] [NV.nslice, NV.nslice, NV.nslice, NV.nslice, NV.nslice, NV.nslice, NV.nslice, (NV.int .i64 (.ofNat 0)), NV.nslice, NV.nslice, (NV.bool false)] [(chkV h12 v17)] h12) fun v18 h19 =>
 mK (appM Tryz.prog 102 (chkV h19 v16) (chkV h19 v18) h19) fun v20 h21 =>
 nextK h19 h21 (
 bK (nilO v0) fun v22 =>
 bK (fAddr 4 v22) fun v23 =>
 mK (stM 1 (chkV h21 v23) (chkV h21 v20) h21) fun v24 h25 =>
 nextK h21 h25 (
 bK (nilO v0) fun v26 =>
 bK (fAddr 4 v26) fun v27 =>
 bK (ldO 1 false h25 v27) fun v28 =>
 bK (lenSl v28) fun v29 =>
 bK (subI v29 (NV.int .i64 (.ofNat 1))) fun v30 =>
 mK (calM call 32 [v0, (NV.int .i64 (.ofNat 4)), v30] h25) fun v31 h32 =>
 retC (NV.tuple [v31, (NV.int .i64 (.ofNat 0))]) h32)))))
theorem e6 : ikB Tryz.prog 9 Tryz.f6 = S6 := by kernel_rfl
theorem k6 [Sig] (w0 : World) : SOK cW w0 6 S6 := okW Tryz.func6 (by kernel_rfl) e6
noncomputable def S7 (call : CallF) (N : Nat) (l : List NV) (h : H) : R :=
 uc l fun v0 l1 => uc l1 fun v2 l3 => uc l3 fun v4 l5 => un l5 (
 mK (boxM false v2 h) fun v6 h7 =>
 mK (boxM false v4 h7) fun v8 h9 =>
 bK (eqD Tryz.prog .eql 26 h9 v0 NV.nilptr) fun v10 =>
 condK v10 (
 retC (NV.tuple [(NV.int .i64 (.ofNat 0)), (NV.int .i64 (.ofNat 1))]) h9) (
 bK (ldO 4 true h9 v8) fun v11 =>
 bK (fAddr 0 v6) fun v12 =>
 bK (ldO 1 false h9 v12) fun v13 =>
 mK (calM call 33 [v0, v11, v13] h9) fun v14 h15 =>
 bK (extO 0 v14) fun v16 =>
 bK (extO 1 v14) fun v17 =>
 mK (alM (NB.cells [(NV.int .i64 (.ofNat 0)), (NV.int .u64 (.ofNat 0)), (NV.int .u64 (.ofNat 0)), (NV.bool false)]) h15) fun v18 h19 =>
 mK (stM 4 v18 v16 h19) fun v20 h21 =>
 bK (fAddr 0 v6) fun v22 =>
 bK (ldO 1 false h21 v22) fun v23 =>
 mK (calM call 34 [v23] h21) fun v24 h25 =>
 bK (notO v24) fun v26 =>
 jK (fun v27 h28 =>
 jK (fun v30 h31 =>
 bK (pickO v26 (NV.bool true) v30) fun v33 =>
 condK v33 (
 retC (NV.tuple [(NV.int .i64 (.ofNat 0)), (NV.int .i64 (.ofNat 61))]) h31) (
 bK (nilO v0) fun v34 =>
 bK (fAddr 0 v34) fun v35 =>
 bK (ldO 1 false h31 (chkV h31 v35)) fun v36 =>
 bK (nilO v0) fun v37 =>
 bK (fAddr 0 v37) fun v38 =>
 bK (ldO 1 false h31 (chkV h31 v38)) fun v39 =>
 bK (nilO v39) fun v40 =>
 bK (fAddr 3 v40) fun v41 =>
 bK (ldO 1 false h31 (chkV h31 v41)) fun v42 =>
 bK (ldO 2 true h31 (chkV h31 v6)) fun v43 =>
 bK (ldO 4 true h31 (chkV h31 v18)) fun v44 =>
 bK (bldO [(0, 2), (2, 4)] [(NV.int .i64 (.ofNat 0)), (NV.bool false), (NV.int .i64 (.ofNat 0)), (NV.int .u64 (.ofNat 0)), (NV.int .u64 (.ofNat 0)), (NV.bool false)] [v43, v44]) fun v45 =>
 mK (boxM false (chkV h31 v45) h31) fun v46 h47 =>
 mK (bslM 1 false [(0, 1)] [NV.nilptr] [(chkV h47 v46)] h47) fun v48 h49 =>
 mK (appM Tryz.prog 109 (chkV h49 v42) (chkV h49 v48) h49) fun v50 h51 =>
 nextK h49 h51 (
 bK (nilO v36) fun v52 =>
 bK (fAddr 3 v52) fun v53 =>
 bK (ldO 1 false h51 (chkV h51 v35)) fun v54 =>
 sameK v54 v36 (
 mK (stM 1 (chkV h51 v53) (chkV h51 v50) h51) fun v55 h56 =>
 nextK h51 h56 (
 bK (nilO v0) fun v57 =>
 bK (fAddr 0 v57) fun v58 =>
 bK (ldO 1 false h56 v58) fun v59 =>
 bK (nilO v59) fun v60 =>
 bK (fAddr 3 v60) fun v61 =>
 bK (ldO 1 false h56 v61) fun v62 =>
 bK (lenSl v62) fun v63 =>
 bK (subI v63 (NV.int .i64 (.ofNat 1))) fun v64 =>
 mK (calM call 32 [v0, (NV.int .i64 (.ofNat 3)), v64] h56) fun v65 h66 =>
 retC (NV.tuple [v65, (NV.int .i64 (.ofNat 0))]) h66))))) fun J32 => gK v26 false (
 bK (notO v27) fun v67 =>
 J32 v67 h28) (J32 (NV.tuple []) h28)) fun J29 => gK v26 false (
 J29 v17 h25) (J29 (NV.tuple []) h25)))
theorem e7 : ikB Tryz.prog 9 Tryz.f7 = S7 := by kernel_rfl
theorem k7 [Sig] (w0 : World) : SOK cW w0 7 S7 := okW Tryz.func7 (by kernel_rfl) e7
noncomputable def S8 (call : CallF) (N : Nat) (l : List NV) (h : H) : R :=
 uc l fun v0 l1 => uc l1 fun v2 l3 => un l3 (
 mK (alM (NB.cells [(NV.int .i64 (.ofNat 0)), (NV.int .u64 (.ofNat 0)), (NV.int .u64 (.ofNat 0)), (NV.bool false)]) h) fun v4 h5 =>
 mK (calM call 35 [v0, v2] h5) fun v6 h7 =>
 bK (extO 0 v6) fun v8 =>
 bK (extO 1 v6) fun v9 =>
 bK (neI v9 (NV.int .i64 (.ofNat 0))) fun v10 =>
 condK v10 (
 bK (bldO [] [(NV.int .i64 (.ofNat 0)), (NV.int .u64 (.ofNat 0)), (NV.int .u64 (.ofNat 0)), (NV.bool false)] []) fun v11 =>
 mK (stM 4 v4 v11 h7) fun v12 h13 =>
 bK (ldB 4 true h13 v4) fun v14 =>
 retC (NV.tuple [v14, v9]) h13) (
 bK (nilO v8) fun v15 =>
 bK (fAddr 2 v15) fun v16 =>
 bK (ldO 4 true h7 v16) fun v17 =>
 mK (calM call 36 [v0, v17] h7) fun v18 h19 =>
 mK (stM 4 v4 v18 h19) fun v20 h21 =>
 bK (ldB 4 true h21 v4) fun v22 =>
 retC (NV.tuple [v22, (NV.int .i64 (.ofNat 0))]) h21))
theorem e8 : ikB Tryz.prog 9 Tryz.f8 = S8 := by kernel_rfl
theorem k8 [Sig] (w0 : World) : SOK cW w0 8 S8 := okW Tryz.func8 (by kernel_rfl) e8
noncomputable def S9 (call : CallF) (N : Nat) (l : List NV) (h : H) : R :=
 uc l fun v0 l1 => uc l1 fun v2 l3 => uc l3 fun v4 l5 => un l5 (
 mK (calM call 37 [v0, v2, (NV.int .i64 (.ofNat 5))] h) fun v6 h7 =>
 bK (extO 0 v6) fun v8 =>
 bK (extO 1 v6) fun v9 =>
 bK (neI v9 (NV.int .i64 (.ofNat 0))) fun v10 =>
 condK v10 (
 retC (NV.tuple [(NV.int .i64 (.ofNat 0)), v9]) h7) (
 bK (nilO v0) fun v11 =>
 bK (fAddr 0 v11) fun v12 =>
 bK (ldO 1 false h7 v12) fun v13 =>
 mK (calM call 38 [v13, v8, v4] h7) fun v14 h15 =>
 bK (extO 0 v14) fun v16 =>
 bK (extO 1 v14) fun v17 =>
 mK (alM (NB.cells [(NV.int .i64 (.ofNat 0)), (NV.int .i64 (.ofNat 0))]) h15) fun v18 h19 =>
 mK (stM 2 v18 v16 h19) fun v20 h21 =>
 bK (notO v17) fun v22 =>
 condK v22 (
 retC (NV.tuple [(NV.int .i64 (.ofNat 0)), (NV.int .i64 (.ofNat 63))]) h21) (
 bK (fAddr 0 v18) fun v23 =>
 bK (ldO 1 false h21 v23) fun v24 =>
 bK (fAddr 1 v18) fun v25 =>
 bK (ldO 1 false h21 v25) fun v26 =>
 mK (calM call 32 [v0, v24, v26] h21) fun v27 h28 =>
 retC (NV.tuple [v27, (NV.int .i64 (.ofNat 0))]) h28)))
theorem e9 : ikB Tryz.prog 9 Tryz.f9 = S9 := by kernel_rfl
theorem k9 [Sig] (w0 : World) : SOK cW w0 9 S9 := okW Tryz.func9 (by kernel_rfl) e9
noncomputable def S10 (call : CallF) (N : Nat) (l : List NV) (h : H) : R :=
 uc l fun v0 l1 => uc l1 fun v2 l3 => un l3 (
 mK (calM call 37 [v0, v2, (NV.int .i64 (.ofNat 4))] h) fun v4 h5 =>
 bK (extO 0 v4) fun v6 =>
 bK (extO 1 v4) fun v7 =>
 bK (neI v7 (NV.int .i64 (.ofNat 0))) fun v8 =>
 condK v8 (
 retC v7 h5) (
 bK (nilO v0) fun v9 =>
 bK (fAddr 4 v9) fun v10 =>
 bK (ldO 1 false h5 v10) fun v11 =>
 bK (ixS 11 v11 v6) fun v12 =>
 bK (ldO 11 true h5 v12) fun v13 =>
 mK (calM call 39 [v13] h5) fun v14 h15 =>
 retC v14 h15))
theorem e10 : ikB Tryz.prog 9 Tryz.f10 = S10 := by kernel_rfl
theorem k10 [Sig] (w0 : World) : SOK cW w0 10 S10 := okW Tryz.func10 (by kernel_rfl) e10
noncomputable def S11 (call : CallF) (N : Nat) (l : List NV) (h : H) : R :=
 uc l fun v0 l1 => uc l1 fun v2 l3 => uc l3 fun v4 l5 => uc l5 fun v6 l7 => un l7 (
 mK (calM call 40 [v0, v2] h) fun v8 h9 =>
 bK (extO 0 v8) fun v10 =>
 bK (extO 1 v8) fun v11 =>
 bK (neI v11 (NV.int .i64 (.ofNat 0))) fun v12 =>
 condK v12 (
 retC v11 h9) (
 mK (bslM 1 true [(0, 1)] [(NV.int .u8 (.ofNat 0))] [v6] h9) fun v13 h14 =>
 mK (calM call 41 [v10, v4, v13] h14) fun v15 h16 =>
 bK (neI v15 (NV.int .i64 (.ofNat 0))) fun v17 =>
 condK v17 (
 retC (NV.int .i64 (.ofNat 62)) h16) (
 retC (NV.int .i64 (.ofNat 0)) h16)))
theorem e11 : ikB Tryz.prog 9 Tryz.f11 = S11 := by kernel_rfl
theorem k11 [Sig] (w0 : World) : SOK cW w0 11 S11 := okW Tryz.func11 (by kernel_rfl) e11
noncomputable def S12 (call : CallF) (N : Nat) (l : List NV) (h : H) : R :=
 uc l fun v0 l1 => uc l1 fun v2 l3 => un l3 (
 mK (calM call 37 [v0, v2, (NV.int .i64 (.ofNat 4))] h) fun v4 h5 =>
 bK (extO 0 v4) fun v6 =>
 bK (extO 1 v4) fun v7 =>
 bK (neI v7 (NV.int .i64 (.ofNat 0))) fun v8 =>
 condK v8 (
 retC (NV.tuple [NV.nslice, v7]) h5) (
 bK (nilO v0) fun v9 =>
 bK (fAddr 4 v9) fun v10 =>
 bK (ldO 1 false h5 v10) fun v11 =>
 bK (ixS 11 v11 v6) fun v12 =>
 bK (ldO 11 true h5 v12) fun v13 =>
 mK (calM call 42 [v13] h5) fun v14 h15 =>
 bK (extO 0 v14) fun v16 =>
 bK (extO 1 v14) fun v17 =>
 retC (NV.tuple [v16, v17]) h15))
theorem e12 : ikB Tryz.prog 9 Tryz.f12 = S12 := by kernel_rfl
theorem k12 [Sig] (w0 : World) : SOK cW w0 12 S12 := okW Tryz.func12 (by kernel_rfl) e12
noncomputable def S13 (call : CallF) (N : Nat) (l : List NV) (h : H) : R :=
 uc l fun v0 l1 => uc l1 fun v2 l3 => un l3 (
 mK (calM call 37 [v0, v2, (NV.int .i64 (.ofNat 4))] h) fun v4 h5 =>
 bK (extO 0 v4) fun v6 =>
 bK (extO 1 v4) fun v7 =>
 bK (neI v7 (NV.int .i64 (.ofNat 0))) fun v8 =>
 condK v8 (
 retC (NV.tuple [NV.nslice, v7]) h5) (
 bK (nilO v0) fun v9 =>
 bK (fAddr 4 v9) fun v10 =>
 bK (ldO 1 false h5 v10) fun v11 =>
 bK (ixS 11 v11 v6) fun v12 =>
 bK (ldO 11 true h5 v12) fun v13 =>
 mK (calM call 43 [v13] h5) fun v14 h15 =>
 bK (extO 0 v14) fun v16 =>
 bK (extO 1 v14) fun v17 =>
 retC (NV.tuple [v16, v17]) h15))
theorem e13 : ikB Tryz.prog 9 Tryz.f13 = S13 := by kernel_rfl
theorem k13 [Sig] (w0 : World) : SOK cW w0 13 S13 := okW Tryz.func13 (by kernel_rfl) e13
noncomputable def S14 (call : CallF) (N : Nat) (l : List NV) (h : H) : R :=
 uc l fun v0 l1 => uc l1 fun v2 l3 => uc l3 fun v4 l5 => un l5 (
 mK (calM call 37 [v0, v2, (NV.int .i64 (.ofNat 4))] h) fun v6 h7 =>
 bK (extO 0 v6) fun v8 =>
 bK (extO 1 v6) fun v9 =>
 bK (neI v9 (NV.int .i64 (.ofNat 0))) fun v10 =>
 condK v10 (
 retC (NV.tuple [(NV.int .i64 (.ofNat 0)), v9]) h7) (
 bK (lenSl v4) fun v11 =>
 joinC 3 (fun v12 v13 v14 h15 =>
 bK (nilO v12) fun v17 =>
 bK (fAddr 0 v17) fun v18 =>
 bK (ldO 1 false h15 (chkV h15 v18)) fun v19 =>
 bK (nilO v12) fun v20 =>
 bK (fAddr 4 v20) fun v21 =>
 bK (ldO 1 false h15 (chkV h15 v21)) fun v22 =>
 bK (ixS 11 v22 v13) fun v23 =>
 bK (ldO 11 true h15 (chkV h15 v23)) fun v24 =>
 bK (nilO v12) fun v25 =>
 bK (fAddr 1 v25) fun v26 =>
 bK (ldO 3 true h15 (chkV h15 v26)) fun v27 =>
 mK (calM call 44 [(chkV h15 v19), (chkV h15 v24), (chkV h15 v14), (chkV h15 v27)] h15) fun v28 h29 =>
 nextK h15 h29 (
 bK (extO 0 v28) fun v30 =>
 bK (extO 1 v28) fun v31 =>
 bK (extO 2 v28) fun v32 =>
 bK (neI v32 (NV.int .i64 (.ofNat 0))) fun v33 =>
 condK v33 (
 retC (NV.tuple [(NV.int .i64 (.ofNat 0)), v32]) h29) (
 mK (calM call 32 [v12, (NV.int .i64 (.ofNat 5)), v30] h29) fun v34 h35 =>
 retC (NV.tuple [v34, (NV.int .i64 (.ofNat 0))]) h35))) fun J16 =>
 loopC N 6 (fun L43 v36 v37 v38 v39 v40 v41 h42 =>
 bK (ltI v41 v40) fun v44 =>
 condK v44 (
 bK (ixS 1 v39 v41) fun v45 =>
 bK (ldO 1 false h42 v45) fun v46 =>
 mK (calM call 28 [v36, v46] h42) fun v47 h48 =>
 bK (ltI v47 (NV.int .i64 (.ofNat 0))) fun v49 =>
 jK (fun v50 h51 =>
 jK (fun v53 h54 =>
 bK (pickO v49 (NV.bool true) v53) fun v56 =>
 condK v56 (
 retC (NV.tuple [(NV.int .i64 (.ofNat 0)), (NV.int .i64 (.ofNat 60))]) h54) (
 bK (nilO v36) fun v57 =>
 bK (fAddr 5 v57) fun v58 =>
 bK (ldO 1 false h54 v58) fun v59 =>
 bK (subI v46 (NV.int .i64 (.ofNat 1))) fun v60 =>
 bK (ixS 2 v59 v60) fun v61 =>
 bK (ldO 2 true h54 v61) fun v62 =>
 mK (bslM 1 false [(0, 2)] [(NV.int .i64 (.ofNat 0)), (NV.int .i64 (.ofNat 0))] [v62] h54) fun v63 h64 =>
 mK (appM Tryz.prog 117 v38 v63 h64) fun v65 h66 =>
 bK (addI v41 (NV.int .i64 (.ofNat 1))) fun v67 =>
 L43 v36 v37 v65 v39 v40 v67 h66)) fun J55 => gK v49 false (
 bK (gtI v50 (NV.int .i64 (.ofNat 3))) fun v68 =>
 J55 v68 h51) (J55 (NV.tuple []) h51)) fun J52 => gK v49 false (
 J52 v47 h48) (J52 (NV.tuple []) h48)) (
 J16 v36 v37 v38 h42)) v0 v8 NV.nslice v4 v11 (NV.int .i64 (.ofNat 0)) h7))
theorem e14 : ikB Tryz.prog 9 Tryz.f14 = S14 := by kernel_rfl
theorem k14 [Sig] (w0 : World) : SOK cW w0 14 S14 := okW Tryz.func14 (by kernel_rfl) e14
noncomputable def S15 (call : CallF) (N : Nat) (l : List NV) (h : H) : R :=
 uc l fun v0 l1 => uc l1 fun v2 l3 => un l3 (
 mK (alM (NB.cells [NV.nslice, NV.nslice]) h) fun v4 h5 =>
 mK (calM call 37 [v0, v2, (NV.int .i64 (.ofNat 0))] h5) fun v6 h7 =>
 bK (extO 0 v6) fun v8 =>
 bK (extO 1 v6) fun v9 =>
 bK (neI v9 (NV.int .i64 (.ofNat 0))) fun v10 =>
 condK v10 (
 bK (bldO [] [NV.nslice, NV.nslice] []) fun v11 =>
 mK (stM 2 v4 v11 h7) fun v12 h13 =>
 bK (ldB 2 true h13 v4) fun v14 =>
 retC (NV.tuple [v14, v9]) h13) (
 bK (nilO v0) fun v15 =>
 bK (fAddr 0 v15) fun v16 =>
 bK (ldO 1 false h7 v16) fun v17 =>
 bK (nilO v17) fun v18 =>
 bK (fAddr 0 v18) fun v19 =>
 bK (ldO 1 false h7 v19) fun v20 =>
 bK (ixS 5 v20 v8) fun v21 =>
 bK (fAddr 0 v21) fun v22 =>
 bK (ldO 2 true h7 v22) fun v23 =>
 mK (alM (NB.cells [NV.nslice, NV.nslice]) h7) fun v24 h25 =>
 mK (stM 2 v24 v23 h25) fun v26 h27 =>
 bK (fAddr 0 v24) fun v28 =>
 bK (ldO 1 false h27 (chkV h27 v28)) fun v29 =>
 bK (fAddr 1 v24) fun v30 =>
 bK (ldO 1 false h27 (chkV h27 v30)) fun v31 =>
 mK (calM call 45 [(chkV h27 v29)] h27) fun v32 h33 =>
 nextK h27 h33 (
 bK (ldO 1 false h33 (chkV h33 v30)) fun v34 =>
 sameK v34 v31 (
 mK (calM call 45 [(chkV h33 v31)] h33) fun v35 h36 =>
 nextK h33 h36 (
 bK (bldO [(0, 1), (1, 1)] [NV.nslice, NV.nslice] [v32, v35]) fun v37 =>
 mK (stM 2 (chkV h36 v4) (chkV h36 v37) h36) fun v38 h39 =>
 nextK h36 h39 (
 bK (ldB 2 true h39 v4) fun v40 =>
 retC (NV.tuple [v40, (NV.int .i64 (.ofNat 0))]) h39))))))
theorem e15 : ikB Tryz.prog 9 Tryz.f15 = S15 := by kernel_rfl
theorem k15 [Sig] (w0 : World) : SOK cW w0 15 S15 := okW Tryz.func15 (by kernel_rfl) e15
noncomputable def S16 (call : CallF) (N : Nat) (l : List NV) (h : H) : R :=
 uc l fun v0 l1 => uc l1 fun v2 l3 => uc l3 fun v4 l5 => un l5 (
 mK (calM call 37 [v0, v2, (NV.int .i64 (.ofNat 0))] h) fun v6 h7 =>
 bK (extO 0 v6) fun v8 =>
 bK (extO 1 v6) fun v9 =>
 bK (neI v9 (NV.int .i64 (.ofNat 0))) fun v10 =>
 condK v10 (
 retC (NV.tuple [NV.nslice, v9]) h7) (
 bK (nilO v0) fun v11 =>
 bK (fAddr 0 v11) fun v12 =>
 bK (ldO 1 false h7 v12) fun v13 =>
 bK (nilO v13) fun v14 =>
 bK (fAddr 0 v14) fun v15 =>
 bK (ldO 1 false h7 v15) fun v16 =>
 bK (ixS 5 v16 v8) fun v17 =>
 bK (fAddr 0 v17) fun v18 =>
 bK (ldO 2 true h7 v18) fun v19 =>
 mK (alM (NB.cells [NV.nslice, NV.nslice]) h7) fun v20 h21 =>
 mK (stM 2 v20 v19 h21) fun v22 h23 =>
 bK (lenSl v4) fun v24 =>
 bK (fAddr 0 v20) fun v25 =>
 bK (ldO 1 false h23 v25) fun v26 =>
 bK (lenSl v26) fun v27 =>
 bK (neI v24 v27) fun v28 =>
 condK v28 (
 retC (NV.tuple [NV.nslice, (NV.int .i64 (.ofNat 61))]) h23) (
 bK (lenSl v4) fun v29 =>
 joinC 3 (fun v30 v31 v32 h33 =>
 bK (nilO v30) fun v35 =>
 bK (fAddr 0 v35) fun v36 =>
 bK (ldO 1 false h33 (chkV h33 v36)) fun v37 =>
 bK (nilO v30) fun v38 =>
 bK (fAddr 1 v38) fun v39 =>
 bK (ldO 3 true h33 (chkV h33 v39)) fun v40 =>
 mK (calM call 46 [(chkV h33 v37), (chkV h33 v31), (chkV h33 v32), (chkV h33 v40)] h33) fun v41 h42 =>
 nextK h33 h42 (
 bK (extO 0 v41) fun v43 =>
 bK (extO 1 v41) fun v44 =>
 bK (extO 2 v41) fun v45 =>
 bK (neI v45 (NV.int .i64 (.ofNat 0))) fun v46 =>
 condK v46 (
 retC (NV.tuple [NV.nslice, v45]) h42) (
 bK (lenSl v43) fun v47 =>
 joinC 1 (fun v48 h49 =>
 retC (NV.tuple [v48, (NV.int .i64 (.ofNat 0))]) h49) fun J50 =>
 loopC N 4 (fun L56 v51 v52 v53 v54 h55 =>
 bK (ltI v54 v53) fun v57 =>
 condK v57 (
 bK (ixS 4 v52 v54) fun v58 =>
 bK (ldO 4 true h55 v58) fun v59 =>
 mK (calM call 36 [v51, v59] h55) fun v60 h61 =>
 bK (ixS 4 v52 v54) fun v62 =>
 mK (stM 4 v62 v60 h61) fun v63 h64 =>
 bK (addI v54 (NV.int .i64 (.ofNat 1))) fun v65 =>
 L56 v51 v52 v53 v65 h64) (
 J50 v52 h55)) v30 v43 v47 (NV.int .i64 (.ofNat 0)) h42))) fun J34 =>
 loopC N 7 (fun L74 v66 v67 v68 v69 v70 v71 v72 h73 =>
 bK (ltI v72 v71) fun v75 =>
 condK v75 (
 bK (ixS 4 v70 v72) fun v76 =>
 bK (ldO 4 true h73 v76) fun v77 =>
 mK (alM (NB.cells [(NV.int .i64 (.ofNat 0)), (NV.int .u64 (.ofNat 0)), (NV.int .u64 (.ofNat 0)), (NV.bool false)]) h73) fun v78 h79 =>
 mK (stM 4 v78 v77 h79) fun v80 h81 =>
 bK (ldO 4 true h81 (chkV h81 v78)) fun v82 =>
 bK (fAddr 0 v68) fun v83 =>
 bK (ldO 1 false h81 (chkV h81 v83)) fun v84 =>
 bK (ixS 1 v84 v72) fun v85 =>
 bK (ldO 1 false h81 (chkV h81 v85)) fun v86 =>
 mK (calM call 33 [(chkV h81 v66), (chkV h81 v82), (chkV h81 v86)] h81) fun v87 h88 =>
 nextK h81 h88 (
 bK (extO 0 v87) fun v89 =>
 bK (extO 1 v87) fun v90 =>
 mK (alM (NB.cells [(NV.int .i64 (.ofNat 0)), (NV.int .u64 (.ofNat 0)), (NV.int .u64 (.ofNat 0)), (NV.bool false)]) h88) fun v91 h92 =>
 mK (stM 4 (chkV h92 v91) (chkV h92 v89) h92) fun v93 h94 =>
 nextK h92 h94 (
 bK (notO v90) fun v95 =>
 condK v95 (
 retC (NV.tuple [NV.nslice, (NV.int .i64 (.ofNat 61))]) h94) (
 bK (ldO 4 true h94 v91) fun v96 =>
 mK (bslM 1 false [(0, 4)] [(NV.int .i64 (.ofNat 0)), (NV.int .u64 (.ofNat 0)), (NV.int .u64 (.ofNat 0)), (NV.bool false)] [v96] h94) fun v97 h98 =>
 mK (appM Tryz.prog 24 v69 v97 h98) fun v99 h100 =>
 bK (addI v72 (NV.int .i64 (.ofNat 1))) fun v101 =>
 L74 v66 v67 v68 v99 v70 v71 v101 h100)))) (
 J34 v66 v67 v69 h73)) v0 v8 v20 NV.nslice v4 v29 (NV.int .i64 (.ofNat 0)) h23)))
theorem e16 : ikB Tryz.prog 9 Tryz.f16 = S16 := by kernel_rfl
theorem k16 [Sig] (w0 : World) : SOK cW w0 16 S16 := okW Tryz.func16 (by kernel_rfl) e16
noncomputable def S17 (call : CallF) (N : Nat) (l : List NV) (h : H) : R :=
 uc l fun v0 l1 => uc l1 fun v2 l3 => un l3 (
 mK (alM (NB.cells [(NV.int .i64 (.ofNat 0)), (NV.int .i64 (.ofNat 0)), (NV.int .i64 (.ofNat 0)), (NV.bool false)]) h) fun v4 h5 =>
 mK (calM call 47 [v0, v2] h5) fun v6 h7 =>
 bK (extO 0 v6) fun v8 =>
 bK (extO 1 v6) fun v9 =>
 bK (neI v9 (NV.int .i64 (.ofNat 0))) fun v10 =>
 condK v10 (
 bK (bldO [] [(NV.int .i64 (.ofNat 0)), (NV.int .i64 (.ofNat 0)), (NV.int .i64 (.ofNat 0)), (NV.bool false)] []) fun v11 =>
 mK (stM 4 v4 v11 h7) fun v12 h13 =>
 bK (ldB 4 true h13 v4) fun v14 =>
 retC (NV.tuple [v14, v9]) h13) (
 bK (nilO v8) fun v15 =>
 bK (fAddr 0 v15) fun v16 =>
 bK (ldO 4 true h7 v16) fun v17 =>
 mK (stM 4 v4 v17 h7) fun v18 h19 =>
 bK (ldB 4 true h19 v4) fun v20 =>
 retC (NV.tuple [v20, (NV.int .i64 (.ofNat 0))]) h19))
theorem e17 : ikB Tryz.prog 9 Tryz.f17 = S17 := by kernel_rfl
theorem k17 [Sig] (w0 : World) : SOK cW w0 17 S17 := okW Tryz.func17 (by kernel_rfl) e17
noncomputable def S18 (call : CallF) (N : Nat) (l : List NV) (h : H) : R :=
 uc l fun v0 l1 => uc l1 fun v2 l3 => uc l3 fun v4 l5 => un l5 (
 mK (alM (NB.cells [(NV.int .i64 (.ofNat 0)), (NV.int .u64 (.ofNat 0)), (NV.int .u64 (.ofNat 0)), (NV.bool false)]) h) fun v6 h7 =>
 mK (calM call 47 [v0, v2] h7) fun v8 h9 =>
 bK (extO 0 v8) fun v10 =>
 bK (extO 1 v8) fun v11 =>
 bK (neI v11 (NV.int .i64 (.ofNat 0))) fun v12 =>
 condK v12 (
 bK (bldO [] [(NV.int .i64 (.ofNat 0)), (NV.int .u64 (.ofNat 0)), (NV.int .u64 (.ofNat 0)), (NV.bool false)] []) fun v13 =>
 mK (stM 4 v6 v13 h9) fun v14 h15 =>
 bK (ldB 4 true h15 v6) fun v16 =>
 retC (NV.tuple [v16, v11]) h15) (
 mK (calM call 48 [v10, v4] h9) fun v17 h18 =>
 bK (extO 0 v17) fun v19 =>
 bK (extO 1 v17) fun v20 =>
 mK (alM (NB.cells [(NV.int .i64 (.ofNat 0)), (NV.int .u64 (.ofNat 0)), (NV.int .u64 (.ofNat 0)), (NV.bool false)]) h18) fun v21 h22 =>
 mK (stM 4 v21 v19 h22) fun v23 h24 =>
 bK (neI v20 (NV.int .i64 (.ofNat 0))) fun v25 =>
 condK v25 (
 bK (bldO [] [(NV.int .i64 (.ofNat 0)), (NV.int .u64 (.ofNat 0)), (NV.int .u64 (.ofNat 0)), (NV.bool false)] []) fun v26 =>
 mK (stM 4 v6 v26 h24) fun v27 h28 =>
 bK (ldB 4 true h28 v6) fun v29 =>
 retC (NV.tuple [v29, (NV.int .i64 (.ofNat 62))]) h28) (
 bK (ldO 4 true h24 v21) fun v30 =>
 mK (calM call 36 [v0, v30] h24) fun v31 h32 =>
 mK (stM 4 v6 v31 h32) fun v33 h34 =>
 bK (ldB 4 true h34 v6) fun v35 =>
 retC (NV.tuple [v35, (NV.int .i64 (.ofNat 0))]) h34)))
theorem e18 : ikB Tryz.prog 9 Tryz.f18 = S18 := by kernel_rfl
theorem k18 [Sig] (w0 : World) : SOK cW w0 18 S18 := okW Tryz.func18 (by kernel_rfl) e18
noncomputable def S19 (call : CallF) (N : Nat) (l : List NV) (h : H) : R :=
 uc l fun v0 l1 => uc l1 fun v2 l3 => un l3 (
 mK (calM call 47 [v0, v2] h) fun v4 h5 =>
 bK (extO 0 v4) fun v6 =>
 bK (extO 1 v4) fun v7 =>
 bK (neI v7 (NV.int .i64 (.ofNat 0))) fun v8 =>
 condK v8 (
 retC (NV.tuple [(NV.int .i64 (.ofNat 0)), v7]) h5) (
 bK (nilO v6) fun v9 =>
 bK (fAddr 4 v9) fun v10 =>
 bK (ldO 1 false h5 v10) fun v11 =>
 bK (lenSl v11) fun v12 =>
 retC (NV.tuple [v12, (NV.int .i64 (.ofNat 0))]) h5))
theorem e19 : ikB Tryz.prog 9 Tryz.f19 = S19 := by kernel_rfl
theorem k19 [Sig] (w0 : World) : SOK cW w0 19 S19 := okW Tryz.func19 (by kernel_rfl) e19
noncomputable def S20 (call : CallF) (N : Nat) (l : List NV) (h : H) : R :=
 uc l fun v0 l1 => uc l1 fun v2 l3 => un l3 (
 mK (alM (NB.cells [(NV.int .i64 (.ofNat 0)), (NV.int .i64 (.ofNat 0)), (NV.bool false)]) h) fun v4 h5 =>
 mK (calM call 40 [v0, v2] h5) fun v6 h7 =>
 bK (extO 0 v6) fun v8 =>
 bK (extO 1 v6) fun v9 =>
 bK (neI v9 (NV.int .i64 (.ofNat 0))) fun v10 =>
 condK v10 (
 bK (bldO [] [(NV.int .i64 (.ofNat 0)), (NV.int .i64 (.ofNat 0)), (NV.bool false)] []) fun v11 =>
 mK (stM 3 v4 v11 h7) fun v12 h13 =>
 bK (ldB 3 true h13 v4) fun v14 =>
 retC (NV.tuple [v14, v9]) h13) (
 bK (nilO v8) fun v15 =>
 bK (fAddr 0 v15) fun v16 =>
 bK (ldO 3 true h7 v16) fun v17 =>
 mK (stM 3 v4 v17 h7) fun v18 h19 =>
 bK (ldB 3 true h19 v4) fun v20 =>
 retC (NV.tuple [v20, (NV.int .i64 (.ofNat 0))]) h19))
theorem e20 : ikB Tryz.prog 9 Tryz.f20 = S20 := by kernel_rfl
theorem k20 [Sig] (w0 : World) : SOK cW w0 20 S20 := okW Tryz.func20 (by kernel_rfl) e20
noncomputable def S21 (call : CallF) (N : Nat) (l : List NV) (h : H) : R :=
 uc l fun v0 l1 => uc l1 fun v2 l3 => uc l3 fun v4 l5 => un l5 (
 mK (calM call 40 [v0, v2] h) fun v6 h7 =>
 bK (extO 0 v6) fun v8 =>
 bK (extO 1 v6) fun v9 =>
 bK (neI v9 (NV.int .i64 (.ofNat 0))) fun v10 =>
 condK v10 (
 retC (NV.tuple [(NV.int .u8 (.ofNat 0)), v9]) h7) (
 mK (calM call 49 [v8, v4, (NV.int .i64 (.ofNat 1))] h7) fun v11 h12 =>
 bK (extO 0 v11) fun v13 =>
 bK (extO 1 v11) fun v14 =>
 bK (neI v14 (NV.int .i64 (.ofNat 0))) fun v15 =>
 condK v15 (
 retC (NV.tuple [(NV.int .u8 (.ofNat 0)), (NV.int .i64 (.ofNat 62))]) h12) (
 bK (ixS 1 v13 (NV.int .i64 (.ofNat 0))) fun v16 =>
 bK (ldO 1 false h12 v16) fun v17 =>
 retC (NV.tuple [v17, (NV.int .i64 (.ofNat 0))]) h12)))
theorem e21 : ikB Tryz.prog 9 Tryz.f21 = S21 := by kernel_rfl
theorem k21 [Sig] (w0 : World) : SOK cW w0 21 S21 := okW Tryz.func21 (by kernel_rfl) e21
noncomputable def S22 (call : CallF) (N : Nat) (l : List NV) (h : H) : R :=
 uc l fun v0 l1 => uc l1 fun v2 l3 => un l3 (
 mK (calM call 40 [v0, v2] h) fun v4 h5 =>
 bK (extO 0 v4) fun v6 =>
 bK (extO 1 v4) fun v7 =>
 bK (neI v7 (NV.int .i64 (.ofNat 0))) fun v8 =>
 condK v8 (
 retC (NV.tuple [(NV.int .i64 (.ofNat 0)), v7]) h5) (
 bK (nilO v6) fun v9 =>
 bK (fAddr 3 v9) fun v10 =>
 bK (ldO 1 false h5 v10) fun v11 =>
 bK (lenSl v11) fun v12 =>
 bK (binO .quo v12 (NV.int .i64 (.ofNat 65536))) fun v13 =>
 retC (NV.tuple [v13, (NV.int .i64 (.ofNat 0))]) h5))
theorem e22 : ikB Tryz.prog 9 Tryz.f22 = S22 := by kernel_rfl
theorem k22 [Sig] (w0 : World) : SOK cW w0 22 S22 := okW Tryz.func22 (by kernel_rfl) e22
noncomputable def S23 (call : CallF) (N : Nat) (l : List NV) (h : H) : R :=
 uc l fun v0 l1 => uc l1 fun v2 l3 => un l3 (
 mK (alM (NB.cells [(NV.int .i64 (.ofNat 0)), (NV.bool false)]) h) fun v4 h5 =>
 mK (calM call 35 [v0, v2] h5) fun v6 h7 =>
 bK (extO 0 v6) fun v8 =>
 bK (extO 1 v6) fun v9 =>
 bK (neI v9 (NV.int .i64 (.ofNat 0))) fun v10 =>
 condK v10 (
 bK (bldO [] [(NV.int .i64 (.ofNat 0)), (NV.bool false)] []) fun v11 =>
 mK (stM 2 v4 v11 h7) fun v12 h13 =>
 bK (ldB 2 true h13 v4) fun v14 =>
 retC (NV.tuple [v14, v9]) h13) (
 bK (nilO v8) fun v15 =>
 bK (fAddr 0 v15) fun v16 =>
 bK (ldO 2 true h7 v16) fun v17 =>
 mK (stM 2 v4 v17 h7) fun v18 h19 =>
 bK (ldB 2 true h19 v4) fun v20 =>
 retC (NV.tuple [v20, (NV.int .i64 (.ofNat 0))]) h19))
theorem e23 : ikB Tryz.prog 9 Tryz.f23 = S23 := by kernel_rfl
theorem k23 [Sig] (w0 : World) : SOK cW w0 23 S23 := okW Tryz.func23 (by kernel_rfl) e23
noncomputable def S24 (call : CallF) (N : Nat) (l : List NV) (h : H) : R :=
 uc l fun v0 l1 => uc l1 fun v2 l3 => uc l3 fun v4 l5 => uc l5 fun v6 l7 => un l7 (
 mK (boxM false v6 h) fun v8 h9 =>
 mK (calM call 47 [v0, v2] h9) fun v10 h11 =>
 bK (extO 0 v10) fun v12 =>
 bK (extO 1 v10) fun v13 =>
 bK (neI v13 (NV.int .i64 (.ofNat 0))) fun v14 =>
 condK v14 (
 retC v13 h11) (
 bK (ldO 4 true h11 (chkV h11 v8)) fun v15 =>
 bK (nilO v12) fun v16 =>
 bK (fAddr 0 v16) fun v17 =>
 bK (fAddr 0 v17) fun v18 =>
 bK (ldO 1 false h11 (chkV h11 v18)) fun v19 =>
 mK (calM call 33 [(chkV h11 v0), (chkV h11 v15), (chkV h11 v19)] h11) fun v20 h21 =>
 nextK h11 h21 (
 bK (extO 0 v20) fun v22 =>
 bK (extO 1 v20) fun v23 =>
 mK (alM (NB.cells [(NV.int .i64 (.ofNat 0)), (NV.int .u64 (.ofNat 0)), (NV.int .u64 (.ofNat 0)), (NV.bool false)]) h21) fun v24 h25 =>
 mK (stM 4 (chkV h25 v24) (chkV h25 v22) h25) fun v26 h27 =>
 nextK h25 h27 (
 bK (notO v23) fun v28 =>
 condK v28 (
 retC (NV.int .i64 (.ofNat 61)) h27) (
 bK (ldO 4 true h27 v24) fun v29 =>
 mK (calM call 50 [v12, v4, v29] h27) fun v30 h31 =>
 bK (neI v30 (NV.int .i64 (.ofNat 0))) fun v32 =>
 condK v32 (
 retC (NV.int .i64 (.ofNat 62)) h31) (
 retC (NV.int .i64 (.ofNat 0)) h31))))))
theorem e24 : ikB Tryz.prog 9 Tryz.f24 = S24 := by kernel_rfl
theorem k24 [Sig] (w0 : World) : SOK cW w0 24 S24 := okW Tryz.func24 (by kernel_rfl) e24
noncomputable def S25 (call : CallF) (N : Nat) (l : List NV) (h : H) : R :=
 uc l fun v0 l1 => uc l1 fun v2 l3 => uc l3 fun v4 l5 => uc l5 fun v6 l7 => un l7 (
 mK (boxM false v6 h) fun v8 h9 =>
 mK (calM call 47 [v0, v2] h9) fun v10 h11 =>
 bK (extO 0 v10) fun v12 =>
 bK (extO 1 v10) fun v13 =>
 bK (neI v13 (NV.int .i64 (.ofNat 0))) fun v14 =>
 condK v14 (
 retC v13 h11) (
 bK (ldO 4 true h11 (chkV h11 v8)) fun v15 =>
 bK (nilO v12) fun v16 =>
 bK (fAddr 0 v16) fun v17 =>
 bK (fAddr 0 v17) fun v18 =>
 bK (ldO 1 false h11 (chkV h11 v18)) fun v19 =>
 mK (calM call 33 [(chkV h11 v0), (chkV h11 v15), (chkV h11 v19)] h11) fun v20 h21 =>
 nextK h11 h21 (
 bK (extO 0 v20) fun v22 =>
 bK (extO 1 v20) fun v23 =>
 mK (alM (NB.cells [(NV.int .i64 (.ofNat 0)), (NV.int .u64 (.ofNat 0)), (NV.int .u64 (.ofNat 0)), (NV.bool false)]) h21) fun v24 h25 =>
 mK (stM 4 (chkV h25 v24) (chkV h25 v22) h25) fun v26 h27 =>
 nextK h25 h27 (
 bK (notO v23) fun v28 =>
 condK v28 (
 retC (NV.int .i64 (.ofNat 61)) h27) (
 bK (ldO 4 true h27 v24) fun v29 =>
 mK (calM call 51 [v12, v4, v29] h27) fun v30 h31 =>
 bK (ltI v30 (NV.int .i64 (.ofNat 0))) fun v32 =>
 condK v32 (
 retC (NV.int .i64 (.ofNat 65)) h31) (
 retC (NV.int .i64 (.ofNat 0)) h31))))))
theorem e25 : ikB Tryz.prog 9 Tryz.f25 = S25 := by kernel_rfl
theorem k25 [Sig] (w0 : World) : SOK cW w0 25 S25 := okW Tryz.func25 (by kernel_rfl) e25
noncomputable def S26 (call : CallF) (N : Nat) (l : List NV) (h : H) : R :=
 uc l fun v0 l1 => uc l1 fun v2 l3 => uc l3 fun v4 l5 => un l5 (
 mK (calM call 40 [v0, v2] h) fun v6 h7 =>
 bK (extO 0 v6) fun v8 =>
 bK (extO 1 v6) fun v9 =>
 bK (neI v9 (NV.int .i64 (.ofNat 0))) fun v10 =>
 condK v10 (
 retC v9 h7) (
 bK (nilO v0) fun v11 =>
 bK (fAddr 1 v11) fun v12 =>
 bK (fAddr 2 v12) fun v13 =>
 bK (ldO 1 false h7 v13) fun v14 =>
 mK (calM call 52 [v8, v4, v14] h7) fun v15 h16 =>
 bK (ltI v15 (NV.int .i64 (.ofNat 0))) fun v17 =>
 condK v17 (
 retC (NV.int .i64 (.ofNat 65)) h16) (
 retC (NV.int .i64 (.ofNat 0)) h16)))
theorem e26 : ikB Tryz.prog 9 Tryz.f26 = S26 := by kernel_rfl
theorem k26 [Sig] (w0 : World) : SOK cW w0 26 S26 := okW Tryz.func26 (by kernel_rfl) e26
noncomputable def S27 (call : CallF) (N : Nat) (l : List NV) (h : H) : R :=
 uc l fun v0 l1 => uc l1 fun v2 l3 => uc l3 fun v4 l5 => un l5 (
 mK (boxM false v4 h) fun v6 h7 =>
 mK (calM call 35 [v0, v2] h7) fun v8 h9 =>
 bK (extO 0 v8) fun v10 =>
 bK (extO 1 v8) fun v11 =>
 bK (neI v11 (NV.int .i64 (.ofNat 0))) fun v12 =>
 condK v12 (
 retC v11 h9) (
 bK (ldO 4 true h9 (chkV h9 v6)) fun v13 =>
 bK (nilO v10) fun v14 =>
 bK (fAddr 0 v14) fun v15 =>
 bK (fAddr 0 v15) fun v16 =>
 bK (ldO 1 false h9 (chkV h9 v16)) fun v17 =>
 mK (calM call 33 [(chkV h9 v0), (chkV h9 v13), (chkV h9 v17)] h9) fun v18 h19 =>
 nextK h9 h19 (
 bK (extO 0 v18) fun v20 =>
 bK (extO 1 v18) fun v21 =>
 mK (alM (NB.cells [(NV.int .i64 (.ofNat 0)), (NV.int .u64 (.ofNat 0)), (NV.int .u64 (.ofNat 0)), (NV.bool false)]) h19) fun v22 h23 =>
 mK (stM 4 (chkV h23 v22) (chkV h23 v20) h23) fun v24 h25 =>
 nextK h23 h25 (
 bK (notO v21) fun v26 =>
 condK v26 (
 retC (NV.int .i64 (.ofNat 61)) h25) (
 bK (nilO v10) fun v27 =>
 bK (fAddr 0 v27) fun v28 =>
 bK (fAddr 1 v28) fun v29 =>
 bK (ldO 1 false h25 v29) fun v30 =>
 bK (notO v30) fun v31 =>
 condK v31 (
 retC (NV.int .i64 (.ofNat 64)) h25) (
 bK (ldO 4 true h25 v22) fun v32 =>
 bK (nilO v10) fun v33 =>
 bK (fAddr 2 v33) fun v34 =>
 mK (stM 4 v34 v32 h25) fun v35 h36 =>
 retC (NV.int .i64 (.ofNat 0)) h36))))))
theorem e27 : ikB Tryz.prog 9 Tryz.f27 = S27 := by kernel_rfl
theorem k27 [Sig] (w0 : World) : SOK cW w0 27 S27 := okW Tryz.func27 (by kernel_rfl) e27
noncomputable def S28 (call : CallF) (N : Nat) (l : List NV) (h : H) : R :=
 uc l fun v0 l1 => uc l1 fun v2 l3 => un l3 (
 bK (eqD Tryz.prog .eql 26 h v0 NV.nilptr) fun v4 =>
 jK (fun v5 h6 =>
 jK (fun v8 h9 =>
 bK (pickO v4 (NV.bool true) v8) fun v11 =>
 jK (fun v12 h13 =>
 jK (fun v15 h16 =>
 jK (fun v18 h19 =>
 jK (fun v21 h22 =>
 jK (fun v24 h25 =>
 jK (fun v27 h28 =>
 jK (fun v30 h31 =>
 bK (pickO v11 (NV.bool true) v30) fun v33 =>
 condK v33 (
 retC (NV.int .i64 (.negSucc 0)) h31) (
 bK (nilO v0) fun v34 =>
 bK (fAddr 5 v34) fun v35 =>
 bK (ldO 1 false h31 v35) fun v36 =>
 bK (subI v2 (NV.int .i64 (.ofNat 1))) fun v37 =>
 bK (ixS 2 v36 v37) fun v38 =>
 bK (fAddr 0 v38) fun v39 =>
 bK (ldO 1 false h31 v39) fun v40 =>
 retC v40 h31)) fun J32 => gK v11 false (
 bK (gtI v12 v27) fun v41 =>
 J32 v41 h28) (J32 (NV.tuple []) h28)) fun J29 => gK v11 false (
 bK (lenSl v24) fun v42 =>
 J29 v42 h25) (J29 (NV.tuple []) h25)) fun J26 => gK v11 false (
 bK (ldO 1 false h22 v21) fun v43 =>
 J26 v43 h22) (J26 (NV.tuple []) h22)) fun J23 => gK v11 false (
 bK (fAddr 5 v18) fun v44 =>
 J23 v44 h19) (J23 (NV.tuple []) h19)) fun J20 => gK v11 false (
 bK (nilO v15) fun v45 =>
 J20 v45 h16) (J20 (NV.tuple []) h16)) fun J17 => gK v11 false (
 J17 v0 h13) (J17 (NV.tuple []) h13)) fun J14 => gK v11 false (
 J14 v2 h9) (J14 (NV.tuple []) h9)) fun J10 => gK v4 false (
 bK (ltI v5 (NV.int .i64 (.ofNat 1))) fun v46 =>
 J10 v46 h6) (J10 (NV.tuple []) h6)) fun J7 => gK v4 false (
 J7 v2 h) (J7 (NV.tuple []) h))
theorem e28 : ikB Tryz.prog 9 Tryz.f28 = S28 := by kernel_rfl
theorem k28 [Sig] (w0 : World) : SOK cW w0 28 S28 := okW Tryz.func28 (by kernel_rfl) e28
noncomputable def S29 (call : CallF) (N : Nat) (l : List NV) (h : H) : R :=
 uc l fun v0 l1 => un l1 (
 bK (eqD Tryz.prog .eql 26 h v0 NV.nilptr) fun v2 =>
 condK v2 (
 retC NV.nslice h) (
 bK (nilO v0) fun v3 =>
 bK (fAddr 0 v3) fun v4 =>
 bK (ldO 1 false h v4) fun v5 =>
 bK (nilO v5) fun v6 =>
 bK (fAddr 7 v6) fun v7 =>
 bK (ldO 1 false h v7) fun v8 =>
 bK (lenSl v8) fun v9 =>
 joinC 1 (fun v10 h11 =>
 retC v10 h11) fun J12 =>
 loopC N 5 (fun L19 v13 v14 v15 v16 v17 h18 =>
 bK (ltI v17 v16) fun v20 =>
 condK v20 (
 joinC 5 (fun v21 v22 v23 v24 v25 h26 =>
 bK (addI v25 (NV.int .i64 (.ofNat 1))) fun v28 =>
 L19 v21 v22 v23 v24 v28 h26) fun J27 =>
 bK (ixS 2 v15 v17) fun v29 =>
 bK (ldO 2 true h18 v29) fun v30 =>
 mK (alM (NB.cells [(NV.int .i64 (.ofNat 0)), NV.nslice]) h18) fun v31 h32 =>
 mK (stM 2 v31 v30 h32) fun v33 h34 =>
 bK (fAddr 0 v31) fun v35 =>
 bK (ldO 1 false h34 v35) fun v36 =>
 bK (bldO [(0, 1)] [(NV.int .i64 (.ofNat 0)), NV.nslice] [v36]) fun v37 =>
 mK (alM (NB.cells [(NV.int .i64 (.ofNat 0)), NV.nslice]) h34) fun v38 h39 =>
 mK (stM 2 v38 v37 h39) fun v40 h41 =>
 bK (fAddr 1 v31) fun v42 =>
 bK (ldO 1 false h41 v42) fun v43 =>
 bK (lenSl v43) fun v44 =>
 joinC 6 (fun v45 v46 v47 v48 v49 v50 h51 =>
 bK (ldO 2 true h51 v47) fun v53 =>
 mK (bslM 1 false [(0, 2)] [(NV.int .i64 (.ofNat 0)), NV.nslice] [v53] h51) fun v54 h55 =>
 mK (appM Tryz.prog 147 v46 v54 h55) fun v56 h57 =>
 J27 v45 v56 v48 v49 v50 h57) fun J52 =>
 loopC N 9 (fun L68 v58 v59 v60 v61 v62 v63 v64 v65 v66 h67 =>
 bK (ltI v66 v65) fun v69 =>
 condK v69 (
 bK (ixS 4 v64 v66) fun v70 =>
 bK (ldO 4 true h67 v70) fun v71 =>
 mK (alM (NB.cells [(NV.int .i64 (.ofNat 0)), (NV.int .u64 (.ofNat 0)), (NV.int .u64 (.ofNat 0)), (NV.bool false)]) h67) fun v72 h73 =>
 mK (stM 4 v72 v71 h73) fun v74 h75 =>
 bK (fAddr 1 v60) fun v76 =>
 bK (ldO 1 false h75 (chkV h75 v76)) fun v77 =>
 bK (ldO 4 true h75 (chkV h75 v72)) fun v78 =>
 mK (calM call 36 [(chkV h75 v58), (chkV h75 v78)] h75) fun v79 h80 =>
 nextK h75 h80 (
 bK (ldO 1 false h80 (chkV h80 v76)) fun v81 =>
 sameK v81 v77 (
 mK (bslM 1 false [(0, 4)] [(NV.int .i64 (.ofNat 0)), (NV.int .u64 (.ofNat 0)), (NV.int .u64 (.ofNat 0)), (NV.bool false)] [(chkV h80 v79)] h80) fun v82 h83 =>
 mK (appM Tryz.prog 24 (chkV h83 v77) (chkV h83 v82) h83) fun v84 h85 =>
 nextK h83 h85 (
 bK (fAddr 1 v60) fun v86 =>
 mK (stM 1 (chkV h85 v86) (chkV h85 v84) h85) fun v87 h88 =>
 nextK h85 h88 (
 bK (addI v66 (NV.int .i64 (.ofNat 1))) fun v89 =>
 L68 v58 v59 v60 v61 v62 v63 v64 v65 v89 h88))))) (
 J52 v58 v59 v60 v61 v62 v63 h67)) v13 v14 v38 v15 v16 v17 v43 v44 (NV.int .i64 (.ofNat 0)) h41) (
 J12 v14 h18)) v0 NV.nslice v8 v9 (NV.int .i64 (.ofNat 0)) h))
theorem e29 : ikB Tryz.prog 9 Tryz.f29 = S29 := by kernel_rfl
theorem k29 [Sig] (w0 : World) : SOK cW w0 29 S29 := okW Tryz.func29 (by kernel_rfl) e29
noncomputable def S30 (call : CallF) (N : Nat) (l : List NV) (h : H) : R :=
 uc l fun v0 l1 => uc l1 fun v2 l3 => un l3 (
 mK (boxM false v2 h) fun v4 h5 =>
 bK (eqD Tryz.prog .eql 26 h5 v0 NV.nilptr) fun v6 =>
 jK (fun v7 h8 =>
 jK (fun v10 h11 =>
 jK (fun v13 h14 =>
 bK (pickO v6 (NV.bool true) v13) fun v16 =>
 jK (fun v17 h18 =>
 jK (fun v20 h21 =>
 jK (fun v23 h24 =>
 bK (pickO v16 (NV.bool true) v23) fun v26 =>
 condK v26 (
 retC (NV.tuple [(NV.int .i64 (.ofNat 0)), (NV.int .i64 (.ofNat 1))]) h24) (
 bK (fAddr 0 v4) fun v27 =>
 bK (ldO 1 false h24 (chkV h24 v27)) fun v28 =>
 bK (nilO v0) fun v29 =>
 bK (fAddr 1 v29) fun v30 =>
 bK (fAddr 2 v30) fun v31 =>
 bK (ldO 1 false h24 (chkV h24 v31)) fun v32 =>
 bK (gtI v28 v32) fun v33 =>
 condK v33 (
 retC (NV.tuple [(NV.int .i64 (.ofNat 0)), (NV.int .i64 (.ofNat 65))]) h24) (
 bK (nilO v0) fun v34 =>
 bK (fAddr 0 v34) fun v35 =>
 bK (ldO 1 false h24 (chkV h24 v35)) fun v36 =>
 bK (nilO v0) fun v37 =>
 bK (fAddr 0 v37) fun v38 =>
 bK (ldO 1 false h24 (chkV h24 v38)) fun v39 =>
 bK (nilO v39) fun v40 =>
 bK (fAddr 2 v40) fun v41 =>
 bK (ldO 1 false h24 (chkV h24 v41)) fun v42 =>
 bK (ldO 3 true h24 (chkV h24 v4)) fun v43 =>
 bK (fAddr 0 v4) fun v44 =>
 bK (ldO 1 false h24 (chkV h24 v44)) fun v45 =>
 bK (binO .mul v45 (NV.int .i64 (.ofNat 65536))) fun v46 =>
 mK (mslM 1 true (NV.int .u8 (.ofNat 0)) (chkV h24 v46) (chkV h24 v46) h24) fun v47 h48 =>
 bK (bldO [(0, 3), (3, 1)] [(NV.int .i64 (.ofNat 0)), (NV.int .i64 (.ofNat 0)), (NV.bool false), NV.nslice] [v43, v47]) fun v49 =>
 mK (boxM false (chkV h48 v49) h48) fun v50 h51 =>
 mK (bslM 1 false [(0, 1)] [NV.nilptr] [(chkV h51 v50)] h51) fun v52 h53 =>
 mK (appM Tryz.prog 121 (chkV h53 v42) (chkV h53 v52) h53) fun v54 h55 =>
 nextK h53 h55 (
 bK (nilO v36) fun v56 =>
 bK (fAddr 2 v56) fun v57 =>
 bK (ldO 1 false h55 (chkV h55 v35)) fun v58 =>
 sameK v58 v36 (
 mK (stM 1 (chkV h55 v57) (chkV h55 v54) h55) fun v59 h60 =>
 nextK h55 h60 (
 bK (nilO v0) fun v61 =>
 bK (fAddr 0 v61) fun v62 =>
 bK (ldO 1 false h60 v62) fun v63 =>
 bK (nilO v63) fun v64 =>
 bK (fAddr 2 v64) fun v65 =>
 bK (ldO 1 false h60 v65) fun v66 =>
 bK (lenSl v66) fun v67 =>
 bK (subI v67 (NV.int .i64 (.ofNat 1))) fun v68 =>
 mK (calM call 32 [v0, (NV.int .i64 (.ofNat 2)), v68] h60) fun v69 h70 =>
 retC (NV.tuple [v69, (NV.int .i64 (.ofNat 0))]) h70)))))) fun J25 => gK v16 false (
 bK (gtI v20 (NV.int .i64 (.ofNat 65536))) fun v71 =>
 J25 v71 h21) (J25 (NV.tuple []) h21)) fun J22 => gK v16 false (
 bK (ldO 1 false h18 v17) fun v72 =>
 J22 v72 h18) (J22 (NV.tuple []) h18)) fun J19 => gK v16 false (
 bK (fAddr 0 v4) fun v73 =>
 J19 v73 h14) (J19 (NV.tuple []) h14)) fun J15 => gK v6 false (
 bK (notO v10) fun v74 =>
 J15 v74 h11) (J15 (NV.tuple []) h11)) fun J12 => gK v6 false (
 mK (calM call 53 [v7, (NV.int .i64 (.ofNat 65536))] h8) fun v75 h76 =>
 J12 v75 h76) (J12 (NV.tuple []) h8)) fun J9 => gK v6 false (
 bK (ldO 3 true h5 v4) fun v77 =>
 J9 v77 h5) (J9 (NV.tuple []) h5))
theorem e30 : ikB Tryz.prog 9 Tryz.f30 = S30 := by kernel_rfl
theorem k30 [Sig] (w0 : World) : SOK cW w0 30 S30 := okW Tryz.func30 (by kernel_rfl) e30
noncomputable def S31 (call : CallF) (N : Nat) (l : List NV) (h : H) : R :=
 uc l fun v0 l1 => un l1 (
 mK (alM (NB.cells [NV.nslice, NV.nslice, NV.nslice, NV.nslice, NV.nslice, NV.nslice, NV.nslice, (NV.int .i64 (.ofNat 0)), NV.nslice, NV.nslice, (NV.bool false)]) h) fun v2 h3 =>
 mK (calM call 54 [v0] h3) fun v4 h5 =>
 bK (bldO [(0, 1)] [NV.nilptr, (NV.bool false)] [v4]) fun v6 =>
 mK (boxM false v6 h5) fun v7 h8 =>
 mK (alM (NB.cells [(NV.int .u8 (.ofNat 0)), (NV.int .u8 (.ofNat 0)), (NV.int .u8 (.ofNat 0)), (NV.int .u8 (.ofNat 0)), (NV.int .u8 (.ofNat 0)), (NV.int .u8 (.ofNat 0)), (NV.int .u8 (.ofNat 0)), (NV.int .u8 (.ofNat 0))]) h8) fun v9 h10 =>
 bK (slcO Tryz.prog 154 h10 (chkV h10 v9) none none none) fun v11 =>
 bK (nilO v7) fun v12 =>
 bK (fAddr 0 v12) fun v13 =>
 bK (ldO 1 false h10 (chkV h10 v13)) fun v14 =>
 mK (calM call 55 [(chkV h10 v14), (NV.int .i64 (.ofNat 8))] h10) fun v15 h16 =>
 nextK h10 h16 (
 bK (slcO Tryz.prog 154 h16 (chkV h16 v9) none none none) fun v17 =>
 sameK v17 v11 (
 mK (cpyM Tryz.prog 5 (chkV h16 v11) (chkV h16 v15) h16) fun v18 h19 =>
 nextK h16 h19 (
 bK (ldO 8 true h19 v9) fun v20 =>
 bK (bldO [(0, 1), (1, 1), (2, 1), (3, 1), (4, 1)] [(NV.int .u8 (.ofNat 0)), (NV.int .u8 (.ofNat 0)), (NV.int .u8 (.ofNat 0)), (NV.int .u8 (.ofNat 0)), (NV.int .u8 (.ofNat 0)), (NV.int .u8 (.ofNat 0)), (NV.int .u8 (.ofNat 0)), (NV.int .u8 (.ofNat 0))] [(NV.int .u8 (.ofNat 0)), (NV.int .u8 (.ofNat 97)), (NV.int .u8 (.ofNat 115)), (NV.int .u8 (.ofNat 109)), (NV.int .u8 (.ofNat 1))]) fun v21 =>
 bK (eqD Tryz.prog .neq 154 h19 v20 v21) fun v22 =>
 mK (calM call 56 [v7, v22] h19) fun v23 h24 =>
 bK (bldO [] [NV.nslice, NV.nslice, NV.nslice, NV.nslice, NV.nslice, NV.nslice, NV.nslice, (NV.int .i64 (.ofNat 0)), NV.nslice, NV.nslice, (NV.bool false), NV.nslice, (NV.int .i64 (.ofNat 0))] []) fun v25 =>
 mK (alM (NB.cells [NV.nslice, NV.nslice, NV.nslice, NV.nslice, NV.nslice, NV.nslice, NV.nslice, (NV.int .i64 (.ofNat 0)), NV.nslice, NV.nslice, (NV.bool false), NV.nslice, (NV.int .i64 (.ofNat 0))]) h24) fun v26 h27 =>
 mK (stM 13 v26 v25 h27) fun v28 h29 =>
 joinC 3 (fun v30 v31 v32 h33 =>
 mK (calM call 65 [v31] h33) fun v35 h36 =>
 bK (neI v35 (NV.int .i64 (.ofNat 0))) fun v37 =>
 condK v37 (
 bK (bldO [] [NV.nslice, NV.nslice, NV.nslice, NV.nslice, NV.nslice, NV.nslice, NV.nslice, (NV.int .i64 (.ofNat 0)), NV.nslice, NV.nslice, (NV.bool false)] []) fun v38 =>
 mK (stM 11 v30 v38 h36) fun v39 h40 =>
 bK (ldB 11 true h40 v30) fun v41 =>
 retC (NV.tuple [v41, v35]) h40) (
 bK (fAddr 11 v32) fun v42 =>
 bK (ldO 1 false h36 v42) fun v43 =>
 bK (lenSl v43) fun v44 =>
 bK (fAddr 0 v32) fun v45 =>
 bK (fAddr 2 v45) fun v46 =>
 bK (ldO 1 false h36 v46) fun v47 =>
 bK (lenSl v47) fun v48 =>
 bK (neI v44 v48) fun v49 =>
 jK (fun v50 h51 =>
 jK (fun v53 h54 =>
 jK (fun v56 h57 =>
 jK (fun v59 h60 =>
 jK (fun v62 h63 =>
 jK (fun v65 h66 =>
 jK (fun v68 h69 =>
 jK (fun v71 h72 =>
 jK (fun v74 h75 =>
 jK (fun v77 h78 =>
 jK (fun v80 h81 =>
 jK (fun v83 h84 =>
 bK (pickO v49 (NV.bool true) v83) fun v86 =>
 condK v86 (
 bK (bldO [] [NV.nslice, NV.nslice, NV.nslice, NV.nslice, NV.nslice, NV.nslice, NV.nslice, (NV.int .i64 (.ofNat 0)), NV.nslice, NV.nslice, (NV.bool false)] []) fun v87 =>
 mK (stM 11 v30 v87 h84) fun v88 h89 =>
 bK (ldB 11 true h89 v30) fun v90 =>
 retC (NV.tuple [v90, (NV.int .i64 (.ofNat 12))]) h89) (
 bK (fAddr 11 v32) fun v91 =>
 bK (ldO 1 false h84 v91) fun v92 =>
 bK (lenSl v92) fun v93 =>
 joinC 2 (fun v94 v95 h96 =>
 bK (fAddr 0 v95) fun v98 =>
 bK (ldO 11 true h96 v98) fun v99 =>
 mK (calM call 66 [v99] h96) fun v100 h101 =>
 bK (notO v100) fun v102 =>
 condK v102 (
 bK (bldO [] [NV.nslice, NV.nslice, NV.nslice, NV.nslice, NV.nslice, NV.nslice, NV.nslice, (NV.int .i64 (.ofNat 0)), NV.nslice, NV.nslice, (NV.bool false)] []) fun v103 =>
 mK (stM 11 v94 v103 h101) fun v104 h105 =>
 bK (ldB 11 true h105 v94) fun v106 =>
 retC (NV.tuple [v106, (NV.int .i64 (.ofNat 12))]) h105) (
 bK (fAddr 0 v95) fun v107 =>
 bK (ldO 11 true h101 v107) fun v108 =>
 mK (stM 11 v94 v108 h101) fun v109 h110 =>
 bK (ldB 11 true h110 v94) fun v111 =>
 retC (NV.tuple [v111, (NV.int .i64 (.ofNat 0))]) h110)) fun J97 =>
 loopC N 5 (fun L118 v112 v113 v114 v115 v116 h117 =>
 bK (ltI v116 v115) fun v119 =>
 condK v119 (
 bK (ixS 1 v114 v116) fun v120 =>
 bK (ldO 1 false h117 v120) fun v121 =>
 bK (fAddr 0 v113) fun v122 =>
 bK (fAddr 2 v122) fun v123 =>
 bK (ldO 1 false h117 v123) fun v124 =>
 bK (ixS 3 v124 v116) fun v125 =>
 bK (fAddr 0 v125) fun v126 =>
 mK (stM 1 v126 v121 h117) fun v127 h128 =>
 bK (addI v116 (NV.int .i64 (.ofNat 1))) fun v129 =>
 L118 v112 v113 v114 v115 v129 h128) (
 J97 v112 v113 h117)) v30 v32 v92 v93 (NV.int .i64 (.ofNat 0)) h84)) fun J85 => gK v49 false (
 bK (pickO v59 v80 (NV.bool false)) fun v130 =>
 J85 v130 h81) (J85 (NV.tuple []) h81)) fun J82 => gK v59 true (
 bK (neI v65 v77) fun v131 =>
 J82 v131 h78) (J82 (NV.tuple []) h78)) fun J79 => gK v59 true (
 bK (lenSl v74) fun v132 =>
 J79 v132 h75) (J79 (NV.tuple []) h75)) fun J76 => gK v59 true (
 bK (ldO 1 false h72 v71) fun v133 =>
 J76 v133 h72) (J76 (NV.tuple []) h72)) fun J73 => gK v59 true (
 bK (fAddr 9 v68) fun v134 =>
 J73 v134 h69) (J73 (NV.tuple []) h69)) fun J70 => gK v59 true (
 bK (fAddr 0 v32) fun v135 =>
 J70 v135 h66) (J70 (NV.tuple []) h66)) fun J67 => gK v59 true (
 bK (ldO 1 false h63 v62) fun v136 =>
 J67 v136 h63) (J67 (NV.tuple []) h63)) fun J64 => gK v59 true (
 bK (fAddr 12 v32) fun v137 =>
 J64 v137 h60) (J64 (NV.tuple []) h60)) fun J61 => gK v49 false (
 J61 v56 h57) (J61 (NV.tuple []) h57)) fun J58 => gK v49 false (
 bK (ldO 1 false h54 v53) fun v138 =>
 J58 v138 h54) (J58 (NV.tuple []) h54)) fun J55 => gK v49 false (
 bK (fAddr 10 v50) fun v139 =>
 J55 v139 h51) (J55 (NV.tuple []) h51)) fun J52 => gK v49 false (
 bK (fAddr 0 v32) fun v140 =>
 J52 v140 h36) (J52 (NV.tuple []) h36))) fun J34 =>
 loopC N 4 (fun L146 v141 v142 v143 v144 h145 =>
 bK (nilO v142) fun v147 =>
 bK (fAddr 0 v147) fun v148 =>
 bK (ldO 1 false h145 v148) fun v149 =>
 mK (calM call 57 [v149] h145) fun v150 h151 =>
 bK (gtI v150 (NV.int .i64 (.ofNat 0))) fun v152 =>
 condK v152 (
 mK (calM call 58 [v142, (NV.int .i64 (.ofNat 12))] h151) fun v153 h154 =>
 bK (gtI v153 (NV.int .i64 (.ofNat 0))) fun v155 =>
 joinC 5 (fun v156 v157 v158 v159 v160 h161 =>
 mK (calM call 61 [v157] h161) fun v163 h164 =>
 mK (calM call 60 [v157, v163] h164) fun v165 h166 =>
 bK (nilO v157) fun v167 =>
 bK (fAddr 0 v167) fun v168 =>
 bK (ldO 1 false h166 v168) fun v169 =>
 mK (calM call 62 [v169] h166) fun v170 h171 =>
 bK (neI v170 (NV.int .i64 (.ofNat 0))) fun v172 =>
 condK v172 (
 J34 v156 v157 v158 h171) (
 mK (calM call 63 [v158, v160, v165] h171) fun v173 h174 =>
 mK (calM call 64 [v157, v165] h174) fun v175 h176 =>
 L146 v156 v157 v158 v159 h176)) fun J162 =>
 condK v155 (
 mK (calM call 59 [v153] h154) fun v177 h178 =>
 bK (leI v177 v144) fun v179 =>
 mK (calM call 56 [v142, v179] h178) fun v180 h181 =>
 mK (calM call 59 [v153] h181) fun v182 h183 =>
 J162 v141 v142 v143 v182 v153 h183) (
 J162 v141 v142 v143 v144 v153 h154)) (
 J34 v141 v142 v143 h151)) v2 v7 v26 (NV.int .i64 (.ofNat 0)) h29))))
theorem e31 : ikB Tryz.prog 9 Tryz.f31 = S31 := by kernel_rfl
theorem k31 [Sig] (w0 : World) : SOK cW w0 31 S31 := okW Tryz.func31 (by kernel_rfl) e31
noncomputable def S32 (call : CallF) (N : Nat) (l : List NV) (h : H) : R :=
 uc l fun v0 l1 => uc l1 fun v2 l3 => uc l3 fun v4 l5 => un l5 (
 bK (bldO [(0, 1), (1, 1)] [(NV.int .i64 (.ofNat 0)), (NV.int .i64 (.ofNat 0))] [v2, v4]) fun v6 =>
 mK (alM (NB.cells [(NV.int .i64 (.ofNat 0)), (NV.int .i64 (.ofNat 0))]) h) fun v7 h8 =>
 mK (stM 2 v7 v6 h8) fun v9 h10 =>
 bK (nilO v0) fun v11 =>
 bK (fAddr 6 v11) fun v12 =>
 bK (ldO 1 false h10 (chkV h10 v12)) fun v13 =>
 bK (ldO 2 true h10 (chkV h10 v7)) fun v14 =>
 bK (lookO Tryz.prog 117 (NV.int .i64 (.ofNat 0)) false h10 (chkV h10 v13) (chkV h10 v14)) fun v15 =>
 bK (gtI v15 (NV.int .i64 (.ofNat 0))) fun v16 =>
 condK v16 (
 retC v15 h10) (
 bK (nilO v0) fun v17 =>
 bK (fAddr 5 v17) fun v18 =>
 bK (ldO 1 false h10 (chkV h10 v18)) fun v19 =>
 bK (ldO 2 true h10 (chkV h10 v7)) fun v20 =>
 mK (bslM 1 false [(0, 2)] [(NV.int .i64 (.ofNat 0)), (NV.int .i64 (.ofNat 0))] [(chkV h10 v20)] h10) fun v21 h22 =>
 mK (appM Tryz.prog 117 (chkV h22 v19) (chkV h22 v21) h22) fun v23 h24 =>
 nextK h22 h24 (
 bK (nilO v0) fun v25 =>
 bK (fAddr 5 v25) fun v26 =>
 mK (stM 1 (chkV h24 v26) (chkV h24 v23) h24) fun v27 h28 =>
 nextK h24 h28 (
 bK (nilO v0) fun v29 =>
 bK (fAddr 6 v29) fun v30 =>
 bK (ldO 1 false h28 (chkV h28 v30)) fun v31 =>
 bK (ldO 2 true h28 (chkV h28 v7)) fun v32 =>
 bK (nilO v0) fun v33 =>
 bK (fAddr 5 v33) fun v34 =>
 bK (ldO 1 false h28 (chkV h28 v34)) fun v35 =>
 bK (lenSl v35) fun v36 =>
 mK (updM Tryz.prog 87 (chkV h28 v31) (chkV h28 v32) (chkV h28 v36) h28) fun v37 h38 =>
 nextK h28 h38 (
 bK (nilO v0) fun v39 =>
 bK (fAddr 5 v39) fun v40 =>
 bK (ldO 1 false h38 v40) fun v41 =>
 bK (lenSl v41) fun v42 =>
 retC v42 h38)))))
theorem e32 : ikB Tryz.prog 9 Tryz.f32 = S32 := by kernel_rfl
theorem k32 [Sig] (w0 : World) : SOK cW w0 32 S32 := okW Tryz.func32 (by kernel_rfl) e32
noncomputable def S33 (call : CallF) (N : Nat) (l : List NV) (h : H) : R :=
 uc l fun v0 l1 => uc l1 fun v2 l3 => uc l3 fun v4 l5 => un l5 (
 mK (boxM false v2 h) fun v6 h7 =>
 mK (alM (NB.cells [(NV.int .i64 (.ofNat 0)), (NV.int .u64 (.ofNat 0)), (NV.int .u64 (.ofNat 0)), (NV.bool false)]) h7) fun v8 h9 =>
 bK (eqI v4 (NV.int .i64 (.ofNat 112))) fun v10 =>
 jK (fun v11 h12 =>
 jK (fun v14 h15 =>
 jK (fun v17 h18 =>
 bK (pickO v10 v17 (NV.bool false)) fun v20 =>
 joinC 4 (fun v21 v22 v23 v24 h25 =>
 bK (ldO 4 true h25 (chkV h25 v23)) fun v27 =>
 bK (nilO v21) fun v28 =>
 bK (fAddr 0 v28) fun v29 =>
 bK (ldO 1 false h25 (chkV h25 v29)) fun v30 =>
 bK (ldO 4 true h25 (chkV h25 v23)) fun v31 =>
 mK (calM call 67 [(chkV h25 v30), (chkV h25 v31), (chkV h25 v22)] h25) fun v32 h33 =>
 nextK h25 h33 (
 bK (ldO 4 true h33 (chkV h33 v23)) fun v34 =>
 sameK v34 v27 (
 mK (stM 4 (chkV h33 v24) (chkV h33 v27) h33) fun v35 h36 =>
 nextK h33 h36 (
 bK (ldB 4 true h36 v24) fun v37 =>
 retC (NV.tuple [v37, v32]) h36)))) fun J26 =>
 condK v20 (
 bK (fAddr 1 v6) fun v38 =>
 bK (ldO 1 false h18 (chkV h18 v38)) fun v39 =>
 bK (nilO v0) fun v40 =>
 bK (fAddr 5 v40) fun v41 =>
 bK (ldO 1 false h18 (chkV h18 v41)) fun v42 =>
 bK (lenSl v42) fun v43 =>
 bK (cvI .u64 v43) fun v44 =>
 bK (gtI v39 v44) fun v45 =>
 condK v45 (
 bK (ldO 4 true h18 v6) fun v46 =>
 mK (stM 4 v8 v46 h18) fun v47 h48 =>
 bK (ldB 4 true h48 v8) fun v49 =>
 retC (NV.tuple [v49, (NV.bool false)]) h48) (
 bK (fAddr 1 v6) fun v50 =>
 bK (ldO 1 false h18 v50) fun v51 =>
 bK (cvI .i64 v51) fun v52 =>
 mK (calM call 37 [v0, v52, (NV.int .i64 (.ofNat 0))] h18) fun v53 h54 =>
 bK (extO 0 v53) fun v55 =>
 bK (extO 1 v53) fun v56 =>
 bK (neI v56 (NV.int .i64 (.ofNat 0))) fun v57 =>
 condK v57 (
 bK (ldO 4 true h54 v6) fun v58 =>
 mK (stM 4 v8 v58 h54) fun v59 h60 =>
 bK (ldB 4 true h60 v8) fun v61 =>
 retC (NV.tuple [v61, (NV.bool false)]) h60) (
 bK (cvI .u64 v55) fun v62 =>
 bK (fAddr 1 v6) fun v63 =>
 mK (stM 1 v63 v62 h54) fun v64 h65 =>
 J26 v0 v4 v6 v8 h65))) (
 J26 v0 v4 v6 v8 h18)) fun J19 => gK v10 true (
 bK (notO v14) fun v66 =>
 J19 v66 h15) (J19 (NV.tuple []) h15)) fun J16 => gK v10 true (
 bK (ldO 1 false h12 v11) fun v67 =>
 J16 v67 h12) (J16 (NV.tuple []) h12)) fun J13 => gK v10 true (
 bK (fAddr 3 v6) fun v68 =>
 J13 v68 h9) (J13 (NV.tuple []) h9))
theorem e33 : ikB Tryz.prog 9 Tryz.f33 = S33 := by kernel_rfl
theorem k33 [Sig] (w0 : World) : SOK cW w0 33 S33 := okW Tryz.func33 (by kernel_rfl) e33
noncomputable def S34 (call : CallF) (N : Nat) (l : List NV) (h : H) : R :=
 uc l fun v0 l1 => un l1 (
 bK (geI v0 (NV.int .i64 (.ofNat 123))) fun v2 =>
 jK (fun v3 h4 =>
 jK (fun v6 h7 =>
 bK (pickO v2 v6 (NV.bool false)) fun v9 =>
 jK (fun v10 h11 =>
 jK (fun v13 h14 =>
 bK (pickO v9 (NV.bool true) v13) fun v16 =>
 jK (fun v17 h18 =>
 jK (fun v20 h21 =>
 bK (pickO v16 (NV.bool true) v20) fun v23 =>
 retC v23 h21) fun J22 => gK v16 false (
 bK (eqI v17 (NV.int .i64 (.ofNat 111))) fun v24 =>
 J22 v24 h18) (J22 (NV.tuple []) h18)) fun J19 => gK v16 false (
 J19 v0 h14) (J19 (NV.tuple []) h14)) fun J15 => gK v9 false (
 bK (eqI v10 (NV.int .i64 (.ofNat 112))) fun v25 =>
 J15 v25 h11) (J15 (NV.tuple []) h11)) fun J12 => gK v9 false (
 J12 v0 h7) (J12 (NV.tuple []) h7)) fun J8 => gK v2 true (
 bK (leI v3 (NV.int .i64 (.ofNat 127))) fun v26 =>
 J8 v26 h4) (J8 (NV.tuple []) h4)) fun J5 => gK v2 true (
 J5 v0 h) (J5 (NV.tuple []) h))
theorem e34 : ikB Tryz.prog 9 Tryz.f34 = S34 := by kernel_rfl
theorem k34 [Sig] (w0 : World) : SOK cW w0 34 S34 := okW Tryz.func34 (by kernel_rfl) e34
noncomputable def S35 (call : CallF) (N : Nat) (l : List NV) (h : H) : R :=
 uc l fun v0 l1 => uc l1 fun v2 l3 => un l3 (
 mK (calM call 37 [v0, v2, (NV.int .i64 (.ofNat 3))] h) fun v4 h5 =>
 bK (extO 0 v4) fun v6 =>
 bK (extO 1 v4) fun v7 =>
 bK (neI v7 (NV.int .i64 (.ofNat 0))) fun v8 =>
 condK v8 (
 retC (NV.tuple [NV.nilptr, v7]) h5) (
 bK (nilO v0) fun v9 =>
 bK (fAddr 0 v9) fun v10 =>
 bK (ldO 1 false h5 v10) fun v11 =>
 bK (nilO v11) fun v12 =>
 bK (fAddr 3 v12) fun v13 =>
 bK (ldO 1 false h5 v13) fun v14 =>
 bK (ixS 1 v14 v6) fun v15 =>
 bK (ldO 1 false h5 v15) fun v16 =>
 retC (NV.tuple [v16, (NV.int .i64 (.ofNat 0))]) h5))
theorem e35 : ikB Tryz.prog 9 Tryz.f35 = S35 := by kernel_rfl
theorem k35 [Sig] (w0 : World) : SOK cW w0 35 S35 := okW Tryz.func35 (by kernel_rfl) e35
noncomputable def S36 (call : CallF) (N : Nat) (l : List NV) (h : H) : R :=
 uc l fun v0 l1 => uc l1 fun v2 l3 => un l3 (
 mK (boxM false v2 h) fun v4 h5 =>
 mK (alM (NB.cells [(NV.int .i64 (.ofNat 0)), (NV.int .u64 (.ofNat 0)), (NV.int .u64 (.ofNat 0)), (NV.bool false)]) h5) fun v6 h7 =>
 bK (fAddr 0 v4) fun v8 =>
 bK (ldO 1 false h7 v8) fun v9 =>
 bK (eqI v9 (NV.int .i64 (.ofNat 112))) fun v10 =>
 jK (fun v11 h12 =>
 jK (fun v14 h15 =>
 jK (fun v17 h18 =>
 bK (pickO v10 v17 (NV.bool false)) fun v20 =>
 joinC 2 (fun v21 v22 h23 =>
 bK (ldO 4 true h23 v21) fun v25 =>
 mK (stM 4 v22 v25 h23) fun v26 h27 =>
 bK (ldB 4 true h27 v22) fun v28 =>
 retC v28 h27) fun J24 =>
 condK v20 (
 bK (fAddr 1 v4) fun v29 =>
 bK (ldO 1 false h18 v29) fun v30 =>
 bK (cvI .i64 v30) fun v31 =>
 mK (calM call 32 [v0, (NV.int .i64 (.ofNat 0)), v31] h18) fun v32 h33 =>
 bK (cvI .u64 v32) fun v34 =>
 bK (fAddr 1 v4) fun v35 =>
 mK (stM 1 v35 v34 h33) fun v36 h37 =>
 J24 v4 v6 h37) (
 J24 v4 v6 h18)) fun J19 => gK v10 true (
 bK (notO v14) fun v38 =>
 J19 v38 h15) (J19 (NV.tuple []) h15)) fun J16 => gK v10 true (
 bK (ldO 1 false h12 v11) fun v39 =>
 J16 v39 h12) (J16 (NV.tuple []) h12)) fun J13 => gK v10 true (
 bK (fAddr 3 v4) fun v40 =>
 J13 v40 h7) (J13 (NV.tuple []) h7))
theorem e36 : ikB Tryz.prog 9 Tryz.f36 = S36 := by kernel_rfl
theorem k36 [Sig] (w0 : World) : SOK cW w0 36 S36 := okW Tryz.func36 (by kernel_rfl) e36
noncomputable def S37 (call : CallF) (N : Nat) (l : List NV) (h : H) : R :=
 uc l fun v0 l1 => uc l1 fun v2 l3 => uc l3 fun v4 l5 => un l5 (
 bK (eqD Tryz.prog .eql 26 h v0 NV.nilptr) fun v6 =>
 condK v6 (
 retC (NV.tuple [(NV.int .i64 (.ofNat 0)), (NV.int .i64 (.ofNat 1))]) h) (
 mK (calM call 28 [v0, v2] h) fun v7 h8 =>
 bK (neI v7 v4) fun v9 =>
 condK v9 (
 retC (NV.tuple [(NV.int .i64 (.ofNat 0)), (NV.int .i64 (.ofNat 60))]) h8) (
 bK (nilO v0) fun v10 =>
 bK (fAddr 5 v10) fun v11 =>
 bK (ldO 1 false h8 v11) fun v12 =>
 bK (subI v2 (NV.int .i64 (.ofNat 1))) fun v13 =>
 bK (ixS 2 v12 v13) fun v14 =>
 bK (fAddr 1 v14) fun v15 =>
 bK (ldO 1 false h8 v15) fun v16 =>
 retC (NV.tuple [v16, (NV.int .i64 (.ofNat 0))]) h8)))
theorem e37 : ikB Tryz.prog 9 Tryz.f37 = S37 := by kernel_rfl
theorem k37 [Sig] (w0 : World) : SOK cW w0 37 S37 := okW Tryz.func37 (by kernel_rfl) e37
noncomputable def S39 (call : CallF) (N : Nat) (l : List NV) (h : H) : R :=
 uc l fun v0 l1 => un l1 (
 mK (boxM false v0 h) fun v2 h3 =>
 bK (ldO 11 true h3 v2) fun v4 =>
 mK (calM call 69 [v4] h3) fun v5 h6 =>
 bK (notO v5) fun v7 =>
 condK v7 (
 retC (NV.int .i64 (.ofNat 1)) h6) (
 bK (ldO 11 true h6 v2) fun v8 =>
 mK (calM call 70 [v8] h6) fun v9 h10 =>
 mK (calM call 71 [v9] h10) fun v11 h12 =>
 bK (notO v11) fun v13 =>
 condK v13 (
 retC (NV.int .i64 (.ofNat 20)) h12) (
 retC (NV.int .i64 (.ofNat 0)) h12)))
theorem e39 : ikB Tryz.prog 9 Tryz.f39 = S39 := by kernel_rfl
theorem k39 [Sig] (w0 : World) : SOK cW w0 39 S39 := okW Tryz.func39 (by kernel_rfl) e39
noncomputable def S40 (call : CallF) (N : Nat) (l : List NV) (h : H) : R :=
 uc l fun v0 l1 => uc l1 fun v2 l3 => un l3 (
 mK (calM call 37 [v0, v2, (NV.int .i64 (.ofNat 2))] h) fun v4 h5 =>
 bK (extO 0 v4) fun v6 =>
 bK (extO 1 v4) fun v7 =>
 bK (neI v7 (NV.int .i64 (.ofNat 0))) fun v8 =>
 condK v8 (
 retC (NV.tuple [NV.nilptr, v7]) h5) (
 bK (nilO v0) fun v9 =>
 bK (fAddr 0 v9) fun v10 =>
 bK (ldO 1 false h5 v10) fun v11 =>
 bK (nilO v11) fun v12 =>
 bK (fAddr 2 v12) fun v13 =>
 bK (ldO 1 false h5 v13) fun v14 =>
 bK (ixS 1 v14 v6) fun v15 =>
 bK (ldO 1 false h5 v15) fun v16 =>
 retC (NV.tuple [v16, (NV.int .i64 (.ofNat 0))]) h5))
theorem e40 : ikB Tryz.prog 9 Tryz.f40 = S40 := by kernel_rfl
theorem k40 [Sig] (w0 : World) : SOK cW w0 40 S40 := okW Tryz.func40 (by kernel_rfl) e40
noncomputable def S41 (call : CallF) (N : Nat) (l : List NV) (h : H) : R :=
 uc l fun v0 l1 => uc l1 fun v2 l3 => uc l3 fun v4 l5 => un l5 (
 bK (lenSl v4) fun v6 =>
 bK (cvI .u64 v6) fun v7 =>
 mK (calM call 72 [v0, v2, (NV.int .u64 (.ofNat 0)), v7, v4] h) fun v8 h9 =>
 retC v8 h9)
theorem e41 : ikB Tryz.prog 9 Tryz.f41 = S41 := by kernel_rfl
theorem k41 [Sig] (w0 : World) : SOK cW w0 41 S41 := okW Tryz.func41 (by kernel_rfl) e41
noncomputable def S44 (call : CallF) (N : Nat) (l : List NV) (h : H) : R :=
 uc l fun v0 l1 => uc l1 fun v2 l3 => uc l3 fun v4 l5 => uc l5 fun v6 l7 => un l7 (
 mK (boxM false v2 h) fun v8 h9 =>
 mK (boxM false v6 h9) fun v10 h11 =>
 bK (eqD Tryz.prog .eql 77 h11 v0 NV.nilptr) fun v12 =>
 jK (fun v13 h14 =>
 jK (fun v16 h17 =>
 jK (fun v19 h20 =>
 bK (pickO v12 (NV.bool true) v19) fun v22 =>
 jK (fun v23 h24 =>
 jK (fun v26 h27 =>
 jK (fun v29 h30 =>
 bK (pickO v22 (NV.bool true) v29) fun v32 =>
 jK (fun v33 h34 =>
 jK (fun v36 h37 =>
 jK (fun v39 h40 =>
 bK (pickO v32 (NV.bool true) v39) fun v42 =>
 condK v42 (
 retC (NV.tuple [(NV.int .i64 (.ofNat 0)), (NV.int .i64 (.ofNat 0)), (NV.int .i64 (.ofNat 1))]) h40) (
 bK (ldO 11 true h40 v8) fun v43 =>
 mK (calM call 39 [v43] h40) fun v44 h45 =>
 bK (neI v44 (NV.int .i64 (.ofNat 0))) fun v46 =>
 condK v46 (
 retC (NV.tuple [(NV.int .i64 (.ofNat 0)), (NV.int .i64 (.ofNat 0)), v44]) h45) (
 bK (lenSl v4) fun v47 =>
 bK (fAddr 1 v8) fun v48 =>
 bK (ldO 1 false h45 v48) fun v49 =>
 bK (lenSl v49) fun v50 =>
 bK (neI v47 v50) fun v51 =>
 condK v51 (
 retC (NV.tuple [(NV.int .i64 (.ofNat 0)), (NV.int .i64 (.ofNat 0)), (NV.int .i64 (.ofNat 30))]) h45) (
 bK (lenSl v4) fun v52 =>
 joinC 4 (fun v53 v54 v55 v56 h57 =>
 bK (fAddr 3 v55) fun v59 =>
 bK (ldO 1 false h57 v59) fun v60 =>
 mK (calM call 77 [v60, (NV.func (.func 75) [] [])] h57) fun v61 h62 =>
 jK (fun v63 h64 =>
 jK (fun v66 h67 =>
 jK (fun v69 h70 =>
 jK (fun v72 h73 =>
 bK (pickO v61 (NV.bool true) v72) fun v75 =>
 condK v75 (
 retC (NV.tuple [(NV.int .i64 (.ofNat 0)), (NV.int .i64 (.ofNat 0)), (NV.int .i64 (.ofNat 65))]) h73) (
 bK (ldO 11 true h73 v55) fun v76 =>
 mK (calM call 79 [v76] h73) fun v77 h78 =>
 bK (bldO [] [NV.nslice, NV.nslice, NV.nslice, NV.nslice, NV.nslice, NV.nslice, NV.nslice, (NV.int .i64 (.ofNat 0)), NV.nslice, NV.nslice, (NV.bool false), NV.nslice, NV.nslice, NV.nslice, NV.nslice, NV.nslice, NV.nslice, NV.nslice] []) fun v79 =>
 mK (boxM false v79 h78) fun v80 h81 =>
 bK (bldO [(0, 1), (1, 11), (12, 1)] [NV.nilptr, NV.nslice, NV.nslice, NV.nslice, NV.nslice, NV.nslice, NV.nslice, NV.nslice, (NV.int .i64 (.ofNat 0)), NV.nslice, NV.nslice, (NV.bool false), NV.nilptr] [v53, v77, v80]) fun v82 =>
 mK (boxM false v82 h81) fun v83 h84 =>
 mK (calM call 80 [v83, v54] h84) fun v85 h86 =>
 mK (calM call 81 [v83] h86) fun v87 h88 =>
 bK (neI v87 (NV.int .i64 (.ofNat 0))) fun v89 =>
 condK v89 (
 retC (NV.tuple [(NV.int .i64 (.ofNat 0)), (NV.int .i64 (.ofNat 0)), v87]) h88) (
 bK (nilO v53) fun v90 =>
 bK (fAddr 6 v90) fun v91 =>
 bK (ldO 1 false h88 v91) fun v92 =>
 bK (lenSl v92) fun v93 =>
 bK (subI v93 (NV.int .i64 (.ofNat 1))) fun v94 =>
 bK (fAddr 7 v55) fun v95 =>
 bK (ldO 1 false h88 v95) fun v96 =>
 bK (eqI v96 (NV.int .i64 (.ofNat 0))) fun v97 =>
 condK v97 (
 retC (NV.tuple [v94, (NV.int .i64 (.ofNat 0)), (NV.int .i64 (.ofNat 0))]) h88) (
 bK (nilO v83) fun v98 =>
 bK (fAddr 12 v98) fun v99 =>
 bK (ldO 1 false h88 (chkV h88 v99)) fun v100 =>
 bK (nilO v100) fun v101 =>
 bK (fAddr 11 v101) fun v102 =>
 bK (ldO 1 false h88 (chkV h88 v102)) fun v103 =>
 bK (fAddr 7 v55) fun v104 =>
 bK (ldO 1 false h88 (chkV h88 v104)) fun v105 =>
 bK (subI v105 (NV.int .i64 (.ofNat 1))) fun v106 =>
 bK (ixS 1 v103 v106) fun v107 =>
 bK (ldO 1 false h88 (chkV h88 v107)) fun v108 =>
 bK (ldO 3 true h88 (chkV h88 v56)) fun v109 =>
 mK (calM call 46 [(chkV h88 v53), (chkV h88 v108), NV.nslice, (chkV h88 v109)] h88) fun v110 h111 =>
 nextK h88 h111 (
 bK (extO 0 v110) fun v112 =>
 bK (extO 1 v110) fun v113 =>
 bK (extO 2 v110) fun v114 =>
 bK (neI v114 (NV.int .i64 (.ofNat 0))) fun v115 =>
 condK v115 (
 retC (NV.tuple [(NV.int .i64 (.ofNat 0)), v113, v114]) h111) (
 retC (NV.tuple [v94, v113, (NV.int .i64 (.ofNat 0))]) h111)))))) fun J74 => gK v61 false (
 mK (calM call 78 [v66, v69] h70) fun v116 h117 =>
 J74 v116 h117) (J74 (NV.tuple []) h70)) fun J71 => gK v61 false (
 J71 (NV.func (.func 76) [] [v56]) h67) (J71 (NV.tuple []) h67)) fun J68 => gK v61 false (
 bK (ldO 1 false h64 v63) fun v118 =>
 J68 v118 h64) (J68 (NV.tuple []) h64)) fun J65 => gK v61 false (
 bK (fAddr 4 v55) fun v119 =>
 J65 v119 h62) (J65 (NV.tuple []) h62)) fun J58 =>
 loopC N 7 (fun L128 v120 v121 v122 v123 v124 v125 v126 h127 =>
 bK (ltI v126 v125) fun v129 =>
 condK v129 (
 bK (ixS 2 v124 v126) fun v130 =>
 bK (ldO 2 true h127 v130) fun v131 =>
 mK (alM (NB.cells [(NV.int .i64 (.ofNat 0)), (NV.int .i64 (.ofNat 0))]) h127) fun v132 h133 =>
 mK (stM 2 v132 v131 h133) fun v134 h135 =>
 bK (ldO 2 true h135 (chkV h135 v132)) fun v136 =>
 bK (fAddr 1 v122) fun v137 =>
 bK (ldO 1 false h135 (chkV h135 v137)) fun v138 =>
 bK (ixS 13 v138 v126) fun v139 =>
 bK (ldO 13 true h135 (chkV h135 v139)) fun v140 =>
 bK (ldO 11 true h135 (chkV h135 v122)) fun v141 =>
 mK (calM call 74 [(chkV h135 v120), (chkV h135 v136), (chkV h135 v140), (chkV h135 v141)] h135) fun v142 h143 =>
 nextK h135 h143 (
 bK (notO v142) fun v144 =>
 condK v144 (
 retC (NV.tuple [(NV.int .i64 (.ofNat 0)), (NV.int .i64 (.ofNat 0)), (NV.int .i64 (.ofNat 30))]) h143) (
 bK (addI v126 (NV.int .i64 (.ofNat 1))) fun v145 =>
 L128 v120 v121 v122 v123 v124 v125 v145 h143))) (
 J58 v120 v121 v122 v123 h127)) v0 v4 v8 v10 v4 v52 (NV.int .i64 (.ofNat 0)) h45)))) fun J41 => gK v32 false (
 bK (ltI v36 (NV.int .i64 (.ofNat 0))) fun v146 =>
 J41 v146 h37) (J41 (NV.tuple []) h37)) fun J38 => gK v32 false (
 bK (ldO 1 false h34 v33) fun v147 =>
 J38 v147 h34) (J38 (NV.tuple []) h34)) fun J35 => gK v32 false (
 bK (fAddr 2 v10) fun v148 =>
 J35 v148 h30) (J35 (NV.tuple []) h30)) fun J31 => gK v22 false (
 bK (ltI v26 (NV.int .i64 (.ofNat 0))) fun v149 =>
 J31 v149 h27) (J31 (NV.tuple []) h27)) fun J28 => gK v22 false (
 bK (ldO 1 false h24 v23) fun v150 =>
 J28 v150 h24) (J28 (NV.tuple []) h24)) fun J25 => gK v22 false (
 bK (fAddr 1 v10) fun v151 =>
 J25 v151 h20) (J25 (NV.tuple []) h20)) fun J21 => gK v12 false (
 bK (ltI v16 (NV.int .i64 (.ofNat 0))) fun v152 =>
 J21 v152 h17) (J21 (NV.tuple []) h17)) fun J18 => gK v12 false (
 bK (ldO 1 false h14 v13) fun v153 =>
 J18 v153 h14) (J18 (NV.tuple []) h14)) fun J15 => gK v12 false (
 bK (fAddr 0 v10) fun v154 =>
 J15 v154 h11) (J15 (NV.tuple []) h11))
theorem e44 : ikB Tryz.prog 9 Tryz.f44 = S44 := by kernel_rfl
theorem k44 [Sig] (w0 : World) : SOK cW w0 44 S44 := okW Tryz.func44 (by kernel_rfl) e44
noncomputable def S47 (call : CallF) (N : Nat) (l : List NV) (h : H) : R :=
 uc l fun v0 l1 => uc l1 fun v2 l3 => un l3 (
 mK (calM call 37 [v0, v2, (NV.int .i64 (.ofNat 1))] h) fun v4 h5 =>
 bK (extO 0 v4) fun v6 =>
 bK (extO 1 v4) fun v7 =>
 bK (neI v7 (NV.int .i64 (.ofNat 0))) fun v8 =>
 condK v8 (
 retC (NV.tuple [NV.nilptr, v7]) h5) (
 bK (nilO v0) fun v9 =>
 bK (fAddr 0 v9) fun v10 =>
 bK (ldO 1 false h5 v10) fun v11 =>
 bK (nilO v11) fun v12 =>
 bK (fAddr 1 v12) fun v13 =>
 bK (ldO 1 false h5 v13) fun v14 =>
 bK (ixS 1 v14 v6) fun v15 =>
 bK (ldO 1 false h5 v15) fun v16 =>
 retC (NV.tuple [v16, (NV.int .i64 (.ofNat 0))]) h5))
theorem e47 : ikB Tryz.prog 9 Tryz.f47 = S47 := by kernel_rfl
theorem k47 [Sig] (w0 : World) : SOK cW w0 47 S47 := okW Tryz.func47 (by kernel_rfl) e47
noncomputable def S53 (call : CallF) (N : Nat) (l : List NV) (h : H) : R :=
 uc l fun v0 l1 => uc l1 fun v2 l3 => un l3 (
 mK (boxM false v0 h) fun v4 h5 =>
 bK (fAddr 2 v4) fun v6 =>
 bK (ldO 1 false h5 v6) fun v7 =>
 condK v7 (
 bK (fAddr 0 v4) fun v8 =>
 bK (ldO 1 false h5 v8) fun v9 =>
 bK (geI v9 (NV.int .i64 (.ofNat 0))) fun v10 =>
 jK (fun v11 h12 =>
 jK (fun v14 h15 =>
 jK (fun v17 h18 =>
 jK (fun v20 h21 =>
 jK (fun v23 h24 =>
 bK (pickO v10 v23 (NV.bool false)) fun v26 =>
 jK (fun v27 h28 =>
 jK (fun v30 h31 =>
 jK (fun v33 h34 =>
 jK (fun v36 h37 =>
 bK (pickO v26 v36 (NV.bool false)) fun v39 =>
 retC v39 h37) fun J38 => gK v26 true (
 bK (leI v30 v33) fun v40 =>
 J38 v40 h34) (J38 (NV.tuple []) h34)) fun J35 => gK v26 true (
 J35 v2 h31) (J35 (NV.tuple []) h31)) fun J32 => gK v26 true (
 bK (ldO 1 false h28 v27) fun v41 =>
 J32 v41 h28) (J32 (NV.tuple []) h28)) fun J29 => gK v26 true (
 bK (fAddr 1 v4) fun v42 =>
 J29 v42 h24) (J29 (NV.tuple []) h24)) fun J25 => gK v10 true (
 bK (geI v14 v20) fun v43 =>
 J25 v43 h21) (J25 (NV.tuple []) h21)) fun J22 => gK v10 true (
 bK (ldO 1 false h18 v17) fun v44 =>
 J22 v44 h18) (J22 (NV.tuple []) h18)) fun J19 => gK v10 true (
 bK (fAddr 0 v4) fun v45 =>
 J19 v45 h15) (J19 (NV.tuple []) h15)) fun J16 => gK v10 true (
 bK (ldO 1 false h12 v11) fun v46 =>
 J16 v46 h12) (J16 (NV.tuple []) h12)) fun J13 => gK v10 true (
 bK (fAddr 1 v4) fun v47 =>
 J13 v47 h5) (J13 (NV.tuple []) h5)) (
 bK (fAddr 0 v4) fun v48 =>
 bK (ldO 1 false h5 v48) fun v49 =>
 bK (geI v49 (NV.int .i64 (.ofNat 0))) fun v50 =>
 jK (fun v51 h52 =>
 jK (fun v54 h55 =>
 jK (fun v57 h58 =>
 bK (pickO v50 v57 (NV.bool false)) fun v60 =>
 retC v60 h58) fun J59 => gK v50 true (
 bK (eqI v54 (NV.int .i64 (.ofNat 0))) fun v61 =>
 J59 v61 h55) (J59 (NV.tuple []) h55)) fun J56 => gK v50 true (
 bK (ldO 1 false h52 v51) fun v62 =>
 J56 v62 h52) (J56 (NV.tuple []) h52)) fun J53 => gK v50 true (
 bK (fAddr 1 v4) fun v63 =>
 J53 v63 h5) (J53 (NV.tuple []) h5)))
theorem e53 : ikB Tryz.prog 9 Tryz.f53 = S53 := by kernel_rfl
theorem k53 [Sig] (w0 : World) : SOK cW w0 53 S53 := okW Tryz.func53 (by kernel_rfl) e53
noncomputable def S54 (call : CallF) (N : Nat) (l : List NV) (h : H) : R :=
 uc l fun v0 l1 => un l1 (
 bK (bldO [(0, 1)] [NV.nslice, (NV.int .i64 (.ofNat 0))] [v0]) fun v2 =>
 mK (boxM false v2 h) fun v3 h4 =>
 retC v3 h4)
theorem e54 : ikB Tryz.prog 9 Tryz.f54 = S54 := by kernel_rfl
theorem k54 [Sig] (w0 : World) : SOK cW w0 54 S54 := okW Tryz.func54 (by kernel_rfl) e54
noncomputable def S55 (call : CallF) (N : Nat) (l : List NV) (h : H) : R :=
 uc l fun v0 l1 => uc l1 fun v2 l3 => un l3 (
 bK (ltI v2 (NV.int .i64 (.ofNat 0))) fun v4 =>
 condK v4 (
 mK (calM call 89 [v0, (NV.int .i64 (.ofNat 1))] h) fun v5 h6 =>
 retC NV.nslice h6) (
 mK (calM call 57 [v0] h) fun v7 h8 =>
 bK (ltI v7 v2) fun v9 =>
 jK (fun v10 h11 =>
 jK (fun v13 h14 =>
 jK (fun v16 h17 =>
 bK (pickO v9 (NV.bool true) v16) fun v19 =>
 condK v19 (
 mK (calM call 89 [v0, (NV.int .i64 (.ofNat 10))] h17) fun v20 h21 =>
 retC NV.nslice h21) (
 bK (nilO v0) fun v22 =>
 bK (fAddr 0 v22) fun v23 =>
 bK (ldO 1 false h17 v23) fun v24 =>
 bK (slcO Tryz.prog 33 h17 v24 none (some v2) none) fun v25 =>
 mK (appM Tryz.prog 5 NV.nslice v25 h17) fun v26 h27 =>
 bK (nilO v0) fun v28 =>
 bK (fAddr 0 v28) fun v29 =>
 bK (ldO 1 false h27 v29) fun v30 =>
 bK (slcO Tryz.prog 33 h27 v30 (some v2) none none) fun v31 =>
 bK (nilO v0) fun v32 =>
 bK (fAddr 0 v32) fun v33 =>
 mK (stM 1 v33 v31 h27) fun v34 h35 =>
 retC v26 h35)) fun J18 => gK v9 false (
 bK (neI v13 (NV.int .i64 (.ofNat 0))) fun v36 =>
 J18 v36 h14) (J18 (NV.tuple []) h14)) fun J15 => gK v9 false (
 mK (calM call 62 [v10] h11) fun v37 h38 =>
 J15 v37 h38) (J15 (NV.tuple []) h11)) fun J12 => gK v9 false (
 J12 v0 h8) (J12 (NV.tuple []) h8)))
theorem e55 : ikB Tryz.prog 9 Tryz.f55 = S55 := by kernel_rfl
theorem k55 [Sig] (w0 : World) : SOK cW w0 55 S55 := okW Tryz.func55 (by kernel_rfl) e55
noncomputable def S56 (call : CallF) (N : Nat) (l : List NV) (h : H) : R :=
 uc l fun v0 l1 => uc l1 fun v2 l3 => un l3 (
 condK v2 (
 bK (nilO v0) fun v4 =>
 bK (fAddr 0 v4) fun v5 =>
 bK (ldO 1 false h v5) fun v6 =>
 mK (calM call 89 [v6, (NV.int .i64 (.ofNat 12))] h) fun v7 h8 =>
 retC (NV.tuple []) h8) (
 retC (NV.tuple []) h))
theorem e56 : ikB Tryz.prog 9 Tryz.f56 = S56 := by kernel_rfl
theorem k56 [Sig] (w0 : World) : SOK cW w0 56 S56 := okW Tryz.func56 (by kernel_rfl) e56
noncomputable def S57 (call : CallF) (N : Nat) (l : List NV) (h : H) : R :=
 uc l fun v0 l1 => un l1 (
 mK (calM call 90 [v0] h) fun v2 h3 =>
 bK (lenSl v2) fun v4 =>
 retC v4 h3)
theorem e57 : ikB Tryz.prog 9 Tryz.f57 = S57 := by kernel_rfl
theorem k57 [Sig] (w0 : World) : SOK cW w0 57 S57 := okW Tryz.func57 (by kernel_rfl) e57
noncomputable def S62 (call : CallF) (N : Nat) (l : List NV) (h : H) : R :=
 uc l fun v0 l1 => un l1 (
 bK (eqD Tryz.prog .eql 150 h v0 NV.nilptr) fun v2 =>
 condK v2 (
 retC (NV.int .i64 (.ofNat 1)) h) (
 bK (nilO v0) fun v3 =>
 bK (fAddr 1 v3) fun v4 =>
 bK (ldO 1 false h v4) fun v5 =>
 retC v5 h))
theorem e62 : ikB Tryz.prog 9 Tryz.f62 = S62 := by kernel_rfl
theorem k62 [Sig] (w0 : World) : SOK cW w0 62 S62 := okW Tryz.func62 (by kernel_rfl) e62
noncomputable def S65 (call : CallF) (N : Nat) (l : List NV) (h : H) : R :=
 uc l fun v0 l1 => un l1 (
 bK (nilO v0) fun v2 =>
 bK (fAddr 0 v2) fun v3 =>
 bK (ldO 1 false h v3) fun v4 =>
 mK (calM call 57 [v4] h) fun v5 h6 =>
 bK (gtI v5 (NV.int .i64 (.ofNat 0))) fun v7 =>
 mK (calM call 56 [v0, v7] h6) fun v8 h9 =>
 bK (nilO v0) fun v10 =>
 bK (fAddr 0 v10) fun v11 =>
 bK (ldO 1 false h9 v11) fun v12 =>
 mK (calM call 62 [v12] h9) fun v13 h14 =>
 bK (eqI v13 (NV.int .i64 (.ofNat 0))) fun v15 =>
 condK v15 (
 retC (NV.int .i64 (.ofNat 0)) h14) (
 bK (nilO v0) fun v16 =>
 bK (fAddr 1 v16) fun v17 =>
 bK (ldO 1 false h14 v17) fun v18 =>
 condK v18 (
 retC (NV.int .i64 (.ofNat 72)) h14) (
 retC (NV.int .i64 (.ofNat 12)) h14)))
theorem e65 : ikB Tryz.prog 9 Tryz.f65 = S65 := by kernel_rfl
theorem k65 [Sig] (w0 : World) : SOK cW w0 65 S65 := okW Tryz.func65 (by kernel_rfl) e65
noncomputable def S66 (call : CallF) (N : Nat) (l : List NV) (h : H) : R :=
 uc l fun v0 l1 => un l1 (
 mK (boxM false v0 h) fun v2 h3 =>
 bK (ldO 11 true h3 v2) fun v4 =>
 mK (calM call 69 [v4] h3) fun v5 h6 =>
 retC v5 h6)
theorem e66 : ikB Tryz.prog 9 Tryz.f66 = S66 := by kernel_rfl
theorem k66 [Sig] (w0 : World) : SOK cW w0 66 S66 := okW Tryz.func66 (by kernel_rfl) e66
noncomputable def S67 (call : CallF) (N : Nat) (l : List NV) (h : H) : R :=
 uc l fun v0 l1 => uc l1 fun v2 l3 => uc l3 fun v4 l5 => un l5 (
 mK (boxM false v2 h) fun v6 h7 =>
 bK (eqD Tryz.prog .eql 77 h7 v0 NV.nilptr) fun v8 =>
 condK v8 (
 retC (NV.bool false) h7) (
 bK (fAddr 1 v6) fun v9 =>
 bK (ldO 1 false h7 v9) fun v10 =>
 bK (bldO [(0, 1), (1, 1)] [(NV.int .i64 (.ofNat 0)), (NV.int .u64 (.ofNat 0)), (NV.int .u64 (.ofNat 0)), (NV.bool false)] [v4, v10]) fun v11 =>
 mK (alM (NB.cells [(NV.int .i64 (.ofNat 0)), (NV.int .u64 (.ofNat 0)), (NV.int .u64 (.ofNat 0)), (NV.bool false)]) h7) fun v12 h13 =>
 mK (stM 4 v12 v11 h13) fun v14 h15 =>
 bK (eqI v4 (NV.int .i64 (.ofNat 127))) fun v16 =>
 joinC 6 (fun v17 v18 v19 v20 v21 v22 h23 =>
 joinC 2 (fun v25 v26 h27 =>
 bK (ldO 4 true h27 v25) fun v29 =>
 bK (ldO 4 true h27 v26) fun v30 =>
 bK (eqD Tryz.prog .eql 24 h27 v29 v30) fun v31 =>
 retC v31 h27) fun J28 =>
 condK v22 (
 bK (fAddr 1 v20) fun v32 =>
 bK (ldO 1 false h23 v32) fun v33 =>
 bK (binO .and v33 (NV.int .u64 (.ofNat 4294967295))) fun v34 =>
 bK (fAddr 1 v20) fun v35 =>
 mK (stM 1 v35 v34 h23) fun v36 h37 =>
 J28 v19 v20 h37) (
 bK (eqI v21 (NV.int .i64 (.ofNat 126))) fun v38 =>
 joinC 6 (fun v39 v40 v41 v42 v43 v44 h45 =>
 condK v44 (
 J28 v41 v42 h45) (
 bK (eqI v43 (NV.int .i64 (.ofNat 123))) fun v47 =>
 condK v47 (
 bK (fAddr 2 v41) fun v48 =>
 bK (ldO 1 false h45 v48) fun v49 =>
 bK (fAddr 2 v42) fun v50 =>
 mK (stM 1 v50 v49 h45) fun v51 h52 =>
 J28 v41 v42 h52) (
 bK (eqI v43 (NV.int .i64 (.ofNat 112))) fun v53 =>
 joinC 5 (fun v54 v55 v56 v57 v58 h59 =>
 condK v58 (
 bK (fAddr 3 v56) fun v61 =>
 bK (ldO 1 false h59 v61) fun v62 =>
 condK v62 (
 mK (calM call 113 [v55] h59) fun v63 h64 =>
 mK (stM 4 v57 v63 h64) fun v65 h66 =>
 J28 v56 v57 h66) (
 bK (eqI v55 (NV.int .i64 (.ofNat 112))) fun v67 =>
 jK (fun v68 h69 =>
 jK (fun v71 h72 =>
 jK (fun v74 h75 =>
 jK (fun v77 h78 =>
 jK (fun v80 h81 =>
 jK (fun v83 h84 =>
 jK (fun v86 h87 =>
 jK (fun v89 h90 =>
 jK (fun v92 h93 =>
 bK (pickO v67 v92 (NV.bool false)) fun v95 =>
 condK v95 (
 retC (NV.bool false) h59) (
 J28 v56 v57 h59)) fun J94 => gK v67 true (
 bK (geI v71 v89) fun v96 =>
 J94 v96 h59) (J94 (NV.tuple []) h59)) fun J91 => gK v67 true (
 bK (cvI .u64 v86) fun v97 =>
 J91 v97 h59) (J91 (NV.tuple []) h59)) fun J88 => gK v67 true (
 bK (lenSl v83) fun v98 =>
 J88 v98 h59) (J88 (NV.tuple []) h59)) fun J85 => gK v67 true (
 bK (ldO 1 false h59 (chkV h59 v80)) fun v99 =>
 J85 v99 h59) (J85 (NV.tuple []) h59)) fun J82 => gK v67 true (
 bK (fAddr 0 v77) fun v100 =>
 J82 v100 h59) (J82 (NV.tuple []) h59)) fun J79 => gK v67 true (
 bK (nilO v74) fun v101 =>
 J79 v101 h59) (J79 (NV.tuple []) h59)) fun J76 => gK v67 true (
 J76 v54 h59) (J76 (NV.tuple []) h59)) fun J73 => gK v67 true (
 bK (ldO 1 false h59 (chkV h59 v68)) fun v102 =>
 J73 v102 h59) (J73 (NV.tuple []) h59)) fun J70 => gK v67 true (
 bK (fAddr 1 v56) fun v103 =>
 J70 v103 h59) (J70 (NV.tuple []) h59))) (
 retC (NV.bool false) h59)) fun J60 =>
 condK v53 (
 J60 v39 v40 v41 v42 v53 h45) (
 bK (eqI v43 (NV.int .i64 (.ofNat 111))) fun v104 =>
 J60 v39 v40 v41 v42 v104 h45)))) fun J46 =>
 condK v38 (
 J46 v17 v18 v19 v20 v21 v38 h23) (
 bK (eqI v21 (NV.int .i64 (.ofNat 124))) fun v105 =>
 J46 v17 v18 v19 v20 v21 v105 h23))) fun J24 =>
 condK v16 (
 J24 v0 v4 v6 v12 v4 v16 h15) (
 bK (eqI v4 (NV.int .i64 (.ofNat 125))) fun v106 =>
 J24 v0 v4 v6 v12 v4 v106 h15)))
theorem e67 : ikB Tryz.prog 9 Tryz.f67 = S67 := by kernel_rfl
theorem k67 [Sig] (w0 : World) : SOK cW w0 67 S67 := okW Tryz.func67 (by kernel_rfl) e67
noncomputable def S69 (call : CallF) (N : Nat) (l : List NV) (h : H) : R :=
 uc l fun v0 l1 => un l1 (
 mK (boxM false v0 h) fun v2 h3 =>
 mK (alM (NB.cells [NV.nilFunc]) h3) fun v4 h5 =>
 mK (stM 1 v4 (NV.func (.func 123) [] []) h5) fun v6 h7 =>
 bK (fAddr 0 v2) fun v8 =>
 bK (ldO 1 false h7 v8) fun v9 =>
 mK (calM call 128 [v9, (NV.func (.func 114) [] [])] h7) fun v10 h11 =>
 jK (fun v12 h13 =>
 jK (fun v15 h16 =>
 jK (fun v18 h19 =>
 bK (pickO v10 v18 (NV.bool false)) fun v21 =>
 jK (fun v22 h23 =>
 jK (fun v25 h26 =>
 jK (fun v28 h29 =>
 jK (fun v31 h32 =>
 bK (pickO v21 v31 (NV.bool false)) fun v34 =>
 jK (fun v35 h36 =>
 jK (fun v38 h39 =>
 jK (fun v41 h42 =>
 bK (pickO v34 v41 (NV.bool false)) fun v44 =>
 jK (fun v45 h46 =>
 jK (fun v48 h49 =>
 jK (fun v51 h52 =>
 bK (pickO v44 v51 (NV.bool false)) fun v54 =>
 jK (fun v55 h56 =>
 jK (fun v58 h59 =>
 jK (fun v61 h62 =>
 jK (fun v64 h65 =>
 bK (pickO v54 v64 (NV.bool false)) fun v67 =>
 jK (fun v68 h69 =>
 jK (fun v71 h72 =>
 jK (fun v74 h75 =>
 jK (fun v77 h78 =>
 bK (pickO v67 v77 (NV.bool false)) fun v80 =>
 jK (fun v81 h82 =>
 jK (fun v84 h85 =>
 jK (fun v87 h88 =>
 bK (pickO v80 v87 (NV.bool false)) fun v90 =>
 jK (fun v91 h92 =>
 jK (fun v94 h95 =>
 jK (fun v97 h98 =>
 bK (pickO v90 v97 (NV.bool false)) fun v100 =>
 jK (fun v101 h102 =>
 jK (fun v104 h105 =>
 jK (fun v107 h108 =>
 jK (fun v110 h111 =>
 bK (pickO v100 v110 (NV.bool false)) fun v113 =>
 jK (fun v114 h115 =>
 jK (fun v117 h118 =>
 jK (fun v120 h121 =>
 jK (fun v123 h124 =>
 bK (pickO v113 v123 (NV.bool false)) fun v126 =>
 jK (fun v127 h128 =>
 jK (fun v130 h131 =>
 jK (fun v133 h134 =>
 jK (fun v136 h137 =>
 jK (fun v139 h140 =>
 jK (fun v142 h143 =>
 jK (fun v145 h146 =>
 bK (pickO v126 v145 (NV.bool false)) fun v148 =>
 retC v148 h146) fun J147 => gK v126 true (
 bK (pickO v133 (NV.bool true) v142) fun v149 =>
 J147 v149 h143) (J147 (NV.tuple []) h143)) fun J144 => gK v133 false (
 bK (notO v139) fun v150 =>
 J144 v150 h140) (J144 (NV.tuple []) h140)) fun J141 => gK v133 false (
 mK (calM call 140 [v136] h137) fun v151 h152 =>
 J141 v151 h152) (J141 (NV.tuple []) h137)) fun J138 => gK v133 false (
 bK (ldO 11 true h134 v2) fun v153 =>
 J138 v153 h134) (J138 (NV.tuple []) h134)) fun J135 => gK v126 true (
 J135 v130 h131) (J135 (NV.tuple []) h131)) fun J132 => gK v126 true (
 bK (ldO 1 false h128 v127) fun v154 =>
 J132 v154 h128) (J132 (NV.tuple []) h128)) fun J129 => gK v126 true (
 bK (fAddr 10 v2) fun v155 =>
 J129 v155 h124) (J129 (NV.tuple []) h124)) fun J125 => gK v113 true (
 mK (calM call 139 [v117, v120] h121) fun v156 h157 =>
 J125 v156 h157) (J125 (NV.tuple []) h121)) fun J122 => gK v113 true (
 J122 (NV.func (.func 127) [] [v4]) h118) (J122 (NV.tuple []) h118)) fun J119 => gK v113 true (
 bK (ldO 1 false h115 v114) fun v158 =>
 J119 v158 h115) (J119 (NV.tuple []) h115)) fun J116 => gK v113 true (
 bK (fAddr 9 v2) fun v159 =>
 J116 v159 h111) (J116 (NV.tuple []) h111)) fun J112 => gK v100 true (
 mK (calM call 138 [v104, v107] h108) fun v160 h161 =>
 J112 v160 h161) (J112 (NV.tuple []) h108)) fun J109 => gK v100 true (
 J109 (NV.func (.func 124) [] [v4]) h105) (J109 (NV.tuple []) h105)) fun J106 => gK v100 true (
 bK (ldO 1 false h102 v101) fun v162 =>
 J106 v162 h102) (J106 (NV.tuple []) h102)) fun J103 => gK v100 true (
 bK (fAddr 8 v2) fun v163 =>
 J103 v163 h98) (J103 (NV.tuple []) h98)) fun J99 => gK v90 true (
 bK (leI v94 (NV.int .i64 (.ofNat 4294967296))) fun v164 =>
 J99 v164 h95) (J99 (NV.tuple []) h95)) fun J96 => gK v90 true (
 bK (ldO 1 false h92 v91) fun v165 =>
 J96 v165 h92) (J96 (NV.tuple []) h92)) fun J93 => gK v90 true (
 bK (fAddr 7 v2) fun v166 =>
 J93 v166 h88) (J93 (NV.tuple []) h88)) fun J89 => gK v80 true (
 bK (geI v84 (NV.int .i64 (.ofNat 0))) fun v167 =>
 J89 v167 h85) (J89 (NV.tuple []) h85)) fun J86 => gK v80 true (
 bK (ldO 1 false h82 v81) fun v168 =>
 J86 v168 h82) (J86 (NV.tuple []) h82)) fun J83 => gK v80 true (
 bK (fAddr 7 v2) fun v169 =>
 J83 v169 h78) (J83 (NV.tuple []) h78)) fun J79 => gK v67 true (
 mK (calM call 137 [v71, v74] h75) fun v170 h171 =>
 J79 v170 h171) (J79 (NV.tuple []) h75)) fun J76 => gK v67 true (
 J76 (NV.func (.func 121) [] []) h72) (J76 (NV.tuple []) h72)) fun J73 => gK v67 true (
 bK (ldO 1 false h69 v68) fun v172 =>
 J73 v172 h69) (J73 (NV.tuple []) h69)) fun J70 => gK v67 true (
 bK (fAddr 6 v2) fun v173 =>
 J70 v173 h65) (J70 (NV.tuple []) h65)) fun J66 => gK v54 true (
 mK (calM call 136 [v58, v61] h62) fun v174 h175 =>
 J66 v174 h175) (J66 (NV.tuple []) h62)) fun J63 => gK v54 true (
 J63 (NV.func (.func 120) [] []) h59) (J63 (NV.tuple []) h59)) fun J60 => gK v54 true (
 bK (ldO 1 false h56 v55) fun v176 =>
 J60 v176 h56) (J60 (NV.tuple []) h56)) fun J57 => gK v54 true (
 bK (fAddr 5 v2) fun v177 =>
 J57 v177 h52) (J57 (NV.tuple []) h52)) fun J53 => gK v44 true (
 mK (calM call 134 [v48, (NV.func (.func 135) [] [])] h49) fun v178 h179 =>
 J53 v178 h179) (J53 (NV.tuple []) h49)) fun J50 => gK v44 true (
 bK (ldO 1 false h46 v45) fun v180 =>
 J50 v180 h46) (J50 (NV.tuple []) h46)) fun J47 => gK v44 true (
 bK (fAddr 4 v2) fun v181 =>
 J47 v181 h42) (J47 (NV.tuple []) h42)) fun J43 => gK v34 true (
 mK (calM call 132 [v38, (NV.func (.func 133) [] [])] h39) fun v182 h183 =>
 J43 v182 h183) (J43 (NV.tuple []) h39)) fun J40 => gK v34 true (
 bK (ldO 1 false h36 v35) fun v184 =>
 J40 v184 h36) (J40 (NV.tuple []) h36)) fun J37 => gK v34 true (
 bK (fAddr 3 v2) fun v185 =>
 J37 v185 h32) (J37 (NV.tuple []) h32)) fun J33 => gK v21 true (
 mK (calM call 131 [v25, v28] h29) fun v186 h187 =>
 J33 v186 h187) (J33 (NV.tuple []) h29)) fun J30 => gK v21 true (
 J30 (NV.func (.func 117) [] []) h26) (J30 (NV.tuple []) h26)) fun J27 => gK v21 true (
 bK (ldO 1 false h23 v22) fun v188 =>
 J27 v188 h23) (J27 (NV.tuple []) h23)) fun J24 => gK v21 true (
 bK (fAddr 2 v2) fun v189 =>
 J24 v189 h19) (J24 (NV.tuple []) h19)) fun J20 => gK v10 true (
 mK (calM call 129 [v15, (NV.func (.func 130) [] [])] h16) fun v190 h191 =>
 J20 v190 h191) (J20 (NV.tuple []) h16)) fun J17 => gK v10 true (
 bK (ldO 1 false h13 v12) fun v192 =>
 J17 v192 h13) (J17 (NV.tuple []) h13)) fun J14 => gK v10 true (
 bK (fAddr 1 v2) fun v193 =>
 J14 v193 h11) (J14 (NV.tuple []) h11))
theorem e69 : ikB Tryz.prog 9 Tryz.f69 = S69 := by kernel_rfl
theorem k69 [Sig] (w0 : World) : SOK cW w0 69 S69 := okW Tryz.func69 (by kernel_rfl) e69
end Go.Proofs.YtcfjpomapolbfaaGreatDoor
